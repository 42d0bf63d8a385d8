/- Reading a delivery: one point. No condition. -/
import Derived.Test.YtpkfgmebngpfkaaGreatP6
namespace Go.Proofs.YtpkfgmebngpfkaaGreat
open Go.RowKit Go

theorem UB.frame {W W' : World} {F : List Nat} {ub g c j n : Nat} (h : UB W ub g c j n) (hf : Frame W W' F) (h1 : ub ∉ F) (h2 : g ∉ F) : UB W' ub g c j n :=
  ⟨hf.heap h.blk h1, fun i x hx => hf.cell (h.cell i x hx) h2, h.ne, h.cpos⟩
theorem UB.lt {W : World} {ub g c j n : Nat} (h : UB W ub g c j n) : ub < W.heap.size := lt_of_block h.blk
theorem UB.glt {W : World} {ub g c j n : Nat} (h : UB W ub g c j n) : g < W.heap.size := World.block_lt_of_cell? W _ (h.cell 0 1 rfl)
def ptAgg : Value := .agg #[.int .i64 7, .int .i64 1, .int .i64 0, .int .i64 2, .int .i64 3, .int .i64 0, .int .i64 1, .int .i64 1, .int .i64 2]
def PointPost (w : World) (ub g c : Nat) (e : Ending) (w' : World) : Prop := e = .returned ptAgg ∧ UB w' ub g c 10 0 ∧ Frame w w' [ub]

set_option maxRecDepth 100000 in
set_option maxHeartbeats 4000000 in
theorem point_at (ub g c : Nat) (w : World) (h : UB w ub g c 1 9) :
    Calls Tryz.prog 80 #[.pointer (some ⟨ub, 0, none⟩), .int .i64 0] w (PointPost w ub g c) := by
  have hul := h.lt
  have hgl := h.glt
  have k0 : (w.alloc (.cells #[.int .i64 0, .int .i64 0, .int .i64 0, .int .i64 0, .int .i64 0, .int .i64 0, .int .i64 0, .int .i64 0, .int .i64 0] 109)).heap[w.heap.size]? = some (.cells #[.int .i64 0, .int .i64 0, .int .i64 0, .int .i64 0, .int .i64 0, .int .i64 0, .int .i64 0, .int .i64 0, .int .i64 0] 109 (0, 0)) := heap_alloc_new _ _
  have f0 : Frame w (w.alloc (.cells #[.int .i64 0, .int .i64 0, .int .i64 0, .int .i64 0, .int .i64 0, .int .i64 0, .int .i64 0, .int .i64 0, .int .i64 0] 109)) [] := (Frame.refl w []).alloc _
  have U0 := Lib.hid (h.frame f0 (by simp) (by simp))
  clear h
  go_enter Tryz.func80, Tryz.ntmps80
  go_wp2_with fail
  generalize w.alloc (.cells #[.int .i64 0, .int .i64 0, .int .i64 0, .int .i64 0, .int .i64 0, .int .i64 0, .int .i64 0, .int .i64 0, .int .i64 0] 109) = w0 at k0 f0 U0 ⊢
  have K0 := Lib.hid k0
  have F0 := Lib.hid (f0.mono (G := [ub]) (by simp))
  have S0 := Lib.hid (lt_of_block k0)
  clear k0 f0
  refine (number_at ub g c 1 8 7 w0 U0.out rfl (by unfold byteOk; omega)).mono ?_
  rintro e w1 ⟨rfl, u1, f1⟩
  have K1 := Lib.hid (f1.heap K0.out (by simp; omega))
  have F1 := Lib.hid (F0.out.trans f1)
  have S1 := Lib.hid (Nat.lt_of_lt_of_le S0.out f1.size)
  have U1 := Lib.hid u1
  clear u1 f1
  have kp : (w1.alloc (.cells #[.int .i64 7, .int .i64 0, .int .i64 0, .int .i64 0, .int .i64 0, .int .i64 0, .int .i64 0, .int .i64 0, .int .i64 0] 109)).heap[w1.heap.size]? = some (.cells #[.int .i64 7, .int .i64 0, .int .i64 0, .int .i64 0, .int .i64 0, .int .i64 0, .int .i64 0, .int .i64 0, .int .i64 0] 109 (0, 0)) := heap_alloc_new _ _
  have fp : Frame w1 (w1.alloc (.cells #[.int .i64 7, .int .i64 0, .int .i64 0, .int .i64 0, .int .i64 0, .int .i64 0, .int .i64 0, .int .i64 0, .int .i64 0] 109)) [] := (Frame.refl w1 []).alloc _
  go_wp2_with fail
  generalize w1.alloc (.cells #[.int .i64 7, .int .i64 0, .int .i64 0, .int .i64 0, .int .i64 0, .int .i64 0, .int .i64 0, .int .i64 0, .int .i64 0] 109) = w2 at kp fp ⊢
  have K2 := Lib.hid (fp.heap K1.out (by simp))
  have F2 := Lib.hid (F1.out.trans (fp.mono (by simp)))
  have U2 := Lib.hid (U1.out.frame fp (by simp) (by simp))
  have P2 := Lib.hid kp
  clear kp fp
  refine (usigned_at ub g c 2 7 2 1 w2 U2.out rfl (by unfold signedOk; omega)).mono ?_
  rintro e w3 ⟨rfl, u1, f1⟩
  have K3 := Lib.hid (f1.heap K2.out (by simp; omega))
  have F3 := Lib.hid (F2.out.trans f1)
  have p1 := f1.heap P2.out (by have := S1.out; simp; omega)
  have U3 := Lib.hid u1
  have d1 := cell_of_row _ _ 1 _ _ _ p1
  have z := frozen_of_row _ _ 1 _ _ p1
  have P3 := Lib.hid p1
  clear p1 u1 f1
  go_wp2_with fail
  have q1 := heap_setCell_same _ _ 1 _ _ (.int .i64 1) P3.out
  have fs : Frame w3 (w3.setCell ⟨w1.heap.size, 1, none⟩ (.int .i64 1)) [w1.heap.size] := (Frame.refl _ _).set _ _ (fun _ => by simp)
  clear d1 z
  generalize w3.setCell ⟨w1.heap.size, 1, none⟩ (.int .i64 1) = w4 at q1 fs ⊢
  have K4 := Lib.hid (fs.heap K3.out (by have := S1.out; simp; omega))
  have F4 := Lib.hid (F3.out.trans' fs (by intro i hi hlt; have := S1.out; simp at hi; omega))
  have U4 := Lib.hid (U3.out.frame fs (by have := S1.out; simp; omega) (by have := S1.out; simp; omega))
  have P4 := Lib.hid (show w4.heap[w1.heap.size]? = some (.cells #[.int .i64 7, .int .i64 1, .int .i64 0, .int .i64 0, .int .i64 0, .int .i64 0, .int .i64 0, .int .i64 0, .int .i64 0] 109 (0, 0)) from q1)
  clear q1 fs
  refine (usigned_at ub g c 3 6 0 0 w4 U4.out rfl (by unfold signedOk; omega)).mono ?_
  rintro e w5 ⟨rfl, u1, f1⟩
  have K5 := Lib.hid (f1.heap K4.out (by simp; omega))
  have F5 := Lib.hid (F4.out.trans f1)
  have p1 := f1.heap P4.out (by have := S1.out; simp; omega)
  have U5 := Lib.hid u1
  have d2 := cell_of_row _ _ 2 _ _ _ p1
  have z := frozen_of_row _ _ 2 _ _ p1
  have P5 := Lib.hid p1
  clear p1 u1 f1
  go_wp2_with fail
  have q1 := heap_setCell_same _ _ 2 _ _ (.int .i64 0) P5.out
  have fs : Frame w5 (w5.setCell ⟨w1.heap.size, 2, none⟩ (.int .i64 0)) [w1.heap.size] := (Frame.refl _ _).set _ _ (fun _ => by simp)
  clear d2 z
  generalize w5.setCell ⟨w1.heap.size, 2, none⟩ (.int .i64 0) = w6 at q1 fs ⊢
  have K6 := Lib.hid (fs.heap K5.out (by have := S1.out; simp; omega))
  have F6 := Lib.hid (F5.out.trans' fs (by intro i hi hlt; have := S1.out; simp at hi; omega))
  have U6 := Lib.hid (U5.out.frame fs (by have := S1.out; simp; omega) (by have := S1.out; simp; omega))
  have P6 := Lib.hid (show w6.heap[w1.heap.size]? = some (.cells #[.int .i64 7, .int .i64 1, .int .i64 0, .int .i64 0, .int .i64 0, .int .i64 0, .int .i64 0, .int .i64 0, .int .i64 0] 109 (0, 0)) from q1)
  clear q1 fs
  refine (usigned_at ub g c 4 5 4 2 w6 U6.out rfl (by unfold signedOk; omega)).mono ?_
  rintro e w7 ⟨rfl, u1, f1⟩
  have K7 := Lib.hid (f1.heap K6.out (by simp; omega))
  have F7 := Lib.hid (F6.out.trans f1)
  have p1 := f1.heap P6.out (by have := S1.out; simp; omega)
  have U7 := Lib.hid u1
  have d3 := cell_of_row _ _ 3 _ _ _ p1
  have z := frozen_of_row _ _ 3 _ _ p1
  have P7 := Lib.hid p1
  clear p1 u1 f1
  go_wp2_with fail
  have q1 := heap_setCell_same _ _ 3 _ _ (.int .i64 2) P7.out
  have fs : Frame w7 (w7.setCell ⟨w1.heap.size, 3, none⟩ (.int .i64 2)) [w1.heap.size] := (Frame.refl _ _).set _ _ (fun _ => by simp)
  clear d3 z
  generalize w7.setCell ⟨w1.heap.size, 3, none⟩ (.int .i64 2) = w8 at q1 fs ⊢
  have K8 := Lib.hid (fs.heap K7.out (by have := S1.out; simp; omega))
  have F8 := Lib.hid (F7.out.trans' fs (by intro i hi hlt; have := S1.out; simp at hi; omega))
  have U8 := Lib.hid (U7.out.frame fs (by have := S1.out; simp; omega) (by have := S1.out; simp; omega))
  have P8 := Lib.hid (show w8.heap[w1.heap.size]? = some (.cells #[.int .i64 7, .int .i64 1, .int .i64 0, .int .i64 2, .int .i64 0, .int .i64 0, .int .i64 0, .int .i64 0, .int .i64 0] 109 (0, 0)) from q1)
  clear q1 fs
  have hz := cell_of_row _ _ 3 _ _ _ P8.out
  have fd : Frame w8 w8.drew [] := (Frame.refl _ _).drew
  have Ud := Lib.hid (U8.out.frame fd (by simp) (by simp))
  have Pd := Lib.hid (fd.heap P8.out (by simp))
  have Kd := Lib.hid (fd.heap K8.out (by simp))
  have Fd := Lib.hid (F8.out.trans (fd.mono (by simp)))
  have hw3 : IntKind.i64.wrap 3 = 3 := by kernel_rfl
  clear fd
  go_region_held3 (fun w' => w'.cell? ⟨w1.heap.size, 3, none⟩ = some (.int .i64 2)) (first | go_keep | assumption | exact hs _)
    ((go_at_call 79; refine (number_at ub g c 5 4 1 w8.drew Ud.out rfl (by unfold byteOk; simp)).mono ?_; rintro e w9 ⟨rfl, u1, f1⟩; have K9 := Lib.hid (f1.heap Kd.out (by simp; omega)); have F9 := Lib.hid (Fd.out.trans f1); have p1 := f1.heap Pd.out (by have := S1.out; simp; omega); have U9 := Lib.hid u1; have d3 := cell_of_row _ _ 3 _ _ _ p1; have d4 := cell_of_row _ _ 4 _ _ _ p1; have z := frozen_of_row _ _ 4 _ _ p1; have hs := fun v => cell_of_row _ _ 3 _ _ _ (heap_setCell_same _ _ 4 _ _ v p1); have P9 := Lib.hid p1; clear p1 u1 f1))
  clear hz hs hw3 d3
  go_wp2_with fail
  have q1 := heap_setCell_same _ _ 4 _ _ (.int .i64 3) P9.out
  have fs : Frame w9 (w9.setCell ⟨w1.heap.size, 4, none⟩ (.int .i64 3)) [w1.heap.size] := (Frame.refl _ _).set _ _ (fun _ => by simp)
  clear d4 z
  generalize w9.setCell ⟨w1.heap.size, 4, none⟩ (.int .i64 3) = w10 at q1 fs ⊢
  have K10 := Lib.hid (fs.heap K9.out (by have := S1.out; simp; omega))
  have F10 := Lib.hid (F9.out.trans' fs (by intro i hi hlt; have := S1.out; simp at hi; omega))
  have U10 := Lib.hid (U9.out.frame fs (by have := S1.out; simp; omega) (by have := S1.out; simp; omega))
  have P10 := Lib.hid (show w10.heap[w1.heap.size]? = some (.cells #[.int .i64 7, .int .i64 1, .int .i64 0, .int .i64 2, .int .i64 3, .int .i64 0, .int .i64 0, .int .i64 0, .int .i64 0] 109 (0, 0)) from q1)
  clear q1 fs
  refine (number_at ub g c 6 3 0 w10 U10.out rfl (by unfold byteOk; omega)).mono ?_
  rintro e w11 ⟨rfl, u1, f1⟩
  have K11 := Lib.hid (f1.heap K10.out (by simp; omega))
  have F11 := Lib.hid (F10.out.trans f1)
  have p1 := f1.heap P10.out (by have := S1.out; simp; omega)
  have U11 := Lib.hid u1
  have d5 := cell_of_row _ _ 5 _ _ _ p1
  have z := frozen_of_row _ _ 5 _ _ p1
  have P11 := Lib.hid p1
  clear p1 u1 f1
  go_wp2_with fail
  have q1 := heap_setCell_same _ _ 5 _ _ (.int .i64 0) P11.out
  have fs : Frame w11 (w11.setCell ⟨w1.heap.size, 5, none⟩ (.int .i64 0)) [w1.heap.size] := (Frame.refl _ _).set _ _ (fun _ => by simp)
  clear d5 z
  generalize w11.setCell ⟨w1.heap.size, 5, none⟩ (.int .i64 0) = w12 at q1 fs ⊢
  have K12 := Lib.hid (fs.heap K11.out (by have := S1.out; simp; omega))
  have F12 := Lib.hid (F11.out.trans' fs (by intro i hi hlt; have := S1.out; simp at hi; omega))
  have U12 := Lib.hid (U11.out.frame fs (by have := S1.out; simp; omega) (by have := S1.out; simp; omega))
  have P12 := Lib.hid (show w12.heap[w1.heap.size]? = some (.cells #[.int .i64 7, .int .i64 1, .int .i64 0, .int .i64 2, .int .i64 3, .int .i64 0, .int .i64 0, .int .i64 0, .int .i64 0] 109 (0, 0)) from q1)
  clear q1 fs
  refine (number_at ub g c 7 2 1 w12 U12.out rfl (by unfold byteOk; omega)).mono ?_
  rintro e w13 ⟨rfl, u1, f1⟩
  have K13 := Lib.hid (f1.heap K12.out (by simp; omega))
  have F13 := Lib.hid (F12.out.trans f1)
  have p1 := f1.heap P12.out (by have := S1.out; simp; omega)
  have U13 := Lib.hid u1
  have d6 := cell_of_row _ _ 6 _ _ _ p1
  have z := frozen_of_row _ _ 6 _ _ p1
  have P13 := Lib.hid p1
  clear p1 u1 f1
  go_wp2_with fail
  have q1 := heap_setCell_same _ _ 6 _ _ (.int .i64 1) P13.out
  have fs : Frame w13 (w13.setCell ⟨w1.heap.size, 6, none⟩ (.int .i64 1)) [w1.heap.size] := (Frame.refl _ _).set _ _ (fun _ => by simp)
  clear d6 z
  generalize w13.setCell ⟨w1.heap.size, 6, none⟩ (.int .i64 1) = w14 at q1 fs ⊢
  have K14 := Lib.hid (fs.heap K13.out (by have := S1.out; simp; omega))
  have F14 := Lib.hid (F13.out.trans' fs (by intro i hi hlt; have := S1.out; simp at hi; omega))
  have U14 := Lib.hid (U13.out.frame fs (by have := S1.out; simp; omega) (by have := S1.out; simp; omega))
  have P14 := Lib.hid (show w14.heap[w1.heap.size]? = some (.cells #[.int .i64 7, .int .i64 1, .int .i64 0, .int .i64 2, .int .i64 3, .int .i64 0, .int .i64 1, .int .i64 0, .int .i64 0] 109 (0, 0)) from q1)
  clear q1 fs
  refine (number_at ub g c 8 1 1 w14 U14.out rfl (by unfold byteOk; omega)).mono ?_
  rintro e w15 ⟨rfl, u1, f1⟩
  have K15 := Lib.hid (f1.heap K14.out (by simp; omega))
  have F15 := Lib.hid (F14.out.trans f1)
  have p1 := f1.heap P14.out (by have := S1.out; simp; omega)
  have U15 := Lib.hid u1
  have d7 := cell_of_row _ _ 7 _ _ _ p1
  have z := frozen_of_row _ _ 7 _ _ p1
  have P15 := Lib.hid p1
  clear p1 u1 f1
  go_wp2_with fail
  have q1 := heap_setCell_same _ _ 7 _ _ (.int .i64 1) P15.out
  have fs : Frame w15 (w15.setCell ⟨w1.heap.size, 7, none⟩ (.int .i64 1)) [w1.heap.size] := (Frame.refl _ _).set _ _ (fun _ => by simp)
  clear d7 z
  generalize w15.setCell ⟨w1.heap.size, 7, none⟩ (.int .i64 1) = w16 at q1 fs ⊢
  have K16 := Lib.hid (fs.heap K15.out (by have := S1.out; simp; omega))
  have F16 := Lib.hid (F15.out.trans' fs (by intro i hi hlt; have := S1.out; simp at hi; omega))
  have U16 := Lib.hid (U15.out.frame fs (by have := S1.out; simp; omega) (by have := S1.out; simp; omega))
  have P16 := Lib.hid (show w16.heap[w1.heap.size]? = some (.cells #[.int .i64 7, .int .i64 1, .int .i64 0, .int .i64 2, .int .i64 3, .int .i64 0, .int .i64 1, .int .i64 1, .int .i64 0] 109 (0, 0)) from q1)
  clear q1 fs
  refine (number_at ub g c 9 0 2 w16 U16.out rfl (by unfold byteOk; omega)).mono ?_
  rintro e w17 ⟨rfl, u1, f1⟩
  have K17 := Lib.hid (f1.heap K16.out (by simp; omega))
  have F17 := Lib.hid (F16.out.trans f1)
  have p1 := f1.heap P16.out (by have := S1.out; simp; omega)
  have U17 := Lib.hid u1
  have d8 := cell_of_row _ _ 8 _ _ _ p1
  have z := frozen_of_row _ _ 8 _ _ p1
  have P17 := Lib.hid p1
  clear p1 u1 f1
  clear d8 z
  have p0 := cell_of_row _ _ 0 _ _ _ P17.out
  have p1 := cell_of_row _ _ 1 _ _ _ P17.out
  have p2 := cell_of_row _ _ 2 _ _ _ P17.out
  have p3 := cell_of_row _ _ 3 _ _ _ P17.out
  have p4 := cell_of_row _ _ 4 _ _ _ P17.out
  have p5 := cell_of_row _ _ 5 _ _ _ P17.out
  have p6 := cell_of_row _ _ 6 _ _ _ P17.out
  have p7 := cell_of_row _ _ 7 _ _ _ P17.out
  have p8 := cell_of_row _ _ 8 _ _ _ P17.out
  have r0 := cell_of_row _ _ 0 _ _ _ K17.out
  have r1 := cell_of_row _ _ 1 _ _ _ K17.out
  have r2 := cell_of_row _ _ 2 _ _ _ K17.out
  have r3 := cell_of_row _ _ 3 _ _ _ K17.out
  have r4 := cell_of_row _ _ 4 _ _ _ K17.out
  have r5 := cell_of_row _ _ 5 _ _ _ K17.out
  have r6 := cell_of_row _ _ 6 _ _ _ K17.out
  have r7 := cell_of_row _ _ 7 _ _ _ K17.out
  have r8 := cell_of_row _ _ 8 _ _ _ K17.out
  have zp := frozen_of_row _ _ 8 _ _ P17.out
  have zr : ∀ j, w17.frozen? ⟨w.heap.size, j, none⟩ = false := fun j => frozen_of_row _ _ j _ _ K17.out
  have hne : ¬ w.heap.size = w1.heap.size := by have := S1.out; omega
  have hne' : ¬ w1.heap.size = w.heap.size := by have := S1.out; omega
  go_wp2_with fail
  have fq : Frame w17 (w17.setCell ⟨w1.heap.size, 8, none⟩ (.int .i64 2)) [w1.heap.size] := (Frame.refl _ _).set _ _ (fun _ => by simp)
  have kq := fq.heap K17.out (by simp; exact hne)
  generalize w17.setCell ⟨w1.heap.size, 8, none⟩ (.int .i64 2) = wq at fq kq ⊢
  have s0 := heap_setCell_same _ _ 0 _ _ (.int .i64 7) kq
  have s1 := heap_setCell_same _ _ 1 _ _ (.int .i64 1) s0
  have s2 := heap_setCell_same _ _ 2 _ _ (.int .i64 0) s1
  have s3 := heap_setCell_same _ _ 3 _ _ (.int .i64 2) s2
  have s4 := heap_setCell_same _ _ 4 _ _ (.int .i64 3) s3
  have s5 := heap_setCell_same _ _ 5 _ _ (.int .i64 0) s4
  have s6 := heap_setCell_same _ _ 6 _ _ (.int .i64 1) s5
  have s7 := heap_setCell_same _ _ 7 _ _ (.int .i64 1) s6
  have s8 := heap_setCell_same _ _ 8 _ _ (.int .i64 2) s7
  have fr := (((((((((Frame.refl wq [w.heap.size]).set ⟨w.heap.size, 0, none⟩ (.int .i64 7) (fun _ => by simp)).set ⟨w.heap.size, 1, none⟩ (.int .i64 1) (fun _ => by simp)).set ⟨w.heap.size, 2, none⟩ (.int .i64 0) (fun _ => by simp)).set ⟨w.heap.size, 3, none⟩ (.int .i64 2) (fun _ => by simp)).set ⟨w.heap.size, 4, none⟩ (.int .i64 3) (fun _ => by simp)).set ⟨w.heap.size, 5, none⟩ (.int .i64 0) (fun _ => by simp)).set ⟨w.heap.size, 6, none⟩ (.int .i64 1) (fun _ => by simp)).set ⟨w.heap.size, 7, none⟩ (.int .i64 1) (fun _ => by simp)).set ⟨w.heap.size, 8, none⟩ (.int .i64 2) (fun _ => by simp)
  have sz := s8
  clear s0 s1 s2 s3 s4 s5 s6 s7 s8
  generalize (((((((((wq).setCell ⟨w.heap.size, 0, none⟩ (.int .i64 7)).setCell ⟨w.heap.size, 1, none⟩ (.int .i64 1)).setCell ⟨w.heap.size, 2, none⟩ (.int .i64 0)).setCell ⟨w.heap.size, 3, none⟩ (.int .i64 2)).setCell ⟨w.heap.size, 4, none⟩ (.int .i64 3)).setCell ⟨w.heap.size, 5, none⟩ (.int .i64 0)).setCell ⟨w.heap.size, 6, none⟩ (.int .i64 1)).setCell ⟨w.heap.size, 7, none⟩ (.int .i64 1)).setCell ⟨w.heap.size, 8, none⟩ (.int .i64 2) = wz at fr sz ⊢
  have e0 := cell_of_row _ _ 0 _ _ _ sz
  have e1 := cell_of_row _ _ 1 _ _ _ sz
  have e2 := cell_of_row _ _ 2 _ _ _ sz
  have e3 := cell_of_row _ _ 3 _ _ _ sz
  have e4 := cell_of_row _ _ 4 _ _ _ sz
  have e5 := cell_of_row _ _ 5 _ _ _ sz
  have e6 := cell_of_row _ _ 6 _ _ _ sz
  have e7 := cell_of_row _ _ 7 _ _ _ sz
  have e8 := cell_of_row _ _ 8 _ _ _ sz
  simp at e0 e1 e2 e3 e4 e5 e6 e7 e8
  refine bodyPost_ret (v := ptAgg) (by simp [results, Tryz.results80, go_sem, e0, e1, e2, e3, e4, e5, e6, e7, e8, ptAgg]) rfl ⟨rfl, ?_, ?_⟩
  · exact (U17.out.frame fq (by have := S1.out; simp; omega) (by have := S1.out; simp; omega)).frame fr (by simp; omega) (by simp; omega)
  · exact (F17.out.trans' fq (by intro i hi hlt; have := S1.out; simp at hi; omega)).trans' fr (by intro i hi hlt; simp at hi; omega)
end Go.Proofs.YtpkfgmebngpfkaaGreat
