/- The delivery of one point. No condition. -/
import Derived.Test.YtpkfgmebngpfkaaGreatP3
namespace Go.Proofs.YtpkfgmebngpfkaaGreat
open Go.RowKit Go

set_option maxRecDepth 100000 in
set_option maxHeartbeats 1000000 in
theorem signed_any (v : Value) (l : List Int) (n m : Int) (w : World) (h : Bv w v l) (hl : l.length ≤ 900) (h0 : 0 ≤ n) (h1 : n < 64) (hm : m = 2 * n) :
    Calls Tryz.prog 75 #[v, .int .i64 n] w (NumPost w (l ++ [m])) := by
  have HM := Lib.hid hm
  have hn := number_any v l (2 * n) w h hl (by omega) (by omega)
  rw [← hm] at hn
  clear hm
  go_enter Tryz.func75, Tryz.ntmps75
  go_wp2_with (go_at_call 73; rw [← HM.out]; refine hn.mono ?_; rintro e w' ⟨v', rfl, h1, h2⟩)
  go_ret2
  exact ⟨v', rfl, h1, h2⟩

/-- The captured row: a block of one cell with a slice of the call's own. -/
def Cap (w : World) (B Bb : Nat) (l : List Int) : Prop := ∃ v, w.heap[Bb]? = some (.cells #[v] 38 (0, 0)) ∧ Ob w B v l
def CapPost (w : World) (B Bb : Nat) (l : List Int) (e : Ending) (w' : World) : Prop := e = .returned (.tuple #[]) ∧ Cap w' B Bb l ∧ Frame w w' [Bb]

theorem Ob.other {w w' : World} {B Bb : Nat} {v v1 : Value} {l : List Int} (h : Ob w B v l) (hb : w.heap[Bb]? = some (.cells #[v1] 38 (0, 0))) (hf : Frame w w' [Bb]) : Ob w' B v l := by
  refine ⟨h.1, ?_⟩
  rcases h.2 with h2 | ⟨g, cap, cur, rfl, hB, hg, r⟩
  · exact .inl h2
  · refine .inr ⟨g, cap, cur, rfl, hB, hf.heap hg ?_, r⟩
    intro hm
    simp at hm
    subst hm
    rw [hg] at hb
    simp at hb

set_option maxRecDepth 100000 in
set_option maxHeartbeats 1000000 in
theorem ship1_at (B Bb : Nat) (l : List Int) (n : Int) (w : World) (h : Cap w B Bb l) (hB : B ≤ w.heap.size) (hl : l.length ≤ 900) (h0 : 0 ≤ n) (h1 : n < 128) :
    Calls Tryz.prog 72 #[.int .i64 n, .pointer (some ⟨Bb, 0, none⟩)] w (CapPost w B Bb (l ++ [n])) := by
  obtain ⟨v, hb, ho⟩ := h
  have hn := number_any v l n w ho.bv hl h0 h1
  obtain ⟨A, c, rfl⟩ := own_len ho
  have hc := cell_of_row _ _ 0 _ _ _ hb
  have HB := Lib.hid hb
  clear hb ho
  go_enter Tryz.func72, Tryz.ntmps72
  go_wp2_with (go_at_call 73; refine hn.mono ?_; rintro e w1 ⟨v', rfl, o1, f1⟩; obtain ⟨A', c', rfl⟩ := own_len o1; have b1 := f1.heap HB.out (by simp); have d0 := cell_of_row _ _ 0 _ _ _ b1; have z0 := frozen_of_row _ _ 0 _ _ b1; have B1 := Lib.hid b1; clear b1)
  go_end0
  have el : (l ++ [n]).length = l.length + 1 := by simp
  have fs : Frame w1 (w1.setCell ⟨Bb, 0, none⟩ (.slice A' (l.length + 1) c')) [Bb] := (Frame.refl _ _).set _ _ (fun _ => by simp)
  have o2 : Ob w1 B (.slice A' (l.length + 1) c') (l ++ [n]) := by rw [← el]; exact own_base o1 hB
  exact ⟨rfl, ⟨_, heap_setCell_same _ _ 0 _ _ _ B1.out, o2.other B1.out fs⟩, (f1.mono (G := [Bb]) (by simp)).trans fs⟩

set_option maxRecDepth 100000 in
set_option maxHeartbeats 1000000 in
theorem ship2_at (B Bb : Nat) (l : List Int) (n m : Int) (w : World) (h : Cap w B Bb l) (hB : B ≤ w.heap.size) (hl : l.length ≤ 900) (h0 : 0 ≤ n) (h1 : n < 64) (hm : m = 2 * n) :
    Calls Tryz.prog 74 #[.int .i64 n, .pointer (some ⟨Bb, 0, none⟩)] w (CapPost w B Bb (l ++ [m])) := by
  obtain ⟨v, hb, ho⟩ := h
  have hn := signed_any v l n m w ho.bv hl h0 h1 hm
  obtain ⟨A, c, rfl⟩ := own_len ho
  have hc := cell_of_row _ _ 0 _ _ _ hb
  have HB := Lib.hid hb
  clear hb ho hm
  go_enter Tryz.func74, Tryz.ntmps74
  go_wp2_with (go_at_call 75; refine hn.mono ?_; rintro e w1 ⟨v', rfl, o1, f1⟩; obtain ⟨A', c', rfl⟩ := own_len o1; have b1 := f1.heap HB.out (by simp); have d0 := cell_of_row _ _ 0 _ _ _ b1; have z0 := frozen_of_row _ _ 0 _ _ b1; have B1 := Lib.hid b1; clear b1)
  go_end0
  have el : (l ++ [m]).length = l.length + 1 := by simp
  have fs : Frame w1 (w1.setCell ⟨Bb, 0, none⟩ (.slice A' (l.length + 1) c')) [Bb] := (Frame.refl _ _).set _ _ (fun _ => by simp)
  have o2 : Ob w1 B (.slice A' (l.length + 1) c') (l ++ [m]) := by rw [← el]; exact own_base o1 hB
  exact ⟨rfl, ⟨_, heap_setCell_same _ _ 0 _ _ _ B1.out, o2.other B1.out fs⟩, (f1.mono (G := [Bb]) (by simp)).trans fs⟩

theorem Cap.lt {w : World} {B Bb : Nat} {l : List Int} (h : Cap w B Bb l) : Bb < w.heap.size := by
  obtain ⟨v, hb, _⟩ := h
  exact lt_of_block hb
theorem Cap.frame' {w w' : World} {B Bb : Nat} {l : List Int} (h : Cap w B Bb l) (hf : Frame w w' []) : Cap w' B Bb l := by
  obtain ⟨v, hb, ho⟩ := h
  exact ⟨v, hf.heap hb (by simp), own_frame ho hf (by simp)⟩
theorem Frame.trans' {w w' w'' : World} {F G : List Nat} (h : Frame w w' F) (k : Frame w' w'' G) (hg : ∀ i ∈ G, i < w.heap.size → i ∈ F) : Frame w w'' F :=
  ⟨k.os.trans h.os, k.tape.trans h.tape, k.output.trans h.output, Nat.le_trans h.size k.size, fun i hi hn => (k.block i (Nat.lt_of_lt_of_le hi h.size) (fun hm => hn (hg i hm hi))).trans (h.block i hi hn)⟩

def body : List Int := [1, 7, 2, 0, 4, 1, 0, 1, 1, 2]
def ShipPost (w : World) (e : Ending) (w' : World) : Prop :=
  ∃ v, e = .returned (.tuple #[v, .int .i64 0]) ∧ Ob w' w.heap.size v (body ++ crcTail body) ∧ Frame w w' []

set_option maxRecDepth 100000 in
set_option maxHeartbeats 2000000 in
theorem ship_pt (g c : Nat) (w : World) (h : PtAt w g) (hc : 1 ≤ c) :
    Calls Tryz.prog 31 #[.slice (some ⟨g, 0, none⟩) 1 c] w (ShipPost w) := by
  have H := Lib.hid h
  clear h
  go_enter Tryz.func31, Tryz.ntmps31
  go_wp2_with fail
  refine (good_pt g c w H.out).mono ?_
  rintro e w1 ⟨rfl, f1⟩
  have H1 := Lib.hid (H.out.frame f1 (by simp))
  have F1 := Lib.hid f1
  clear f1
  go_wp2_with fail
  refine (clone_pt g c w1 H1.out hc).mono ?_
  rintro e w2 ⟨g2, c2, rfl, p2, hg2, hc2, f2⟩
  have H2 := Lib.hid p2
  have F2 := Lib.hid (F1.out.trans f2)
  clear f2 p2
  go_wp2_with fail
  refine (sortP_one _ c2 _ w2).mono ?_
  rintro e w2' ⟨rfl, rfl⟩
  have kb : (w2.alloc (.cells #[.slice none 0 0] 38)).heap[w2.heap.size]? = some (.cells #[.slice none 0 0] 38 (0, 0)) := heap_alloc_new _ _
  have fb : Frame w2 (w2.alloc (.cells #[.slice none 0 0] 38)) [] := (Frame.refl w2 []).alloc _
  go_wp2_with fail
  generalize w2.alloc (.cells #[.slice none 0 0] 38) = w3 at kb fb ⊢
  have C3 := Lib.hid (show Cap w3 w.heap.size w2.heap.size [] from ⟨_, kb, World.ownsRow_nil _ _ _ _⟩)
  have F3 := Lib.hid (F2.out.trans fb)
  have H3 := Lib.hid (H2.out.frame fb (by simp))
  have hlt : w2.heap.size < w3.heap.size := lt_of_block kb
  have hg3 : g2 < w2.heap.size := H2.out.lt
  clear kb fb
  refine (ship1_at w.heap.size w2.heap.size [] 1 w3 C3.out (by have := F3.out.size; omega) (by decide) (by decide) (by decide)).mono ?_
  rintro e w4 ⟨rfl, cc, ff⟩
  have C4 := Lib.hid (show Cap w4 w.heap.size w2.heap.size [1] from cc)
  have F4 := Lib.hid ((F3.out.trans' ff (by have := F2.out.size; simp; omega)))
  have H4 := Lib.hid (H3.out.frame ff (by simp; omega))
  clear cc ff
  obtain ⟨c0, c1, c2', c3, c4, c5, c6, c7, c8⟩ := H4.out
  go_wp2_with fail
  refine wp_loop_rounds 2 ?_
  rw [rounds_succ]
  have kp : (w4.alloc (.cells #[.int .i64 7, .int .i64 1, .int .i64 0, .int .i64 2, .int .i64 3, .int .i64 0, .int .i64 1, .int .i64 1, .int .i64 2] 109)).heap[w4.heap.size]? = some (.cells #[.int .i64 7, .int .i64 1, .int .i64 0, .int .i64 2, .int .i64 3, .int .i64 0, .int .i64 1, .int .i64 1, .int .i64 2] 109 (0, 0)) := heap_alloc_new _ _
  have fp : Frame w4 (w4.alloc (.cells #[.int .i64 7, .int .i64 1, .int .i64 0, .int .i64 2, .int .i64 3, .int .i64 0, .int .i64 1, .int .i64 1, .int .i64 2] 109)) [] := (Frame.refl w4 []).alloc _
  go_wp2_with fail
  generalize w4.alloc (.cells #[.int .i64 7, .int .i64 1, .int .i64 0, .int .i64 2, .int .i64 3, .int .i64 0, .int .i64 1, .int .i64 1, .int .i64 2] 109) = w5 at kp fp ⊢
  have P5 := Lib.hid (PtAt.of_blk kp)
  have S5 := Lib.hid (show w4.heap.size ≤ w5.heap.size from fp.size)
  have C5 := Lib.hid (C4.out.frame' fp)
  have F5 := Lib.hid (F4.out.trans fp)
  have hq : w2.heap.size ≠ w4.heap.size := by have := C4.out.lt; omega
  clear c0 c1 c2' c3 c4 c5 c6 c7 c8 kp fp
  refine (ship1_at w.heap.size w2.heap.size [1] 7 w5 C5.out (by have := F5.out.size; omega) (by decide) (by decide) (by decide)).mono ?_
  rintro e w6 ⟨rfl, cc, ff⟩
  have C6 := Lib.hid (show Cap w6 w.heap.size w2.heap.size [1, 7] from cc)
  have F6 := Lib.hid ((F5.out.trans' ff (by have := F2.out.size; simp; omega)))
  have P6 := Lib.hid (P5.out.frame ff (by simp; omega))
  have S6 := Lib.hid (Nat.le_trans S5.out ff.size)
  clear cc ff
  obtain ⟨c0, c1, c2', c3, c4, c5, c6, c7, c8⟩ := P6.out
  go_wp2_with fail
  clear c0 c1 c2' c3 c4 c5 c6 c7 c8
  refine (ship2_at w.heap.size w2.heap.size [1, 7] 1 2 w6 C6.out (by have := F6.out.size; omega) (by decide) (by decide) (by decide) rfl).mono ?_
  rintro e w7 ⟨rfl, cc, ff⟩
  have C7 := Lib.hid (show Cap w7 w.heap.size w2.heap.size [1, 7, 2] from cc)
  have F7 := Lib.hid ((F6.out.trans' ff (by have := F2.out.size; simp; omega)))
  have P7 := Lib.hid (P6.out.frame ff (by simp; omega))
  have S7 := Lib.hid (Nat.le_trans S6.out ff.size)
  clear cc ff
  obtain ⟨c0, c1, c2', c3, c4, c5, c6, c7, c8⟩ := P7.out
  go_wp2_with fail
  clear c0 c1 c2' c3 c4 c5 c6 c7 c8
  refine (ship2_at w.heap.size w2.heap.size [1, 7, 2] 0 0 w7 C7.out (by have := F7.out.size; omega) (by decide) (by decide) (by decide) rfl).mono ?_
  rintro e w8 ⟨rfl, cc, ff⟩
  have C8 := Lib.hid (show Cap w8 w.heap.size w2.heap.size [1, 7, 2, 0] from cc)
  have F8 := Lib.hid ((F7.out.trans' ff (by have := F2.out.size; simp; omega)))
  have P8 := Lib.hid (P7.out.frame ff (by simp; omega))
  have S8 := Lib.hid (Nat.le_trans S7.out ff.size)
  clear cc ff
  obtain ⟨c0, c1, c2', c3, c4, c5, c6, c7, c8⟩ := P8.out
  go_wp2_with fail
  clear c0 c1 c2' c3 c4 c5 c6 c7 c8
  refine (ship2_at w.heap.size w2.heap.size [1, 7, 2, 0] 2 4 w8 C8.out (by have := F8.out.size; omega) (by decide) (by decide) (by decide) rfl).mono ?_
  rintro e w9 ⟨rfl, cc, ff⟩
  have C9 := Lib.hid (show Cap w9 w.heap.size w2.heap.size [1, 7, 2, 0, 4] from cc)
  have F9 := Lib.hid ((F8.out.trans' ff (by have := F2.out.size; simp; omega)))
  have P9 := Lib.hid (P8.out.frame ff (by simp; omega))
  have S9 := Lib.hid (Nat.le_trans S8.out ff.size)
  clear cc ff
  obtain ⟨c0, c1, c2', c3, c4, c5, c6, c7, c8⟩ := P9.out
  go_wp2_with fail
  clear c0 c1 c2' c3 c4 c5 c6 c7 c8
  refine wp_loop_rounds 6 ?_
  have i0 : ∀ w, (Instr.index 195 (.agg #[.int .i64 1, .int .i64 0, .int .i64 1, .int .i64 1, .int .i64 2]) (.int .i64 0)).run Tryz.prog w = .ok (.int .i64 1) w := fun _ => by kernel_rfl
  have i1 : ∀ w, (Instr.index 195 (.agg #[.int .i64 1, .int .i64 0, .int .i64 1, .int .i64 1, .int .i64 2]) (.int .i64 1)).run Tryz.prog w = .ok (.int .i64 0) w := fun _ => by kernel_rfl
  have i2 : ∀ w, (Instr.index 195 (.agg #[.int .i64 1, .int .i64 0, .int .i64 1, .int .i64 1, .int .i64 2]) (.int .i64 2)).run Tryz.prog w = .ok (.int .i64 1) w := fun _ => by kernel_rfl
  have i3 : ∀ w, (Instr.index 195 (.agg #[.int .i64 1, .int .i64 0, .int .i64 1, .int .i64 1, .int .i64 2]) (.int .i64 3)).run Tryz.prog w = .ok (.int .i64 1) w := fun _ => by kernel_rfl
  have i4 : ∀ w, (Instr.index 195 (.agg #[.int .i64 1, .int .i64 0, .int .i64 1, .int .i64 1, .int .i64 2]) (.int .i64 4)).run Tryz.prog w = .ok (.int .i64 2) w := fun _ => by kernel_rfl
  rw [rounds_succ]
  go_wp2_with fail
  refine (ship1_at w.heap.size w2.heap.size [1, 7, 2, 0, 4] 1 w9 C9.out (by have := F9.out.size; omega) (by decide) (by decide) (by decide)).mono ?_
  rintro e w10 ⟨rfl, cc, ff⟩
  have C10 := Lib.hid (show Cap w10 w.heap.size w2.heap.size [1, 7, 2, 0, 4, 1] from cc)
  have F10 := Lib.hid ((F9.out.trans' ff (by have := F2.out.size; simp; omega)))
  have P10 := Lib.hid (P9.out.frame ff (by simp; omega))
  have S10 := Lib.hid (Nat.le_trans S9.out ff.size)
  clear cc ff
  go_wp2_with fail
  rw [rounds_succ]
  go_wp2_with fail
  refine (ship1_at w.heap.size w2.heap.size [1, 7, 2, 0, 4, 1] 0 w10 C10.out (by have := F10.out.size; omega) (by decide) (by decide) (by decide)).mono ?_
  rintro e w11 ⟨rfl, cc, ff⟩
  have C11 := Lib.hid (show Cap w11 w.heap.size w2.heap.size [1, 7, 2, 0, 4, 1, 0] from cc)
  have F11 := Lib.hid ((F10.out.trans' ff (by have := F2.out.size; simp; omega)))
  have P11 := Lib.hid (P10.out.frame ff (by simp; omega))
  have S11 := Lib.hid (Nat.le_trans S10.out ff.size)
  clear cc ff
  go_wp2_with fail
  rw [rounds_succ]
  go_wp2_with fail
  refine (ship1_at w.heap.size w2.heap.size [1, 7, 2, 0, 4, 1, 0] 1 w11 C11.out (by have := F11.out.size; omega) (by decide) (by decide) (by decide)).mono ?_
  rintro e w12 ⟨rfl, cc, ff⟩
  have C12 := Lib.hid (show Cap w12 w.heap.size w2.heap.size [1, 7, 2, 0, 4, 1, 0, 1] from cc)
  have F12 := Lib.hid ((F11.out.trans' ff (by have := F2.out.size; simp; omega)))
  have P12 := Lib.hid (P11.out.frame ff (by simp; omega))
  have S12 := Lib.hid (Nat.le_trans S11.out ff.size)
  clear cc ff
  go_wp2_with fail
  rw [rounds_succ]
  go_wp2_with fail
  refine (ship1_at w.heap.size w2.heap.size [1, 7, 2, 0, 4, 1, 0, 1] 1 w12 C12.out (by have := F12.out.size; omega) (by decide) (by decide) (by decide)).mono ?_
  rintro e w13 ⟨rfl, cc, ff⟩
  have C13 := Lib.hid (show Cap w13 w.heap.size w2.heap.size [1, 7, 2, 0, 4, 1, 0, 1, 1] from cc)
  have F13 := Lib.hid ((F12.out.trans' ff (by have := F2.out.size; simp; omega)))
  have P13 := Lib.hid (P12.out.frame ff (by simp; omega))
  have S13 := Lib.hid (Nat.le_trans S12.out ff.size)
  clear cc ff
  go_wp2_with fail
  rw [rounds_succ]
  go_wp2_with fail
  refine (ship1_at w.heap.size w2.heap.size [1, 7, 2, 0, 4, 1, 0, 1, 1] 2 w13 C13.out (by have := F13.out.size; omega) (by decide) (by decide) (by decide)).mono ?_
  rintro e w14 ⟨rfl, cc, ff⟩
  have C14 := Lib.hid (show Cap w14 w.heap.size w2.heap.size [1, 7, 2, 0, 4, 1, 0, 1, 1, 2] from cc)
  have F14 := Lib.hid ((F13.out.trans' ff (by have := F2.out.size; simp; omega)))
  have P14 := Lib.hid (P13.out.frame ff (by simp; omega))
  have S14 := Lib.hid (Nat.le_trans S13.out ff.size)
  clear cc ff
  go_wp2_with fail
  rw [rounds_succ]
  go_wp2_with fail
  rw [rounds_succ]
  obtain ⟨vb, kb, ob⟩ := C14.out
  obtain ⟨Ab, cb, rfl⟩ := own_len ob
  have cc := cell_of_row _ _ 0 _ _ _ kb
  have OB := Lib.hid ob
  clear kb ob
  go_wp2_with fail
  refine (checked_any w.heap.size _ _ w14 OB.out (by have := F14.out.size; omega) (by decide)).mono ?_
  rintro e wz ⟨vz, rfl, oz, fz, _⟩
  obtain ⟨Az, cz, rfl⟩ := own_len oz
  go_wp2_with fail
  go_ret2
  refine ⟨_, rfl, oz, F14.out.trans' fz ?_⟩
  intro i hi hlt
  cases Ab with
  | none => simp [Value.ownBlock] at hi
  | some a =>
    simp [Value.ownBlock] at hi
    have := (World.ownsRow.lt OB.out a.block rfl).1
    omega
end Go.Proofs.YtpkfgmebngpfkaaGreat
