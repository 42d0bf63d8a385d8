/- One point in memory; the checks that take it. No condition. -/
import Derived.Test.YtpkfgmebngpfkaaGreatMem
import Derived.LoopN
import Derived.WideLaws
import Derived.MapKept
import Derived.Laws.IdiomRangeMap
import Derived.Carry
namespace Go.Proofs.YtpkfgmebngpfkaaGreat
open Go.RowKit

/-- W with another object at r. -/
def pm (W : World) (r : Nat) (o : Obj) : World := { W with heap := W.heap.setIfInBounds r o }
theorem pm_at {W : World} {r : Nat} (o : Obj) (h : r < W.heap.size) : (pm W r o).heap[r]? = some o := by simp [pm, h]
theorem pm_other {W : World} {r k : Nat} (o : Obj) (h : k ≠ r) : (pm W r o).heap[k]? = W.heap[k]? := by
  simp only [pm, Array.getElem?_setIfInBounds]
  rw [if_neg (Ne.symm h)]
theorem pm_size (W : World) (r : Nat) (o : Obj) : (pm W r o).heap.size = W.heap.size := by simp [pm]
theorem Frame.pm {w w' : World} {F : List Nat} (h : Frame w w' F) (r : Nat) (o : Obj) (hr : r < w.heap.size → r ∈ F) : Frame w (pm w' r o) F :=
  ⟨h.os, h.tape, h.output, by rw [pm_size]; exact h.size, fun k hk hn => (pm_other o (fun e => hn (by subst e; exact hr hk))).trans (h.block k hk hn)⟩

set_option maxRecDepth 100000 in
set_option maxHeartbeats 400000 in
theorem within_any (lo n hi : Int) (w : World) (h1 : lo ≤ n) (h2 : n ≤ hi) :
    Calls Tryz.prog 132 #[.int .i64 lo, .int .i64 n, .int .i64 hi] w fun e w' => e = .returned (.bool true) ∧ w = w' := by
  go_enter Tryz.func132, Tryz.ntmps132
  go_wp2
  go_ret
  exact ⟨rfl, rfl⟩

set_option maxRecDepth 100000 in
set_option maxHeartbeats 400000 in
theorem in_any (lo n hi : Int) (w : World) (h1 : lo ≤ n) (h2 : n ≤ hi) :
    Calls Tryz.prog 55 #[.int .i64 n, .int .i64 lo, .int .i64 hi] w fun e w' => e = .returned (.bool true) ∧ w = w' := by
  go_enter Tryz.func55, Tryz.ntmps55
  go_wp2
  go_ret
  exact ⟨rfl, rfl⟩

set_option maxRecDepth 100000 in
set_option maxHeartbeats 1000000 in
theorem place_pt (w : World) :
    Calls Tryz.prog 265 #[.agg #[.int .i64 7, .int .i64 1, .int .i64 0, .int .i64 2, .int .i64 3, .int .i64 0, .int .i64 1, .int .i64 1, .int .i64 2]] w fun e w' => e = .returned (.agg #[.int .i64 1, .int .i64 0]) ∧ Frame w w' [] := by
  go_enter Tryz.func265, Tryz.ntmps265
  go_wp2
  refine bodyPost_ret (v := .agg #[.int .i64 1, .int .i64 0]) (by simp [results, Tryz.results265, go_sem]) rfl ⟨rfl, ?_⟩
  repeat (first | exact Frame.refl _ _ | refine Frame.alloc ?_ _ | refine Frame.drew ?_)

set_option maxRecDepth 100000 in
set_option maxHeartbeats 1000000 in
theorem validPlace_pt (w : World) :
    Calls Tryz.prog 264 #[.agg #[.int .i64 1, .int .i64 0]] w fun e w' => e = .returned (.bool true) ∧ Frame w w' [] := by
  go_enter Tryz.func264, Tryz.ntmps264
  go_wp2_with (first | (go_at_call 132; refine (within_any _ _ _ _ (by decide) (by decide)).mono ?_; rintro e w' ⟨rfl, rfl⟩))
  go_ret
  exact ⟨rfl, (Frame.refl _ _).alloc _⟩

set_option maxRecDepth 100000 in
set_option maxHeartbeats 1000000 in
theorem validPoint_pt (w : World) :
    Calls Tryz.prog 159 #[.agg #[.int .i64 7, .int .i64 1, .int .i64 0, .int .i64 2, .int .i64 3, .int .i64 0, .int .i64 1, .int .i64 1, .int .i64 2]] w fun e w' => e = .returned (.bool true) ∧ Frame w w' [] := by
  have fA : Frame w (w.alloc (.cells #[.int .i64 7, .int .i64 1, .int .i64 0, .int .i64 2, .int .i64 3, .int .i64 0, .int .i64 1, .int .i64 1, .int .i64 2] 109)) [] := (Frame.refl w []).alloc _
  have kA : (w.alloc (.cells #[.int .i64 7, .int .i64 1, .int .i64 0, .int .i64 2, .int .i64 3, .int .i64 0, .int .i64 1, .int .i64 1, .int .i64 2] 109)).heap[w.heap.size]? = some (.cells #[.int .i64 7, .int .i64 1, .int .i64 0, .int .i64 2, .int .i64 3, .int .i64 0, .int .i64 1, .int .i64 1, .int .i64 2] 109 (0, 0)) := heap_alloc_new _ _
  go_enter Tryz.func159, Tryz.ntmps159
  go_wp2_with (first
    | (go_at_call 132; refine (within_any _ _ _ _ (by decide) (by decide)).mono ?_; rintro e w' ⟨rfl, rfl⟩)
    | (go_at_call 265; refine (place_pt _).mono ?_; rintro e w1 ⟨rfl, f1⟩)
    | (go_at_call 264; refine (validPlace_pt _).mono ?_; rintro e w2 ⟨rfl, f2⟩; have k2 := (f1.trans f2).heap kA (by simp); have d0 := cell_of_row _ _ 0 _ _ _ k2; have d1 := cell_of_row _ _ 1 _ _ _ k2; have d2 := cell_of_row _ _ 2 _ _ _ k2; have d3 := cell_of_row _ _ 3 _ _ _ k2; have d4 := cell_of_row _ _ 4 _ _ _ k2; have d5 := cell_of_row _ _ 5 _ _ _ k2; have d6 := cell_of_row _ _ 6 _ _ _ k2; have d7 := cell_of_row _ _ 7 _ _ _ k2; have d8 := cell_of_row _ _ 8 _ _ _ k2))
  go_ret
  exact ⟨rfl, fA.trans (f1.trans f2)⟩

theorem run_lookup5 {W : World} {r c : Nat} (hb : W.heap[r]? = some (.map #[] c)) : (Instr.lookup 234 (.map (some r)) (.int .i64 7) false).run Tryz.prog W = .ok (.bool false) W := by
  have hz : (zeroValue 4).run Tryz.prog W = .ok (.bool false) W := by kernel_rfl
  have hc : (Instr.checkKey true 10000 3 (.int .i64 7)).run Tryz.prog W = .ok () W := by kernel_rfl
  have hf : (Instr.findKey 3 (.int .i64 7) []).run Tryz.prog W = .ok none W := by kernel_rfl
  have hg : (getObj r).run Tryz.prog W = .ok (.map #[] c) W := by simp [getObj, Sem.run, hb]
  simp [Instr.lookup, run_underlying Tryz.underlying234, hg, hz, hc, hf]

theorem run_update5 {W : World} {r : Nat} (v : Value) (hb : W.heap[r]? = some (.map #[] 0)) : (Instr.mapUpdate 234 (.map (some r)) (.int .i64 7) v).run Tryz.prog W = .ok () (pm W r (.map #[{ key := .int .i64 7, val := v, born := 0 }] 1)) := by
  have hc : (Instr.checkKey false 10000 3 (.int .i64 7)).run Tryz.prog W = .ok () W := by kernel_rfl
  have hf : (Instr.findKey 3 (.int .i64 7) []).run Tryz.prog W = .ok none W := by kernel_rfl
  have hg : (getObj r).run Tryz.prog W = .ok (.map #[] 0) W := by simp [getObj, Sem.run, hb]
  have hs : ∀ o, (setObj r o).run Tryz.prog W = .ok () (pm W r o) := fun o => by simp [setObj, Sem.run, hb, pm]
  simp [Instr.mapUpdate, run_underlying Tryz.underlying234, hg, hc, hf, hs]

/-- The point lies at the head of block g. -/
structure PtAt (W : World) (g : Nat) : Prop where
  c0 : W.cell? ⟨g, 0, none⟩ = some (.int .i64 7)
  c1 : W.cell? ⟨g, 1, none⟩ = some (.int .i64 1)
  c2 : W.cell? ⟨g, 2, none⟩ = some (.int .i64 0)
  c3 : W.cell? ⟨g, 3, none⟩ = some (.int .i64 2)
  c4 : W.cell? ⟨g, 4, none⟩ = some (.int .i64 3)
  c5 : W.cell? ⟨g, 5, none⟩ = some (.int .i64 0)
  c6 : W.cell? ⟨g, 6, none⟩ = some (.int .i64 1)
  c7 : W.cell? ⟨g, 7, none⟩ = some (.int .i64 1)
  c8 : W.cell? ⟨g, 8, none⟩ = some (.int .i64 2)

theorem PtAt.lt {W : World} {g : Nat} (h : PtAt W g) : g < W.heap.size := World.block_lt_of_cell? W _ h.c0
theorem PtAt.frame {W W' : World} {g : Nat} {F : List Nat} (h : PtAt W g) (hf : Frame W W' F) (hn : g ∉ F) : PtAt W' g :=
  ⟨hf.cell h.c0 hn, hf.cell h.c1 hn, hf.cell h.c2 hn, hf.cell h.c3 hn, hf.cell h.c4 hn, hf.cell h.c5 hn, hf.cell h.c6 hn, hf.cell h.c7 hn, hf.cell h.c8 hn⟩
theorem PtAt.of_blk {W : World} {g : Nat} {t : TypeId} (h : W.heap[g]? = some (.cells #[.int .i64 7, .int .i64 1, .int .i64 0, .int .i64 2, .int .i64 3, .int .i64 0, .int .i64 1, .int .i64 1, .int .i64 2] t (0, 0))) : PtAt W g :=
  ⟨cell_of_row _ _ _ _ _ _ h, cell_of_row _ _ _ _ _ _ h, cell_of_row _ _ _ _ _ _ h, cell_of_row _ _ _ _ _ _ h, cell_of_row _ _ _ _ _ _ h, cell_of_row _ _ _ _ _ _ h, cell_of_row _ _ _ _ _ _ h, cell_of_row _ _ _ _ _ _ h, cell_of_row _ _ _ _ _ _ h⟩

set_option maxRecDepth 100000 in
set_option maxHeartbeats 1000000 in
theorem labelValid_pt (g c : Nat) (w : World) (h : PtAt w g) :
    Calls Tryz.prog 92 #[.slice (some ⟨g, 0, none⟩) 1 c] w fun e w' => e = .returned (.bool true) ∧ Frame w w' [] := by
  have hmm : ∀ W : World, (Instr.makeMap 234 (some (.int .i64 1))).run Tryz.prog W = .ok (.map (some W.heap.size)) (W.alloc (.map #[] 0)) := fun W => by
    simp [Instr.makeMap, run_underlying Tryz.underlying234]; rfl
  obtain ⟨c0, c1, c2, c3, c4, c5, c6, c7, c8⟩ := h
  have hlt : g < w.heap.size := World.block_lt_of_cell? w _ c0
  have f1 : Frame w ((w.alloc (.map #[] 0)).alloc (.cells #[.int .i64 7, .int .i64 1, .int .i64 0, .int .i64 2, .int .i64 3, .int .i64 0, .int .i64 1, .int .i64 1, .int .i64 2] 109)) [] := ((Frame.refl w []).alloc _).alloc _
  have m1 : ((w.alloc (.map #[] 0)).alloc (.cells #[.int .i64 7, .int .i64 1, .int .i64 0, .int .i64 2, .int .i64 3, .int .i64 0, .int .i64 1, .int .i64 1, .int .i64 2] 109)).heap[w.heap.size]? = some (.map #[] 0) := heap_alloc2_old w _ _
  have k1 : ((w.alloc (.map #[] 0)).alloc (.cells #[.int .i64 7, .int .i64 1, .int .i64 0, .int .i64 2, .int .i64 3, .int .i64 0, .int .i64 1, .int .i64 1, .int .i64 2] 109)).heap[w.heap.size + 1]? = some (.cells #[.int .i64 7, .int .i64 1, .int .i64 0, .int .i64 2, .int .i64 3, .int .i64 0, .int .i64 1, .int .i64 1, .int .i64 2] 109 (0, 0)) := heap_alloc2_new w _ _
  have F1 := Lib.hid f1
  have M1 := Lib.hid m1
  have K1 := Lib.hid k1
  clear f1 m1 k1
  go_enter Tryz.func92, Tryz.ntmps92
  go_wp2_with fail
  refine wp_loop_rounds 2 ?_
  rw [rounds_succ]
  go_wp2_with fail
  generalize (w.alloc (.map #[] 0)).alloc (.cells #[.int .i64 7, .int .i64 1, .int .i64 0, .int .i64 2, .int .i64 3, .int .i64 0, .int .i64 1, .int .i64 1, .int .i64 2] 109) = W1 at F1 M1 K1 ⊢
  refine (validPoint_pt W1).mono ?_
  rintro e w2 ⟨rfl, f2⟩
  have m2 := f2.heap M1.out (by simp)
  have d0 := cell_of_row _ _ 0 _ _ _ (f2.heap K1.out (by simp))
  have hl := run_lookup5 m2
  have hu := run_update5 (.bool true) m2
  have hz : w.heap.size < w2.heap.size := lt_of_block m2
  have F2 := Lib.hid (F1.out.trans f2)
  clear f2 m2 c0 c1 c2 c3 c4 c5 c6 c7 c8
  go_wp2_with fail
  clear hl hu
  rw [rounds_succ]
  go_wp2_with fail
  go_ret
  exact ⟨rfl, F2.out.pm _ _ (fun hq => absurd hq (Nat.lt_irrefl _))⟩

set_option maxRecDepth 100000 in
set_option maxHeartbeats 1000000 in
theorem good_pt (g c : Nat) (w : World) (h : PtAt w g) :
    Calls Tryz.prog 68 #[.slice (some ⟨g, 0, none⟩) 1 c] w fun e w' => e = .returned (.bool true) ∧ Frame w w' [] := by
  have hlv := labelValid_pt g c _ (h.frame ((Frame.refl w []).alloc (.cells #[.int .i64 7, .int .i64 1, .int .i64 0, .int .i64 2, .int .i64 3, .int .i64 0, .int .i64 1, .int .i64 1, .int .i64 2] 109)) (by simp))
  obtain ⟨c0, c1, c2, c3, c4, c5, c6, c7, c8⟩ := h
  have hlt : g < w.heap.size := World.block_lt_of_cell? w _ c0
  go_enter Tryz.func68, Tryz.ntmps68
  go_wp2_with fail
  refine wp_loop_rounds 2 ?_
  rw [rounds_succ]
  go_wp2_with (go_at_call 55; refine (in_any _ _ _ _ (by decide) (by decide)).mono ?_; rintro e w' ⟨rfl, rfl⟩)
  rw [rounds_succ]
  go_wp2_with fail
  refine hlv.mono ?_
  rintro e w2 ⟨rfl, f2⟩
  go_wp2_with fail
  go_ret
  exact ⟨rfl, ((Frame.refl w []).alloc _).trans f2⟩

def SomeInt (w : World) (e : Ending) (w' : World) : Prop := ∃ l : Int, e = .returned (.int .i64 l) ∧ w = w'

set_option maxRecDepth 100000 in
set_option maxHeartbeats 1000000 in
theorem bitsLen_one (w : World) : Calls Tryz.prog 135 #[.int .u64 1] w (SomeInt w) := by
  go_enter Tryz.func135, Tryz.ntmps135
  go_wp2
  go_ret
  exact ⟨_, rfl, rfl⟩

set_option maxRecDepth 100000 in
set_option maxHeartbeats 1000000 in
theorem insP_one (v cmp : Value) (w : World) : Calls Tryz.prog 214 #[v, .int .i64 0, .int .i64 1, cmp] w fun e w' => e = .returned (.tuple #[]) ∧ w = w' := by
  go_enter Tryz.func214, Tryz.ntmps214
  go_wp2_with fail
  refine wp_loop_rounds 1 ?_
  rw [rounds_succ]
  go_wp2_with fail
  go_end0
  exact ⟨rfl, rfl⟩

set_option maxRecDepth 100000 in
set_option maxHeartbeats 1000000 in
theorem pdqP_one (v cmp : Value) (l : Int) (w : World) : Calls Tryz.prog 134 #[v, .int .i64 0, .int .i64 1, .int .i64 l, cmp] w fun e w' => e = .returned (.tuple #[]) ∧ w = w' := by
  go_enter Tryz.func134, Tryz.ntmps134
  go_wp2_with fail
  refine wp_loop_rounds 1 ?_
  rw [rounds_succ]
  go_wp2_with (go_at_call 214; refine (insP_one _ _ _).mono ?_; rintro e w' ⟨rfl, rfl⟩)
  refine bodyPost_ret (results_none rfl _ _ _) rfl ?_
  exact ⟨rfl, rfl⟩

set_option maxRecDepth 100000 in
set_option maxHeartbeats 1000000 in
theorem sortP_one (A : Option Addr) (c : Nat) (cmp : Value) (w : World) : Calls Tryz.prog 70 #[.slice A 1 c, cmp] w fun e w' => e = .returned (.tuple #[]) ∧ w = w' := by
  go_enter Tryz.func70, Tryz.ntmps70
  go_wp2_with (first
    | (go_at_call 135; refine (bitsLen_one _).mono ?_; rintro e w' ⟨l, rfl, rfl⟩)
    | (go_at_call 134; refine (pdqP_one _ _ _ _).mono ?_; rintro e w' ⟨rfl, rfl⟩))
  go_end0
  exact ⟨rfl, rfl⟩

theorem info_pt : (Tryz.prog.info? 109).map (fun i => (i.zero, i.size, i.bytes)) = some (some (.agg #[.int .i64 0, .int .i64 0, .int .i64 0, .int .i64 0, .int .i64 0, .int .i64 0, .int .i64 0, .int .i64 0, .int .i64 0]), 9, 72) := by kernel_rfl
theorem own_head {w : World} {B n size : Nat} {e : TypeId} {v x : Value} {xs : List Value} (h : w.ownsRow B e size v n (x :: xs)) : ∃ g c, v = .slice (some ⟨g, 0, none⟩) n c ∧ B ≤ g ∧ g < w.heap.size ∧ ∀ j u, (x :: xs)[j]? = some u → w.cell? ⟨g, j, none⟩ = some u := by
  have h0 := h
  rcases h.2 with ⟨rfl, rfl⟩ | ⟨g, cap, cur, rfl, hb, hg, hnc, hcm, hcs, ht⟩
  · have := h.1
    simp at this
  · refine ⟨g, cap, rfl, hb, lt_of_block hg, fun j u hu => ?_⟩
    have := h0.cells (g := g) rfl j u hu
    rw [Addr.add_lit] at this
    simpa using this
theorem PtAt.of_list {w : World} {g : Nat} (h : ∀ j u, [Value.int .i64 7, .int .i64 1, .int .i64 0, .int .i64 2, .int .i64 3, .int .i64 0, .int .i64 1, .int .i64 1, .int .i64 2][j]? = some u → w.cell? ⟨g, j, none⟩ = some u) : PtAt w g :=
  ⟨h 0 _ rfl, h 1 _ rfl, h 2 _ rfl, h 3 _ rfl, h 4 _ rfl, h 5 _ rfl, h 6 _ rfl, h 7 _ rfl, h 8 _ rfl⟩
theorem PtAt.rd {w : World} {g c : Nat} (h : PtAt w g) (hc : 1 ≤ c) : Rd w (.slice (some ⟨g, 0, none⟩) 1 c) 1 9 [Value.int .i64 7, .int .i64 1, .int .i64 0, .int .i64 2, .int .i64 3, .int .i64 0, .int .i64 1, .int .i64 1, .int .i64 2] := by
  refine ⟨rfl, _, c, rfl, hc, (fun e => by cases e), fun a ha j u hu => ?_⟩
  obtain rfl := Option.some.inj ha
  rw [Addr.add_lit]
  simp only [Nat.zero_add]
  match j, hu with
  | 0, hu => simp at hu; subst hu; exact h.c0
  | 1, hu => simp at hu; subst hu; exact h.c1
  | 2, hu => simp at hu; subst hu; exact h.c2
  | 3, hu => simp at hu; subst hu; exact h.c3
  | 4, hu => simp at hu; subst hu; exact h.c4
  | 5, hu => simp at hu; subst hu; exact h.c5
  | 6, hu => simp at hu; subst hu; exact h.c6
  | 7, hu => simp at hu; subst hu; exact h.c7
  | 8, hu => simp at hu; subst hu; exact h.c8
  | n + 9, hu => simp at hu

def ClonePt (w : World) (e : Ending) (w' : World) : Prop := ∃ g c, e = .returned (.slice (some ⟨g, 0, none⟩) 1 c) ∧ PtAt w' g ∧ w.heap.size ≤ g ∧ 1 ≤ c ∧ Frame w w' []

set_option maxRecDepth 100000 in
set_option maxHeartbeats 1000000 in
theorem clone_pt (g c : Nat) (W : World) (h : PtAt W g) (hc : 1 ≤ c) : Calls Tryz.prog 69 #[.slice (some ⟨g, 0, none⟩) 1 c] W (ClonePt W) := by
  obtain ⟨i0, hi, hz0, hz1, hz2⟩ := info_parts info_pt
  have hq := fun w => Lib.run_eql_slice_nil (P := Tryz.prog) w 73 109 (some ⟨g, 0, none⟩) 1 c 0 0 Tryz.underlying73
  have Hr := Lib.hid ((h.rd hc).frame ((Frame.refl W []).alloc (.cells #[] 109)) (by simp))
  have hlt := h.lt
  clear h
  go_enter Tryz.func69, Tryz.ntmps69
  go_wp2_with (at_builtin; refine wpList_app _ rfl (.tmp 5) (.tmp 6) _ rfl W.heap.size 109 i0 _ 9 72 Tryz.underlying73 hi hz0 hz1 hz2 rfl (by omega) _ 0 [] rfl ?c1 _ 1 [Value.int .i64 7, .int .i64 1, .int .i64 0, .int .i64 2, .int .i64 3, .int .i64 0, .int .i64 1, .int .i64 1, .int .i64 2] rfl Hr.out ?c2 ?c3 ?c4 ?c5 ?_)
  case c1 => exact World.ownsRow_lit (size := 9) W #[] 0 (Nat.le_refl _) (Nat.zero_le _) rfl
  case c2 => intro u hu; simp at hu; rcases hu with rfl | rfl | rfl | rfl | rfl | rfl | rfl | rfl | rfl <;> rfl
  case c3 => unfold maxLen; omega
  case c4 => omega
  case c5 => simp
  intro v' w' hown hg _ _
  obtain ⟨g', c', rfl, hB, hlt', hcell⟩ := own_head hown
  go_wp2
  go_ret
  refine ⟨g', c', rfl, PtAt.of_list hcell, hB, ?_, ((Frame.refl W []).alloc _).grown hg ?_⟩
  · rcases hown.2 with ⟨hv, _⟩ | ⟨_, cap, _, hv, _, _, hnc, _⟩
    · cases hv
    · simp only [Value.slice.injEq] at hv
      omega
  · intro k hk hlt
    simp [Value.ownBlock] at hk
    omega

theorem rd_blk {W : World} {g : Nat} {t : TypeId} {size : Nat} {cs : Array Value} (h : W.heap[g]? = some (.cells cs t (0, 0))) (hs : cs.size = size) : Rd W (.slice (some ⟨g, 0, none⟩) 1 1) 1 size cs.toList := by
  refine ⟨by simp [hs], _, 1, rfl, Nat.le_refl _, (fun e => by cases e), fun a ha j u hu => ?_⟩
  obtain rfl := Option.some.inj ha
  rw [Addr.add_lit, cell_of_row _ _ _ _ _ _ h]
  simpa using hu
end Go.Proofs.YtpkfgmebngpfkaaGreat
