/- Contracts of Crash and Start of the program's disk. No condition. -/
import Derived.Test.YtaidpmflfimkgaaT5
import Derived.LoopN
namespace Go.Proofs.Ytaidpmflfimkgaa
open Go.RowKit

section
variable {w w' : World} {B g n : Nat} {dn : Bool} {l s0 s1 : Int} {v0 v1 : Value} {b0 b1 : List UInt8} {F : List Nat}
theorem TC.cells (h : TC w B g dn l v0 b0 s0 v1 b1 s1) : w.cell? ⟨g, 0, none⟩ = some (.bool true) ∧ w.cell? ⟨g, 1, none⟩ = some (.bool dn) ∧ w.cell? ⟨g, 2, none⟩ = some (.int .i64 l) ∧ w.cell? ⟨g, 3, none⟩ = some v0 ∧
    w.cell? ⟨g, 4, none⟩ = some (.int .i64 s0) ∧ w.cell? ⟨g, 5, none⟩ = some v1 ∧ w.cell? ⟨g, 6, none⟩ = some (.int .i64 s1) ∧ ∀ i, w.frozen? ⟨g, i, none⟩ = false :=
  ⟨cell_of_row _ _ _ _ _ _ h.blk, cell_of_row _ _ _ _ _ _ h.blk, cell_of_row _ _ _ _ _ _ h.blk, cell_of_row _ _ _ _ _ _ h.blk, cell_of_row _ _ _ _ _ _ h.blk, cell_of_row _ _ _ _ _ _ h.blk, cell_of_row _ _ _ _ _ _ h.blk, fun _ => frozen_of_row _ _ _ _ _ h.blk⟩
theorem TC.frame (h : TC w B g dn l v0 b0 s0 v1 b1 s1) (hf : Frame w w' []) : TC w' B g dn l v0 b0 s0 v1 b1 s1 :=
  ⟨hf.heap h.blk (by simp), own_frame h.o0 hf (by simp), own_frame h.o1 hf (by simp), h.ne, h.hB⟩
theorem Frame.sub (h : Frame w w' []) (F : List Nat) : Frame w w' F := h.mono fun k _ hk => by simp at hk
/-- What 'lose' does to the first file of a disk. -/
theorem TC.lose0 (h : TC w B g dn l v0 b0 s0 v1 b1 s1) (b' : List UInt8) (hn : b'.length = n) {e : Ending} (hL : LosePost w g 3 n (bv b') e w') : ∃ v', TC w' B g dn l v' b' n v1 b1 s1 ∧ Frame w w' [g] ∧ ∀ k, v'.ownBlock = some k → w.heap.size ≤ k := by
  subst hn
  obtain ⟨v', w1, _, hf, ho, rfl⟩ := hL
  have hnew : ∀ k, v'.ownBlock = some k → w.heap.size ≤ k := fun k hk => (ho.lt k hk).1
  have hB : B ≤ w.heap.size := Nat.le_of_lt (Nat.lt_of_le_of_lt h.hB (lt_of_block h.blk))
  refine ⟨v', (h.set4 b'.length).row0 (hf.sub _) (own_base ho hB) (fun k hk => .inr (by simpa using hnew k hk)), ?_, hnew⟩
  exact (((Frame.refl w [g]).set _ _ (by simp)).trans (hf.sub _)).set _ _ (by simp)
theorem TC.lose1 (h : TC w B g dn l v0 b0 s0 v1 b1 s1) (b' : List UInt8) (hn : b'.length = n) {e : Ending} (hL : LosePost w g 5 n (bv b') e w') : ∃ v', TC w' B g dn l v0 b0 s0 v' b' n ∧ Frame w w' [g] ∧ ∀ k, v'.ownBlock = some k → w.heap.size ≤ k := by
  subst hn
  obtain ⟨v', w1, _, hf, ho, rfl⟩ := hL
  have hnew : ∀ k, v'.ownBlock = some k → w.heap.size ≤ k := fun k hk => (ho.lt k hk).1
  have hB : B ≤ w.heap.size := Nat.le_of_lt (Nat.lt_of_le_of_lt h.hB (lt_of_block h.blk))
  refine ⟨v', (h.set6 b'.length).row1 (hf.sub _) (own_base ho hB) (fun k hk => .inr (by simpa using hnew k hk)), ?_, hnew⟩
  exact (((Frame.refl w [g]).set _ _ (by simp)).trans (hf.sub _)).set _ _ (by simp)
end

theorem LosePost.ret {w w' : World} {g o n : Nat} {xs : List Value} {e : Ending} (h : LosePost w g o n xs e w') : e = .returned (.tuple #[]) := by
  obtain ⟨_, _, rfl, _⟩ := h
  rfl

theorem keep_len (k : Int) (safe : Nat) (b : List UInt8) (h : safe ≤ b.length) : (b.take (DS.keepN k safe b.length)).length = DS.keepN k safe b.length := by
  rw [List.length_take]
  have := keepN_le k safe _ h
  omega

set_option maxRecDepth 100000 in
set_option maxHeartbeats 2000000 in
theorem crash_any {B g : Nat} {s : DS} {v0 v1 : Value} (k0 k1 : Int) (w : World) (h : TD w B g s v0 v1) (hk0 : k0 ≤ 9223372036854775807) (hk1 : k1 ≤ 9223372036854775807) :
    Calls Try.prog 22 #[.pointer (some ⟨g, 0, none⟩), .agg #[.int .i64 k0, .int .i64 k1]] w (UnitPost w B g v0 v1 (s.crash k0 k1)) := by
  have hlt := lt_of_block h.blk
  have fA : Frame w (w.alloc (.cells #[.int .i64 k0, .int .i64 k1] 29)) [] := (Frame.refl w []).alloc _
  have kA : (w.alloc (.cells #[.int .i64 k0, .int .i64 k1] 29)).heap[w.heap.size]? = some (.cells #[.int .i64 k0, .int .i64 k1] 29 (0, 0)) := heap_alloc_new _ _
  have tA := h.toTC.frame fA
  obtain ⟨WA, hWA⟩ : ∃ WA, WA = w.alloc (.cells #[.int .i64 k0, .int .i64 k1] 29) := ⟨_, rfl⟩
  rw [← hWA] at fA kA tA
  obtain ⟨c0, c1, c2, c3, c4, c5, c6, fz⟩ := tA.cells
  have cA0 : WA.cell? ⟨w.heap.size, 0, none⟩ = some (.int .i64 k0) := cell_of_row _ _ _ _ _ _ kA
  have HW := Lib.hid hWA
  have HkA := Lib.hid kA
  have H := Lib.hid h
  clear kA h
  go_enter Try.func22, Try.ntmps22
  go_wp2_with fail
  rw [← HW.out]
  clear hWA
  go_wp2_with (go_at_call 12; refine (none_any _ _ c0).mono ?_; rintro e w' ⟨rfl, rfl⟩)
  refine wp_loop_rounds 3 ?_
  rw [rounds_succ]
  go_wp2_with fail
  have tA1 := tA.frame ((Frame.refl WA []).drew)
  have Hr0 := Lib.hid (Rd.of_own tA1.o0)
  have Hg0 := Lib.hid (own_type tA1.o0 tA1.blk (by decide))
  have hl0 := H.out.l0
  have hm0 := H.out.m0
  go_region_with (go_at_call 33; refine (lose_any g 3 k0 v0 s.b0.length s.s0 s.b0 WA.drew rfl c3 c4 fz Hr0.out Hg0.out hl0 hm0 hk0).mono ?_; intro e w2 hL; obtain rfl := LosePost.ret hL)
  obtain ⟨v0', t2, f2, n2⟩ := tA1.lose0 _ (keep_len k0 s.s0 s.b0 hl0) hL
  clear hL c0 c1 c2 c3 c4 c5 c6 fz cA0 hl0 hm0
  have f2' : Frame WA w2 [g] := ((Frame.refl WA [g]).drew).trans f2
  have kA2 : w2.heap[w.heap.size]? = _ := f2'.heap HkA.out (by simp; omega)
  have cA1 : w2.cell? ⟨w.heap.size, 1, none⟩ = some (.int .i64 k1) := cell_of_row _ _ _ _ _ _ kA2
  have HkA2 := Lib.hid kA2
  clear kA2
  obtain ⟨c0, c1, c2, c3, c4, c5, c6, fz⟩ := t2.cells
  go_wp2_with fail
  rw [rounds_succ]
  go_wp2_with fail
  have t3 := t2.frame ((Frame.refl w2 []).drew)
  have Hr1 := Lib.hid (Rd.of_own t3.o1)
  have Hg1 := Lib.hid (own_type t3.o1 t3.blk (by decide))
  have hl1 := H.out.l1
  have hm1 := H.out.m1
  go_region_with (go_at_call 33; refine (lose_any g 5 k1 v1 s.b1.length s.s1 s.b1 w2.drew rfl c5 c6 fz Hr1.out Hg1.out hl1 hm1 hk1).mono ?_; intro e w4 hL; obtain rfl := LosePost.ret hL)
  obtain ⟨v1', t4, f4, n4⟩ := t3.lose1 _ (keep_len k1 s.s1 s.b1 hl1) hL
  clear hL c0 c1 c2 c3 c4 c5 c6 fz hl1 hm1 cA1
  obtain ⟨c0, c1, c2, c3, c4, c5, c6, fz⟩ := t4.cells
  go_wp2_with fail
  rw [rounds_succ]
  go_wp2_with fail
  go_end0
  have f4' : Frame w w4 [g] := (fA.sub [g]).trans (f2'.trans (((Frame.refl w2 [g]).drew).trans f4))
  refine ⟨rfl, v0', v1', ⟨(t4.set1 true).set2 0, ?_, ?_, ?_, ?_, Nat.zero_le _⟩, ?_, ?_⟩
  · exact Nat.le_of_eq (keep_len k0 s.s0 s.b0 H.out.l0).symm
  · exact Nat.le_of_eq (keep_len k1 s.s1 s.b1 H.out.l1).symm
  · exact Nat.le_trans (List.length_take_le' _ _) H.out.m0
  · exact Nat.le_trans (List.length_take_le' _ _) H.out.m1
  · exact (((f4'.foot1 v0 v1).set _ _ (by simp [foot])).set _ _ (by simp [foot]))
  · intro k hk
    simp only [foot, List.mem_cons, List.mem_append, Option.mem_toList] at hk ⊢
    have e1 := fA.size
    have e2 := f2'.size
    rcases hk with hk | hk | hk
    · exact .inl (.inl hk)
    · exact .inr (Nat.le_trans e1 (n2 k hk))
    · exact .inr (Nat.le_trans e1 (Nat.le_trans e2 (n4 k hk)))

set_option maxRecDepth 100000 in
set_option maxHeartbeats 400000 in
theorem start_any {B g : Nat} {s : DS} {v0 v1 : Value} (w : World) (h : TD w B g s v0 v1) :
    Calls Try.prog 24 #[.pointer (some ⟨g, 0, none⟩)] w (UnitPost w B g v0 v1 s.start) := by
  obtain ⟨c0, c1, c2, c3, c4, c5, c6, fz⟩ := h.cells
  have H := Lib.hid h
  have hcr := crash_any 0 0 w h (by decide) (by decide)
  cases hd : s.down
  · rw [hd] at c1
    have Hs := Lib.hid (show s.start = s by simp [DS.start, hd])
    clear h hd hcr
    go_enter Try.func24, Try.ntmps24
    go_wp2_with (go_at_call 12; refine (none_any _ _ c0).mono ?_; rintro e w' ⟨rfl, rfl⟩)
    go_end0
    refine ⟨rfl, ?_⟩
    rw [Hs.out]
    exact TDPost.same H.out (Frame.refl _ _)
  · rw [hd] at c1
    have Hs := Lib.hid (show s.start = { s.crash 0 0 with down := false } by simp [DS.start, hd])
    clear h hd
    go_enter Try.func24, Try.ntmps24
    go_wp2_with (first
      | (go_at_call 12; refine (none_any _ _ c0).mono ?_; rintro e w' ⟨rfl, rfl⟩)
      | (go_at_call 22; refine hcr.mono ?_; rintro e w2 ⟨rfl, v0', v1', htd, hf, hk⟩; obtain ⟨d0, d1, d2, d3, d4, d5, d6, dz⟩ := htd.cells))
    go_end0
    refine ⟨rfl, ?_⟩
    rw [Hs.out]
    exact ⟨v0', v1', ⟨htd.toTC.set1 false, htd.l0, htd.l1, htd.m0, htd.m1, htd.ml⟩, hf.set _ _ (by simp [foot]), hk⟩
end Go.Proofs.Ytaidpmflfimkgaa
