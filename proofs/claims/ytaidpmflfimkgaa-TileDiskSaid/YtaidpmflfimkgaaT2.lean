/- The state of a disk, both in the program's memory and in the reference's, and what each method does to it. No condition. -/
import Derived.Test.YtaidpmflfimkgaaT1
namespace Go.Proofs.Ytaidpmflfimkgaa
open Go.RowKit

/-- What a disk is. -/
structure DS where
  b0 : List UInt8
  b1 : List UInt8
  s0 : Nat
  s1 : Nat
  down : Bool
  left : Nat

namespace DS
def spend (s : DS) : DS := if s.left = 0 then s else { s with left := s.left - 1, down := decide (s.left - 1 = 0) }
/-- The error of an operation and the state behind it. -/
def begin_ (s : DS) (i : Int) : Int × DS := if i < 0 ∨ 2 ≤ i then (2, s) else if s.down then (82, s) else if s.spend.down then (82, s.spend) else (0, s.spend)
def setb (s : DS) (i : Int) (b : List UInt8) (n : Nat) : DS := if i = 0 then { s with b0 := b, s0 := n } else { s with b1 := b, s1 := n }
def b (s : DS) (i : Int) : List UInt8 := if i = 0 then s.b0 else s.b1
def safe (s : DS) (i : Int) : Nat := if i = 0 then s.s0 else s.s1
def append (s : DS) (i : Int) (l : List UInt8) : DS := if (s.begin_ i).1 = 0 then (s.begin_ i).2.setb i (s.b i ++ l) (s.safe i) else (s.begin_ i).2
def sync (s : DS) (i : Int) : DS := if (s.begin_ i).1 = 0 then (s.begin_ i).2.setb i (s.b i) (s.b i).length else (s.begin_ i).2
def clear_ (s : DS) (i : Int) : DS := if (s.begin_ i).1 = 0 then (s.begin_ i).2.setb i [] 0 else (s.begin_ i).2
end DS

/-- A disk of the program, behind the pointer to block g; its rows lie from block B on. -/
structure TC (w : World) (B g : Nat) (dn : Bool) (l : Int) (v0 : Value) (b0 : List UInt8) (s0 : Int) (v1 : Value) (b1 : List UInt8) (s1 : Int) : Prop where
  blk : w.heap[g]? = some (.cells #[.bool true, .bool dn, .int .i64 l, v0, .int .i64 s0, v1, .int .i64 s1] 60 (0, 0))
  o0 : w.ownsRow B 5 1 v0 b0.length (bv b0)
  o1 : w.ownsRow B 5 1 v1 b1.length (bv b1)
  ne : v0.ownBlock = none ∨ v0.ownBlock ≠ v1.ownBlock
  hB : B ≤ g
structure TD (w : World) (B g : Nat) (s : DS) (v0 v1 : Value) : Prop extends TC w B g s.down s.left v0 s.b0 s.s0 v1 s.b1 s.s1 where
  l0 : s.s0 ≤ s.b0.length
  l1 : s.s1 ≤ s.b1.length
  m0 : s.b0.length ≤ 1073741824
  m1 : s.b1.length ≤ 1073741824
  ml : s.left ≤ 9223372036854775807

/-- A disk of the reference. -/
structure RC (w : World) (B g : Nat) (dn : Bool) (l : Int) (v0 : Value) (b0 : List UInt8) (s0 : Int) (v1 : Value) (b1 : List UInt8) (s1 : Int) : Prop where
  blk : w.heap[g]? = some (.cells #[v0, v1, .int .i64 s0, .int .i64 s1, .bool dn, .int .i64 l] 31 (0, 0))
  o0 : w.ownsRow B 5 1 v0 b0.length (bv b0)
  o1 : w.ownsRow B 5 1 v1 b1.length (bv b1)
  hB : B ≤ g
structure RD (w : World) (B g : Nat) (s : DS) (v0 v1 : Value) : Prop extends RC w B g s.down s.left v0 s.b0 s.s0 v1 s.b1 s.s1 where
  l0 : s.s0 ≤ s.b0.length
  l1 : s.s1 ≤ s.b1.length
  m0 : s.b0.length ≤ 1073741824
  m1 : s.b1.length ≤ 1073741824
  ml : s.left ≤ 9223372036854775807

/-- The blocks of a disk. -/
def foot (g : Nat) (v0 v1 : Value) : List Nat := g :: (v0.ownBlock.toList ++ v1.ownBlock.toList)

section
variable {w w' : World} {B g : Nat} {s : DS} {v0 v1 : Value} {F : List Nat}
theorem TD.cells (h : TD w B g s v0 v1) : w.cell? ⟨g, 0, none⟩ = some (.bool true) ∧ w.cell? ⟨g, 1, none⟩ = some (.bool s.down) ∧ w.cell? ⟨g, 2, none⟩ = some (.int .i64 s.left) ∧ w.cell? ⟨g, 3, none⟩ = some v0 ∧
    w.cell? ⟨g, 4, none⟩ = some (.int .i64 s.s0) ∧ w.cell? ⟨g, 5, none⟩ = some v1 ∧ w.cell? ⟨g, 6, none⟩ = some (.int .i64 s.s1) ∧ ∀ i, w.frozen? ⟨g, i, none⟩ = false :=
  ⟨cell_of_row _ _ _ _ _ _ h.blk, cell_of_row _ _ _ _ _ _ h.blk, cell_of_row _ _ _ _ _ _ h.blk, cell_of_row _ _ _ _ _ _ h.blk, cell_of_row _ _ _ _ _ _ h.blk, cell_of_row _ _ _ _ _ _ h.blk, cell_of_row _ _ _ _ _ _ h.blk, fun _ => frozen_of_row _ _ _ _ _ h.blk⟩
theorem RD.cells (h : RD w B g s v0 v1) : w.cell? ⟨g, 0, none⟩ = some v0 ∧ w.cell? ⟨g, 1, none⟩ = some v1 ∧ w.cell? ⟨g, 2, none⟩ = some (.int .i64 s.s0) ∧ w.cell? ⟨g, 3, none⟩ = some (.int .i64 s.s1) ∧
    w.cell? ⟨g, 4, none⟩ = some (.bool s.down) ∧ w.cell? ⟨g, 5, none⟩ = some (.int .i64 s.left) ∧ ∀ i, w.frozen? ⟨g, i, none⟩ = false :=
  ⟨cell_of_row _ _ _ _ _ _ h.blk, cell_of_row _ _ _ _ _ _ h.blk, cell_of_row _ _ _ _ _ _ h.blk, cell_of_row _ _ _ _ _ _ h.blk, cell_of_row _ _ _ _ _ _ h.blk, cell_of_row _ _ _ _ _ _ h.blk, fun _ => frozen_of_row _ _ _ _ _ h.blk⟩
theorem TD.frame (h : TD w B g s v0 v1) (hf : Frame w w' F) (hn : ∀ k, k ∈ foot g v0 v1 → k ∉ F) : TD w' B g s v0 v1 :=
  ⟨⟨hf.heap h.blk (hn _ (by simp [foot])), own_frame h.o0 hf (fun k hk => hn k (by simp [foot, hk])), own_frame h.o1 hf (fun k hk => hn k (by simp [foot, hk])), h.ne, h.hB⟩, h.l0, h.l1, h.m0, h.m1, h.ml⟩
theorem RD.frame (h : RD w B g s v0 v1) (hf : Frame w w' F) (hn : ∀ k, k ∈ foot g v0 v1 → k ∉ F) : RD w' B g s v0 v1 :=
  ⟨⟨hf.heap h.blk (hn _ (by simp [foot])), own_frame h.o0 hf (fun k hk => hn k (by simp [foot, hk])), own_frame h.o1 hf (fun k hk => hn k (by simp [foot, hk])), h.hB⟩, h.l0, h.l1, h.m0, h.m1, h.ml⟩
theorem own_type {e : TypeId} {size n : Nat} {xs : List Value} {v : Value} {t : TypeId} {cs : Array Value} (h : w.ownsRow B e size v n xs) (hg : w.heap[g]? = some (.cells cs t (0, 0))) (hne : e ≠ t) : v.ownBlock ≠ some g := by
  rcases h.2 with ⟨rfl, _⟩ | ⟨g', cap, cur, rfl, _, hh, _⟩
  · simp [Value.ownBlock]
  · intro he
    have : g' = g := by simpa [Value.ownBlock] using he
    subst this
    rw [hh] at hg
    injection hg with hg
    injection hg with _ ht
    exact hne ht
theorem TD.lt (h : TD w B g s v0 v1) : ∀ k, k ∈ foot g v0 v1 → k < w.heap.size := by
  intro k hk
  simp only [foot, List.mem_cons, List.mem_append, Option.mem_toList] at hk
  rcases hk with rfl | hk | hk
  · exact lt_of_block h.blk
  · exact (h.o0.lt k hk).2
  · exact (h.o1.lt k hk).2
theorem RD.lt (h : RD w B g s v0 v1) : ∀ k, k ∈ foot g v0 v1 → k < w.heap.size := by
  intro k hk
  simp only [foot, List.mem_cons, List.mem_append, Option.mem_toList] at hk
  rcases hk with rfl | hk | hk
  · exact lt_of_block h.blk
  · exact (h.o0.lt k hk).2
  · exact (h.o1.lt k hk).2
end

/-- Behind a call on a disk: its state, its blocks old or new, all else as it was. -/
def TDPost (w : World) (B g : Nat) (v0 v1 : Value) (s : DS) (w' : World) : Prop :=
  ∃ v0' v1', TD w' B g s v0' v1' ∧ Frame w w' (foot g v0 v1) ∧ ∀ k, k ∈ foot g v0' v1' → k ∈ foot g v0 v1 ∨ w.heap.size ≤ k
def RDPost (w : World) (B g : Nat) (v0 v1 : Value) (s : DS) (w' : World) : Prop :=
  ∃ v0' v1', RD w' B g s v0' v1' ∧ Frame w w' [g] ∧ ∀ k, k ∈ foot g v0' v1' → k ∈ foot g v0 v1 ∨ w.heap.size ≤ k

set_option maxHeartbeats 400000 in
theorem none_any (g : Nat) (w : World) (hm : w.cell? ⟨g, 0, none⟩ = some (.bool true)) :
    Calls Try.prog 12 #[.pointer (some ⟨g, 0, none⟩)] w fun e w' => e = .returned (.bool false) ∧ w = w' := by
  go_enter Try.func12, Try.ntmps12
  go_wp2
  go_ret
  exact ⟨rfl, rfl⟩

/-- The error of a call for a file. -/
def refusedN (s : DS) (i : Int) : Int := if i < 0 ∨ 2 ≤ i then 2 else if s.down then 82 else 0

set_option maxHeartbeats 400000 in
theorem refused_any {B g : Nat} {s : DS} {v0 v1 : Value} (i : Int) (w : World) (h : TD w B g s v0 v1) :
    Calls Try.prog 34 #[.pointer (some ⟨g, 0, none⟩), .int .i64 i] w fun e w' => e = .returned (.int .i64 (refusedN s i)) ∧ w = w' := by
  obtain ⟨c0, c1, c2, c3, c4, c5, c6, fz⟩ := h.cells
  clear h c2 c3 c4 c5 c6 fz
  rcases s with ⟨b0, b1, s0, s1, dn, l⟩
  by_cases hi : i < 0
  · have Hr := Lib.hid (show refusedN ⟨b0, b1, s0, s1, dn, l⟩ i = 2 from if_pos (.inl hi))
    go_enter Try.func34, Try.ntmps34
    go_wp2
    go_ret
    exact ⟨by rw [Hr.out]; rfl, rfl⟩
  · by_cases hi2 : 2 ≤ i
    · have Hr := Lib.hid (show refusedN ⟨b0, b1, s0, s1, dn, l⟩ i = 2 from if_pos (.inr hi2))
      go_enter Try.func34, Try.ntmps34
      go_wp2
      go_ret
      exact ⟨by rw [Hr.out]; rfl, rfl⟩
    · cases dn
      · have Hr := Lib.hid (show refusedN ⟨b0, b1, s0, s1, false, l⟩ i = 0 from if_neg (by omega))
        go_enter Try.func34, Try.ntmps34
        go_wp2
        go_ret
        exact ⟨by rw [Hr.out]; rfl, rfl⟩
      · have Hr := Lib.hid (show refusedN ⟨b0, b1, s0, s1, true, l⟩ i = 82 from if_neg (by omega))
        go_enter Try.func34, Try.ntmps34
        go_wp2
        go_ret
        exact ⟨by rw [Hr.out]; rfl, rfl⟩

theorem set7 {w : World} {g : Nat} {t : TypeId} {cs : Array Value} (h : w.heap[g]? = some (.cells cs t (0, 0))) (i : Nat) (v : Value) : (w.setCell ⟨g, i, none⟩ v).heap[g]? = some (.cells (cs.setIfInBounds i v) t (0, 0)) :=
  heap_setCell_same w g i cs t v h

theorem setOther {w : World} {g g' : Nat} {o : Obj} (h : w.heap[g]? = some o) (hne : g ≠ g') (i : Nat) (v : Value) : (w.setCell ⟨g', i, none⟩ v).heap[g]? = some o :=
  (heap_setCell_other w ⟨g', i, none⟩ g v hne).trans h

/-- A store into the disk's own block leaves the rows. -/
theorem own_set {w : World} {B g : Nat} {e : TypeId} {n : Nat} {xs : List Value} {v : Value} {t : TypeId} {cs : Array Value} (h : w.ownsRow B e 1 v n xs) (hg : w.heap[g]? = some (.cells cs t (0, 0))) (hne : e ≠ t) (i : Nat) (u : Value) :
    (w.setCell ⟨g, i, none⟩ u).ownsRow B e 1 v n xs := ownsRow_setCell_other h (own_type h hg hne) u

theorem beq_nat (l : Nat) : ((l : Int) == 0) = decide (l + 1 - 1 = 0) := by
  cases l with
  | zero => rfl
  | succ l =>
    rw [decide_eq_false (by omega), beq_eq_false_iff_ne]
    omega

set_option maxHeartbeats 400000 in
theorem spend_any {B g : Nat} {s : DS} {v0 v1 : Value} (w : World) (h : TD w B g s v0 v1) (hd : s.down = false) :
    Calls Try.prog 44 #[.pointer (some ⟨g, 0, none⟩)] w fun e w' => e = .returned (.bool (!s.spend.down)) ∧ TD w' B g s.spend v0 v1 ∧ Frame w w' [g] := by
  obtain ⟨c0, c1, c2, c3, c4, c5, c6, fz⟩ := h.cells
  rcases s with ⟨b0, b1, s0, s1, dn, l⟩
  simp only at c1 c2 hd
  subst hd
  have H := Lib.hid h
  clear h c0 c3 c4 c5 c6
  cases l with
  | zero =>
    go_enter Try.func44, Try.ntmps44
    go_wp2
    go_ret
    exact ⟨rfl, H.out, Frame.refl _ _⟩
  | succ l =>
    have hl : (l : Int) + 1 ≤ 9223372036854775807 := by have := H.out.ml; simp only at this; omega
    have c2' : w.cell? ⟨g, 2, none⟩ = some (.int .i64 ((l : Int) + 1)) := c2
    clear c2
    go_enter Try.func44, Try.ntmps44
    go_wp2
    go_ret
    have hb' := beq_nat l
    refine ⟨?_, ⟨⟨?_, ?_, ?_, H.out.ne, H.out.hB⟩, H.out.l0, H.out.l1, H.out.m0, H.out.m1, ?_⟩, ?_⟩
    · simp [DS.spend, hb']
    · have e := set7 (set7 H.out.blk 2 (.int .i64 l)) 1 (.bool ((l : Int) == 0))
      rw [hb'] at e ⊢
      exact e
    · exact own_set (own_set H.out.o0 H.out.blk (by decide) _ _) (set7 H.out.blk 2 (.int .i64 l)) (by decide) _ _
    · exact own_set (own_set H.out.o1 H.out.blk (by decide) _ _) (set7 H.out.blk 2 (.int .i64 l)) (by decide) _ _
    · have := H.out.ml
      simp only [DS.spend] at this ⊢
      simp at this ⊢
      omega
    · exact ((Frame.refl _ _).set _ _ (by simp)).set _ _ (by simp)

section
variable {w w2 : World} {B g : Nat} {dn : Bool} {l s0 s1 : Int} {v0 v1 v' : Value} {b0 b1 b' : List UInt8}
/-- How a new row's block may lie. -/
def NewRow (w : World) (v' v : Value) : Prop := ∀ k, v'.ownBlock = some k → v.ownBlock = some k ∨ w.heap.size ≤ k
theorem TC.set1 (h : TC w B g dn l v0 b0 s0 v1 b1 s1) (d : Bool) : TC (w.setCell ⟨g, 1, none⟩ (.bool d)) B g d l v0 b0 s0 v1 b1 s1 := ⟨set7 h.blk 1 _, own_set h.o0 h.blk (by decide) _ _, own_set h.o1 h.blk (by decide) _ _, h.ne, h.hB⟩
theorem TC.set2 (h : TC w B g dn l v0 b0 s0 v1 b1 s1) (d : Int) : TC (w.setCell ⟨g, 2, none⟩ (.int .i64 d)) B g dn d v0 b0 s0 v1 b1 s1 := ⟨set7 h.blk 2 _, own_set h.o0 h.blk (by decide) _ _, own_set h.o1 h.blk (by decide) _ _, h.ne, h.hB⟩
theorem TC.set4 (h : TC w B g dn l v0 b0 s0 v1 b1 s1) (d : Int) : TC (w.setCell ⟨g, 4, none⟩ (.int .i64 d)) B g dn l v0 b0 d v1 b1 s1 := ⟨set7 h.blk 4 _, own_set h.o0 h.blk (by decide) _ _, own_set h.o1 h.blk (by decide) _ _, h.ne, h.hB⟩
theorem TC.set6 (h : TC w B g dn l v0 b0 s0 v1 b1 s1) (d : Int) : TC (w.setCell ⟨g, 6, none⟩ (.int .i64 d)) B g dn l v0 b0 s0 v1 b1 d := ⟨set7 h.blk 6 _, own_set h.o0 h.blk (by decide) _ _, own_set h.o1 h.blk (by decide) _ _, h.ne, h.hB⟩
theorem TC.row0 (h : TC w B g dn l v0 b0 s0 v1 b1 s1) (hf : Frame w w2 v0.ownBlock.toList) (ho : w2.ownsRow B 5 1 v' b'.length (bv b')) (hn : NewRow w v' v0) : TC (w2.setCell ⟨g, 3, none⟩ v') B g dn l v' b' s0 v1 b1 s1 := by
  have hg : w2.heap[g]? = _ := hf.heap h.blk (by simp; exact own_type h.o0 h.blk (by decide))
  have h1 : w2.ownsRow B 5 1 v1 b1.length (bv b1) := own_frame h.o1 hf (by
    intro k hk
    simp
    intro e
    rcases h.ne with hne | hne
    · rw [hne] at e; cases e
    · exact hne (e.trans hk.symm))
  refine ⟨set7 hg 3 _, own_set ho hg (by decide) _ _, own_set h1 hg (by decide) _ _, ?_, h.hB⟩
  cases hb : v'.ownBlock with
  | none => exact .inl rfl
  | some k =>
    refine .inr fun e => ?_
    rcases hn k hb with hk | hk
    · rcases h.ne with hne | hne
      · rw [hne] at hk; cases hk
      · exact hne (hk.trans e)
    · have := (h.o1.lt k e.symm).2
      omega
theorem TC.row1 (h : TC w B g dn l v0 b0 s0 v1 b1 s1) (hf : Frame w w2 v1.ownBlock.toList) (ho : w2.ownsRow B 5 1 v' b'.length (bv b')) (hn : NewRow w v' v1) : TC (w2.setCell ⟨g, 5, none⟩ v') B g dn l v0 b0 s0 v' b' s1 := by
  have hg : w2.heap[g]? = _ := hf.heap h.blk (by simp; exact own_type h.o1 h.blk (by decide))
  have h1 : w2.ownsRow B 5 1 v0 b0.length (bv b0) := own_frame h.o0 hf (by
    intro k hk
    simp
    intro e
    rcases h.ne with hne | hne
    · rw [hne] at hk; cases hk
    · exact hne (hk.trans e.symm))
  refine ⟨set7 hg 5 _, own_set h1 hg (by decide) _ _, own_set ho hg (by decide) _ _, ?_, h.hB⟩
  cases hb : v0.ownBlock with
  | none => exact .inl rfl
  | some k =>
    refine .inr fun e => ?_
    rcases hn k e.symm with hk | hk
    · rcases h.ne with hne | hne
      · rw [hne] at hb; cases hb
      · exact hne (hb.trans hk.symm)
    · have := (h.o0.lt k hb).2
      omega
theorem RC.set2 (h : RC w B g dn l v0 b0 s0 v1 b1 s1) (d : Int) : RC (w.setCell ⟨g, 2, none⟩ (.int .i64 d)) B g dn l v0 b0 d v1 b1 s1 := ⟨set7 h.blk 2 _, own_set h.o0 h.blk (by decide) _ _, own_set h.o1 h.blk (by decide) _ _, h.hB⟩
theorem RC.set3 (h : RC w B g dn l v0 b0 s0 v1 b1 s1) (d : Int) : RC (w.setCell ⟨g, 3, none⟩ (.int .i64 d)) B g dn l v0 b0 s0 v1 b1 d := ⟨set7 h.blk 3 _, own_set h.o0 h.blk (by decide) _ _, own_set h.o1 h.blk (by decide) _ _, h.hB⟩
theorem RC.set4 (h : RC w B g dn l v0 b0 s0 v1 b1 s1) (d : Bool) : RC (w.setCell ⟨g, 4, none⟩ (.bool d)) B g d l v0 b0 s0 v1 b1 s1 := ⟨set7 h.blk 4 _, own_set h.o0 h.blk (by decide) _ _, own_set h.o1 h.blk (by decide) _ _, h.hB⟩
theorem RC.set5 (h : RC w B g dn l v0 b0 s0 v1 b1 s1) (d : Int) : RC (w.setCell ⟨g, 5, none⟩ (.int .i64 d)) B g dn d v0 b0 s0 v1 b1 s1 := ⟨set7 h.blk 5 _, own_set h.o0 h.blk (by decide) _ _, own_set h.o1 h.blk (by decide) _ _, h.hB⟩
theorem RC.row0 (h : RC w B g dn l v0 b0 s0 v1 b1 s1) (hf : Frame w w2 []) (ho : w2.ownsRow B 5 1 v' b'.length (bv b')) : RC (w2.setCell ⟨g, 0, none⟩ v') B g dn l v' b' s0 v1 b1 s1 := by
  have hg : w2.heap[g]? = _ := hf.heap h.blk (by simp)
  exact ⟨set7 hg 0 _, own_set ho hg (by decide) _ _, own_set (own_frame h.o1 hf (by simp)) hg (by decide) _ _, h.hB⟩
theorem RC.row1 (h : RC w B g dn l v0 b0 s0 v1 b1 s1) (hf : Frame w w2 []) (ho : w2.ownsRow B 5 1 v' b'.length (bv b')) : RC (w2.setCell ⟨g, 1, none⟩ v') B g dn l v0 b0 s0 v' b' s1 := by
  have hg : w2.heap[g]? = _ := hf.heap h.blk (by simp)
  exact ⟨set7 hg 1 _, own_set (own_frame h.o0 hf (by simp)) hg (by decide) _ _, own_set ho hg (by decide) _ _, h.hB⟩
end
end Go.Proofs.Ytaidpmflfimkgaa
