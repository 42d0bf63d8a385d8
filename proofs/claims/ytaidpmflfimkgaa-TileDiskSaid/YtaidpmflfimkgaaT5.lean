/- Contracts of Arm, lose, Down, Read of the program's disk. No condition. -/
import Derived.Test.YtaidpmflfimkgaaT4
import Derived.StillTailTactics
namespace Go.Proofs.Ytaidpmflfimkgaa
open Go.RowKit

namespace DS
def arm (s : DS) (n : Int) : DS := { s with left := n.toNat }
/-- How many bytes of a file remain. -/
def keepN (k : Int) (safe len : Nat) : Nat := safe + min k.toNat (len - safe)
def crash (s : DS) (k0 k1 : Int) : DS := { b0 := s.b0.take (keepN k0 s.s0 s.b0.length), b1 := s.b1.take (keepN k1 s.s1 s.b1.length), s0 := keepN k0 s.s0 s.b0.length, s1 := keepN k1 s.s1 s.b1.length, down := true, left := 0 }
def start (s : DS) : DS := if s.down then { s.crash 0 0 with down := false } else s
end DS
theorem keepN_le (k : Int) (s n : Nat) (h : s ≤ n) : DS.keepN k s n ≤ n := by unfold DS.keepN; omega

def UnitPost (w : World) (B g : Nat) (v0 v1 : Value) (s : DS) (e : Ending) (w' : World) : Prop := e = .returned (.tuple #[]) ∧ TDPost w B g v0 v1 s w'

theorem arm_end {w : World} {B g : Nat} {s : DS} {v0 v1 : Value} (n m : Int) (h : TD w B g s v0 v1) (hn : n ≤ 9223372036854775807) (hm : m = (n.toNat : Int)) : TDPost w B g v0 v1 (s.arm n) (w.setCell ⟨g, 2, none⟩ (.int .i64 m)) := by
  subst hm
  exact TDPost.same ⟨h.toTC.set2 _, h.l0, h.l1, h.m0, h.m1, by simp only [DS.arm]; omega⟩ ((Frame.refl _ _).set _ _ (by simp))

set_option maxHeartbeats 400000 in
theorem arm_any {B g : Nat} {s : DS} {v0 v1 : Value} (n : Int) (w : World) (h : TD w B g s v0 v1) (hn : n ≤ 9223372036854775807) :
    Calls Try.prog 20 #[.pointer (some ⟨g, 0, none⟩), .int .i64 n] w (UnitPost w B g v0 v1 (s.arm n)) := by
  obtain ⟨c0, c1, c2, c3, c4, c5, c6, fz⟩ := h.cells
  have H := Lib.hid h
  have Hn := Lib.hid hn
  clear h hn
  go_enter Try.func20, Try.ntmps20
  go_wp2_with (go_at_call 12; refine (none_any _ _ c0).mono ?_; rintro e w' ⟨rfl, rfl⟩)
  all_goals
    go_end0
    exact ⟨rfl, arm_end n _ H.out Hn.out (by omega)⟩

set_option maxHeartbeats 400000 in
theorem down_any {B g : Nat} {s : DS} {v0 v1 : Value} (w : World) (h : TD w B g s v0 v1) :
    Calls Try.prog 28 #[.pointer (some ⟨g, 0, none⟩)] w fun e w' => e = .returned (.bool s.down) ∧ w = w' := by
  obtain ⟨c0, c1, c2, c3, c4, c5, c6, fz⟩ := h.cells
  clear h c2 c3 c4 c5 c6 fz
  go_enter Try.func28, Try.ntmps28
  go_wp2_with (go_at_call 12; refine (none_any _ _ c0).mono ?_; rintro e w' ⟨rfl, rfl⟩)
  go_ret
  exact ⟨rfl, rfl⟩

/-- Read: the error, and a new row with the bytes, or nil. -/
def ReadPost (w : World) (s : DS) (i : Int) (e : Ending) (w' : World) : Prop :=
  ∃ v, e = .returned (.tuple #[v, .int .i64 (refusedN s i)]) ∧ w'.ownsRow w.heap.size 5 1 v (if refusedN s i = 0 then s.b i else []).length (bv (if refusedN s i = 0 then s.b i else [])) ∧ Frame w w' []

set_option maxHeartbeats 400000 in
theorem read_any {B g : Nat} {s : DS} {v0 v1 : Value} (i : Int) (w : World) (h : TD w B g s v0 v1) :
    Calls Try.prog 26 #[.pointer (some ⟨g, 0, none⟩), .int .i64 i] w (ReadPost w s i) := by
  have hrf := refused_any i w h
  by_cases hr : refusedN s i = 0
  · have hi : i = 0 ∨ i = 1 := by
      unfold refusedN at hr
      by_cases hc : i < 0 ∨ 2 ≤ i
      · rw [if_pos hc] at hr; cases hr
      · omega
    have Hr := Lib.hid hr
    have hr0 : (refusedN s i != 0) = false := by rw [hr]; rfl
    have Hb0 := Lib.hid (Rd.of_own h.o0)
    have Hb1 := Lib.hid (Rd.of_own h.o1)
    have hm0 : s.b0.length ≤ 1099511627776 := Nat.le_trans h.m0 (by decide)
    have hm1 : s.b1.length ≤ 1099511627776 := Nat.le_trans h.m1 (by decide)
    obtain ⟨c0, c1, c2, c3, c4, c5, c6, fz⟩ := h.cells
    clear hr h c0 c1 c2 c4 c6 fz
    rcases hi with rfl | rfl
    · clear c5
      go_enter Try.func26, Try.ntmps26
      go_wp2_with (first
        | (go_at_call 34; refine hrf.mono ?_; rintro e w' ⟨rfl, rfl⟩)
        | (go_at_call 13; refine (clone_any v0 _ _ _ Hb0.out (bv_one _) hm0).mono ?_; rintro e w1 ⟨v', rfl, hown, hf⟩))
      go_ret2
      refine ⟨v', by rw [Hr.out]; rfl, ?_, hf⟩
      rw [if_pos Hr.out]
      exact hown
    · clear c3
      go_enter Try.func26, Try.ntmps26
      go_wp2_with (first
        | (go_at_call 34; refine hrf.mono ?_; rintro e w' ⟨rfl, rfl⟩)
        | (go_at_call 13; refine (clone_any v1 _ _ _ Hb1.out (bv_one _) hm1).mono ?_; rintro e w1 ⟨v', rfl, hown, hf⟩))
      go_ret2
      refine ⟨v', by rw [Hr.out]; rfl, ?_, hf⟩
      rw [if_pos Hr.out]
      exact hown
  · have Hr := Lib.hid hr
    have hr0 : (refusedN s i != 0) = true := by simpa using hr
    clear hr h
    go_enter Try.func26, Try.ntmps26
    go_wp2_with (first
      | (go_at_call 34; refine hrf.mono ?_; rintro e w' ⟨rfl, rfl⟩))
    go_ret2
    refine ⟨_, rfl, ?_, Frame.refl _ _⟩
    rw [if_neg Hr.out]
    exact World.ownsRow_nil _ _ _ _

/-- What 'lose' leaves of a file at offset o of block g. -/
def LosePost (w : World) (g o : Nat) (n : Nat) (xs : List Value) (e : Ending) (w' : World) : Prop :=
  ∃ v' w1, e = .returned (.tuple #[]) ∧ Frame (w.setCell ⟨g, o + 1, none⟩ (.int .i64 n)) w1 [] ∧ w1.ownsRow w.heap.size 5 1 v' n xs ∧ w' = w1.setCell ⟨g, o, none⟩ v'

theorem lose_prep {w : World} {g o len safe r : Nat} {A : Option Addr} {c : Nat} {l : List UInt8} (nq : Nat) (hc : w.cell? ⟨g, o, none⟩ = some (.slice A len c)) (hs : w.cell? ⟨g, o + 1, none⟩ = some (.int .i64 safe)) (hf : ∀ i, w.frozen? ⟨g, i, none⟩ = false)
    (hr : Rd w (.slice A len c) len 1 (bv l)) (hvg : (Value.slice A len c).ownBlock ≠ some g) (hrl : r ≤ len) :
    let W := (w.drewN nq).setCell ⟨g, o + 1, none⟩ (.int .i64 r)
    W.cell? ⟨g, o, none⟩ = some (.slice A len c) ∧ W.cell? ⟨g, o + 1, none⟩ = some (.int .i64 r) ∧ (∀ i, W.frozen? ⟨g, i, none⟩ = false) ∧ Frame (w.setCell ⟨g, o + 1, none⟩ (.int .i64 r)) W [] ∧
      (∀ n, Rd (W.drewN n) (.slice A r c) r 1 (bv (l.take r))) ∧ r ≤ c ∧ W.heap.size = w.heap.size ∧ g < w.heap.size := by
  intro W
  have hs' : (w.drewN nq).cell? ⟨g, o + 1, none⟩ = some (.int .i64 safe) := hs
  obtain ⟨h1, A', c', he, hlc, hA, hcell⟩ := hr
  simp only [Value.slice.injEq, true_and] at he
  obtain ⟨rfl, rfl⟩ := he
  rw [bv_length] at h1
  refine ⟨?_, ?_, ?_, ⟨rfl, rfl, rfl, by simp [W], fun k hk _ => ?_⟩, fun n => ⟨by rw [bv_length, List.length_take]; omega, A, c, rfl, Nat.le_trans hrl hlc, hA, fun a ha j u hu => ?_⟩, Nat.le_trans hrl hlc, by simp [W], World.block_lt_of_cell? w _ hc⟩
  · rw [World.cell?_setCell_other]
    · exact hc
    · intro e; simp at e
  · exact World.cell?_setCell_same _ _ _ hs'
  · intro i
    show ((w.drewN nq).setCell _ _).frozen? _ = false
    rw [World.frozen?_setCell]
    exact hf i
  · rfl
  · show (World.setCell _ _ _).cell? _ = _
    subst ha
    rw [World.cell?_setCell_other]
    · refine hcell a rfl j u ?_
      rw [bv, List.map_take, List.getElem?_take] at hu
      split at hu
      · exact hu
      · cases hu
    · intro e
      have : (a.add j).block = g := by rw [← e]
      rw [add_block] at this
      exact hvg (by simp [Value.ownBlock, this])

set_option maxRecDepth 100000 in
set_option maxHeartbeats 1000000 in
theorem lose_any (g o : Nat) (k : Int) (v : Value) (len safe : Nat) (l : List UInt8) (w : World) (hl : l.length = len) (hc : w.cell? ⟨g, o, none⟩ = some v) (hs : w.cell? ⟨g, o + 1, none⟩ = some (.int .i64 safe)) (hf : ∀ i, w.frozen? ⟨g, i, none⟩ = false) (hr : Rd w v len 1 (bv l)) (hvg : v.ownBlock ≠ some g)
    (hsl : safe ≤ len) (hm : len ≤ 1073741824) (hk : k ≤ 9223372036854775807) :
    Calls Try.prog 33 #[.pointer (some ⟨g, o, none⟩), .int .i64 k] w (LosePost w g o (DS.keepN k safe len) (bv (l.take (DS.keepN k safe len)))) := by
  have Hrd := Lib.hid hr
  obtain ⟨h1, A, c, rfl, hlc, hA, hcell⟩ := hr
  have Hl := Lib.hid hl
  have HA := Lib.hid hA
  have Hcell := Lib.hid hcell
  have Hvg := Lib.hid hvg
  have H1 := Lib.hid h1
  have Hk := Lib.hid hk
  have Hsl := Lib.hid hsl
  clear hl hA hcell h1 hvg
  by_cases hk0 : k < 0
  · have hkn : DS.keepN k safe len = safe := by unfold DS.keepN; omega
    rw [hkn]
    clear hkn
    go_enter Try.func33, Try.ntmps33
    go_wp2_with fail
    go_quiet (fail)
    go_wp2_with fail
    obtain ⟨e0, e1, ef, e2, e3, e4, e5, e6⟩ := lose_prep nq hc hs hf Hrd.out Hvg.out hsl
    clear hc hs hf
    have Hl' := Lib.hid (show (l.take safe).length = safe by rw [List.length_take, Hl.out]; omega)
    generalize (w.drewN nq).setCell ⟨g, o + 1, none⟩ (.int .i64 safe) = W2 at e0 e1 ef e2 e3 e5 ⊢
    go_region_with (go_at_call 13; refine (clone_any _ _ _ _ (e3 1) (bv_one _) (by omega)).mono ?_; rintro e w3 ⟨v', rfl, hown, hfr⟩; obtain ⟨A', c', rfl⟩ := own_len hown; have q0 := hfr.cell (a := ⟨g, o, none⟩) e0 (by simp); have qf : w3.frozen? ⟨g, o, none⟩ = false := (hfr.frozen (a := ⟨g, o, none⟩) (by simp; omega) (by simp)).trans (ef o))
    all_goals
      go_end0
      exact ⟨_, w3, rfl, e2.trans ((Frame.refl W2 []).drewN 1 |>.trans hfr), own_base hown (by simp; omega), rfl⟩
  · obtain ⟨kn, rfl⟩ := Int.eq_ofNat_of_zero_le (show 0 ≤ k by omega)
    clear hk0
    by_cases hk1 : safe + kn ≤ len
    · have hkn : DS.keepN kn safe len = safe + kn := by unfold DS.keepN; omega
      rw [hkn]
      clear hkn
      have hk2 : (kn : Int) ≤ (len : Int) - (safe : Int) := by omega
      go_enter Try.func33, Try.ntmps33
      go_wp2_with fail
      go_quiet (fail)
      go_wp2_with fail
      rw [show ((safe : Int) + (kn : Int)) = ((safe + kn : Nat) : Int) from by omega]
      obtain ⟨e0, e1, ef, e2, e3, e4, e5, e6⟩ := lose_prep nq hc hs hf Hrd.out Hvg.out hk1
      clear hc hs hf
      have Hl' := Lib.hid (show (l.take (safe + kn : Nat)).length = (safe + kn : Nat) by rw [List.length_take, Hl.out]; omega)
      generalize (w.drewN nq).setCell ⟨g, o + 1, none⟩ (.int .i64 (safe + kn : Nat)) = W2 at e0 e1 ef e2 e3 e5 ⊢
      go_region_with (go_at_call 13; refine (clone_any _ _ _ _ (e3 1) (bv_one _) (by omega)).mono ?_; rintro e w3 ⟨v', rfl, hown, hfr⟩; obtain ⟨A', c', rfl⟩ := own_len hown; have q0 := hfr.cell (a := ⟨g, o, none⟩) e0 (by simp); have qf : w3.frozen? ⟨g, o, none⟩ = false := (hfr.frozen (a := ⟨g, o, none⟩) (by simp; omega) (by simp)).trans (ef o))
      all_goals
        go_end0
        exact ⟨_, w3, rfl, e2.trans ((Frame.refl W2 []).drewN 1 |>.trans hfr), own_base hown (by simp; omega), rfl⟩
    · have hkn : DS.keepN kn safe len = len := by unfold DS.keepN; omega
      rw [hkn]
      clear hkn
      have hk2 : (len : Int) - (safe : Int) < (kn : Int) := by omega
      go_enter Try.func33, Try.ntmps33
      go_wp2_with fail
      go_quiet (fail)
      go_wp2_with fail
      rw [show ((safe : Int) + ((len : Int) - (safe : Int))) = (len : Int) from by omega]
      obtain ⟨e0, e1, ef, e2, e3, e4, e5, e6⟩ := lose_prep nq hc hs hf Hrd.out Hvg.out (Nat.le_refl _)
      clear hc hs hf
      have Hl' := Lib.hid (show (l.take len).length = len by rw [List.length_take, Hl.out]; omega)
      generalize (w.drewN nq).setCell ⟨g, o + 1, none⟩ (.int .i64 len) = W2 at e0 e1 ef e2 e3 e5 ⊢
      go_region_with (go_at_call 13; refine (clone_any _ _ _ _ (e3 1) (bv_one _) (by omega)).mono ?_; rintro e w3 ⟨v', rfl, hown, hfr⟩; obtain ⟨A', c', rfl⟩ := own_len hown; have q0 := hfr.cell (a := ⟨g, o, none⟩) e0 (by simp); have qf : w3.frozen? ⟨g, o, none⟩ = false := (hfr.frozen (a := ⟨g, o, none⟩) (by simp; omega) (by simp)).trans (ef o))
      all_goals
        go_end0
        exact ⟨_, w3, rfl, e2.trans ((Frame.refl W2 []).drewN 1 |>.trans hfr), own_base hown (by simp; omega), rfl⟩
end Go.Proofs.Ytaidpmflfimkgaa
