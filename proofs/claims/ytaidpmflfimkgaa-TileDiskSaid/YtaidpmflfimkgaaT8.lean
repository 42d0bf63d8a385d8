/- Contracts of ready, Sync, Clear, Arm, Read of the reference's disk. No condition. -/
import Derived.Test.YtaidpmflfimkgaaT7
namespace Go.Proofs.Ytaidpmflfimkgaa
open Go.RowKit

theorem RDPost.same {w w' : World} {B g : Nat} {t : DS} {v0 v1 : Value} (h : RD w' B g t v0 v1) (hf : Frame w w' [g]) : RDPost w B g v0 v1 t w' := ⟨v0, v1, h, hf, fun _ hk => .inl hk⟩

def ReadyPost (w : World) (B g : Nat) (v0 v1 : Value) (s : DS) (i : Int) (e : Ending) (w' : World) : Prop :=
  e = .returned (.int .i64 (s.begin_ i).1) ∧ RD w' B g (s.begin_ i).2 v0 v1 ∧ Frame w w' [g]

theorem refused_in (i : Int) (h : ¬ (i < 0 ∨ 2 ≤ i)) : i = 0 ∨ i = 1 := by omega

set_option maxRecDepth 100000 in
set_option maxHeartbeats 1000000 in
theorem ready_true {B g : Nat} {s : DS} {v0 v1 : Value} (i : Int) (w : World) (h : RD w B g s v0 v1) :
    Calls Try.prog 32 #[.pointer (some ⟨g, 0, none⟩), .int .i64 i, .bool true] w (ReadyPost w B g v0 v1 s i) := by
  obtain ⟨c0, c1, c2, c3, c4, c5, fz⟩ := h.cells
  have H := Lib.hid h
  by_cases hi : i < 0 ∨ 2 ≤ i
  · have Hk := Lib.hid (show s.begin_ i = (2, s) by simp [DS.begin_, hi])
    have h0 : (i != 0) = true := by simp; omega
    have h1 : (i != 1) = true := by simp; omega
    clear h hi c0 c1 c2 c3 c4 c5 fz
    go_enter Try.func32, Try.ntmps32
    go_wp2
    go_ret
    exact ⟨by rw [Hk.out]; rfl, by rw [Hk.out]; exact H.out, Frame.refl _ _⟩
  · rcases hd : s.down
    · rw [hd] at c4
      rcases s with ⟨b0, b1, s0, s1, dn, l⟩
      simp only at hd c5
      subst hd
      cases l with
      | zero =>
        have Hk := Lib.hid (show DS.begin_ ⟨b0, b1, s0, s1, false, 0⟩ i = (0, ⟨b0, b1, s0, s1, false, 0⟩) by simp [DS.begin_, hi, DS.spend])
        have hi' := refused_in i hi
        clear h hi c0 c1 c2 c3
        rcases hi' with rfl | rfl
        all_goals
          go_enter Try.func32, Try.ntmps32
          go_wp2
          go_ret
          exact ⟨by rw [Hk.out]; rfl, by rw [Hk.out]; exact H.out, Frame.refl _ _⟩
      | succ l =>
        have hl : (l : Int) + 1 ≤ 9223372036854775807 := by have := h.ml; simp only at this; omega
        have c5' : w.cell? ⟨g, 5, none⟩ = some (.int .i64 ((l : Int) + 1)) := c5
        have hi' := refused_in i hi
        by_cases hl0 : l = 0
        · subst hl0
          have Hk := Lib.hid (show DS.begin_ ⟨b0, b1, s0, s1, false, 0 + 1⟩ i = (82, ⟨b0, b1, s0, s1, true, 0⟩) by simp [DS.begin_, hi, DS.spend])
          clear h hi c0 c1 c2 c3 c5
          rcases hi' with rfl | rfl
          all_goals
            go_enter Try.func32, Try.ntmps32
            go_wp2
            go_ret
            exact ⟨by rw [Hk.out]; rfl, by rw [Hk.out]; exact ⟨(H.out.toRC.set5 0).set4 true, H.out.l0, H.out.l1, H.out.m0, H.out.m1, Nat.zero_le _⟩, ((Frame.refl _ _).set _ _ (by simp)).set _ _ (by simp)⟩
        · have Hk := Lib.hid (show DS.begin_ ⟨b0, b1, s0, s1, false, l + 1⟩ i = (0, ⟨b0, b1, s0, s1, false, l⟩) by simp [DS.begin_, hi, DS.spend, hl0])
          have hz : ((l : Int) == 0) = false := by simp; omega
          have hz2 : (0 : Int) < (l : Int) := by omega
          clear h hi c0 c1 c2 c3 c5
          rcases hi' with rfl | rfl
          all_goals
            go_enter Try.func32, Try.ntmps32
            go_wp2
            go_ret
            exact ⟨by rw [Hk.out]; rfl, by rw [Hk.out]; exact ⟨H.out.toRC.set5 l, H.out.l0, H.out.l1, H.out.m0, H.out.m1, by have := H.out.ml; simp only at this ⊢; omega⟩, (Frame.refl _ _).set _ _ (by simp)⟩
    · rw [hd] at c4
      have Hk := Lib.hid (show s.begin_ i = (82, s) by simp [DS.begin_, hi, hd])
      have hi' := refused_in i hi
      clear h hi c0 c1 c2 c3 c5 hd
      rcases hi' with rfl | rfl
      all_goals
        go_enter Try.func32, Try.ntmps32
        go_wp2
        go_ret
        exact ⟨by rw [Hk.out]; rfl, by rw [Hk.out]; exact H.out, Frame.refl _ _⟩

set_option maxRecDepth 100000 in
set_option maxHeartbeats 1000000 in
theorem ready_false {B g : Nat} {s : DS} {v0 v1 : Value} (i : Int) (w : World) (h : RD w B g s v0 v1) :
    Calls Try.prog 32 #[.pointer (some ⟨g, 0, none⟩), .int .i64 i, .bool false] w fun e w' => e = .returned (.int .i64 (refusedN s i)) ∧ w = w' := by
  obtain ⟨c0, c1, c2, c3, c4, c5, fz⟩ := h.cells
  by_cases hi : i < 0 ∨ 2 ≤ i
  · have Hk := Lib.hid (show refusedN s i = 2 by simp [refusedN, hi])
    have h0 : (i != 0) = true := by simp; omega
    have h1 : (i != 1) = true := by simp; omega
    clear h hi c0 c1 c2 c3 c4 c5 fz
    go_enter Try.func32, Try.ntmps32
    go_wp2
    go_ret
    exact ⟨by rw [Hk.out]; rfl, rfl⟩
  · have hi' := refused_in i hi
    rcases hd : s.down
    · rw [hd] at c4
      have Hk := Lib.hid (show refusedN s i = 0 by simp [refusedN, hi, hd])
      clear h hi c0 c1 c2 c3 c5 hd
      rcases hi' with rfl | rfl
      all_goals
        go_enter Try.func32, Try.ntmps32
        go_wp2
        go_ret
        exact ⟨by rw [Hk.out]; rfl, rfl⟩
    · rw [hd] at c4
      have Hk := Lib.hid (show refusedN s i = 82 by simp [refusedN, hi, hd])
      clear h hi c0 c1 c2 c3 c5 hd
      rcases hi' with rfl | rfl
      all_goals
        go_enter Try.func32, Try.ntmps32
        go_wp2
        go_ret
        exact ⟨by rw [Hk.out]; rfl, rfl⟩
end Go.Proofs.Ytaidpmflfimkgaa
