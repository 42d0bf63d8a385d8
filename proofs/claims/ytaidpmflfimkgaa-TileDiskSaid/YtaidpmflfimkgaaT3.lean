/- Contracts of begin, Append, Sync, Clear of the program's disk. No condition. -/
import Derived.Test.YtaidpmflfimkgaaT2
namespace Go.Proofs.Ytaidpmflfimkgaa
open Go.RowKit

def BeginPost (w : World) (B g : Nat) (v0 v1 : Value) (s : DS) (p : Value) (i : Int) (e : Ending) (w' : World) : Prop :=
  e = .returned (.tuple #[p, .int .i64 (s.begin_ i).1]) ∧ TD w' B g (s.begin_ i).2 v0 v1 ∧ Frame w w' [g]

set_option maxHeartbeats 400000 in
theorem begin_refused {B g : Nat} {s : DS} {v0 v1 : Value} (i : Int) (w : World) (h : TD w B g s v0 v1) (k : Int) (hk : s.begin_ i = (k, s)) (hr : refusedN s i = k) (hk0 : (k != 0) = true) :
    Calls Try.prog 31 #[.pointer (some ⟨g, 0, none⟩), .int .i64 i] w (BeginPost w B g v0 v1 s (.pointer none) i) := by
  have Hk := Lib.hid hk
  have H := Lib.hid h
  clear hk
  go_enter Try.func31, Try.ntmps31
  go_wp2_with (go_at_call 34; refine (refused_any _ _ h).mono ?_; rintro e w' ⟨rfl, rfl⟩)
  go_ret2
  exact ⟨by rw [Hk.out]; rfl, by rw [Hk.out]; exact H.out, Frame.refl _ _⟩

set_option maxHeartbeats 400000 in
theorem begin_fails {B g : Nat} {s : DS} {v0 v1 : Value} (i : Int) (w : World) (h : TD w B g s v0 v1) (hi : 0 ≤ i) (hi2 : i < 2) (hd : s.down = false) (hs : s.spend.down = true) :
    Calls Try.prog 31 #[.pointer (some ⟨g, 0, none⟩), .int .i64 i] w (BeginPost w B g v0 v1 s (.pointer none) i) := by
  have Hk := Lib.hid (show s.begin_ i = (82, s.spend) by simp [DS.begin_, hd, hs]; omega)
  have hr : refusedN s i = 0 := by simp [refusedN, hd]; omega
  go_enter Try.func31, Try.ntmps31
  go_wp2_with (first
    | (go_at_call 34; refine (refused_any _ _ h).mono ?_; rintro e w' ⟨rfl, rfl⟩)
    | (go_at_call 44; refine (spend_any _ h hd).mono ?_; rintro e w1 ⟨rfl, htd, hf⟩))
  go_ret2
  exact ⟨by rw [Hk.out]; rfl, by rw [Hk.out]; exact htd, hf⟩

set_option maxHeartbeats 400000 in
theorem begin_ok {B g : Nat} {s : DS} {v0 v1 : Value} (i : Int) (w : World) (h : TD w B g s v0 v1) (hi : 0 ≤ i) (hi2 : i < 2) (hd : s.down = false) (hs : s.spend.down = false) :
    Calls Try.prog 31 #[.pointer (some ⟨g, 0, none⟩), .int .i64 i] w (BeginPost w B g v0 v1 s (.pointer (some ⟨g, 3 + 2 * i.toNat, none⟩)) i) := by
  have Hk := Lib.hid (show s.begin_ i = (0, s.spend) by simp [DS.begin_, hd, hs]; omega)
  have hr : refusedN s i = 0 := by simp [refusedN, hd]; omega
  rcases (show i = 0 ∨ i = 1 by omega) with rfl | rfl
  · go_enter Try.func31, Try.ntmps31
    go_wp2_with (first
      | (go_at_call 34; refine (refused_any _ _ h).mono ?_; rintro e w' ⟨rfl, rfl⟩)
      | (go_at_call 44; refine (spend_any _ h hd).mono ?_; rintro e w1 ⟨rfl, htd, hf⟩))
    go_ret2
    exact ⟨by rw [Hk.out]; rfl, by rw [Hk.out]; exact htd, hf⟩
  · go_enter Try.func31, Try.ntmps31
    go_wp2_with (first
      | (go_at_call 34; refine (refused_any _ _ h).mono ?_; rintro e w' ⟨rfl, rfl⟩)
      | (go_at_call 44; refine (spend_any _ h hd).mono ?_; rintro e w1 ⟨rfl, htd, hf⟩))
    go_ret2
    exact ⟨by rw [Hk.out]; rfl, by rw [Hk.out]; exact htd, hf⟩

/-- The ways of an operation: refused, or the disk fails, or it is done. -/
theorem begin_ways (s : DS) (i : Int) : (∃ k, s.begin_ i = (k, s) ∧ refusedN s i = k ∧ (k != 0) = true ∧ ((k == 0) = false)) ∨ (0 ≤ i ∧ i < 2 ∧ s.down = false ∧ s.spend.down = true ∧ s.begin_ i = (82, s.spend)) ∨
    (0 ≤ i ∧ i < 2 ∧ s.down = false ∧ s.spend.down = false ∧ s.begin_ i = (0, s.spend)) := by
  unfold DS.begin_ refusedN
  by_cases hi : i < 0 ∨ 2 ≤ i
  · exact .inl ⟨2, by simp [hi], by simp [hi], rfl, rfl⟩
  · cases hd : s.down
    · cases hs : s.spend.down
      · exact .inr (.inr ⟨by omega, by omega, rfl, rfl, by simp [hi]⟩)
      · exact .inr (.inl ⟨by omega, by omega, rfl, rfl, by simp [hi]⟩)
    · exact .inl ⟨82, by simp [hi], by simp [hi], rfl, rfl⟩

def OpPost (w : World) (B g : Nat) (v0 v1 : Value) (k : Int) (s : DS) (e : Ending) (w' : World) : Prop := e = .returned (.int .i64 k) ∧ TDPost w B g v0 v1 s w'
def OpPostR (w : World) (B g : Nat) (v0 v1 : Value) (k : Int) (s : DS) (e : Ending) (w' : World) : Prop := e = .returned (.int .i64 k) ∧ RDPost w B g v0 v1 s w'

section
variable {w w' w'' : World} {B g : Nat} {s t : DS} {v0 v1 : Value}
theorem TDPost.same (h : TD w' B g t v0 v1) (hf : Frame w w' [g]) : TDPost w B g v0 v1 t w' :=
  ⟨v0, v1, h, hf.mono (fun k _ hk => by simp [foot] at hk ⊢; exact .inl hk), fun k hk => .inl hk⟩
end

set_option maxHeartbeats 400000 in
theorem sync_any {B g : Nat} {s : DS} {v0 v1 : Value} (i : Int) (w : World) (h : TD w B g s v0 v1) :
    Calls Try.prog 16 #[.pointer (some ⟨g, 0, none⟩), .int .i64 i] w (OpPost w B g v0 v1 (s.begin_ i).1 (s.sync i)) := by
  rcases begin_ways s i with ⟨k, hk, hr, hk0, hk1⟩ | ⟨hi, hi2, hd, hs, hk⟩ | ⟨hi, hi2, hd, hs, hk⟩
  · have hb := begin_refused i w h k hk hr hk0
    have Hf := Lib.hid (show s.sync i = s by simp at hk0; simp [DS.sync, hk, hk0])
    have Hk := Lib.hid (show (s.begin_ i).1 = k by rw [hk])
    have Hk2 := Lib.hid (show (s.begin_ i).2 = s by rw [hk])
    have Hr := Lib.hid hr
    clear hk hr h
    go_enter Try.func16, Try.ntmps16
    go_wp2_with (go_at_call 31; refine hb.mono ?_; rintro e w1 ⟨rfl, htd, hf⟩; rw [Hk.out])
    go_ret
    exact ⟨by rw [Hk.out]; rfl, by rw [Hf.out]; rw [Hk2.out] at htd; exact TDPost.same htd hf⟩
  · have hb := begin_fails i w h hi hi2 hd hs
    have Hf := Lib.hid (show s.sync i = s.spend by simp [DS.sync, hk])
    have Hk := Lib.hid (show (s.begin_ i).1 = 82 by rw [hk])
    have Hk2 := Lib.hid (show (s.begin_ i).2 = s.spend by rw [hk])
    clear hk h
    go_enter Try.func16, Try.ntmps16
    go_wp2_with (go_at_call 31; refine hb.mono ?_; rintro e w1 ⟨rfl, htd, hf⟩; rw [Hk.out])
    go_ret
    exact ⟨by rw [Hk.out]; rfl, by rw [Hf.out]; rw [Hk2.out] at htd; exact TDPost.same htd hf⟩
  · have hb := begin_ok i w h hi hi2 hd hs
    have Hf := Lib.hid (show s.sync i = s.spend.setb i (s.b i) (s.b i).length by simp [DS.sync, hk])
    have Hk := Lib.hid (show (s.begin_ i).1 = 0 by rw [hk])
    have Hk2 := Lib.hid (show (s.begin_ i).2 = s.spend by rw [hk])
    have hsb0 : s.spend.b0 = s.b0 := by simp [DS.spend]; split <;> rfl
    have hsb1 : s.spend.b1 = s.b1 := by simp [DS.spend]; split <;> rfl
    have Hb0 := Lib.hid hsb0
    have Hb1 := Lib.hid hsb1
    obtain ⟨A0, ca0, hv0⟩ := own_len h.o0
    obtain ⟨A1, ca1, hv1⟩ := own_len h.o1
    subst hv0 hv1
    clear hk h hsb0 hsb1
    rcases (show i = 0 ∨ i = 1 by omega) with rfl | rfl
    · go_enter Try.func16, Try.ntmps16
      go_wp2_with (go_at_call 31; refine hb.mono ?_; rintro e w1 ⟨rfl, htd, hf⟩; rw [Hk.out]; rw [Hk2.out] at htd; obtain ⟨c0, c1, c2, c3, c4, c5, c6, fz⟩ := htd.cells)
      go_ret
      refine ⟨by rw [Hk.out]; rfl, ?_⟩
      rw [Hf.out]
      refine TDPost.same (g := g) ?_ (hf.set _ _ (by simp))
      rw [show s.spend.setb 0 (s.b 0) (s.b 0).length = { s.spend with s0 := s.b0.length } by simp only [DS.setb, DS.b, if_true, ← Hb0.out]]
      exact ⟨htd.toTC.set4 _, by simp [Hb0.out], htd.l1, htd.m0, htd.m1, htd.ml⟩
    · go_enter Try.func16, Try.ntmps16
      go_wp2_with (go_at_call 31; refine hb.mono ?_; rintro e w1 ⟨rfl, htd, hf⟩; rw [Hk.out]; rw [Hk2.out] at htd; obtain ⟨c0, c1, c2, c3, c4, c5, c6, fz⟩ := htd.cells)
      go_ret
      refine ⟨by rw [Hk.out]; rfl, ?_⟩
      rw [Hf.out]
      refine TDPost.same (g := g) ?_ (hf.set _ _ (by simp))
      rw [show s.spend.setb 1 (s.b 1) (s.b 1).length = { s.spend with s1 := s.b1.length } by simp only [DS.setb, DS.b, if_neg (show ¬ (1 : Int) = 0 by decide), ← Hb1.out]]
      exact ⟨htd.toTC.set6 _, htd.l0, by simp [Hb1.out], htd.m0, htd.m1, htd.ml⟩
end Go.Proofs.Ytaidpmflfimkgaa
