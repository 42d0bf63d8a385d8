/- Contracts of Append and Clear of the program's disk. No condition. -/
import Derived.Test.YtaidpmflfimkgaaT3
namespace Go.Proofs.Ytaidpmflfimkgaa
open Go.RowKit

theorem foot_row0 {w w1 : World} {g : Nat} {v0 v1 v' : Value} (hn : NewRow w1 v' v0) (hs : w.heap.size ≤ w1.heap.size) : ∀ k, k ∈ foot g v' v1 → k ∈ foot g v0 v1 ∨ w.heap.size ≤ k := by
  intro k hk
  simp only [foot, List.mem_cons, List.mem_append, Option.mem_toList] at hk ⊢
  rcases hk with hk | hk | hk
  · exact .inl (.inl hk)
  · rcases hn k hk with h3 | h3
    · exact .inl (.inr (.inl h3))
    · exact .inr (Nat.le_trans hs h3)
  · exact .inl (.inr (.inr hk))
theorem foot_row1 {w w1 : World} {g : Nat} {v0 v1 v' : Value} (hn : NewRow w1 v' v1) (hs : w.heap.size ≤ w1.heap.size) : ∀ k, k ∈ foot g v0 v' → k ∈ foot g v0 v1 ∨ w.heap.size ≤ k := by
  intro k hk
  simp only [foot, List.mem_cons, List.mem_append, Option.mem_toList] at hk ⊢
  rcases hk with hk | hk | hk
  · exact .inl (.inl hk)
  · exact .inl (.inr (.inl hk))
  · rcases hn k hk with h3 | h3
    · exact .inl (.inr (.inr h3))
    · exact .inr (Nat.le_trans hs h3)
theorem Frame.foot1 {w w' : World} {g : Nat} (h : Frame w w' [g]) (v0 v1 : Value) : Frame w w' (foot g v0 v1) := h.mono fun k _ hk => by simp [foot] at hk ⊢; exact .inl hk
theorem Frame.foot0 {w w' : World} (g : Nat) {v0 : Value} (h : Frame w w' v0.ownBlock.toList) (v1 : Value) : Frame w w' (foot g v0 v1) := h.mono fun k _ hk => by simp [foot] at hk ⊢; exact .inr (.inl hk)
theorem Frame.foot2 {w w' : World} (g : Nat) {v1 : Value} (h : Frame w w' v1.ownBlock.toList) (v0 : Value) : Frame w w' (foot g v0 v1) := h.mono fun k _ hk => by simp [foot] at hk ⊢; exact .inr (.inr hk)
theorem Frame.of_grown {w w' : World} {v : Value} (h : w.grownBy w' v.ownBlock) : Frame w w' v.ownBlock.toList := (Frame.refl w _).grown h (fun k hk _ => by simp [hk])
theorem NewRow.of {w : World} {v' v : Value} (h : v'.ownBlock = v.ownBlock ∨ v'.ownBlock = some w.heap.size) : NewRow w v' v := by
  intro k hk
  rcases h with h | h
  · exact .inl (h ▸ hk)
  · rw [h] at hk
    cases hk
    exact .inr (Nat.le_refl _)
theorem spend_b0 (s : DS) : s.spend.b0 = s.b0 := by unfold DS.spend; split <;> rfl
theorem spend_b1 (s : DS) : s.spend.b1 = s.b1 := by unfold DS.spend; split <;> rfl
theorem spend_s0 (s : DS) : s.spend.s0 = s.s0 := by unfold DS.spend; split <;> rfl
theorem spend_s1 (s : DS) : s.spend.s1 = s.s1 := by unfold DS.spend; split <;> rfl

set_option maxHeartbeats 400000 in
theorem clear_any {B g : Nat} {s : DS} {v0 v1 : Value} (i : Int) (w : World) (h : TD w B g s v0 v1) :
    Calls Try.prog 18 #[.pointer (some ⟨g, 0, none⟩), .int .i64 i] w (OpPost w B g v0 v1 (s.begin_ i).1 (s.clear_ i)) := by
  rcases begin_ways s i with ⟨k, hk, hr, hk0, hk1⟩ | ⟨hi, hi2, hd, hs, hk⟩ | ⟨hi, hi2, hd, hs, hk⟩
  · have hb := begin_refused i w h k hk hr hk0
    have Hf := Lib.hid (show s.clear_ i = s by simp at hk0; simp [DS.clear_, hk, hk0])
    have Hk := Lib.hid (show (s.begin_ i).1 = k by rw [hk])
    have Hk2 := Lib.hid (show (s.begin_ i).2 = s by rw [hk])
    have Hr := Lib.hid hr
    clear hk hr h
    go_enter Try.func18, Try.ntmps18
    go_wp2_with (go_at_call 31; refine hb.mono ?_; rintro e w1 ⟨rfl, htd, hf⟩; rw [Hk.out])
    go_ret
    exact ⟨by rw [Hk.out]; rfl, by rw [Hf.out]; rw [Hk2.out] at htd; exact TDPost.same htd hf⟩
  · have hb := begin_fails i w h hi hi2 hd hs
    have Hf := Lib.hid (show s.clear_ i = s.spend by simp [DS.clear_, hk])
    have Hk := Lib.hid (show (s.begin_ i).1 = 82 by rw [hk])
    have Hk2 := Lib.hid (show (s.begin_ i).2 = s.spend by rw [hk])
    clear hk h
    go_enter Try.func18, Try.ntmps18
    go_wp2_with (go_at_call 31; refine hb.mono ?_; rintro e w1 ⟨rfl, htd, hf⟩; rw [Hk.out])
    go_ret
    exact ⟨by rw [Hk.out]; rfl, by rw [Hf.out]; rw [Hk2.out] at htd; exact TDPost.same htd hf⟩
  · have hb := begin_ok i w h hi hi2 hd hs
    have Hf := Lib.hid (show s.clear_ i = s.spend.setb i [] 0 by simp [DS.clear_, hk])
    have Hk := Lib.hid (show (s.begin_ i).1 = 0 by rw [hk])
    have Hk2 := Lib.hid (show (s.begin_ i).2 = s.spend by rw [hk])
    clear hk h
    rcases (show i = 0 ∨ i = 1 by omega) with rfl | rfl
    · go_enter Try.func18, Try.ntmps18
      go_wp2_with (go_at_call 31; refine hb.mono ?_; rintro e w1 ⟨rfl, htd, hf⟩; rw [Hk.out]; rw [Hk2.out] at htd; obtain ⟨c0, c1, c2, c3, c4, c5, c6, fz⟩ := htd.cells)
      go_ret
      refine ⟨by rw [Hk.out]; rfl, ?_⟩
      rw [Hf.out]
      refine ⟨.slice none 0 0, v1, ⟨(htd.toTC.row0 (Frame.refl _ _) (b' := []) (World.ownsRow_nil _ _ _ _) (fun k hk => by cases hk)).set4 _, Nat.le_refl _, htd.l1, by simp [DS.setb], htd.m1, htd.ml⟩, ?_, foot_row0 (w1 := w1) (fun k hk => by cases hk) hf.size⟩
      exact (((hf.foot1 v0 v1).set _ _ (by simp [foot])).set _ _ (by simp [foot]))
    · go_enter Try.func18, Try.ntmps18
      go_wp2_with (go_at_call 31; refine hb.mono ?_; rintro e w1 ⟨rfl, htd, hf⟩; rw [Hk.out]; rw [Hk2.out] at htd; obtain ⟨c0, c1, c2, c3, c4, c5, c6, fz⟩ := htd.cells)
      go_ret
      refine ⟨by rw [Hk.out]; rfl, ?_⟩
      rw [Hf.out]
      refine ⟨v0, .slice none 0 0, ⟨(htd.toTC.row1 (Frame.refl _ _) (b' := []) (World.ownsRow_nil _ _ _ _) (fun k hk => by cases hk)).set6 _, htd.l0, Nat.le_refl _, htd.m0, by simp [DS.setb], htd.ml⟩, ?_, foot_row1 (w1 := w1) (fun k hk => by cases hk) hf.size⟩
      exact (((hf.foot1 v0 v1).set _ _ (by simp [foot])).set _ _ (by simp [foot]))

set_option maxHeartbeats 400000 in
theorem append_any {B g : Nat} {s : DS} {v0 v1 : Value} (i : Int) (xv : Value) (l : List UInt8) (w : World) (h : TD w B g s v0 v1) (hx : Rd w xv l.length 1 (bv l)) (hxg : 0 < l.length → xv.ownBlock ≠ some g) (h0 : s.b0.length + l.length ≤ 1073741824) (h1 : s.b1.length + l.length ≤ 1073741824) :
    Calls Try.prog 14 #[.pointer (some ⟨g, 0, none⟩), .int .i64 i, xv] w (OpPost w B g v0 v1 (s.begin_ i).1 (s.append i l)) := by
  obtain ⟨i0, hi0, hz0, hz1, hz2⟩ := info_parts info_u8
  rcases begin_ways s i with ⟨k, hk, hr, hk0, hk1⟩ | ⟨hi, hi2, hd, hs, hk⟩ | ⟨hi, hi2, hd, hs, hk⟩
  · have hb := begin_refused i w h k hk hr hk0
    have Hf := Lib.hid (show s.append i l = s by simp at hk0; simp [DS.append, hk, hk0])
    have Hk := Lib.hid (show (s.begin_ i).1 = k by rw [hk])
    have Hk2 := Lib.hid (show (s.begin_ i).2 = s by rw [hk])
    have Hr := Lib.hid hr
    clear hk hr h
    go_enter Try.func14, Try.ntmps14
    go_wp2_with (go_at_call 31; refine hb.mono ?_; rintro e w1 ⟨rfl, htd, hf⟩; rw [Hk.out])
    go_ret
    exact ⟨by rw [Hk.out]; rfl, by rw [Hf.out]; rw [Hk2.out] at htd; exact TDPost.same htd hf⟩
  · have hb := begin_fails i w h hi hi2 hd hs
    have Hf := Lib.hid (show s.append i l = s.spend by simp [DS.append, hk])
    have Hk := Lib.hid (show (s.begin_ i).1 = 82 by rw [hk])
    have Hk2 := Lib.hid (show (s.begin_ i).2 = s.spend by rw [hk])
    clear hk h
    go_enter Try.func14, Try.ntmps14
    go_wp2_with (go_at_call 31; refine hb.mono ?_; rintro e w1 ⟨rfl, htd, hf⟩; rw [Hk.out])
    go_ret
    exact ⟨by rw [Hk.out]; rfl, by rw [Hf.out]; rw [Hk2.out] at htd; exact TDPost.same htd hf⟩
  · have hb := begin_ok i w h hi hi2 hd hs
    have Hf := Lib.hid (show s.append i l = s.spend.setb i (s.b i ++ l) (s.safe i) by simp [DS.append, hk])
    have Hk := Lib.hid (show (s.begin_ i).1 = 0 by rw [hk])
    have Hk2 := Lib.hid (show (s.begin_ i).2 = s.spend by rw [hk])
    have Hl := Lib.hid (spend_b0 s)
    have Hl1 := Lib.hid (spend_b1 s)
    clear hk h
    rcases (show i = 0 ∨ i = 1 by omega) with rfl | rfl
    · go_enter Try.func14, Try.ntmps14
      go_wp2_with (first
        | (go_at_call 31; refine hb.mono ?_; rintro e w1 ⟨rfl, htd, hf⟩; rw [Hk.out]; rw [Hk2.out] at htd; obtain ⟨c0, c1, c2, c3, c4, c5, c6, fz⟩ := htd.cells)
        | (at_builtin; refine wpList_app _ rfl (.tmp 21) (.tmp 22) _ rfl B 5 i0 _ 1 1 Try.underlying27 hi0 hz0 hz1 hz2 rfl (by omega) v0 _ _ rfl htd.o0 xv l.length (bv l) rfl ?c1 (bv_one l) ?c3 ?c4 ?c5 ?_))
      case c1 => exact hx.frame' hf (fun h k hk => by simp; rintro rfl; exact hxg h hk)
      case c3 => rw [Hl.out]; unfold maxLen; omega
      case c4 => rw [Hl.out]; omega
      case c5 => have := lt_of_block htd.blk; have := htd.hB; omega
      intro v' w2 hown hg hat _
      obtain ⟨A', c', hv⟩ := own_len hown
      subst hv
      have hfr := Frame.of_grown hg
      have hnr : NewRow w1 _ v0 := NewRow.of hat
      have hg2 : w2.heap[g]? = _ := hfr.heap htd.blk (by simp; exact own_type htd.o0 htd.blk (by decide))
      have d3 : w2.cell? ⟨g, 3, none⟩ = some v0 := cell_of_row _ _ _ _ _ _ hg2
      have f3 : ∀ j, w2.frozen? ⟨g, j, none⟩ = false := fun j => frozen_of_row _ _ _ _ _ hg2
      have Hg2 := Lib.hid hg2
      clear hg2 c0 c1 c2 c3 c4 c5 c6 fz hat
      go_wp2
      go_ret
      refine ⟨by rw [Hk.out]; rfl, ?_⟩
      rw [Hf.out]
      have ho : w2.ownsRow B 5 1 (.slice A' (s.spend.b0.length + l.length) c') (s.b0 ++ l).length (bv (s.b0 ++ l)) := by
        rw [List.length_append, bv_append, ← Hl.out]
        exact hown
      refine ⟨_, v1, ⟨?_, ?_, htd.l1, ?_, htd.m1, htd.ml⟩, ?_, foot_row0 hnr hf.size⟩
      · have hq := htd.toTC.row0 hfr ho hnr
        rw [spend_s0] at hq
        exact hq
      · show s.s0 ≤ (s.b0 ++ l).length
        have := htd.l0
        rw [spend_s0, spend_b0] at this
        rw [List.length_append]
        omega
      · show (s.b0 ++ l).length ≤ _
        rw [List.length_append]
        omega
      · exact ((Frame.trans (hf.foot1 v0 v1) ((hfr.foot0 g v1))).set _ _ (by simp [foot]))
    · go_enter Try.func14, Try.ntmps14
      go_wp2_with (first
        | (go_at_call 31; refine hb.mono ?_; rintro e w1 ⟨rfl, htd, hf⟩; rw [Hk.out]; rw [Hk2.out] at htd; obtain ⟨c0, c1, c2, c3, c4, c5, c6, fz⟩ := htd.cells)
        | (at_builtin; refine wpList_app _ rfl (.tmp 21) (.tmp 22) _ rfl B 5 i0 _ 1 1 Try.underlying27 hi0 hz0 hz1 hz2 rfl (by omega) v1 _ _ rfl htd.o1 xv l.length (bv l) rfl ?d1 (bv_one l) ?d3 ?d4 ?d5 ?_))
      case d1 => exact hx.frame' hf (fun h k hk => by simp; rintro rfl; exact hxg h hk)
      case d3 => rw [Hl1.out]; unfold maxLen; omega
      case d4 => rw [Hl1.out]; omega
      case d5 => have := lt_of_block htd.blk; have := htd.hB; omega
      intro v' w2 hown hg hat _
      obtain ⟨A', c', hv⟩ := own_len hown
      subst hv
      have hfr := Frame.of_grown hg
      have hnr : NewRow w1 _ v1 := NewRow.of hat
      have hg2 : w2.heap[g]? = _ := hfr.heap htd.blk (by simp; exact own_type htd.o1 htd.blk (by decide))
      have d3 : w2.cell? ⟨g, 5, none⟩ = some v1 := cell_of_row _ _ _ _ _ _ hg2
      have f3 : ∀ j, w2.frozen? ⟨g, j, none⟩ = false := fun j => frozen_of_row _ _ _ _ _ hg2
      have Hg2 := Lib.hid hg2
      clear hg2 c0 c1 c2 c3 c4 c5 c6 fz hat
      go_wp2
      go_ret
      refine ⟨by rw [Hk.out]; rfl, ?_⟩
      rw [Hf.out]
      have ho : w2.ownsRow B 5 1 (.slice A' (s.spend.b1.length + l.length) c') (s.b1 ++ l).length (bv (s.b1 ++ l)) := by
        rw [List.length_append, bv_append, ← Hl1.out]
        exact hown
      refine ⟨v0, _, ⟨?_, htd.l0, ?_, htd.m0, ?_, htd.ml⟩, ?_, foot_row1 hnr hf.size⟩
      · have hq := htd.toTC.row1 hfr ho hnr
        rw [spend_s1] at hq
        exact hq
      · show s.s1 ≤ (s.b1 ++ l).length
        have := htd.l1
        rw [spend_s1, spend_b1] at this
        rw [List.length_append]
        omega
      · show (s.b1 ++ l).length ≤ _
        rw [List.length_append]
        omega
      · exact ((Frame.trans (hf.foot1 v0 v1) ((hfr.foot2 g v0))).set _ _ (by simp [foot]))
end Go.Proofs.Ytaidpmflfimkgaa
