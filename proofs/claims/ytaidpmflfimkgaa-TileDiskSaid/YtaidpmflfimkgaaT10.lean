/- Contract of Append of the reference's disk. No condition. -/
import Derived.Test.YtaidpmflfimkgaaT9
namespace Go.Proofs.Ytaidpmflfimkgaa
open Go.RowKit

/-- An append to a row that was made behind w1 leaves what w1 had. -/
theorem RowKept {w1 w2 w3 : World} {n : Nat} {v : Value} {xs : List Value} (hf : Frame w1 w2 []) (ho : w2.drew.ownsRow w1.heap.size 5 1 v n xs) (hg : w2.drew.grownBy w3 v.ownBlock) : Frame w1 w3 [] :=
  (hf.drew).grown hg fun k hk hlt => absurd (ho.lt k hk).1 (Nat.not_le.2 hlt)

set_option maxRecDepth 100000 in
set_option maxHeartbeats 2000000 in
theorem rappend_any {B g : Nat} {s : DS} {v0 v1 : Value} (i : Int) (xv : Value) (l : List UInt8) (w : World) (h : RD w B g s v0 v1) (hx : Rd w xv l.length 1 (bv l)) (hxg : 0 < l.length → xv.ownBlock ≠ some g) (h0 : s.b0.length + l.length ≤ 1073741824) (h1 : s.b1.length + l.length ≤ 1073741824) :
    Calls Try.prog 15 #[.pointer (some ⟨g, 0, none⟩), .int .i64 i, xv] w (OpPostR w B g v0 v1 (s.begin_ i).1 (s.append i l)) := by
  obtain ⟨i0, hi0, hz0, hz1, hz2⟩ := info_parts info_u8
  by_cases he : ¬ (s.begin_ i).1 = 0
  · have Hf := Lib.hid (show s.append i l = (s.begin_ i).2 by simp [DS.append, he])
    have he' : ((s.begin_ i).1 != 0) = true := by simpa using he
    have hrd := ready_true i w h
    clear he h
    go_enter Try.func15, Try.ntmps15
    go_wp2_with (go_at_call 32; refine hrd.mono ?_; rintro e w1 ⟨rfl, htd, hf⟩)
    go_ret
    exact ⟨rfl, by rw [Hf.out]; exact RDPost.same htd hf⟩
  · obtain ⟨hi, hk⟩ := begin_zero (Classical.not_not.1 he)
    have hrd := ready_true i w h
    have Hf := Lib.hid (show s.append i l = s.spend.setb i (s.b i ++ l) (s.safe i) by simp [DS.append, hk])
    have Hk := Lib.hid (show (s.begin_ i).1 = 0 by rw [hk])
    have Hk2 := Lib.hid (show (s.begin_ i).2 = s.spend by rw [hk])
    have Hl0 := Lib.hid (spend_b0 s)
    have Hl1 := Lib.hid (spend_b1 s)
    clear hk h he
    rcases hi with rfl | rfl
    · go_enter Try.func15, Try.ntmps15
      go_wp2_with (first
        | (go_at_call 32; refine hrd.mono ?_; rintro e w1 ⟨rfl, htd, hf⟩; rw [Hk.out]; rw [Hk2.out] at htd; obtain ⟨c0, c1, c2, c3, c4, c5, fz⟩ := htd.cells; have hlt1 := lt_of_block htd.blk)
        | (at_builtin; refine wpList_app _ rfl (.tmp 15) (.tmp 21) _ rfl w1.heap.size 5 i0 _ 1 1 Try.underlying27 hi0 hz0 hz1 hz2 rfl (by omega) _ 0 [] rfl ?c1 v0 s.spend.b0.length (bv s.spend.b0) rfl (copy_own htd.o0) (bv_one _) ?c3 ?c4 ?c5 ?_))
      case c1 => exact World.ownsRow_lit (size := 1) w1 #[] 0 (Nat.le_refl _) (Nat.zero_le _) rfl
      case c3 => have := htd.m0; unfold maxLen; omega
      case c4 => have := htd.m0; omega
      case c5 => simp
      intro v2 w2 hown hg hat _
      have hf2 : Frame w1 w2 [] := ((Frame.refl w1 []).alloc _).grown hg (fun k hk hlt => by simp [Value.ownBlock] at hk; omega)
      clear c0 c1 c2 c3 c4 c5 fz hat hg
      have hg2 := hf2.heap htd.blk (by simp)
      have d0 : w2.cell? ⟨g, 0, none⟩ = some v0 := cell_of_row _ _ _ _ _ _ hg2
      have fz : ∀ j, w2.frozen? ⟨g, j, none⟩ = false := fun j => frozen_of_row _ _ _ _ _ hg2
      have Hown := Lib.hid (World.ownsRow.drew hown)
      have Hx := Lib.hid ((hx.frame' hf (fun h k hk => by simp; rintro rfl; exact hxg h hk)).frame (hf2.drew) (by simp))
      have Hb := Lib.hid (Nat.le_trans (Nat.le_refl w1.heap.size) hf2.size)
      have Hg2 := Lib.hid hg2
      clear hg2
      obtain ⟨A2, ca2, rfl⟩ := own_len hown
      go_wp2_with fail
      go_region_law (refine step_app _ (by rfl) (.tmp 25) (.tmp 26) _ (by rfl) w1.heap.size 5 i0 _ 1 1 Try.underlying27 hi0 hz0 hz1 hz2 rfl (by omega) _ _ _ (by rfl) Hown.out xv l.length (bv l) (by rfl) Hx.out (bv_one l) (by simp only [Hl0.out]; unfold maxLen; omega) (by simp only [Hl0.out]; omega) Hb.out ?_; intro v3 w3 hown3 hg3 hat3 hnn; obtain ⟨A3, ca3, rfl⟩ := own_len hown3; have hfr3 := RowKept hf2 (World.ownsRow.drew hown) hg3; have q0 := cell_of_row _ _ 0 _ _ _ (hfr3.heap htd.blk (by simp)); have qf : ∀ j, w3.frozen? ⟨g, j, none⟩ = false := fun j => frozen_of_row _ _ j _ _ (hfr3.heap htd.blk (by simp)))
      all_goals go_wp2
      all_goals go_ret
      all_goals
        refine ⟨by rw [Hk.out]; rfl, ?_⟩
        rw [Hf.out]
        have ho : w3.ownsRow B 5 1 (.slice A3 (s.spend.b0.length + l.length) ca3) (s.b0 ++ l).length (bv (s.b0 ++ l)) := by
          have hq := own_base hown3 (Nat.le_of_lt (Nat.lt_of_le_of_lt htd.hB (lt_of_block htd.blk)))
          rw [List.length_append, bv_append, ← Hl0.out]
          simpa using hq
        have hfr3 := RowKept hf2 (World.ownsRow.drew hown) hg3
        refine ⟨.slice A3 (s.spend.b0.length + l.length) ca3, v1, ⟨?_, ?_, htd.l1, ?_, htd.m1, htd.ml⟩, (hf.trans (hfr3.sub [g])).set _ _ (by simp), fun k hk => ?_⟩
        · have hq := htd.toRC.row0 hfr3 ho
          rw [spend_s0] at hq
          exact hq
        · show s.s0 ≤ (s.b0 ++ l).length
          have hq := htd.l0
          rw [spend_s0, spend_b0] at hq
          rw [List.length_append]
          omega
        · show (s.b0 ++ l).length ≤ _
          rw [List.length_append]
          omega
        · simp only [foot, List.mem_cons, List.mem_append, Option.mem_toList] at hk ⊢
          rcases hk with hk | hk | hk
          · exact .inl (.inl hk)
          · exact .inr (Nat.le_trans hf.size (hown3.lt k hk).1)
          · exact .inl (.inr (.inr hk))
    · go_enter Try.func15, Try.ntmps15
      go_wp2_with (first
        | (go_at_call 32; refine hrd.mono ?_; rintro e w1 ⟨rfl, htd, hf⟩; rw [Hk.out]; rw [Hk2.out] at htd; obtain ⟨c0, c1, c2, c3, c4, c5, fz⟩ := htd.cells; have hlt1 := lt_of_block htd.blk)
        | (at_builtin; refine wpList_app _ rfl (.tmp 15) (.tmp 21) _ rfl w1.heap.size 5 i0 _ 1 1 Try.underlying27 hi0 hz0 hz1 hz2 rfl (by omega) _ 0 [] rfl ?d1 v1 s.spend.b1.length (bv s.spend.b1) rfl (copy_own htd.o1) (bv_one _) ?d3 ?d4 ?d5 ?_))
      case d1 => exact World.ownsRow_lit (size := 1) w1 #[] 0 (Nat.le_refl _) (Nat.zero_le _) rfl
      case d3 => have := htd.m1; unfold maxLen; omega
      case d4 => have := htd.m1; omega
      case d5 => simp
      intro v2 w2 hown hg hat _
      have hf2 : Frame w1 w2 [] := ((Frame.refl w1 []).alloc _).grown hg (fun k hk hlt => by simp [Value.ownBlock] at hk; omega)
      clear c0 c1 c2 c3 c4 c5 fz hat hg
      have hg2 := hf2.heap htd.blk (by simp)
      have d0 : w2.cell? ⟨g, 1, none⟩ = some v1 := cell_of_row _ _ _ _ _ _ hg2
      have fz : ∀ j, w2.frozen? ⟨g, j, none⟩ = false := fun j => frozen_of_row _ _ _ _ _ hg2
      have Hown := Lib.hid (World.ownsRow.drew hown)
      have Hx := Lib.hid ((hx.frame' hf (fun h k hk => by simp; rintro rfl; exact hxg h hk)).frame (hf2.drew) (by simp))
      have Hb := Lib.hid (Nat.le_trans (Nat.le_refl w1.heap.size) hf2.size)
      have Hg2 := Lib.hid hg2
      clear hg2
      obtain ⟨A2, ca2, rfl⟩ := own_len hown
      go_wp2_with fail
      go_region_law (refine step_app _ (by rfl) (.tmp 25) (.tmp 26) _ (by rfl) w1.heap.size 5 i0 _ 1 1 Try.underlying27 hi0 hz0 hz1 hz2 rfl (by omega) _ _ _ (by rfl) Hown.out xv l.length (bv l) (by rfl) Hx.out (bv_one l) (by simp only [Hl1.out]; unfold maxLen; omega) (by simp only [Hl1.out]; omega) Hb.out ?_; intro v3 w3 hown3 hg3 hat3 hnn; obtain ⟨A3, ca3, rfl⟩ := own_len hown3; have hfr3 := RowKept hf2 (World.ownsRow.drew hown) hg3; have q0 := cell_of_row _ _ 1 _ _ _ (hfr3.heap htd.blk (by simp)); have qf : ∀ j, w3.frozen? ⟨g, j, none⟩ = false := fun j => frozen_of_row _ _ j _ _ (hfr3.heap htd.blk (by simp)))
      all_goals go_wp2
      all_goals go_ret
      all_goals
        refine ⟨by rw [Hk.out]; rfl, ?_⟩
        rw [Hf.out]
        have ho : w3.ownsRow B 5 1 (.slice A3 (s.spend.b1.length + l.length) ca3) (s.b1 ++ l).length (bv (s.b1 ++ l)) := by
          have hq := own_base hown3 (Nat.le_of_lt (Nat.lt_of_le_of_lt htd.hB (lt_of_block htd.blk)))
          rw [List.length_append, bv_append, ← Hl1.out]
          simpa using hq
        have hfr3 := RowKept hf2 (World.ownsRow.drew hown) hg3
        refine ⟨v0, .slice A3 (s.spend.b1.length + l.length) ca3, ⟨?_, htd.l0, ?_, htd.m0, ?_, htd.ml⟩, (hf.trans (hfr3.sub [g])).set _ _ (by simp), fun k hk => ?_⟩
        · have hq := htd.toRC.row1 hfr3 ho
          rw [spend_s1] at hq
          exact hq
        · show s.s1 ≤ (s.b1 ++ l).length
          have hq := htd.l1
          rw [spend_s1, spend_b1] at hq
          rw [List.length_append]
          omega
        · show (s.b1 ++ l).length ≤ _
          rw [List.length_append]
          omega
        · simp only [foot, List.mem_cons, List.mem_append, Option.mem_toList] at hk ⊢
          rcases hk with hk | hk | hk
          · exact .inl (.inl hk)
          · exact .inl (.inr (.inl hk))
          · exact .inr (Nat.le_trans hf.size (hown3.lt k hk).1)
end Go.Proofs.Ytaidpmflfimkgaa
