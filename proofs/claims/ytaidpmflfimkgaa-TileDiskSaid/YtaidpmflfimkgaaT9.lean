/- Contracts of Sync, Clear, Arm, Read, Append of the reference's disk. No condition. -/
import Derived.Test.YtaidpmflfimkgaaT8
namespace Go.Proofs.Ytaidpmflfimkgaa
open Go.RowKit

theorem RC.drew {w : World} {B g : Nat} {dn : Bool} {l s0 s1 : Int} {v0 v1 : Value} {b0 b1 : List UInt8} (h : RC w B g dn l v0 b0 s0 v1 b1 s1) : RC w.drew B g dn l v0 b0 s0 v1 b1 s1 := ⟨h.blk, h.o0, h.o1, h.hB⟩

theorem begin_zero {s : DS} {i : Int} (h : (s.begin_ i).1 = 0) : (i = 0 ∨ i = 1) ∧ s.begin_ i = (0, s.spend) := by
  rcases begin_ways s i with ⟨k, hk, _, hk0, _⟩ | ⟨_, _, _, _, hk⟩ | ⟨h1, h2, _, _, hk⟩
  · rw [hk] at h
    simp at h hk0
    exact absurd h hk0
  · rw [hk] at h
    simp at h
  · exact ⟨by omega, hk⟩

set_option maxRecDepth 100000 in
set_option maxHeartbeats 1000000 in
theorem rsync_any {B g : Nat} {s : DS} {v0 v1 : Value} (i : Int) (w : World) (h : RD w B g s v0 v1) :
    Calls Try.prog 17 #[.pointer (some ⟨g, 0, none⟩), .int .i64 i] w (OpPostR w B g v0 v1 (s.begin_ i).1 (s.sync i)) := by
  by_cases he : ¬ (s.begin_ i).1 = 0
  · have Hf := Lib.hid (show s.sync i = (s.begin_ i).2 by simp [DS.sync, he])
    have he' : ((s.begin_ i).1 != 0) = true := by simpa using he
    have hrd := ready_true i w h
    clear he h
    go_enter Try.func17, Try.ntmps17
    go_wp2_with (go_at_call 32; refine hrd.mono ?_; rintro e w1 ⟨rfl, htd, hf⟩)
    go_ret
    exact ⟨rfl, by rw [Hf.out]; exact RDPost.same htd hf⟩
  · obtain ⟨hi, hk⟩ := begin_zero (Classical.not_not.1 he)
    have hrd := ready_true i w h
    have Hf := Lib.hid (show s.sync i = s.spend.setb i (s.b i) (s.b i).length by simp [DS.sync, hk])
    have Hk := Lib.hid (show (s.begin_ i).1 = 0 by rw [hk])
    have Hk2 := Lib.hid (show (s.begin_ i).2 = s.spend by rw [hk])
    have Hb0 := Lib.hid (spend_b0 s)
    have Hb1 := Lib.hid (spend_b1 s)
    obtain ⟨A0, ca0, hv0⟩ := own_len h.o0
    obtain ⟨A1, ca1, hv1⟩ := own_len h.o1
    subst hv0 hv1
    clear hk h he
    rcases hi with rfl | rfl
    · go_enter Try.func17, Try.ntmps17
      go_wp2_with (go_at_call 32; refine hrd.mono ?_; rintro e w1 ⟨rfl, htd, hf⟩; rw [Hk.out]; rw [Hk2.out] at htd; obtain ⟨c0, c1, c2, c3, c4, c5, fz⟩ := htd.cells)
      go_region
      go_wp2
      go_ret
      refine ⟨by rw [Hk.out]; rfl, ?_⟩
      rw [Hf.out]
      refine RDPost.same (g := g) ?_ (((hf.set _ _ (by simp))).drew)
      rw [show s.spend.setb 0 (s.b 0) (s.b 0).length = { s.spend with s0 := s.b0.length } by simp only [DS.setb, DS.b, if_true, ← Hb0.out]]
      exact ⟨(htd.toRC.set2 _).drew, by simp [Hb0.out], htd.l1, htd.m0, htd.m1, htd.ml⟩
    · go_enter Try.func17, Try.ntmps17
      go_wp2_with (go_at_call 32; refine hrd.mono ?_; rintro e w1 ⟨rfl, htd, hf⟩; rw [Hk.out]; rw [Hk2.out] at htd; obtain ⟨c0, c1, c2, c3, c4, c5, fz⟩ := htd.cells)
      go_region
      go_wp2
      go_ret
      refine ⟨by rw [Hk.out]; rfl, ?_⟩
      rw [Hf.out]
      refine RDPost.same (g := g) ?_ (((hf.set _ _ (by simp))).drew)
      rw [show s.spend.setb 1 (s.b 1) (s.b 1).length = { s.spend with s1 := s.b1.length } by simp only [DS.setb, DS.b, if_neg (show ¬ (1 : Int) = 0 by decide), ← Hb1.out]]
      exact ⟨(htd.toRC.set3 _).drew, htd.l0, by simp [Hb1.out], htd.m0, htd.m1, htd.ml⟩

set_option maxRecDepth 100000 in
set_option maxHeartbeats 1000000 in
theorem rclear_any {B g : Nat} {s : DS} {v0 v1 : Value} (i : Int) (w : World) (h : RD w B g s v0 v1) :
    Calls Try.prog 19 #[.pointer (some ⟨g, 0, none⟩), .int .i64 i] w (OpPostR w B g v0 v1 (s.begin_ i).1 (s.clear_ i)) := by
  by_cases he : ¬ (s.begin_ i).1 = 0
  · have Hf := Lib.hid (show s.clear_ i = (s.begin_ i).2 by simp [DS.clear_, he])
    have he' : ((s.begin_ i).1 != 0) = true := by simpa using he
    have hrd := ready_true i w h
    clear he h
    go_enter Try.func19, Try.ntmps19
    go_wp2_with (go_at_call 32; refine hrd.mono ?_; rintro e w1 ⟨rfl, htd, hf⟩)
    go_ret
    exact ⟨rfl, by rw [Hf.out]; exact RDPost.same htd hf⟩
  · obtain ⟨hi, hk⟩ := begin_zero (Classical.not_not.1 he)
    have hrd := ready_true i w h
    have Hf := Lib.hid (show s.clear_ i = s.spend.setb i [] 0 by simp [DS.clear_, hk])
    have Hk := Lib.hid (show (s.begin_ i).1 = 0 by rw [hk])
    have Hk2 := Lib.hid (show (s.begin_ i).2 = s.spend by rw [hk])
    clear hk h he
    rcases hi with rfl | rfl
    · go_enter Try.func19, Try.ntmps19
      go_wp2_with (go_at_call 32; refine hrd.mono ?_; rintro e w1 ⟨rfl, htd, hf⟩; rw [Hk.out]; rw [Hk2.out] at htd; obtain ⟨c0, c1, c2, c3, c4, c5, fz⟩ := htd.cells)
      go_region
      go_wp2
      go_ret
      refine ⟨by rw [Hk.out]; rfl, ?_⟩
      rw [Hf.out]
      refine ⟨.slice none 0 0, v1, ⟨(htd.toRC.row0 (Frame.refl _ _) (b' := []) (World.ownsRow_nil _ _ _ _)).set2 _ |>.drew, Nat.le_refl _, htd.l1, by simp [DS.setb], htd.m1, htd.ml⟩, ((hf.set _ _ (by simp)).set _ _ (by simp)).drew, fun k hk => ?_⟩
      simp [foot, Value.ownBlock] at hk ⊢
      rcases hk with hk | hk
      · exact .inl (.inl hk)
      · exact .inl (.inr (.inr hk))
    · go_enter Try.func19, Try.ntmps19
      go_wp2_with (go_at_call 32; refine hrd.mono ?_; rintro e w1 ⟨rfl, htd, hf⟩; rw [Hk.out]; rw [Hk2.out] at htd; obtain ⟨c0, c1, c2, c3, c4, c5, fz⟩ := htd.cells)
      go_region
      go_wp2
      go_ret
      refine ⟨by rw [Hk.out]; rfl, ?_⟩
      rw [Hf.out]
      refine ⟨v0, .slice none 0 0, ⟨(htd.toRC.row1 (Frame.refl _ _) (b' := []) (World.ownsRow_nil _ _ _ _)).set3 _ |>.drew, htd.l0, Nat.le_refl _, htd.m0, by simp [DS.setb], htd.ml⟩, ((hf.set _ _ (by simp)).set _ _ (by simp)).drew, fun k hk => ?_⟩
      simp [foot, Value.ownBlock] at hk ⊢
      rcases hk with hk | hk
      · exact .inl (.inl hk)
      · exact .inl (.inr (.inl hk))

def UnitPostR (w : World) (B g : Nat) (v0 v1 : Value) (s : DS) (e : Ending) (w' : World) : Prop := e = .returned (.tuple #[]) ∧ RDPost w B g v0 v1 s w'
namespace DS
def rarm (s : DS) (n : Int) : DS := if s.down then s else s.arm n
end DS
theorem rarm_end {w : World} {B g : Nat} {s : DS} {v0 v1 : Value} (n m : Int) (h : RD w B g s v0 v1) (hn : n ≤ 9223372036854775807) (hm : m = (n.toNat : Int)) : RDPost w B g v0 v1 (s.arm n) (w.setCell ⟨g, 5, none⟩ (.int .i64 m)) := by
  subst hm
  exact RDPost.same ⟨h.toRC.set5 _, h.l0, h.l1, h.m0, h.m1, by simp only [DS.arm]; omega⟩ ((Frame.refl _ _).set _ _ (by simp))

set_option maxHeartbeats 400000 in
theorem rarm_any {B g : Nat} {s : DS} {v0 v1 : Value} (n : Int) (w : World) (h : RD w B g s v0 v1) (hn : n ≤ 9223372036854775807) :
    Calls Try.prog 21 #[.pointer (some ⟨g, 0, none⟩), .int .i64 n] w (UnitPostR w B g v0 v1 (s.rarm n)) := by
  obtain ⟨c0, c1, c2, c3, c4, c5, fz⟩ := h.cells
  have H := Lib.hid h
  have Hn := Lib.hid hn
  rcases hd : s.down
  · rw [hd] at c4
    have Hs := Lib.hid (show s.rarm n = s.arm n by simp [DS.rarm, hd])
    clear h hn hd
    go_enter Try.func21, Try.ntmps21
    go_wp2
    all_goals
      go_end0
      exact ⟨rfl, by rw [Hs.out]; exact rarm_end n _ H.out Hn.out (by omega)⟩
  · rw [hd] at c4
    have Hs := Lib.hid (show s.rarm n = s by simp [DS.rarm, hd])
    clear h hn hd
    go_enter Try.func21, Try.ntmps21
    go_wp2
    go_end0
    exact ⟨rfl, by rw [Hs.out]; exact RDPost.same H.out (Frame.refl _ _)⟩

/-- An append of a slice that reads to a new empty literal: a copy. -/
theorem copy_own {w : World} {B n : Nat} {v : Value} {xs : List Value} (h : w.ownsRow B 5 1 v n xs) : Rd (w.alloc (.cells #[] 5)) v n 1 xs :=
  (Rd.of_own h).frame ((Frame.refl w []).alloc _) (by simp)

set_option maxRecDepth 100000 in
set_option maxHeartbeats 1000000 in
theorem rread_any {B g : Nat} {s : DS} {v0 v1 : Value} (i : Int) (w : World) (h : RD w B g s v0 v1) :
    Calls Try.prog 27 #[.pointer (some ⟨g, 0, none⟩), .int .i64 i] w (ReadPost w s i) := by
  obtain ⟨i0, hi0, hz0, hz1, hz2⟩ := info_parts info_u8
  have hrf := ready_false i w h
  by_cases hr : refusedN s i = 0
  · have hi : i = 0 ∨ i = 1 := by
      unfold refusedN at hr
      by_cases hc : i < 0 ∨ 2 ≤ i
      · rw [if_pos hc] at hr; cases hr
      · omega
    have Hr := Lib.hid hr
    have hr0 : (refusedN s i != 0) = false := by rw [hr]; rfl
    have Hb0 := Lib.hid (copy_own h.o0)
    have Hb1 := Lib.hid (copy_own h.o1)
    have hm0 := h.m0
    have hm1 := h.m1
    have hlt := lt_of_block h.blk
    obtain ⟨c0, c1, c2, c3, c4, c5, fz⟩ := h.cells
    clear hr h c2 c3 c4 c5 fz
    rcases hi with rfl | rfl
    · clear c1
      go_enter Try.func27, Try.ntmps27
      go_wp2_with (first
        | (go_at_call 32; refine hrf.mono ?_; rintro e w' ⟨rfl, rfl⟩)
        | (at_builtin; refine wpList_app _ rfl (.tmp 13) (.tmp 19) _ rfl w.heap.size 5 i0 _ 1 1 Try.underlying27 hi0 hz0 hz1 hz2 rfl (by omega) _ 0 [] rfl ?c2 v0 s.b0.length (bv s.b0) rfl Hb0.out (bv_one _) ?c3 ?c4 ?c5 ?_))
      case c2 => exact World.ownsRow_lit (size := 1) w #[] 0 (Nat.le_refl _) (Nat.zero_le _) rfl
      case c3 => unfold maxLen; omega
      case c4 => omega
      case c5 => simp
      intro v' w2 hown hg hat _
      go_wp2
      go_ret2
      refine ⟨v', by rw [Hr.out]; rfl, ?_, ((Frame.refl w []).alloc _).grown hg ?_⟩
      · rw [if_pos Hr.out]
        show w2.ownsRow _ _ _ _ s.b0.length (bv s.b0)
        simpa using hown
      · intro k hk hlt
        simp [Value.ownBlock] at hk
        omega
    · clear c0
      go_enter Try.func27, Try.ntmps27
      go_wp2_with (first
        | (go_at_call 32; refine hrf.mono ?_; rintro e w' ⟨rfl, rfl⟩)
        | (at_builtin; refine wpList_app _ rfl (.tmp 13) (.tmp 19) _ rfl w.heap.size 5 i0 _ 1 1 Try.underlying27 hi0 hz0 hz1 hz2 rfl (by omega) _ 0 [] rfl ?d2 v1 s.b1.length (bv s.b1) rfl Hb1.out (bv_one _) ?d3 ?d4 ?d5 ?_))
      case d2 => exact World.ownsRow_lit (size := 1) w #[] 0 (Nat.le_refl _) (Nat.zero_le _) rfl
      case d3 => unfold maxLen; omega
      case d4 => omega
      case d5 => simp
      intro v' w2 hown hg hat _
      go_wp2
      go_ret2
      refine ⟨v', by rw [Hr.out]; rfl, ?_, ((Frame.refl w []).alloc _).grown hg ?_⟩
      · rw [if_pos Hr.out]
        show w2.ownsRow _ _ _ _ s.b1.length (bv s.b1)
        simpa using hown
      · intro k hk hlt
        simp [Value.ownBlock] at hk
        omega
  · have Hr := Lib.hid hr
    have hr0 : (refusedN s i != 0) = true := by simpa using hr
    clear hr h
    go_enter Try.func27, Try.ntmps27
    go_wp2_with (first
      | (go_at_call 32; refine hrf.mono ?_; rintro e w' ⟨rfl, rfl⟩))
    go_ret2
    refine ⟨_, rfl, ?_, Frame.refl _ _⟩
    rw [if_neg Hr.out]
    exact World.ownsRow_nil _ _ _ _
end Go.Proofs.Ytaidpmflfimkgaa
