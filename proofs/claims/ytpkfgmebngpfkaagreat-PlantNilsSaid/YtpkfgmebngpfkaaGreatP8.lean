/- Reading a delivery of one point; the law's sanity check. No condition. -/
import Derived.Test.YtpkfgmebngpfkaaGreatP7
namespace Go.Proofs.YtpkfgmebngpfkaaGreat
open Go.RowKit Go

def parcel : List Int := body ++ crcTail body
def RecvPost (w : World) (e : Ending) (w' : World) : Prop := ∃ g c, e = .returned (.tuple #[.slice (some ⟨g, 0, none⟩) 1 c, .int .i64 0]) ∧ PtAt w' g ∧ Frame w w' []

theorem Ob.head {w : World} {B : Nat} {v : Value} {x : Int} {l : List Int} (h : Ob w B v (x :: l)) : ∃ g c, v = .slice (some ⟨g, 0, none⟩) (l.length + 1) c ∧ B ≤ g ∧ g < w.heap.size ∧ l.length + 1 ≤ c := by
  obtain ⟨g, c, rfl, hB, hl, _⟩ := own_head (xs := ub l) (x := .int .u8 x) h
  obtain ⟨_, _, hv, hc⟩ := h.bv.shape
  simp only [Value.slice.injEq] at hv
  exact ⟨g, c, rfl, hB, hl, by rw [hv.2.2]; exact hc⟩

set_option maxRecDepth 100000 in
set_option maxHeartbeats 4000000 in
theorem recv_pt (g c : Nat) (w : World) (h : Bv w (.slice (some ⟨g, 0, none⟩) 14 (c + 14)) parcel) :
    Calls Tryz.prog 32 #[.slice (some ⟨g, 0, none⟩) 14 (c + 14)] w (RecvPost w) := by
  obtain ⟨i0, hi0, hz0, hz1, hz2⟩ := info_parts info_pt
  have hcell : ∀ (i : Nat) (x : Int), body[i]? = some x → w.cell? ⟨g, i, none⟩ = some (.int .u8 x) := fun i x hx => by
    have := h.cell (i := i) (x := x) (by unfold parcel; rw [List.getElem?_append_left (by exact (List.getElem?_eq_some_iff.1 hx).1)]; exact hx)
    rw [Addr.add_lit, Nat.zero_add] at this
    exact this
  have hb : Bv w (.slice (some ⟨g, 0, none⟩) body.length (c + 14)) body := by
    refine ⟨by simp [ub], _, c + 14, rfl, by simp [body], (fun e => by cases e), fun a ha j u hu => ?_⟩
    obtain rfl := Option.some.inj ha
    obtain ⟨x, hx, rfl⟩ : ∃ x, body[j]? = some x ∧ Value.int .u8 x = u := by simpa [ub] using hu
    rw [Addr.add_lit, Nat.zero_add]
    exact hcell j x hx
  have HC := Lib.hid hcell
  have HB := Lib.hid hb
  have H := Lib.hid h
  clear h hb hcell
  go_enter Tryz.func32, Tryz.ntmps32
  go_wp2_with fail
  refine (cloneB_any ⟨g, 0, none⟩ (c + 14) body w HB.out (by decide)).mono ?_
  rintro e w1 ⟨v1, rfl, o1, f1, _⟩
  have F1 := Lib.hid (show Frame w w1 [] from f1)
  have O1 := Lib.hid (show Ob w1 w.heap.size v1 body from o1)
  obtain ⟨g1, c1, rfl, hg1, hl1, _⟩ := Ob.head o1
  clear o1 f1
  go_wp2_with fail
  refine (checked_any w.heap.size _ body w1 O1.out F1.out.size (by decide)).mono ?_
  rintro e w2 ⟨v2, rfl, o2, f2, _⟩
  have F2 := Lib.hid (F1.out.trans' (G := [g1]) f2 (by intro i hi hlt; simp at hi; omega))
  obtain ⟨g2, c2, rfl, hg2, hl2, _⟩ := Ob.head (l := [7, 2, 0, 4, 1, 0, 1, 1, 2] ++ crcTail body) o2
  have O2 := Lib.hid (show Bv w2 (.slice (some ⟨g2, 0, none⟩) 14 c2) parcel from o2.bv)
  clear o2 f2
  go_wp2_with fail
  refine (equalB_any ⟨g2, 0, none⟩ ⟨g, 0, none⟩ c2 (c + 14) parcel w2 O2.out (H.out.frame F2.out (by simp)) (by decide)).mono ?_
  rintro e w3 ⟨rfl, f3⟩
  have F3 := Lib.hid (F2.out.trans f3)
  clear f3
  have hgw : g < w.heap.size := World.block_lt_of_cell? w _ (HC.out 0 1 rfl)
  have ku : (w3.alloc (.cells #[.slice (some ⟨g, 0, none⟩) 10 (c + 14), .bool false] 200)).heap[w3.heap.size]? = some (.cells #[.slice (some ⟨g, 0, none⟩) 10 (c + 14), .bool false] 200 (0, 0)) := heap_alloc_new _ _
  have fu : Frame w3 (w3.alloc (.cells #[.slice (some ⟨g, 0, none⟩) 10 (c + 14), .bool false] 200)) [] := (Frame.refl w3 []).alloc _
  go_wp2_with fail
  generalize w3.alloc (.cells #[.slice (some ⟨g, 0, none⟩) 10 (c + 14), .bool false] 200) = w4 at ku fu ⊢
  have hgs : g < w3.heap.size := Nat.lt_of_lt_of_le hgw F3.out.size
  have F4 := Lib.hid (F3.out.trans fu)
  have U4 : UB w4 w3.heap.size g (c + 4) 0 10 := ⟨ku, fun i x hx => F4.out.cell (HC.out i x hx) (by simp), by omega, by omega⟩
  clear ku fu
  refine (number_at w3.heap.size g (c + 4) 0 9 1 w4 U4 rfl (by unfold byteOk; omega)).mono ?_
  rintro e w5 ⟨rfl, u5, f5⟩
  have hw3 := F3.out.size
  have F5 := Lib.hid (F4.out.trans' f5 (by intro i hi hlt; simp at hi; omega))
  have U5 := Lib.hid (show UB w5 w3.heap.size g (c + 4) 1 9 from u5)
  clear u5 f5 U4
  go_wp2_with fail
  refine wp_loop_rounds 2 ?_
  rw [rounds_succ]
  go_wp2_with fail
  refine (point_at w3.heap.size g (c + 4) w5 U5.out).mono ?_
  rintro e w6 ⟨rfl, u6, f6⟩
  unfold ptAgg
  have F6 := Lib.hid (F5.out.trans' f6 (by intro i hi hlt; simp at hi; omega))
  have kp : (w6.alloc (.cells #[.int .i64 7, .int .i64 1, .int .i64 0, .int .i64 2, .int .i64 3, .int .i64 0, .int .i64 1, .int .i64 1, .int .i64 2] 109)).heap[w6.heap.size]? = some (.cells #[.int .i64 7, .int .i64 1, .int .i64 0, .int .i64 2, .int .i64 3, .int .i64 0, .int .i64 1, .int .i64 1, .int .i64 2] 109 (0, 0)) := heap_alloc_new _ _
  have fp : Frame w6 (w6.alloc (.cells #[.int .i64 7, .int .i64 1, .int .i64 0, .int .i64 2, .int .i64 3, .int .i64 0, .int .i64 1, .int .i64 1, .int .i64 2] 109)) [] := (Frame.refl w6 []).alloc _
  have c1 := cell_of_row _ _ 1 _ _ _ u6.blk
  have u7 := u6.frame fp (by simp) (by simp)
  have d1 := cell_of_row _ _ 1 _ _ _ u7.blk
  have d0 := cell_of_row _ _ 0 _ _ _ u7.blk
  have U7 := Lib.hid u7
  have F7 := Lib.hid (F6.out.trans fp)
  have p0 := cell_of_row _ _ 0 _ _ _ kp
  have KP := Lib.hid kp
  clear u6 f6 kp fp u7
  go_wp2_with (at_builtin; refine wpList_app _ rfl (.tmp 47) (.tmp 49) _ rfl w.heap.size 109 i0 _ 9 72 Tryz.underlying73 hi0 hz0 hz1 hz2 rfl (by omega) (.slice none 0 0) 0 [] rfl (World.ownsRow_nil _ _ _ _) (.slice (some ⟨w6.heap.size + 1, 0, none⟩) 1 1) 1 [Value.int .i64 7, .int .i64 1, .int .i64 0, .int .i64 2, .int .i64 3, .int .i64 0, .int .i64 1, .int .i64 1, .int .i64 2] rfl ?c2 ?c3 ?c4 ?c5 ?c6 ?_)
  case c2 => exact rd_blk (heap_alloc2_new w6 _ _) rfl
  case c3 => intro u hu; simp at hu; rcases hu with rfl | rfl | rfl | rfl | rfl | rfl | rfl | rfl | rfl <;> rfl
  case c4 => unfold maxLen; omega
  case c5 => omega
  case c6 => have := F6.out.size; simp; omega
  intro v8 w8 hown hg8 _
  obtain ⟨g8, c8, rfl, hB8, hlt8, hcell8⟩ := own_head hown
  have hc8 : 1 ≤ c8 := by
    rcases hown.2 with ⟨hv, _⟩ | ⟨_, cap, _, hv, _, _, hnc, _⟩
    · cases hv
    · simp only [Value.slice.injEq] at hv
      omega
  have P8 := Lib.hid (PtAt.of_list hcell8)
  have f8 : Frame (w6.alloc (.cells #[.int .i64 7, .int .i64 1, .int .i64 0, .int .i64 2, .int .i64 3, .int .i64 0, .int .i64 1, .int .i64 1, .int .i64 2] 109)) w8 [] := ((Frame.refl _ []).alloc _).grown hg8 (fun k hk => by simp [Value.ownBlock] at hk)
  have u8 := U7.out.frame f8 (by simp) (by simp)
  have e1 := cell_of_row _ _ 1 _ _ _ u8.blk
  have e0 := cell_of_row _ _ 0 _ _ _ u8.blk
  have q0 := cell_of_row _ _ 0 _ _ _ (f8.heap KP.out (by simp))
  have F8 := Lib.hid (F7.out.trans f8)
  clear f8 u8 hown hcell8 hg8 c1 d1 d0 p0
  go_wp2_with fail
  rw [rounds_succ]
  go_wp2_with fail
  refine (good_pt g8 c8 w8 P8.out).mono ?_
  rintro e w9 ⟨rfl, f9⟩
  go_wp2_with fail
  go_ret2
  exact ⟨g8, c8, rfl, P8.out.frame f9 (by simp), F8.out.trans f9⟩
set_option maxRecDepth 100000 in
set_option maxHeartbeats 4000000 in
theorem awake_any (w : World) : Calls Tryz.prog 7 #[] w fun e w' => e = .returned (.bool true) ∧ Frame w w' [] := by
  have kp : (w.alloc (.cells #[.int .i64 7, .int .i64 1, .int .i64 0, .int .i64 2, .int .i64 3, .int .i64 0, .int .i64 1, .int .i64 1, .int .i64 2] 109)).heap[w.heap.size]? = some (.cells #[.int .i64 7, .int .i64 1, .int .i64 0, .int .i64 2, .int .i64 3, .int .i64 0, .int .i64 1, .int .i64 1, .int .i64 2] 109 (0, 0)) := heap_alloc_new _ _
  have fp : Frame w (w.alloc (.cells #[.int .i64 7, .int .i64 1, .int .i64 0, .int .i64 2, .int .i64 3, .int .i64 0, .int .i64 1, .int .i64 1, .int .i64 2] 109)) [] := (Frame.refl w []).alloc _
  go_enter Tryz.func7, Tryz.ntmps7
  go_wp2_with fail
  have hs1 : (w.alloc (.cells #[.int .i64 7, .int .i64 1, .int .i64 0, .int .i64 2, .int .i64 3, .int .i64 0, .int .i64 1, .int .i64 1, .int .i64 2] 109)).heap.size = w.heap.size + 1 := by simp
  generalize w.alloc (.cells #[.int .i64 7, .int .i64 1, .int .i64 0, .int .i64 2, .int .i64 3, .int .i64 0, .int .i64 1, .int .i64 1, .int .i64 2] 109) = w1 at kp fp hs1 ⊢
  have KP := Lib.hid kp
  have FP := Lib.hid fp
  have hs := lt_of_block kp
  clear kp fp
  have f1 : Frame w1 (w1.alloc (.cells #[.int .i64 7, .int .i64 1, .int .i64 0, .int .i64 2, .int .i64 3, .int .i64 0, .int .i64 1, .int .i64 1, .int .i64 2] 109)) [] := (Frame.refl w1 []).alloc _
  have pa : PtAt (w1.alloc (.cells #[.int .i64 7, .int .i64 1, .int .i64 0, .int .i64 2, .int .i64 3, .int .i64 0, .int .i64 1, .int .i64 1, .int .i64 2] 109)) (w.heap.size + 1) := by rw [← hs1]; exact PtAt.of_blk (heap_alloc_new _ _)
  refine (ship_pt (w.heap.size + 1) 1 (w1.alloc (.cells #[.int .i64 7, .int .i64 1, .int .i64 0, .int .i64 2, .int .i64 3, .int .i64 0, .int .i64 1, .int .i64 1, .int .i64 2] 109)) pa (Nat.le_refl _)).mono ?_
  rintro e w2 ⟨v2, rfl, o2, f2⟩
  have F2 := Lib.hid (FP.out.trans (f1.trans f2))
  have K2 := Lib.hid ((f1.trans f2).heap KP.out (by simp))
  obtain ⟨g2, c2, rfl, _, _, hc2⟩ := Ob.head (l := [7, 2, 0, 4, 1, 0, 1, 1, 2] ++ crcTail body) o2
  obtain ⟨d2, rfl⟩ : ∃ d, c2 = d + 14 := ⟨c2 - 14, by simp [crcTail] at hc2; omega⟩
  have O2 := Lib.hid (show Bv w2 (.slice (some ⟨g2, 0, none⟩) 14 (d2 + 14)) parcel from o2.bv)
  clear o2 f1 f2
  go_wp2_with fail
  refine (recv_pt g2 d2 w2 O2.out).mono ?_
  rintro e w3 ⟨g3, c3, rfl, p3, f3⟩
  have F3 := Lib.hid (F2.out.trans f3)
  have K3 := f3.heap K2.out (by simp)
  obtain ⟨c0, c1, c2', c3', c4, c5, c6, c7, c8⟩ := p3
  have d0 := cell_of_row _ _ 0 _ _ _ K3
  have d1 := cell_of_row _ _ 1 _ _ _ K3
  have d2' := cell_of_row _ _ 2 _ _ _ K3
  have d3 := cell_of_row _ _ 3 _ _ _ K3
  have d4 := cell_of_row _ _ 4 _ _ _ K3
  have d5 := cell_of_row _ _ 5 _ _ _ K3
  have d6 := cell_of_row _ _ 6 _ _ _ K3
  have d7 := cell_of_row _ _ 7 _ _ _ K3
  have d8 := cell_of_row _ _ 8 _ _ _ K3
  clear K3
  go_wp2_with fail
  go_quiet (fail)
  go_wp2_with fail
  go_ret
  exact ⟨rfl, F3.out.drewN _⟩
end Go.Proofs.YtpkfgmebngpfkaaGreat
