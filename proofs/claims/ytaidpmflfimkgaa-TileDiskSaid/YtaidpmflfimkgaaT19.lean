/- The law's sanity check: the layout of one point (third part). No condition. -/
import Derived.Test.YtaidpmflfimkgaaT18
namespace Go.Proofs.Ytaidpmflfimkgaa
open Go.RowKit

set_option maxRecDepth 100000 in
set_option maxHeartbeats 1000000 in
theorem index_00 (w : World) : Calls Try.prog 48 #[.int .i64 0, .int .i64 0] w fun e w' => e = .returned (.int .i64 0) ∧ w = w' := by
  go_enter Try.func48, Try.ntmps48
  go_wp2
  go_ret
  exact ⟨rfl, rfl⟩

set_option maxRecDepth 100000 in
set_option maxHeartbeats 1000000 in
theorem cell_pt (w : World) : Calls Try.prog 39 #[.agg #[.int .i64 5, .int .i64 0, .int .i64 0, .int .i64 0, .int .i64 0, .int .i64 0, .int .i64 1, .int .i64 1, .int .i64 0], .int .i64 0] w fun e w' => e = .returned (.agg #[.int .i64 0, .int .i64 0, .int .i64 0, .int .i64 0]) ∧ Frame w w' [] := by
  have f1 : Frame w ((w.alloc (.cells #[.int .i64 5, .int .i64 0, .int .i64 0, .int .i64 0, .int .i64 0, .int .i64 0, .int .i64 1, .int .i64 1, .int .i64 0] 46)).alloc (.cells #[.int .i64 0, .int .i64 0, .int .i64 0, .int .i64 0] 51)) [] := ((Frame.refl w []).alloc _).alloc _
  have k1 : ((w.alloc (.cells #[.int .i64 5, .int .i64 0, .int .i64 0, .int .i64 0, .int .i64 0, .int .i64 0, .int .i64 1, .int .i64 1, .int .i64 0] 46)).alloc (.cells #[.int .i64 0, .int .i64 0, .int .i64 0, .int .i64 0] 51)).heap[w.heap.size]? = some (.cells #[.int .i64 5, .int .i64 0, .int .i64 0, .int .i64 0, .int .i64 0, .int .i64 0, .int .i64 1, .int .i64 1, .int .i64 0] 46 (0, 0)) := heap_alloc2_old w _ _
  have q1 : ((w.alloc (.cells #[.int .i64 5, .int .i64 0, .int .i64 0, .int .i64 0, .int .i64 0, .int .i64 0, .int .i64 1, .int .i64 1, .int .i64 0] 46)).alloc (.cells #[.int .i64 0, .int .i64 0, .int .i64 0, .int .i64 0] 51)).heap[w.heap.size + 1]? = some (.cells #[.int .i64 0, .int .i64 0, .int .i64 0, .int .i64 0] 51 (0, 0)) := heap_alloc2_new w _ _
  go_enter Try.func39, Try.ntmps39
  go_wp2_with fail
  generalize (w.alloc (.cells #[.int .i64 5, .int .i64 0, .int .i64 0, .int .i64 0, .int .i64 0, .int .i64 0, .int .i64 1, .int .i64 1, .int .i64 0] 46)).alloc (.cells #[.int .i64 0, .int .i64 0, .int .i64 0, .int .i64 0] 51) = W1 at f1 k1 q1 ⊢
  have c1 : W1.cell? ⟨w.heap.size, 1, none⟩ = some (.int .i64 0) := cell_of_row _ _ _ _ _ _ k1
  have c2 : W1.cell? ⟨w.heap.size, 2, none⟩ = some (.int .i64 0) := cell_of_row _ _ _ _ _ _ k1
  have c3 : W1.cell? ⟨w.heap.size, 3, none⟩ = some (.int .i64 0) := cell_of_row _ _ _ _ _ _ k1
  have d0 : W1.cell? ⟨w.heap.size + 1, 0, none⟩ = some (.int .i64 0) := cell_of_row _ _ _ _ _ _ q1
  have d1 : W1.cell? ⟨w.heap.size + 1, 1, none⟩ = some (.int .i64 0) := cell_of_row _ _ _ _ _ _ q1
  have d2 : W1.cell? ⟨w.heap.size + 1, 2, none⟩ = some (.int .i64 0) := cell_of_row _ _ _ _ _ _ q1
  have d3 : W1.cell? ⟨w.heap.size + 1, 3, none⟩ = some (.int .i64 0) := cell_of_row _ _ _ _ _ _ q1
  have dz : ∀ j, W1.frozen? ⟨w.heap.size + 1, j, none⟩ = false := fun j => frozen_of_row _ _ j _ _ q1
  have Q1 := Lib.hid q1
  clear k1 q1
  go_region_held3 (fun w' => w'.cell? ⟨w.heap.size, 1, none⟩ = some (.int .i64 0) ∧ w'.cell? ⟨w.heap.size, 2, none⟩ = some (.int .i64 0) ∧ w'.cell? ⟨w.heap.size, 3, none⟩ = some (.int .i64 0)) (go_keep)
    (first
      | (go_at_call 48; refine (index_00 _).mono ?_; rintro e w' ⟨rfl, rfl⟩))
  go_wp2
  refine bodyPost_ret (v := .agg #[.int .i64 0, .int .i64 0, .int .i64 0, .int .i64 0]) (by simp [results, Try.results39, go_sem, d0, d1, d2, d3]) rfl ⟨rfl, ?_⟩
  exact ((((f1.set _ _ (fun hq => absurd hq (by simp))).set _ _ (fun hq => absurd hq (by simp))).set _ _ (fun hq => absurd hq (by simp))).set _ _ (fun hq => absurd hq (by simp))).drew

theorem info_pt : (Try.prog.info? 46).map (fun i => (i.zero, i.size, i.bytes)) = some (some (.agg #[.int .i64 0, .int .i64 0, .int .i64 0, .int .i64 0, .int .i64 0, .int .i64 0, .int .i64 0, .int .i64 0, .int .i64 0]), 9, 72) := by kernel_rfl
theorem info_tile : (Try.prog.info? 53).map (fun i => (i.zero, i.size, i.bytes)) = some (some (.agg #[.int .i64 0, .int .i64 0, .int .i64 0, .int .i64 0, .slice none 0 0]), 5, 56) := by kernel_rfl

/-- An owned row of one element with a first cell is no nil slice. -/
theorem own_head {w : World} {B n size : Nat} {e : TypeId} {v x : Value} {xs : List Value} (h : w.ownsRow B e size v n (x :: xs)) : ∃ g c, v = .slice (some ⟨g, 0, none⟩) n c ∧ B ≤ g ∧ g < w.heap.size ∧ ∀ j u, (x :: xs)[j]? = some u → w.cell? ⟨g, j, none⟩ = some u := by
  have h0 := h
  rcases h.2 with ⟨rfl, rfl⟩ | ⟨g, cap, cur, rfl, hb, hg, hnc, hcm, hcs, ht⟩
  · have := h.1
    simp at this
  · refine ⟨g, cap, rfl, hb, lt_of_block hg, fun j u hu => ?_⟩
    have := h0.cells (g := g) rfl j u hu
    rw [Addr.add_lit] at this
    simpa using this
theorem PtAt.of_list {w : World} {g : Nat} (h : ∀ j u, [Value.int .i64 5, .int .i64 0, .int .i64 0, .int .i64 0, .int .i64 0, .int .i64 0, .int .i64 1, .int .i64 1, .int .i64 0][j]? = some u → w.cell? ⟨g, j, none⟩ = some u) : PtAt w g :=
  ⟨h 0 _ rfl, h 1 _ rfl, h 2 _ rfl, h 3 _ rfl, h 4 _ rfl, h 5 _ rfl, h 6 _ rfl, h 7 _ rfl, h 8 _ rfl⟩
theorem PtAt.rd {w : World} {g c : Nat} (h : PtAt w g) (hc : 1 ≤ c) : Rd w (.slice (some ⟨g, 0, none⟩) 1 c) 1 9 [Value.int .i64 5, .int .i64 0, .int .i64 0, .int .i64 0, .int .i64 0, .int .i64 0, .int .i64 1, .int .i64 1, .int .i64 0] := by
  refine ⟨rfl, _, c, rfl, hc, (fun e => by cases e), fun a ha j u hu => ?_⟩
  obtain rfl := Option.some.inj ha
  rw [Addr.add_lit]
  simp only [Nat.zero_add]
  match j, hu with
  | 0, hu => simp at hu; subst hu; exact h.c0
  | 1, hu => simp at hu; subst hu; exact h.c1
  | 2, hu => simp at hu; subst hu; exact h.c2
  | 3, hu => simp at hu; subst hu; exact h.c3
  | 4, hu => simp at hu; subst hu; exact h.c4
  | 5, hu => simp at hu; subst hu; exact h.c5
  | 6, hu => simp at hu; subst hu; exact h.c6
  | 7, hu => simp at hu; subst hu; exact h.c7
  | 8, hu => simp at hu; subst hu; exact h.c8
  | n + 9, hu => simp at hu

def ClonePt (w : World) (e : Ending) (w' : World) : Prop := ∃ g c, e = .returned (.slice (some ⟨g, 0, none⟩) 1 c) ∧ PtAt w' g ∧ w.heap.size ≤ g ∧ 1 ≤ c ∧ Frame w w' []

set_option maxRecDepth 100000 in
set_option maxHeartbeats 1000000 in
theorem clone_pt (g c : Nat) (W : World) (h : PtAt W g) (hc : 1 ≤ c) : Calls Try.prog 36 #[.slice (some ⟨g, 0, none⟩) 1 c] W (ClonePt W) := by
  obtain ⟨i0, hi, hz0, hz1, hz2⟩ := info_parts info_pt
  have hq := fun w => Lib.run_eql_slice_nil (P := Try.prog) w 47 46 (some ⟨g, 0, none⟩) 1 c 0 0 Try.underlying47
  have Hr := Lib.hid ((h.rd hc).frame ((Frame.refl W []).alloc (.cells #[] 46)) (by simp))
  have hlt := h.lt
  clear h
  go_enter Try.func36, Try.ntmps36
  go_wp2_with (at_builtin; refine wpList_app _ rfl (.tmp 5) (.tmp 6) _ rfl W.heap.size 46 i0 _ 9 72 Try.underlying47 hi hz0 hz1 hz2 rfl (by omega) _ 0 [] rfl ?c1 _ 1 [Value.int .i64 5, .int .i64 0, .int .i64 0, .int .i64 0, .int .i64 0, .int .i64 0, .int .i64 1, .int .i64 1, .int .i64 0] rfl Hr.out ?c2 ?c3 ?c4 ?c5 ?_)
  case c1 => exact World.ownsRow_lit (size := 9) W #[] 0 (Nat.le_refl _) (Nat.zero_le _) rfl
  case c2 => intro u hu; simp at hu; rcases hu with rfl | rfl | rfl | rfl <;> rfl
  case c3 => unfold maxLen; omega
  case c4 => omega
  case c5 => simp
  intro v' w' hown hg _ _
  obtain ⟨g', c', rfl, hB, hlt', hcell⟩ := own_head hown
  go_wp2
  go_ret
  refine ⟨g', c', rfl, PtAt.of_list hcell, hB, ?_, ((Frame.refl W []).alloc _).grown hg ?_⟩
  · rcases hown.2 with ⟨hv, _⟩ | ⟨_, cap, _, hv, _, _, hnc, _⟩
    · cases hv
    · simp only [Value.slice.injEq] at hv
      omega
  · intro k hk hlt
    simp [Value.ownBlock] at hk
    omega
end Go.Proofs.Ytaidpmflfimkgaa
