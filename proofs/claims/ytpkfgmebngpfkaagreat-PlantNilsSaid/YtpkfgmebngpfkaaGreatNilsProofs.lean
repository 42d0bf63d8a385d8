/- PlantNils returns true for every call, and leaves it as it was. No condition. -/
import Derived.Test.YtpkfgmebngpfkaaGreatRows
import Derived.Test.YtpkfgmebngpfkaaGreatQ1
import Derived.Test.YtpkfgmebngpfkaaGreatClosedNils
namespace Go.Proofs.YtpkfgmebngpfkaaGreat
open Go.ChangeShapes Go.WideShapes Go.ChangeAt Go.RowKit Go.Deep

def zCall : Value := .agg #[.int .i64 0, .int .i64 0, .int .i64 0, .slice none 0 0, .int .i64 0, .int .i64 0, .int .i64 0, .int .i64 0, .int .i64 0, .int .i64 0, .int .i64 0, .int .i64 0, .slice none 0 0, .int .i64 0, .int .i64 0, .int .i64 0, .slice none 0 0, .slice none 0 0, .int .i64 0, .int .i64 0, .int .i64 0, .int .i64 0, .int .i64 0, .int .i64 0, .int .i64 0, .int .i64 0, .int .i64 0, .int .i64 0, .int .i64 0, .int .i64 0, .int .i64 0, .int .i64 0]

set_option maxRecDepth 100000 in
theorem plantNils_lifted (os : Os) (started : os.Started) (H : Type) (enc : TypeId × Value → H) :
    ReturnsInHanded {} Tryz.checked os 4 .any (Rows.plantNilsSpec.pre6 enc Tryz.prog Tryz.f4 Rows.plantNilsRow.domain false) (Rows.plantNilsSpec.post enc Tryz.prog Tryz.f4 false true false false) := by
  refine returnsInHanded_of_change (C := Tryz.checked) Tryz.own started (by kernel_rfl) Tryz.func4
    (ChangeSpec.witness6 (enc := enc) (C := Tryz.checked) false ⟨#[], #[zCall], []⟩ 8 (by kernel_rfl) (by kernel_rfl) (by kernel_rfl) (by kernel_rfl)) ?_
  intro W base args ds gs before hval0 hW _ _
  have hval : ∀ (j : Nat) t v, Tryz.f4.params[j]? = some t → args[j]? = some v → Value.okWide Tryz.prog W .any base t v := hval0
  have hW' := hW
  obtain ⟨p, q, hA0, hV, rfl, hfz, hnd⟩ := hW
  have hA : DataW.TrodAll enc Tryz.prog W 0 (fun _ => true) true Tryz.f4.params.toList args.toList ds p := hA0
  rw [Tryz.params4] at hA hval
  obtain ⟨v0, d0, rfl, rfl, h0⟩ := trodAll_one hA
  obtain ⟨rfl, rfl⟩ := trodVars_none hV
  clear hA0 hval0
  simp only [List.append_nil] at hW'
  have h0k := h0
  obtain ⟨cs, rfl, _⟩ := okWide_struct Tryz.underlying54 (hval 0 54 v0 rfl rfl)
  obtain ⟨f0, hf0⟩ := h0
  obtain ⟨x, A, n, c, hx⟩ := (fits_call hf0).call
  obtain rfl : cs = callC x A n c := by
    have : cs.toList = (callC x A n c).toList := hx
    exact Array.toList_inj.1 this
  have hlt : ∀ x ∈ p, x.block < W.heap.size := fun x hx => by simpa using hW'.lt x hx
  have walk : Calls Tryz.prog 4 #[.agg (callC x A n c)] W fun e w' => e = .returned (.bool true) ∧ Frame W w' [] := plantNils_any x A n c W
  refine walk.mono fun e W' ⟨he, hb⟩ => ?_
  subst he
  refine ⟨_, rfl, [d0], [], p, [], p, [], hW', trodAll_mk1 (shut_bool Tryz.underlying4 true), ?_, rfl, hb.below.frame _, fun h => by cases h⟩
  exact trodAll_mk1 (Below.trod Tryz.laidOut (by kernel_rfl) (of_decide_eq_true (by kernel_rfl)) h0k hb.below hlt)

theorem plantNils_holds : Rows.PlantNilsSaid :=
  OpenClaim.holds_of_wide 4 Tryz.f4 rfl rfl rfl rfl rfl rfl rfl ⟨rfl, rfl, rfl, rfl, rfl⟩ rfl rfl rfl rfl rfl (by kernel_rfl) Tryz.func4 closedNils
    (of_decide_eq_true (by kernel_rfl)) (by unfold Func.isWrapper; first | (rw [if_pos (by decide +kernel)]; kernel_rfl) | (rw [if_neg (by decide +kernel)]; exact ⟨rfl, rfl⟩))
    (fun os started H enc _ => plantNils_lifted os started H enc)
#print axioms plantNils_holds
end Go.Proofs.YtpkfgmebngpfkaaGreat
