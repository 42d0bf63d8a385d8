/- PlantLong returns true for every configuration and number, and leaves both as they were. No condition. -/
import Derived.Test.YtpkfgmebngpfkaaGreatRows
import Derived.Test.YtpkfgmebngpfkaaGreatP13
import Derived.Test.YtpkfgmebngpfkaaGreatClosedLong
namespace Go.Proofs.YtpkfgmebngpfkaaGreat
open Go.ChangeShapes Go.WideShapes Go.ChangeAt Go.RowKit Go.Deep

def zCfg : Value := .agg #[.int .i64 0, .int .i64 0, .int .i64 0, .int .i64 0, .int .i64 0, .int .i64 0, .int .i64 0, .int .i64 0, .int .i64 0, .int .i64 0, .int .i64 0, .int .i64 0, .int .i64 0, .int .i64 0, .int .i64 0, .int .i64 0, .int .i64 0, .int .i64 0, .int .i64 0, .int .i64 0, .int .i64 0, .int .i64 0]

set_option maxRecDepth 100000 in
theorem plantLong_lifted (os : Os) (started : os.Started) (H : Type) (enc : TypeId × Value → H) :
    ReturnsInHanded {} Tryz.checked os 3 .any (Rows.plantLongSpec.pre6 enc Tryz.prog Tryz.f3 Rows.plantLongRow.domain false) (Rows.plantLongSpec.post enc Tryz.prog Tryz.f3 false true false false) := by
  refine returnsInHanded_of_change (C := Tryz.checked) Tryz.own started (by kernel_rfl) Tryz.func3
    (ChangeSpec.witness6 (enc := enc) (C := Tryz.checked) false ⟨#[], #[zCfg, .int .u8 0], []⟩ 8 (by kernel_rfl) (by kernel_rfl) (by kernel_rfl) (by kernel_rfl)) ?_
  intro W base args ds gs before hval0 hW _ _
  have hval : ∀ (j : Nat) t v, Tryz.f3.params[j]? = some t → args[j]? = some v → Value.okWide Tryz.prog W .any base t v := hval0
  have hW' := hW
  obtain ⟨p, q, hA0, hV, rfl, hfz, hnd⟩ := hW
  have hA : DataW.TrodAll enc Tryz.prog W 0 (fun _ => true) true Tryz.f3.params.toList args.toList ds p := hA0
  rw [Tryz.params3] at hA hval
  obtain ⟨v0, v1, d0, d1, p0, p1, rfl, rfl, rfl, h0, h1⟩ := trodAll_two hA
  obtain ⟨rfl, rfl⟩ := trodVars_none hV
  clear hA0 hval0
  simp only [List.append_nil] at hW'
  have h0k := h0
  have h1k := h1
  obtain ⟨cs, rfl, _⟩ := okWide_struct Tryz.underlying29 (hval 0 29 v0 rfl rfl)
  obtain ⟨f0, hf0⟩ := h0
  obtain ⟨f1, hf1⟩ := h1
  obtain ⟨x, hx⟩ := (fits_config hf0).cfg
  obtain rfl : cs = cfgC x := by
    have : cs.toList = (cfgC x).toList := hx
    exact Array.toList_inj.1 this
  obtain ⟨n, hn, _, hwf⟩ := DataW.trod_int Tryz.underlying5 hf1
  obtain ⟨m, rfl⟩ := okWide_int Tryz.underlying5 (hval 1 5 v1 rfl rfl)
  obtain rfl : m = n := by simpa [Value.cells] using hn
  have hb8 := bounds_u8 hwf
  have hlt : ∀ x ∈ p0 ++ p1, x.block < W.heap.size := fun x hx => by simpa using hW'.lt x hx
  have walk : Calls Tryz.prog 3 #[.agg (cfgC x), .int .u8 m] W fun e w' => e = .returned (.bool true) ∧ Frame W w' [] := plantLong_any x m W (by omega) (by omega)
  refine walk.mono fun e W' ⟨he, hb⟩ => ?_
  subst he
  refine ⟨_, rfl, [d0, d1], [], p0 ++ p1, [], p0 ++ p1, [], hW', trodAll_mk1 (shut_bool Tryz.underlying4 true), ?_, rfl, hb.below.frame _, fun h => by cases h⟩
  exact trodAll_mk2 (Below.trod Tryz.laidOut (by kernel_rfl) (of_decide_eq_true (by kernel_rfl)) h0k hb.below (fun x hx => hlt x (List.mem_append.2 (.inl hx))))
    (Below.trod Tryz.laidOut (by kernel_rfl) (of_decide_eq_true (by kernel_rfl)) h1k hb.below (fun x hx => hlt x (List.mem_append.2 (.inr hx))))

theorem plantLong_holds : Rows.PlantLongSaid :=
  OpenClaim.holds_of_wide 3 Tryz.f3 rfl rfl rfl rfl rfl rfl rfl ⟨rfl, rfl, rfl, rfl, rfl⟩ rfl rfl rfl rfl rfl (by kernel_rfl) Tryz.func3 closedLong
    (of_decide_eq_true (by kernel_rfl)) (by unfold Func.isWrapper; first | (rw [if_pos (by decide +kernel)]; kernel_rfl) | (rw [if_neg (by decide +kernel)]; exact ⟨rfl, rfl⟩))
    (fun os started H enc _ => plantLong_lifted os started H enc)
#print axioms plantLong_holds
end Go.Proofs.YtpkfgmebngpfkaaGreat
