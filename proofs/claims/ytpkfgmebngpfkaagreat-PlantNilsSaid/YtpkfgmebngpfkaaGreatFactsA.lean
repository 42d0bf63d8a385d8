/- Closed facts of the program's tables, each in a theorem of its own. No condition. -/
import Derived.Test.YtpkfgmebngpfkaaGreatRows
import Derived.ProofKit
namespace Go.Proofs.YtpkfgmebngpfkaaGreat
open Go

theorem types_size : Tryz.prog.types.size = 739 := by kernel_rfl
theorem fine0 : (List.range' 0 93).all (rowFine Tryz.prog) = true := by kernel_rfl
theorem fine1 : (List.range' 93 93).all (rowFine Tryz.prog) = true := by kernel_rfl
theorem fine2 : (List.range' 186 93).all (rowFine Tryz.prog) = true := by kernel_rfl
theorem fine3 : (List.range' 279 93).all (rowFine Tryz.prog) = true := by kernel_rfl
theorem fine4 : (List.range' 372 93).all (rowFine Tryz.prog) = true := by kernel_rfl
theorem fine5 : (List.range' 465 93).all (rowFine Tryz.prog) = true := by kernel_rfl
theorem fine6 : (List.range' 558 93).all (rowFine Tryz.prog) = true := by kernel_rfl
theorem fine7 : (List.range' 651 88).all (rowFine Tryz.prog) = true := by kernel_rfl
theorem fineG : Tryz.prog.globals.all (fun g => decide (g.type < Tryz.prog.types.size)) = true := by kernel_rfl
theorem fineF : Tryz.prog.funcs.all (fun f => f.params.all fun t => decide (t < Tryz.prog.types.size)) = true := by kernel_rfl
theorem fineAll : (List.range Tryz.prog.types.size).all (rowFine Tryz.prog) = true := by
  rw [types_size, List.all_eq_true]
  intro i hi
  have hi : i < 739 := List.mem_range.1 hi
  by_cases h0 : i < 93
  · exact List.all_eq_true.1 fine0 i (List.mem_range'_1.2 ⟨by omega, by omega⟩)
  by_cases h1 : i < 186
  · exact List.all_eq_true.1 fine1 i (List.mem_range'_1.2 ⟨by omega, by omega⟩)
  by_cases h2 : i < 279
  · exact List.all_eq_true.1 fine2 i (List.mem_range'_1.2 ⟨by omega, by omega⟩)
  by_cases h3 : i < 372
  · exact List.all_eq_true.1 fine3 i (List.mem_range'_1.2 ⟨by omega, by omega⟩)
  by_cases h4 : i < 465
  · exact List.all_eq_true.1 fine4 i (List.mem_range'_1.2 ⟨by omega, by omega⟩)
  by_cases h5 : i < 558
  · exact List.all_eq_true.1 fine5 i (List.mem_range'_1.2 ⟨by omega, by omega⟩)
  by_cases h6 : i < 651
  · exact List.all_eq_true.1 fine6 i (List.mem_range'_1.2 ⟨by omega, by omega⟩)
  by_cases h7 : i < 739
  · exact List.all_eq_true.1 fine7 i (List.mem_range'_1.2 ⟨by omega, by omega⟩)
  omega
theorem Tryz.laidOut : laidOutB Tryz.prog = true := by
  unfold laidOutB
  rw [fineAll, fineG, fineF]
  rfl
theorem Tryz.mapsRowed : mapsRowed Tryz.prog = true := by kernel_rfl
theorem Tryz.stops0 : (Tryz.prog.stops == []) = true := by kernel_rfl
theorem Tryz.knobs0 : (Tryz.prog.stopKnobs == []) = true := by kernel_rfl
theorem Tryz.heard : Tryz.prog.stopsHeard = true := by kernel_rfl
theorem Tryz.mayEnter : Tryz.prog.mayEnter = true := by kernel_rfl
theorem Tryz.own : ownKnob Tryz.prog.godebug = none := by kernel_rfl
theorem band {a b : Bool} (ha : a = true) (hb : b = true) : (a && b) = true := by rw [ha, hb]; rfl
end Go.Proofs.YtpkfgmebngpfkaaGreat
