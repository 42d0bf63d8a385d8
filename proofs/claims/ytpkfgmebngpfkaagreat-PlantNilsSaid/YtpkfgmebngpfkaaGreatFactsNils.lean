/- Closed facts of a row, each in a theorem of its own. No condition. -/
import Derived.Test.YtpkfgmebngpfkaaGreatFactsA
namespace Go.Proofs.YtpkfgmebngpfkaaGreat
open Go

theorem factNils1 : (Rows.plantNilsRow.wf (OpenSpec.ofChange Rows.plantNilsSpec)) = true := by kernel_rfl
theorem factNils4 : (Tryz.f4.params.all (Tryz.prog.readableRec ·)) = true := by kernel_rfl
theorem factNils5 : (namedTie Tryz.prog Rows.plantNilsRow.named Rows.plantNilsSpec.vars) = true := by kernel_rfl
theorem factNils6 : (Rows.plantNilsRow.stops == []) = true := by kernel_rfl
theorem factNils8 : (Rows.plantNilsRow.knobs == []) = true := by kernel_rfl
theorem factNils10 : (Rows.plantNilsRow.inPlace == Tryz.prog.inPlace 4) = true := by kernel_rfl
theorem factNils11 : (Rows.plantNilsRow.unfollowed == Tryz.prog.unfollowed 4) = true := by kernel_rfl
theorem factNils12 : (Rows.plantNilsRow.recurses == Tryz.prog.recurses 4) = true := by kernel_rfl
theorem factNils13 : (Rows.plantNilsRow.named == Tryz.prog.varsNamed 4) = true := by kernel_rfl
theorem factNils14 : (Rows.plantNilsRow.maps == (Tryz.f4.params.toList ++ Rows.plantNilsSpec.plain.varTypes Tryz.prog).any (Tryz.prog.mapsRec ·)) = true := by kernel_rfl
theorem factNils15 : (Rows.plantNilsRow.ifaces == (Tryz.f4.params.toList ++ Rows.plantNilsSpec.plain.varTypes Tryz.prog).any (Tryz.prog.ifacesRec ·)) = true := by kernel_rfl
theorem factNils16 : (Rows.plantNilsRow.mapsOut == Tryz.prog.mapsAmong Tryz.f4.resultTypes.toList) = true := by kernel_rfl
theorem factNils17 : (Rows.plantNilsRow.loops == (Tryz.f4.params.toList ++ Rows.plantNilsSpec.plain.varTypes Tryz.prog).any (Tryz.prog.loopsFrom ·)) = true := by kernel_rfl
theorem factNils17b : (Rows.plantNilsRow.wideKeys == (Tryz.f4.params.toList ++ Rows.plantNilsSpec.plain.varTypes Tryz.prog ++ Tryz.f4.resultTypes.toList).any (Tryz.prog.wideKeysFrom ·)) = true := by kernel_rfl
theorem factNils18 : (Rows.plantNilsSpec.vars.all (Tryz.prog.varReadable ·)) = true := by kernel_rfl
theorem factNils19 : (Tryz.f4.resultTypes.all (fun t => Tryz.prog.readableRec t && decide (t < Tryz.prog.types.size))) = true := by kernel_rfl
theorem factNils20 : (Rows.plantNilsRow.ifacesOut == Tryz.f4.resultTypes.toList.any (Tryz.prog.ifacesRec ·)) = true := by kernel_rfl
theorem factNils21 : (Rows.plantNilsRow.loopsOut == Tryz.f4.resultTypes.toList.any (Tryz.prog.loopsFrom ·)) = true := by kernel_rfl
theorem factNils22 : (Rows.plantNilsRow.plainKeys == Tryz.prog.plainKeys) = true := by kernel_rfl
theorem factNils23 : (Rows.plantNilsRow.shortTexts.isNone) = true := by kernel_rfl
theorem factNils24b : (Rows.plantNilsRow.lifted == Tryz.prog.liftsFinal) = true := by kernel_rfl
theorem factNils24c : (Tryz.prog.make == some Rows.plantNilsRow.make) = true := by kernel_rfl
theorem factNils25 : (Rows.plantNilsRow.kinds == (if Rows.plantNilsRow.domain.isEmpty then [] else Tryz.f4.params.toList.map fun t => match Tryz.prog.underlying t with | some (.int k) => some k | _ => Option.none)) = true := by kernel_rfl
theorem factNils26 : (Rows.plantNilsRow.pinned == Rows.plantNilsRow.pinnedBy) = true := by kernel_rfl
theorem factNils27 : (Rows.plantNilsRow.veiled == (Tryz.f4.params.toList ++ Rows.plantNilsSpec.plain.varTypes Tryz.prog ++ Tryz.f4.resultTypes.toList).any (Tryz.prog.veiledRec ·)) = true := by kernel_rfl
theorem factNils28 : (Rows.plantNilsRow.veiledFits Tryz.prog Tryz.f4.params.toList (Tryz.f4.params.toList ++ Rows.plantNilsSpec.plain.varTypes Tryz.prog ++ Tryz.f4.resultTypes.toList)) = true := by kernel_rfl
end Go.Proofs.YtpkfgmebngpfkaaGreat
