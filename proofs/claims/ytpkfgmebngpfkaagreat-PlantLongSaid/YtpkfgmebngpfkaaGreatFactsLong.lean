/- Closed facts of a row, each in a theorem of its own. No condition. -/
import Derived.Test.YtpkfgmebngpfkaaGreatFactsA
namespace Go.Proofs.YtpkfgmebngpfkaaGreat
open Go

theorem factLong1 : (Rows.plantLongRow.wf (OpenSpec.ofChange Rows.plantLongSpec)) = true := by kernel_rfl
theorem factLong4 : (Tryz.f3.params.all (Tryz.prog.readableRec ·)) = true := by kernel_rfl
theorem factLong5 : (namedTie Tryz.prog Rows.plantLongRow.named Rows.plantLongSpec.vars) = true := by kernel_rfl
theorem factLong6 : (Rows.plantLongRow.stops == []) = true := by kernel_rfl
theorem factLong8 : (Rows.plantLongRow.knobs == []) = true := by kernel_rfl
theorem factLong10 : (Rows.plantLongRow.inPlace == Tryz.prog.inPlace 3) = true := by kernel_rfl
theorem factLong11 : (Rows.plantLongRow.unfollowed == Tryz.prog.unfollowed 3) = true := by kernel_rfl
theorem factLong12 : (Rows.plantLongRow.recurses == Tryz.prog.recurses 3) = true := by kernel_rfl
theorem factLong13 : (Rows.plantLongRow.named == Tryz.prog.varsNamed 3) = true := by kernel_rfl
theorem factLong14 : (Rows.plantLongRow.maps == (Tryz.f3.params.toList ++ Rows.plantLongSpec.plain.varTypes Tryz.prog).any (Tryz.prog.mapsRec ·)) = true := by kernel_rfl
theorem factLong15 : (Rows.plantLongRow.ifaces == (Tryz.f3.params.toList ++ Rows.plantLongSpec.plain.varTypes Tryz.prog).any (Tryz.prog.ifacesRec ·)) = true := by kernel_rfl
theorem factLong16 : (Rows.plantLongRow.mapsOut == Tryz.prog.mapsAmong Tryz.f3.resultTypes.toList) = true := by kernel_rfl
theorem factLong17 : (Rows.plantLongRow.loops == (Tryz.f3.params.toList ++ Rows.plantLongSpec.plain.varTypes Tryz.prog).any (Tryz.prog.loopsFrom ·)) = true := by kernel_rfl
theorem factLong17b : (Rows.plantLongRow.wideKeys == (Tryz.f3.params.toList ++ Rows.plantLongSpec.plain.varTypes Tryz.prog ++ Tryz.f3.resultTypes.toList).any (Tryz.prog.wideKeysFrom ·)) = true := by kernel_rfl
theorem factLong18 : (Rows.plantLongSpec.vars.all (Tryz.prog.varReadable ·)) = true := by kernel_rfl
theorem factLong19 : (Tryz.f3.resultTypes.all (fun t => Tryz.prog.readableRec t && decide (t < Tryz.prog.types.size))) = true := by kernel_rfl
theorem factLong20 : (Rows.plantLongRow.ifacesOut == Tryz.f3.resultTypes.toList.any (Tryz.prog.ifacesRec ·)) = true := by kernel_rfl
theorem factLong21 : (Rows.plantLongRow.loopsOut == Tryz.f3.resultTypes.toList.any (Tryz.prog.loopsFrom ·)) = true := by kernel_rfl
theorem factLong22 : (Rows.plantLongRow.plainKeys == Tryz.prog.plainKeys) = true := by kernel_rfl
theorem factLong23 : (Rows.plantLongRow.shortTexts.isNone) = true := by kernel_rfl
theorem factLong24b : (Rows.plantLongRow.lifted == Tryz.prog.liftsFinal) = true := by kernel_rfl
theorem factLong24c : (Tryz.prog.make == some Rows.plantLongRow.make) = true := by kernel_rfl
theorem factLong25 : (Rows.plantLongRow.kinds == (if Rows.plantLongRow.domain.isEmpty then [] else Tryz.f3.params.toList.map fun t => match Tryz.prog.underlying t with | some (.int k) => some k | _ => Option.none)) = true := by kernel_rfl
theorem factLong26 : (Rows.plantLongRow.pinned == Rows.plantLongRow.pinnedBy) = true := by kernel_rfl
theorem factLong27 : (Rows.plantLongRow.veiled == (Tryz.f3.params.toList ++ Rows.plantLongSpec.plain.varTypes Tryz.prog ++ Tryz.f3.resultTypes.toList).any (Tryz.prog.veiledRec ·)) = true := by kernel_rfl
theorem factLong28 : (Rows.plantLongRow.veiledFits Tryz.prog Tryz.f3.params.toList (Tryz.f3.params.toList ++ Rows.plantLongSpec.plain.varTypes Tryz.prog ++ Tryz.f3.resultTypes.toList)) = true := by kernel_rfl
end Go.Proofs.YtpkfgmebngpfkaaGreat
