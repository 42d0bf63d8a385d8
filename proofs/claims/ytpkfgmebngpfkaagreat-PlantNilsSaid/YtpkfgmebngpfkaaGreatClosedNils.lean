/- The closed facts of a row in one. No condition. -/
import Derived.Test.YtpkfgmebngpfkaaGreatFactsNils
import Derived.JoinedOf
namespace Go.Proofs.YtpkfgmebngpfkaaGreat
open Go

set_option maxRecDepth 100000 in
theorem closedNils : joinedFacts Tryz.prog 4 Tryz.f4 Rows.plantNilsSpec Rows.plantNilsRow = true := by
  unfold joinedFacts
  exact band (band (band (band (band (band (band (band (band (band (band (band (band (band (band (band (band (band (band (band (band (band (band (band (band (band (band (band (band (band (band factNils1 Tryz.laidOut) Tryz.mapsRowed) factNils4) factNils5) factNils6) Tryz.stops0) factNils8) Tryz.knobs0) factNils10) factNils11) factNils12) factNils13) factNils14) factNils15) factNils16) factNils17) factNils17b) factNils18) factNils19) factNils20) factNils21) factNils22) factNils23) Tryz.heard) Tryz.mayEnter) factNils24b) factNils24c) factNils25) factNils26) factNils27) factNils28
end Go.Proofs.YtpkfgmebngpfkaaGreat
