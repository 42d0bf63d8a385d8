/- The closed facts of a row in one. No condition. -/
import Derived.Test.YtpkfgmebngpfkaaGreatFactsLong
import Derived.JoinedOf
namespace Go.Proofs.YtpkfgmebngpfkaaGreat
open Go

set_option maxRecDepth 100000 in
theorem closedLong : joinedFacts Tryz.prog 3 Tryz.f3 Rows.plantLongSpec Rows.plantLongRow = true := by
  unfold joinedFacts
  exact band (band (band (band (band (band (band (band (band (band (band (band (band (band (band (band (band (band (band (band (band (band (band (band (band (band (band (band (band (band (band factLong1 Tryz.laidOut) Tryz.mapsRowed) factLong4) factLong5) factLong6) Tryz.stops0) factLong8) Tryz.knobs0) factLong10) factLong11) factLong12) factLong13) factLong14) factLong15) factLong16) factLong17) factLong17b) factLong18) factLong19) factLong20) factLong21) factLong22) factLong23) Tryz.heard) Tryz.mayEnter) factLong24b) factLong24c) factLong25) factLong26) factLong27) factLong28
end Go.Proofs.YtpkfgmebngpfkaaGreat
