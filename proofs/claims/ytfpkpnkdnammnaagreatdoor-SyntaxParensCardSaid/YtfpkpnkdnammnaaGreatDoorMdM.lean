/- Turned: the walk. -/
import Derived.Test.YtfpkpnkdnammnaaGreatDoorMgW
namespace Go.Proofs.YtfpkpnkdnammnaaGreatDoor
open Go.RowKit
end Go.Proofs.YtfpkpnkdnammnaaGreatDoor
