/- The reference's numerals. -/
import Derived.Test.YtfpkpnkdnammnaaGreatDoorStr
namespace Go.Proofs.YtfpkpnkdnammnaaGreatDoor
open Go.RowKit
end Go.Proofs.YtfpkpnkdnammnaaGreatDoor
