/- The law of errors. -/
import Derived.Test.YtkaepknpplhgkaaGreatDoorMag
namespace Go.Proofs.YtkaepknpplhgkaaGreatDoor
open Go.RowKit
end Go.Proofs.YtkaepknpplhgkaaGreatDoor
