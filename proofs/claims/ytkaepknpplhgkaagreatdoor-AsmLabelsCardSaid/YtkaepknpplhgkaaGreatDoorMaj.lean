/- The law of the round trip. -/
import Derived.Test.YtkaepknpplhgkaaGreatDoorMai
namespace Go.Proofs.YtkaepknpplhgkaaGreatDoor
open Go.RowKit
end Go.Proofs.YtkaepknpplhgkaaGreatDoor
