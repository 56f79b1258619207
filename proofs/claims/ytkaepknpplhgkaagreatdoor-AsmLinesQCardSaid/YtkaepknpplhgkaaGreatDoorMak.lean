import Derived.Test.YtkaepknpplhgkaaGreatDoorMah
namespace Go.Proofs.YtkaepknpplhgkaaGreatDoor
open Go.RowKit
end Go.Proofs.YtkaepknpplhgkaaGreatDoor
namespace Go.Proofs.YtkaepknpplhgkaaGreatDoor
open Go.RowKit
end Go.Proofs.YtkaepknpplhgkaaGreatDoor
