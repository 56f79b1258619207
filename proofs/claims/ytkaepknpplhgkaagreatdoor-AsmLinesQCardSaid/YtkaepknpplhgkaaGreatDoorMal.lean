import Derived.Test.YtkaepknpplhgkaaGreatDoorMah
namespace Go.Proofs.YtkaepknpplhgkaaGreatDoor
end Go.Proofs.YtkaepknpplhgkaaGreatDoor
namespace Go.Proofs.YtkaepknpplhgkaaGreatDoor
end Go.Proofs.YtkaepknpplhgkaaGreatDoor
namespace Go.Proofs.YtkaepknpplhgkaaGreatDoor
open Go.RowKit
theorem sgnP_off (n:Nat):sgnP n true=rL n:=by
 unfold sgnP rL
 split
 ·rfl
 ·rw[Kz rfl]
end Go.Proofs.YtkaepknpplhgkaaGreatDoor
