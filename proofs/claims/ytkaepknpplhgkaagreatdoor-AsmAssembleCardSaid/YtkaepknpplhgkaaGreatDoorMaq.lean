import Derived.Test.YtkaepknpplhgkaaGreatDoorMah
namespace Go.Proofs.YtkaepknpplhgkaaGreatDoor
section
variable {α:Type}(ln:α→Nat→Bs) (cd:α→Bs)
variable {kind:Int}{P:α→Prop}
end
end Go.Proofs.YtkaepknpplhgkaaGreatDoor
