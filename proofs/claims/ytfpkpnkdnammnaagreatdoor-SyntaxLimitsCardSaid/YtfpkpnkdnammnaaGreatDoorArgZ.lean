/- Arguments opened: numbers, three numbers, slices of numbers. -/
import Derived.Test.YtfpkpnkdnammnaaGreatDoorSeat
import Derived.Test.YtfpkpnkdnammnaaGreatDoorTree
import Derived.Laws.IdiomArrays
namespace Go.Proofs.YtfpkpnkdnammnaaGreatDoor
open Go.Joins Go.ChangeShapes Go.WideShapes Go.ChangeAt Go.RowKit Go.Deep
section
variable {H:Type} {enc:TypeId×Value→H} {w:World} {base:Nat} {held:Bool} {fuel:Nat} {v:Value} {y:DataW H×List MemPlace}
end
end Go.Proofs.YtfpkpnkdnammnaaGreatDoor
