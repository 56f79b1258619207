/- Arguments opened: numbers, three numbers, slices of numbers. -/
import Derived.Test.YtfpkpnkdnammnaaGreatDoorSeat
import Derived.Test.YtfpkpnkdnammnaaGreatDoorTree
import Derived.Laws.IdiomArrays
namespace Go.Proofs.YtfpkpnkdnammnaaGreatDoor
open Go.Joins Go.ChangeShapes Go.WideShapes Go.ChangeAt Go.RowKit Go.Deep
theorem cell_ltA {w:World}{b o:Nat}{v:Value}(h:w.cell? ⟨b,o,none⟩=some v):b<w.heap.size:=by
 rcases Nat.lt_or_ge b w.heap.size with h1|h1
 ·exact h1
 ·unfold World.cell? at h;simp[Array.getElem?_eq_none h1] at h
section
variable {H:Type}{enc:TypeId×Value→H}{w:World}{base:Nat}{held:Bool}{fuel:Nat}{v:Value}{y:DataW H×List MemPlace}
end
end Go.Proofs.YtfpkpnkdnammnaaGreatDoor
