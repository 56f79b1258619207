import Derived.Test.YtkaepknpplhgkaaGreatDoorMai
import Derived.Test.YtkaepknpplhgkaaGreatDoorMah
namespace Go.Proofs.YtkaepknpplhgkaaGreatDoor
open Go.RowKit
end Go.Proofs.YtkaepknpplhgkaaGreatDoor
namespace Go.Proofs.YtkaepknpplhgkaaGreatDoor
end Go.Proofs.YtkaepknpplhgkaaGreatDoor
namespace Go.Proofs.YtkaepknpplhgkaaGreatDoor
open Go.RowKit
section
variable {n:Fr}{m:List (Nat×Value)}{B:Nat→Prop}{w0:World}{L:List (Nat×Obj)}{R:List Rw}{X:World→Prop}
end
section
variable {P:Program}{n:Fr}{m:List (Nat×Value)}{ty:TypeId}{G B:Nat→Prop}{w0 w:World}{L:List (Nat×Obj)}{R:List Rw}{X J:World→Prop}{Q:Exit→Act→World→Prop}{ops:Array Oper}{σ:List Nat}
end
section
variable {n:Fr}{m:List (Nat×Value)}{G B:Nat→Prop}{w0 w:World}{L:List (Nat×Obj)}{R:List Rw}{X J:World→Prop}{Q:Exit→Act→World→Prop}{ops:Array Oper}{σ:List Nat}
end
def RowJ (g:Nat) (l:Bs) (w:World):Prop:=∃rest,Blk g (bk 5 (Lib.byteCells l++rest)) w
theorem RowJ.stab {g:Nat}{l:Bs}:uX (RowJ g l):=fun w ob ⟨r,h⟩=>⟨r,Blk.stab w ob h⟩
theorem RowJ.onE {g:Nat}{l:Bs}{w w':World}(h:RowJ g l w) (hx:Ext w w'):RowJ g l w':=h.elim fun r h=>⟨r,Blk.onE h hx⟩
end Go.Proofs.YtkaepknpplhgkaaGreatDoor
