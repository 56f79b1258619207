import Derived.Test.YtkaepknpplhgkaaGreatDoorProg
import Derived.WalkKit
import Derived.WalkSpells
import Derived.WalkLawsBesides
import Derived.Deep.Light
import Derived.Deep.AppendLies
import Derived.Deep.Draws
import Derived.Lib.Hide
import Derived.StillTailTactics
namespace Go.Proofs.YtkaepknpplhgkaaGreatDoor
open Go.RowKit

section
variable {P:Program}
end
@[irreducible] def StillH (P:Program) (ops:Array Oper) (w:World) (Q:Act→Prop) (l:List Oper) (a:Act):Prop:=wpStill P ops w Q l a
section
variable {P:Program}{ops:Array Oper}{w:World}{Q:Act→Prop}{a:Act}{o:Oper}{rest:List Oper}
end
section
variable {P:Program}{w:World}
end
end Go.Proofs.YtkaepknpplhgkaaGreatDoor
