import Derived.Test.YtkaepknpplhgkaaGreatDoorProg
import Derived.WalkKit
import Derived.WalkSpells
import Derived.WalkLawsBesides
import Derived.Deep.Light
import Derived.Deep.AppendLies
import Derived.Deep.Draws
import Derived.Lib.Hide
import Derived.StillTailTactics
namespace Go.Proofs.YtkaepknpplhgkaaGreatDoor
open Go.RowKit

section
variable {P:Program}
end
@[irreducible] def StillH (P:Program) (ops:Array Oper) (w:World) (Q:Act→Prop) (l:List Oper) (a:Act):Prop:=wpStill P ops w Q l a
section
variable {P:Program}{ops:Array Oper}{w:World}{Q:Act→Prop}{a:Act}{o:Oper}{rest:List Oper}
end
section
variable {P:Program}{w:World}
theorem run_update_new {T K E:TypeId}{r c:Nat}{es:Array MapEntry}{n:Int}{v:Value}(hT:P.underlying T=some (.map K E)) (hK:P.underlying K=some (.int .i64))
  (hr:w.heap[r]? = some (.map es c)) (hf:Instr.findNow (.int .i64) (.int .i64 n) es.toList 0=some none) :
  (Instr.mapUpdate T (.map (some r)) (.int .i64 n) v).run P w=.ok () { w with heap:=w.heap.setIfInBounds r (.map (es.push { key:=.int .i64 n,val:=v,born:=c }) (c+1)) }:=by
 have hc:(Instr.checkKey false 10000 K (.int .i64 n)).run P w=.ok () w:=MapKept.run_checkKey (k:=.int .i64 n) hK (by simp[MapKept.IsKey]) false 9999;simp[Instr.mapUpdate,run_underlying hT,MapKept.run_getObj_map hr,hc,MapKept.run_findKey hK hf,MapKept.run_setObj_map _ hr,Result.andThen]
end
end Go.Proofs.YtkaepknpplhgkaaGreatDoor
