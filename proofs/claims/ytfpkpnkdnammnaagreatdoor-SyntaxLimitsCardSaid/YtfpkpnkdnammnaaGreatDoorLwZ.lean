/- Worlds that are kept: from a point on nothing that is there turns. -/
import Derived.Test.YtfpkpnkdnammnaaGreatDoorSxR
import Derived.Test.YtfpkpnkdnammnaaGreatDoorMgL
import Derived.Test.YtfpkpnkdnammnaaGreatDoorSyV
namespace Go.Proofs.YtfpkpnkdnammnaaGreatDoor
open Go.RowKit
theorem Hp.freeze {w0 v:World} {L:List (Nat×Obj)} {R:List Rw} {X:World→Prop} (h:Hp (fun _=>False) w0 L R X v):Hp (fun _=>False) w0 [] [] (xP (fun _=>True) v) v :=
 ⟨h.keep,(fun _ h=>by cases h),(fun _ h=>by cases h),(fun _ h=>by cases h),List.nodup_nil,fun _ _=>trivial,fun k=>k<v.heap.size,fun k hk=>⟨hk,id,(fun h=>by cases h),trivial⟩,fun u hu k _ hk=>hu k hk⟩
theorem xP.blk {v u:World} {b:Nat} {o:Obj} (h:xP (fun _=>True) v u) (hb:Blk b o v):Blk b o u:=by
 unfold Blk at hb ⊢;rw[h b trivial (Array.getElem?_eq_some_iff.1 hb).1];exact hb
theorem xP.refl (v:World):xP (fun _=>True) v v:=fun _ _ _=>rfl
section
variable {P:Program} {ops:Array Oper} {Q:Exit→Act→World→Prop} {n:Nat} {m:List (Nat×Value)} {ty:TypeId} {w0:World} {L:List (Nat×Obj)} {R:List Rw} {X:World→Prop} {rest:List Oper} {d:Nat} {pos:String} {af:Array Edge} {gd:Option (Nat×Bool)} {f:FuncId} {args:List Operand} {ats:Array TypeId} {vs:List Value}
end
end Go.Proofs.YtfpkpnkdnammnaaGreatDoor
