import Derived.Test.YtfpkpnkdnammnaaGreatDoorMgU
import Derived.Test.YtfpkpnkdnammnaaGreatDoorMgz
namespace Go.Proofs.YtfpkpnkdnammnaaGreatDoor
open Go.RowKit
section
variable {P:Program}{Q:Exit→Act→World→Prop}{n:Nat}{m:List (Nat×Value)}{H:World→Prop}
end
section
variable {ca cb m:List Value}{q j:Nat}{v:Value}
end
structure TuK (fs:List Fn) (q:Nat) (ca cb:List Value) (F:Nat→Prop) (u:World):Prop where
 a:FnsV F u (fs.take q) ca
 b:FnsV F u (fs.drop (q+1)) cb
theorem TuK.put {fs:List Fn}{q:Nat}{ca cb:List Value}{F F':Nat→Prop}{u:World}{f:Fn}{a:FnA}(h:TuK fs q ca cb F u) (hq:q<fs.length) (k:fnsK F' u f a):FnsV (fun k=>F k∨F' k) u (fs.set q f) (ca++rG f a++cb):=by
 rw[List.set_eq_take_append_cons_drop,Kp hq];show FnsV _ u (fs.take q++(f::fs.drop (q+1))) _;rw[Kb];exact FnsV.append (FnsV.lies.mono (fun _ h=>.inl h) h.a) (FnsV.append (l:=[f]) (FnsV.lies.mono (fun _ h=>.inr h) k.one) (FnsV.lies.mono (fun _ h=>.inl h) h.b))
theorem TuK.lies {fs:List Fn}{q:Nat}{ca cb:List Value}:Lies fun F u=>TuK fs q ca cb F u :=
 ⟨fun hk ⟨a,b⟩=>⟨FnsV.lies.foot hk a,FnsV.lies.foot hk b⟩,fun ⟨a,b⟩=>⟨FnsV.lies.lt a,FnsV.lies.lt b⟩,fun hF ⟨a,b⟩=>⟨FnsV.lies.mono hF a,FnsV.lies.mono hF b⟩⟩
end Go.Proofs.YtfpkpnkdnammnaaGreatDoor
namespace Go.Proofs.YtfpkpnkdnammnaaGreatDoor
open Go.RowKit
section
variable {ops:Array Oper}{Q:Exit→Act→World→Prop}{n:Nat}{m:List (Nat×Value)}{ty:TypeId}{w0:World}{L:List (Nat×Obj)}{R:List Rw}{X:World→Prop}{rest:List Oper}{d:Nat}{pos:String}{af:Array Edge}{gd:Option (Nat×Bool)}{args:List Operand}{ats:Array TypeId}
end
section
variable {P:Program}{ops:Array Oper}{Q:Exit→Act→World→Prop}{n:Nat}{m:List (Nat×Value)}{ty:TypeId}{B:Nat→Prop}{w0:World}{L:List (Nat×Obj)}{R:List Rw}{X:World→Prop}{rest:List Oper}{d:Nat}{pos:String}{af:Array Edge}{gd:Option (Nat×Bool)}
end
end Go.Proofs.YtfpkpnkdnammnaaGreatDoor
