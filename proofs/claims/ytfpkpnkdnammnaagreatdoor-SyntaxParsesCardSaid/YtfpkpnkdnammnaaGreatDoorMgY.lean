/- Programs that a list of numbers determines, plainly. -/
import Derived.Test.YtfpkpnkdnammnaaGreatDoorTree
namespace Go.Proofs.YtfpkpnkdnammnaaGreatDoor
/-- What does not change while a function is made: the numbers, the functions, this one's place. -/
structure GE where
 l:List Int
 fs:List Fn
 me:Nat
structure GS where
 at_:Nat
 left:Nat
 nodes:Int
 vars:Nat
 names:List Bs
def nxV (l:List Int) (a n:Nat):Nat:=if a<l.length then (l.getD a 0%(n:Int)).toNat else 0
def GS.v (E:GE) (s:GS) (n:Nat):Nat:=nxV E.l s.at_ n
def GS.add (s:GS) (x:Bs):GS:={ s with names:=s.names++[x] }
/-! ### Programs -/
/-! ### Turned -/
end Go.Proofs.YtfpkpnkdnammnaaGreatDoor
/- Made, plainly: how far it goes. -/
namespace Go.Proofs.YtfpkpnkdnammnaaGreatDoor
structure GE.Ok (E:GE):Prop where
 par:∀f∈E.fs,f.params.length≤4
 fs:E.fs.length≤4
 me:E.me<E.fs.length
 l:E.l.length≤9223372036854775807
/-- What an expression takes: c nodes at most. -/
structure EL (E:GE) (c:Nat) (s s':GS):Prop where
 at_:s.at_≤E.l.length→s'.at_≤E.l.length
 left:s'.left=s.left
 lo:s.nodes-c≤s'.nodes
 hi:s'.nodes≤s.nodes
 vars:s'.vars=s.vars
 nm:s'.names=s.names
theorem EL.trans {E:GE}{c d:Nat}{s t u:GS}(h:EL E c s t) (k:EL E d t u):EL E (c+d) s u :=
 ⟨fun a=>k.at_ (h.at_ a),k.left.trans h.left,by have:=h.lo;have:=k.lo;omega,by have:=h.hi;have:=k.hi;omega,k.vars.trans h.vars,k.nm.trans h.nm⟩
theorem EL.refl {E:GE}{c:Nat}{s:GS}:EL E c s s:=⟨id,rfl,by omega,by omega,rfl,rfl⟩
theorem EL.mono {E:GE}{c d:Nat}{s t:GS}(h:EL E c s t) (hcd:c≤d):EL E d s t:=⟨h.at_,h.left,by have:=h.lo;omega,h.hi,h.vars,h.nm⟩
/-- What statements take (c: nodes beside those of the statements that are left). -/
structure SL (E:GE) (c:Nat) (s s':GS):Prop where
 at_:s.at_≤E.l.length→s'.at_≤E.l.length
 left:s'.left≤s.left
 lo:s.nodes-c-1000*((s.left:Int)-s'.left)≤s'.nodes
 hi:s'.nodes≤s.nodes
 vars:s.vars≤8→s'.vars≤8
 nm:s'.names.length+s.vars=s.names.length+s'.vars
theorem EL.sl {E:GE}{c:Nat}{s t:GS}(h:EL E c s t):SL E c s t :=
 ⟨h.at_,Nat.le_of_eq h.left,by rw[h.left];have:=h.lo;omega,h.hi,fun a=>by rw[h.vars];exact a,by rw[h.nm,h.vars]⟩
theorem SL.trans {E:GE}{c d:Nat}{s t u:GS}(h:SL E c s t) (k:SL E d t u):SL E (c+d) s u :=
 ⟨fun a=>k.at_ (h.at_ a),Nat.le_trans k.left h.left,by have:=h.lo;have:=k.lo;omega,by have:=h.hi;have:=k.hi;omega,fun a=>k.vars (h.vars a),by have:=h.nm;have:=k.nm;omega⟩
theorem SL.refl {E:GE}{c:Nat}{s:GS}:SL E c s s:=EL.refl.sl
theorem SL.mono {E:GE}{c d:Nat}{s t:GS}(h:SL E c s t) (hcd:c≤d):SL E d s t:=⟨h.at_,h.left,by have:=h.lo;omega,h.hi,h.vars,h.nm⟩
section
variable {E:GE}(hE:E.Ok)
include hE
end
end Go.Proofs.YtfpkpnkdnammnaaGreatDoor
