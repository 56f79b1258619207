/- A drawn region whose first operations read or make memory: what each hands on, whatever the order; what is made in it may be read in it. -/
import Derived.Test.YtfpkpnkdnammnaaGreatDoorMdS
import Derived.Test.YtfpkpnkdnammnaaGreatDoorTreB
namespace Go.Proofs.YtfpkpnkdnammnaaGreatDoor
open Go.RowKit
section
variable {P:Program}{Q:Exit→Act→World→Prop}{N:Nat}
/-- What one operation hands on: val x for some x, of which a fact holds. -/
def CEr (P:Program) (o:Oper) (N:Nat) (m:List (Nat×Value)) (n0:Nat) (H:World→Prop) (val:Nat→Value) (fact:Nat→(Nat→Prop)→World→Prop):Prop :=
 ∀a w,Sat N m a→H w→n0≤w.heap.size→Ch P o a w fun v w'=>Ext w w'∧∃x,v=val x∧fact x (fun k=>n0≤k) w'
def EOr (P:Program) (l:List Oper) (N n0:Nat) (val:Nat→Nat→Value) (fact:Nat→Nat→(Nat→Prop)→World→Prop) (i:Nat) (o:Oper):List Nat→List (Nat×Value)→(World→Prop)→Prop
 | [],m,H=>CEr P o N m n0 H (val i) (fact i)
 | j::r,m,H=>∀x,EOr P l N n0 val fact i o r (match nthO l j with
  | some ⟨some d,_,_,_,_,_⟩=>(d,val j x)::m
  | _=>m) (fun w=>fact j x (fun k=>n0≤k) w∧H w)
def EOsr (P:Program) (l:List Oper) (N n0:Nat) (val:Nat→Nat→Value) (fact:Nat→Nat→(Nat→Prop)→World→Prop) (deps:List (List Nat)) (m:List (Nat×Value)) (H:World→Prop):Nat→List Oper→Prop
 | _,[]=>True
 | i,o::r=>EOr P l N n0 val fact i o (deps.getD i []) m H∧EOsr P l N n0 val fact deps m H (i+1) r
theorem EOsr.at {l:List Oper}{n0:Nat}{val:Nat→Nat→Value}{fact:Nat→Nat→(Nat→Prop)→World→Prop}{deps:List (List Nat)}{m:List (Nat×Value)}{H:World→Prop}:∀{r:List Oper}{i k:Nat}{o:Oper},EOsr P l N n0 val fact deps m H i r→r[k]? = some o→EOr P l N n0 val fact (i+k) o (deps.getD (i+k) []) m H
 | [],_,_,_,_,h=>by cases h
 | x::r,i,0,o,⟨h1,_⟩,h=>by simp at h;subst h;exact h1
 | x::r,i,k+1,o,⟨_,h2⟩,h=>by
  have:=EOsr.at h2 (k:=k) (by simpa using h)
  rwa [show i+1+k=i+(k+1) by omega] at this
theorem Lies.onE {T:(Nat→Prop)→World→Prop}(hT:Lies T) {F:Nat→Prop}{w w':World}(h:T F w) (hx:Ext w w'):T F w' :=
 hT.mono (fun _ h=>h.1) (hT.foot (F:=fun k=>F k∧k<w.heap.size) (fun k hk=>by rw[Ext.block hx (Array.getElem?_eq_getElem hk.2),Array.getElem?_eq_getElem hk.2]) (hT.lt h))
variable {op:Op}{d:Nat}{ty:TypeId}{pos:String}{af:Array Edge}{m:List (Nat×Value)}{n0:Nat}{H:World→Prop}{val:Nat→Value}{fact:Nat→(Nat→Prop)→World→Prop}
/-- The facts of such a region: none, or what a block holds. -/
def fcL (l:List (Option (Nat→Obj))) (j x:Nat) (F:Nat→Prop) (u:World):Prop:=match l.getD j none with
 | none=>True
 | some ob=>F x∧x<u.heap.size∧Blk x (ob x) u
theorem fcL.lies {l:List (Option (Nat→Obj))}(j x:Nat):Lies (fcL l j x):=by
 unfold fcL
 cases l.getD j none with
 | none=>exact⟨fun _ _=>trivial,fun _=>trivial,fun _ _=>trivial⟩
 | some ob =>
  refine⟨fun {F w w'} hk ⟨h1,h2,h3⟩=>⟨h1,?_,?_⟩,fun ⟨h1,h2,h3⟩=>⟨⟨h1,h2⟩,h2,h3⟩,fun hF ⟨h1,h2,h3⟩=>⟨hF _ h1,h2,h3⟩⟩
  ·have:=hk x h1;rw[Array.getElem?_eq_getElem h2] at this;exact (Array.getElem?_eq_some_iff.1 this).1
  ·show w'.heap[x]? = _;rw[hk x h1];exact h3
end
end Go.Proofs.YtfpkpnkdnammnaaGreatDoor
