import Derived.Test.YtfpkpnkdnammnaaGreatDoorTree
namespace Go.Proofs.YtfpkpnkdnammnaaGreatDoor
structure GE where
 l:List Int
 fs:List Fn
 me:Nat
structure GS where
 at_:Nat
 left:Nat
 nodes:Int
 vars:Nat
 names:List Bs
def nxV (l:List Int) (a n:Nat):Nat:=if a<l.length then (l.getD a 0%(n:Int)).toNat else 0
def nxA (l:List Int) (a:Nat):Nat:=if a<l.length then a+1 else a
theorem wU (l:List Int) (a:Nat) {n:Nat}(h:0<n):nxV l a n<n:=by
 unfold nxV
 split
 ·have:=Int.emod_lt_of_pos (l.getD a 0) (show (0:Int)<n by omega);have:=Int.emod_nonneg (l.getD a 0) (show (n:Int)≠0 by omega);omega
 ·exact h
theorem nxA_le (l:List Int) {a:Nat}(h:a≤l.length):nxA l a≤l.length:=by
 unfold nxA;split<;>omega
def GS.nx (E:GE) (s:GS):GS:={ s with at_:=nxA E.l s.at_ }
def GS.v (E:GE) (s:GS) (n:Nat):Nat:=nxV E.l s.at_ n
def conL:List Nat:=[0,1,2,3,5,8,31,32,255,256,65535,131072,2147483647,2147483648,4294967295]
def opL:List Bs:=[[43],[45],[42],[47],[37],[38],[124],[94],[60,60],[62,62],[60],[60,61],[62],[62,61],[61,61],[33,61]]
def unL:List Bs:=[[45],[126],[33]]
def conG (E:GE) (s:GS):Ex×GS:=(.mk 1 (conL.getD (s.v E 15) 0) [] [],s.nx E)
def nmG (E:GE) (s:GS):Bs×GS:=(s.names.getD (s.v E s.names.length) [],s.nx E)
def uK (rec:GS→Ex×GS):Nat→List Ex→GS→List Ex×GS
 | 0,acc,s=>(acc,s)
 | n+1,acc,s=>uK rec n (acc++[(rec s).1]) (rec s).2
def wJ:Fn:=⟨[],[],[]⟩
def tC (rec:GS→Ex×GS) (f:Fn) (s:GS):Ex×GS:=(.mk 3 0 f.name (uK rec f.params.length [] s).1,(uK rec f.params.length [] s).2)
def fnG (E:GE) (s:GS):Fn:=E.fs.getD (E.me+1+s.v E (E.fs.length-E.me-1)) wJ
def GS.dn (s:GS):GS:={ s with nodes:=s.nodes-1 }
def exKG (E:GE) (deep:Nat) (s:GS):Nat:=if deep≤1∨s.nodes-1<1 then s.v E 16%4 else s.v E 16
def tD (E:GE) (rec:GS→Ex×GS) (k:Nat) (s:GS):Ex×GS :=
 if (k=1∨k=2)∧0<s.names.length then (.mk 2 0 (nmG E s).1 [],(nmG E s).2)
 else if k=3 then (.mk 5 0 [] [],s)
 else if k=4∨k=5 then (.mk 4 0 [] [(rec s).1],(rec s).2)
 else if k=6 then (.mk 6 0 (unL.getD (s.v E 3) []) [(rec (s.nx E)).1],(rec (s.nx E)).2)
 else if k=7∧E.me+1<E.fs.length then tC rec (fnG E s) (s.nx E)
 else if 7<k then (.mk 7 0 (opL.getD (s.v E 16) []) [(rec (s.nx E)).1,(rec (rec (s.nx E)).2).1],(rec (rec (s.nx E)).2).2)
 else conG E s
def exG (E:GE):Nat→GS→Ex×GS
 | 0,s=>tD E (fun s=>(.mk 0 0 [] [],s)) (exKG E 0 s) (s.dn.nx E)
 | d+1,s=>tD E (exG E d) (exKG E (d+1) s) (s.dn.nx E)
def qR:List Bs:=[[97],[98],[99],[100],[101],[120,49],[121,50],[108,111,111,112]]
def GS.add (s:GS) (x:Bs):GS:={ s with names:=s.names++[x] }
def GS.vr (s:GS):GS:={ s with vars:=s.vars+1 }
def GS.lf (s:GS):GS:={ s with left:=s.left-1 }
def frG (s:GS):Bs:=qR.getD s.vars []
def tT (E:GE) (s:GS):Fn×GS :=
 if (s.nx E).v E 8=7 then (E.fs.getD (1+((s.nx E).nx E).v E (E.fs.length-1)) wJ,((s.nx E).nx E).nx E) else (fnG E s,(s.nx E).nx E)
def ifG (E:GE) (rec:GS→List St×GS) (e:Ex) (s:GS):List St×GS :=
 if (rec s).2.v E 2=1 then ([.mk 4 [] [e] (rec s).1 (rec ((rec s).2.nx E)).1],(rec ((rec s).2.nx E)).2) else ([.mk 4 [] [e] (rec s).1 []],(rec s).2.nx E)
def whG (E:GE) (rec:GS→List St×GS) (nm:Bs) (s:GS):List St×GS :=
 ([.mk 1 nm [.mk 1 (s.v E 5) [] []] [] [],
  .mk 5 [] [.mk 2 0 nm []] ((rec (s.nx E)).1++[.mk 2 nm [.mk 7 0 [45] [.mk 2 0 nm [],.mk 1 1 [] []]] [] []]) []],((rec (s.nx E)).2.add nm))
def stG (E:GE) (rec:GS→List St×GS) (deep k:Nat) (s:GS):List St×GS :=
 if k<3∧s.vars<8 then ([.mk 1 (frG s) [(exG E 4 s.vr).1] [] []],(exG E 4 s.vr).2.add (frG s))
 else if k=3∧0<s.names.length then ([.mk 2 (nmG E s).1 [(exG E 4 (nmG E s).2).1] [] []],(exG E 4 (nmG E s).2).2)
 else if k=4∨k=5 then ([.mk 3 [] [(exG E 3 s).1,(exG E 4 (exG E 3 s).2).1] [] []],(exG E 4 (exG E 3 s).2).2)
 else if k=6∧deep<4 then ifG E rec (exG E 3 s).1 (exG E 3 s).2
 else if k=7∧deep<3∧s.vars<8 then whG E rec (frG s) s.vr
 else if k=8 then
  (if s.v E 3=0 then ([.mk 6 [] [(exG E 4 (s.nx E)).1] [] []],(exG E 4 (s.nx E)).2) else ([.mk 7 [] [(exG E 4 (s.nx E)).1] [] []],(exG E 4 (s.nx E)).2))
 else if k=9∧E.me+1<E.fs.length then ([.mk 8 [] [(tC (exG E 2) (tT E s).1 (tT E s).2).1] [] []],(tC (exG E 2) (tT E s).1 (tT E s).2).2)
 else ([.mk 7 [] [(exG E 4 s).1] [] []],(exG E 4 s).2)
def blG (E:GE) (rec:GS→List St×GS) (deep:Nat):Nat→List St→GS→List St×GS
 | 0,acc,s=>(acc,s)
 | n+1,acc,s=>if s.left=0 then (acc,s) else blG E rec deep n (acc++(stG E rec deep (s.lf.v E 12) (s.lf.nx E)).1) (stG E rec deep (s.lf.v E 12) (s.lf.nx E)).2
def stsG (E:GE):Nat→GS→List St×GS
 | 0,s=>blG E (fun s=>([],s)) 4 (1+s.v E 5) [] (s.nx E)
 | r+1,s=>blG E (stsG E r) (4-(r+1)) (1+s.v E 5) [] (s.nx E)
def rW:List Bs:=[[112],[113],[114],[115]]
def sD:List Bs:=[[109,97,105,110],[102],[103],[116,119,101,108,118,101,108,101,116,116,101,114]]
def hdG (l:List Int):Nat→List Fn→Nat→List Fn×Nat
 | 0,acc,a=>(acc,a)
 | n+1,acc,a=>if acc.length=0 then hdG l n (acc++[⟨sD.getD acc.length [],[],[]⟩]) a
  else hdG l n (acc++[⟨sD.getD acc.length [],rW.take (nxV l a 5),[]⟩]) (nxA l a)
def bdG (l:List Int) (fs:List Fn):Nat→List Fn→Nat→List Fn×Nat
 | 0,acc,a=>(acc,a)
 | n+1,acc,a =>
  let f:=fs.getD acc.length wJ
  let r:=stsG ⟨l,fs,acc.length⟩ 3 ⟨a,8,150,0,f.params⟩
  bdG l fs n (acc++[⟨f.name,f.params,r.1⟩]) r.2.at_
def wI (l:List Int):List Fn :=
 let many:=1+nxV l 0 4
 let h:=hdG l many [] (nxA l 0)
 (bdG l h.1 many [] h.2).1
end Go.Proofs.YtfpkpnkdnammnaaGreatDoor
namespace Go.Proofs.YtfpkpnkdnammnaaGreatDoor
structure GE.Ok (E:GE):Prop where
 par:∀f∈E.fs,f.params.length≤4
 fs:E.fs.length≤4
 me:E.me<E.fs.length
 l:E.l.length≤9223372036854775807
theorem GE.Ok.parD {E:GE}(h:E.Ok) (i:Nat):(E.fs.getD i wJ).params.length≤4:=by
 rw[Ka]
 cases hi:E.fs[i]? with
 | none=>exact Kl _
 | some f=>exact h.par f (Ju hi)
structure EL (E:GE) (c:Nat) (s s':GS):Prop where
 at_:s.at_≤E.l.length→s'.at_≤E.l.length
 left:s'.left=s.left
 lo:s.nodes-c≤s'.nodes
 hi:s'.nodes≤s.nodes
 vars:s'.vars=s.vars
 nm:s'.names=s.names
theorem EL.trans {E:GE}{c d:Nat}{s t u:GS}(h:EL E c s t) (k:EL E d t u):EL E (c+d) s u :=
 ⟨fun a=>k.at_ (h.at_ a),k.left.trans h.left,by have:=h.lo;have:=k.lo;omega,by have:=h.hi;have:=k.hi;omega,k.vars.trans h.vars,k.nm.trans h.nm⟩
theorem EL.refl {E:GE}{c:Nat}{s:GS}:EL E c s s:=⟨id,rfl,by omega,by omega,rfl,rfl⟩
theorem EL.mono {E:GE}{c d:Nat}{s t:GS}(h:EL E c s t) (hcd:c≤d):EL E d s t:=⟨h.at_,h.left,by have:=h.lo;omega,h.hi,h.vars,h.nm⟩
theorem EL.nx {E:GE}{s:GS}:EL E 0 s (s.nx E):=⟨nxA_le _,rfl,by show s.nodes-0≤s.nodes;omega,Int.le_refl _,rfl,rfl⟩
theorem EL.dn {E:GE}{s:GS}:EL E 1 s s.dn:=⟨id,rfl,Int.le_refl _,by show s.nodes-1≤s.nodes;omega,rfl,rfl⟩
theorem kidsG_in {E:GE}{c:Nat}{rec:GS→Ex×GS}(hr:∀s,EL E c s (rec s).2):∀(n:Nat) (acc:List Ex) (s:GS),EL E (n*c) s (uK rec n acc s).2
 | 0,_,_=>EL.refl
 | n+1,acc,s=>by
  have h:=(hr s).trans (kidsG_in hr n (acc++[(rec s).1]) (rec s).2);unfold uK;exact h.mono (by rw[Nat.succ_mul];omega)
theorem callG_in {E:GE}{c:Nat}{rec:GS→Ex×GS}(hr:∀s,EL E c s (rec s).2) {f:Fn}(hf:f.params.length≤4) (s:GS):EL E (4*c) s (tC rec f s).2 :=
 (kidsG_in hr f.params.length [] s).mono (Nat.mul_le_mul_right c hf)
theorem exBG_in {E:GE}(hE:E.Ok) {c:Nat}{rec:GS→Ex×GS}(hr:∀s,EL E c s (rec s).2) (k:Nat) (s:GS):EL E (4*c) s (tD E rec k s).2:=by
 unfold tD
 split
 ·exact EL.nx.mono (by omega)
 split
 ·exact EL.refl
 split
 ·exact (hr s).mono (by omega)
 split
 ·exact (EL.nx.trans (hr _)).mono (by omega)
 split
 ·exact (EL.nx.trans (callG_in hr (hE.parD _) _)).mono (by omega)
 split
 ·exact ((EL.nx.trans (hr _)).trans (hr _)).mono (by omega)
 ·exact EL.nx.mono (by omega)
def cost:Nat→Nat
 | 0=>1
 | d+1=>1+4*cost d
theorem exG_in {E:GE}(hE:E.Ok):∀(d:Nat) (s:GS),EL E (cost d) s (exG E d s).2
 | 0,s=>((EL.dn.trans EL.nx).trans (exBG_in hE (c:=0) (fun _=>EL.refl) _ _)).mono (by simp[cost])
 | d+1,s=>((EL.dn.trans EL.nx).trans (exBG_in hE (exG_in hE d) _ _)).mono (by simp[cost])
structure SL (E:GE) (c:Nat) (s s':GS):Prop where
 at_:s.at_≤E.l.length→s'.at_≤E.l.length
 left:s'.left≤s.left
 lo:s.nodes-c-1000*((s.left:Int)-s'.left)≤s'.nodes
 hi:s'.nodes≤s.nodes
 vars:s.vars≤8→s'.vars≤8
 nm:s'.names.length+s.vars=s.names.length+s'.vars
theorem EL.sl {E:GE}{c:Nat}{s t:GS}(h:EL E c s t):SL E c s t :=
 ⟨h.at_,Nat.le_of_eq h.left,by rw[h.left];have:=h.lo;omega,h.hi,fun a=>by rw[h.vars];exact a,by rw[h.nm,h.vars]⟩
theorem SL.trans {E:GE}{c d:Nat}{s t u:GS}(h:SL E c s t) (k:SL E d t u):SL E (c+d) s u :=
 ⟨fun a=>k.at_ (h.at_ a),Kx k.left h.left,by have:=h.lo;have:=k.lo;omega,by have:=h.hi;have:=k.hi;omega,fun a=>k.vars (h.vars a),by have:=h.nm;have:=k.nm;omega⟩
theorem SL.refl {E:GE}{c:Nat}{s:GS}:SL E c s s:=EL.refl.sl
theorem SL.mono {E:GE}{c d:Nat}{s t:GS}(h:SL E c s t) (hcd:c≤d):SL E d s t:=⟨h.at_,h.left,by have:=h.lo;omega,h.hi,h.vars,h.nm⟩
theorem SL.vradd {E:GE}{c:Nat}{s t:GS}{x:Bs}(h:SL E c s.vr t) (hv:s.vars<8):SL E c s (t.add x) :=
 ⟨h.at_,h.left,h.lo,h.hi,fun _=>h.vars (by show s.vars+1≤8;omega),by
  have h1:=h.nm;have h2:s.vr.vars=s.vars+1:=rfl;have h3:s.vr.names=s.names:=rfl;have h4:(t.add x).names.length=t.names.length+1:=by simp[GS.add]
  have h5:(t.add x).vars=t.vars:=rfl;rw[h2,h3] at h1
  rw[h4,h5];omega⟩
section
variable {E:GE}(hE:E.Ok)
include hE
theorem qB (s:GS):EL E 341 s (exG E 4 s).2:=exG_in hE 4 s
theorem ex3_in (s:GS):EL E 85 s (exG E 3 s).2:=exG_in hE 3 s
theorem fnsG_in (s:GS):EL E 0 s (tT E s).2∧(tT E s).1.params.length≤4:=by
 unfold tT
 split
 ·exact⟨(EL.nx.trans EL.nx).trans EL.nx,hE.parD _⟩
 ·exact⟨EL.nx.trans EL.nx,hE.parD _⟩
theorem stG_in {rec:GS→List St×GS}(hr:∀s,SL E 0 s (rec s).2) (deep k:Nat) (s:GS):SL E 1000 s (stG E rec deep k s).2:=by
 unfold stG
 split
 ·next h=>exact ((qB hE s.vr).sl.mono (by omega)).vradd h.2
 split
 ·exact ((EL.nx (s:=s)).trans (qB hE _)).sl.mono (by omega)
 split
 ·exact ((ex3_in hE s).trans (qB hE _)).sl.mono (by omega)
 split
 ·have h1:=(ex3_in hE s).sl.trans (hr (exG E 3 s).2);unfold ifG
  split
  ·exact ((h1.trans EL.nx.sl).trans (hr _)).mono (by omega)
  ·exact (h1.trans EL.nx.sl).mono (by omega)
 split
 ·next h=>exact ((EL.nx.sl.trans (hr _)).mono (by omega)).vradd h.2.2
 split
 ·split<;>exact ((EL.nx (s:=s)).trans (qB hE _)).sl.mono (by omega)
 split
 ·exact (((fnsG_in hE s).1).trans (callG_in (exG_in hE 2) (fnsG_in hE s).2 _)).sl.mono (by decide)
 ·exact (qB hE s).sl.mono (by omega)
theorem lf_in {rec:GS→List St×GS}(hr:∀s,SL E 0 s (rec s).2) (deep:Nat) (s:GS) (h:s.left≠0):SL E 0 s (stG E rec deep (s.lf.v E 12) (s.lf.nx E)).2:=by
 have h1:=stG_in hE hr deep (s.lf.v E 12) (s.lf.nx E);have h2:=(EL.nx (E:=E) (s:=s.lf)).sl.trans h1;refine⟨h2.at_,Kx h2.left (by show s.left-1≤s.left;omega),?_,h2.hi,h2.vars,h2.nm⟩;have h3:=h2.lo;have h4:s.lf.left=s.left-1:=rfl;have h5:s.lf.nodes=s.nodes:=rfl;rw[h4,h5] at h3;omega
theorem blG_in {rec:GS→List St×GS}(hr:∀s,SL E 0 s (rec s).2) (deep:Nat):∀(n:Nat) (acc:List St) (s:GS),SL E 0 s (blG E rec deep n acc s).2
 | 0,_,_=>SL.refl
 | n+1,acc,s=>by
  unfold blG
  split
  ·exact SL.refl
  ·next h=>exact (lf_in hE hr deep s h).trans (blG_in hr deep n _ _)
theorem stsG_in:∀(r:Nat) (s:GS),SL E 0 s (stsG E r s).2
 | 0,s=>(EL.nx (E:=E) (s:=s)).sl.trans (blG_in hE (fun _=>SL.refl) 4 _ _ _)
 | r+1,s=>(EL.nx (E:=E) (s:=s)).sl.trans (blG_in hE (stsG_in r) _ _ _ _)
end
end Go.Proofs.YtfpkpnkdnammnaaGreatDoor
