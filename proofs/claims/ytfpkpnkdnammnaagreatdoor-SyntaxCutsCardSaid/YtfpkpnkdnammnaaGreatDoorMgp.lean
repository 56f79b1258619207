import Derived.Test.YtfpkpnkdnammnaaGreatDoorMgY
import Derived.Test.YtfpkpnkdnammnaaGreatDoorMgk
import Derived.Test.YtfpkpnkdnammnaaGreatDoorMgN
namespace Go.Proofs.YtfpkpnkdnammnaaGreatDoor
def nL:Nat→Int
 | 0=>0
 | d+1=>-3*(d:Int)
theorem nL_step (d:Nat):nL (d+2)=nL (d+1)-3:=by simp only[nL];omega
theorem nL_le (d:Nat):nL d≤0:=by cases d<;>simp only[nL]<;>omega
def Fit (E:GE) (fs:List Fn):Prop:=∀i,i<E.fs.length→¬tG fs (E.fs.getD i wJ).name<0∧(fs.getD (tG fs (E.fs.getD i wJ).name).toNat noFn).params.length=(E.fs.getD i wJ).params.length∧(E.fs.getD i wJ).params.length≤4
structure EK (fs:List Fn) (nm:List Bs) (d:Nat) (s:GS) (r:Ex×GS):Prop where
 ok:rkE fs nm r.1=0
 nme:r.2.names=s.names
 vr:r.2.vars=s.vars
 lf:r.2.left=s.left
 dp:exD r.1≤d
 nn:(exN r.1:Int)=s.nodes-r.2.nodes
 lo:min s.nodes (nL d+1)-1≤r.2.nodes
structure KK (fs:List Fn) (nm:List Bs) (d n:Nat) (s:GS) (acc:List Ex) (r:List Ex×GS):Prop where
 ok:rkEs fs nm r.1=0
 nme:r.2.names=s.names
 vr:r.2.vars=s.vars
 lf:r.2.left=s.left
 dp:exDs r.1≤d
 nn:(exNs r.1:Int)=exNs acc+(s.nodes-r.2.nodes)
 lo:min s.nodes (nL d+1)-n≤r.2.nodes
 ln:r.1.length=acc.length+n
structure BK' (fs:List Fn) (nm:List Bs) (D:Nat) (low:Int) (s:GS) (r:Ex×GS):Prop where
 ok:rkE fs nm r.1=0
 nme:r.2.names=s.names
 vr:r.2.vars=s.vars
 lf:r.2.left=s.left
 dp:exD r.1≤D
 nn:(exN r.1:Int)=1+(s.nodes-r.2.nodes)
 lo:low≤r.2.nodes
def NmI (s:GS) (nm:List Bs):Prop:=∀x∈s.names,x∈nm
theorem NmI.of {s t:GS}{nm:List Bs}(h:NmI s nm) (e:t.names=s.names):NmI t nm:=fun x hx=>h x (e▸hx)
theorem rk_leaf {fs:List Fn}{nm:List Bs}{k n:Nat}{s:Bs}(h2:k≠2) (h3:k≠3):rkE fs nm (.mk k n s [])=0:=by
 rw[rkE,Ko (by simp[h2]),Ko (by simp[h3]),Ko (by simp[h3]),rkEs]
theorem rk_node {fs:List Fn}{nm:List Bs}{k n:Nat}{s:Bs}{l:List Ex}(h2:k≠2) (h3:k≠3) (h:rkEs fs nm l=0):rkE fs nm (.mk k n s l)=0:=by
 rw[rkE,Ko (by simp[h2]),Ko (by simp[h3]),Ko (by simp[h3]),h]
theorem rk_name {fs:List Fn}{nm:List Bs}{s:Bs}(h:s∈nm):rkE fs nm (.mk 2 0 s [])=0:=by
 rw[rkE,Ko (by simp[h]),Ko (by simp),Ko (by simp),rkEs]
theorem rkEs_one {fs:List Fn}{nm:List Bs}{x:Ex}(h:rkE fs nm x=0):rkEs fs nm [x]=0:=by simp only[rkEs,h];rfl
theorem rkEs_two {fs:List Fn}{nm:List Bs}{x y:Ex}(h:rkE fs nm x=0) (k:rkE fs nm y=0):rkEs fs nm [x,y]=0:=by simp only[rkEs,h,k];rfl
theorem rkEs_snoc {fs:List Fn}{nm:List Bs}{x:Ex}:∀{l:List Ex},rkEs fs nm l=0→rkE fs nm x=0→rkEs fs nm (l++[x])=0
 | [],_,h=>rkEs_one h
 | y::l,hl,h=>by
  rw[List.cons_append,rkEs];rw[rkEs] at hl;unfold orE at *
  by_cases hy:rkE fs nm y=0
  ·simp only[hy,ne_eq,not_true,if_false] at *;exact rkEs_snoc hl h
  ·simp[hy] at hl
variable {E:GE}{fs:List Fn}{nm:List Bs}
theorem kids_k {rec:GS→Ex×GS}{d:Nat}(hr:∀s,NmI s nm→EK fs nm d s (rec s)):∀(n:Nat) (acc:List Ex) (s:GS),NmI s nm→rkEs fs nm acc=0→exDs acc≤d→KK fs nm d n s acc (uK rec n acc s)
 | 0,acc,s,hs,h,hd=>⟨h,rfl,rfl,rfl,hd,by show (exNs acc:Int)=exNs acc+(s.nodes-s.nodes);omega,by show min s.nodes (nL d+1)-(0:Nat)≤s.nodes;omega,rfl⟩
 | n+1,acc,s,hs,h,hd=>by
  have h1:=hr s hs
  have h2:=kids_k hr n (acc++[(rec s).1]) (rec s).2 (hs.of h1.nme) (rkEs_snoc h h1.ok) (by
   rw[qW];have:=h1.dp;simp only[exDs];omega)
  have e:uK rec (n+1) acc s=uK rec n (acc++[(rec s).1]) (rec s).2:=rfl;rw[e];refine⟨h2.ok,h2.nme.trans h1.nme,h2.vr.trans h1.vr,h2.lf.trans h1.lf,h2.dp,?_,?_,by rw[h2.ln,Ji];simp;omega⟩
  ·have a1:=h2.nn;have a2:=h1.nn;rw[uP] at a1;simp only[exNs] at a1;omega
  ·have a1:=h2.lo;have a2:=h1.lo;omega
theorem call_k {rec:GS→Ex×GS}{d:Nat}(hr:∀s,NmI s nm→EK fs nm d s (rec s)) (hF:Fit E fs) {i:Nat}(hi:i<E.fs.length) {s:GS}(hs:NmI s nm):BK' fs nm (d+1) (min s.nodes (nL d+1)-4) s (tC rec (E.fs.getD i wJ) s):=by
 obtain⟨f1,f2,f3⟩:=hF i hi;generalize E.fs.getD i wJ=f at f1 f2 f3;have h:=kids_k hr f.params.length [] s hs (by simp only[rkEs]) (by simp only[exDs];omega);have hl:=h.ln;refine⟨?_,h.nme,h.vr,h.lf,?_,?_,?_⟩
 ·show rkE fs nm (.mk 3 0 f.name (uK rec f.params.length [] s).1)=0;rw[rkE,Ko (by simp),Ko (by simp only[true_and];exact f1),Ko (by rw[hl,f2];simp),h.ok]
 ·show exD (.mk 3 0 f.name (uK rec f.params.length [] s).1)≤d+1;have:=h.dp;simp only[exD];omega
 ·show (exN (.mk 3 0 f.name (uK rec f.params.length [] s).1):Int)=1+(s.nodes-(uK rec f.params.length [] s).2.nodes);have:=h.nn;simp only[exN,exNs] at this ⊢;omega
 ·have:=h.lo;show _≤(uK rec f.params.length [] s).2.nodes;omega
theorem fnG_at (h:E.me+1<E.fs.length) (s:GS):∃i,i<E.fs.length∧fnG E s=E.fs.getD i wJ:=by
 have:=wU E.l s.at_ (show 0<E.fs.length-E.me-1 by omega);exact⟨E.me+1+s.v E (E.fs.length-E.me-1),by show E.me+1+nxV E.l s.at_ (E.fs.length-E.me-1)<E.fs.length;omega,rfl⟩
theorem leaf_k {rec:GS→Ex×GS}{k:Nat}(hk:k≤3) {s:GS}(hs:NmI s nm):BK' fs nm 1 s.nodes s (tD E rec k s):=by
 unfold tD
 split
 ·next h =>
  refine⟨rk_name (hs _ (getD_in (wU _ _ h.2) _)),rfl,rfl,rfl,?_,?_,Int.le_refl _⟩
  ·simp only[exD,exDs];omega
  ·simp only[exN,exNs];show ((1+0:Nat):Int)=1+(s.nodes-s.nodes);omega
 split
 ·refine⟨rk_leaf (by omega) (by omega),rfl,rfl,rfl,?_,?_,Int.le_refl _⟩
  ·simp only[exD,exDs];omega
  ·simp only[exN,exNs];omega
 rw[Ko (by omega),Ko (by omega),Ko (by omega),Ko (by omega)];refine⟨rk_leaf (by omega) (by omega),rfl,rfl,rfl,?_,?_,Int.le_refl _⟩
 ·simp only[conG,exD,exDs];omega
 ·simp only[conG,exN,exNs];show ((1+0:Nat):Int)=1+(s.nodes-s.nodes);omega
theorem node_k (hF:Fit E fs) {rec:GS→Ex×GS}{d:Nat}(hd:1≤d) (hr:∀s,NmI s nm→EK fs nm d s (rec s)) {k:Nat}{s:GS}(hs:NmI s nm) (hn:1≤s.nodes):BK' fs nm (d+1) (nL d-3) s (tD E rec k s):=by
 have hL:=nL_le d
 by_cases hk:k≤3
 ·have h:=leaf_k (E:=E) (fs:=fs) (rec:=rec) hk hs;exact⟨h.ok,h.nme,h.vr,h.lf,Kx h.dp (by omega),h.nn,by have:=h.lo;omega⟩
 unfold tD;rw[Ko (by omega),Ko (by omega)]
 split
 ·have h:=hr s hs;have a1:=h.dp;have a2:=h.nn;have a3:=h.lo;refine⟨rk_node (by omega) (by omega) (rkEs_one h.ok),h.nme,h.vr,h.lf,?_,?_,?_⟩
  ·simp only[exD,exDs];omega
  ·simp only[exN,exNs];omega
  ·show _≤(rec s).2.nodes;omega
 split
 ·have h:=hr (s.nx E) hs;have a1:=h.dp;have a2:=h.nn;have a3:=h.lo;have e:(s.nx E).nodes=s.nodes:=rfl;refine⟨rk_node (by omega) (by omega) (rkEs_one h.ok),h.nme,h.vr,h.lf,?_,?_,?_⟩
  ·simp only[exD,exDs];omega
  ·simp only[exN,exNs];omega
  ·show _≤(rec (s.nx E)).2.nodes;omega
 split
 ·next h7 =>
  obtain⟨i,hi,e⟩:=fnG_at h7.2 s;rw[e];have h:=call_k hr hF hi (s:=s.nx E) hs;have e2:(s.nx E).nodes=s.nodes:=rfl;exact⟨h.ok,h.nme,h.vr,h.lf,h.dp,by have:=h.nn;omega,by have:=h.lo;omega⟩
 split
 ·have h:=hr (s.nx E) hs;have h2:=hr (rec (s.nx E)).2 (NmI.of (s:=s) hs h.nme);have a1:=h.dp;have a2:=h.nn;have a3:=h.lo;have b1:=h2.dp;have b2:=h2.nn;have b3:=h2.lo;have e:(s.nx E).nodes=s.nodes:=rfl;refine⟨rk_node (by omega) (by omega) (rkEs_two h.ok h2.ok),h2.nme.trans h.nme,h2.vr.trans h.vr,h2.lf.trans h.lf,?_,?_,?_⟩
  ·simp only[exD,exDs];omega
  ·simp only[exN,exNs];omega
  ·show _≤(rec (rec (s.nx E)).2).2.nodes;omega
 ·refine⟨rk_leaf (by omega) (by omega),rfl,rfl,rfl,?_,?_,?_⟩
  ·simp only[conG,exD,exDs];omega
  ·simp only[conG,exN,exNs];show ((1+0:Nat):Int)=1+(s.nodes-s.nodes);omega
  ·show _≤s.nodes;omega
theorem exK_le' {d:Nat}{s:GS}(h:d≤1∨s.nodes-1<1):exKG E d s≤3:=by
 unfold exKG;rw[Kp h];omega
theorem up_leaf {d:Nat}(hd:1≤d) {s:GS}{r:Ex×GS}(h:BK' fs nm 1 (s.dn.nx E).nodes (s.dn.nx E) r):EK fs nm d s r:=by
 have hL:=nL_le d;have a1:=h.nn;have a2:=h.lo;have e:(s.dn.nx E).nodes=s.nodes-1:=rfl;exact⟨h.ok,h.nme,h.vr,h.lf,Kx h.dp hd,by omega,by omega⟩
theorem ex_k (hF:Fit E fs):∀(d:Nat) (s:GS),NmI s nm→EK fs nm (max d 1) s (exG E d s)
 | 0,s,hs=>up_leaf (d:=1) (Km _) (leaf_k (exK_le' (.inl (Kl _))) (s:=s.dn.nx E) hs)
 | 1,s,hs=>up_leaf (d:=1) (Km _) (leaf_k (exK_le' (.inl (Km 1))) (s:=s.dn.nx E) hs)
 | d+2,s,hs=>by
  rw[show max (d+2) 1=d+2 by omega]
  by_cases hn:s.nodes-1<1
  ·exact up_leaf (by omega) (leaf_k (exK_le' (.inr hn)) (s:=s.dn.nx E) hs)
  ·have ih:=ex_k hF (d+1);rw[show max (d+1) 1=d+1 by omega] at ih;have h:=node_k hF (by omega) ih (k:=exKG E (d+2) s) (s:=s.dn.nx E) hs (by show 1≤s.nodes-1;omega);have a1:=h.nn;have a2:=h.lo;have e:(s.dn.nx E).nodes=s.nodes-1:=rfl;have hs:=nL_step d;exact⟨h.ok,h.nme,h.vr,h.lf,h.dp,by show (exN (tD E (exG E (d+1)) (exKG E (d+2) s) (s.dn.nx E)).1:Int)=_;show _=s.nodes-(tD E (exG E (d+1)) (exKG E (d+2) s) (s.dn.nx E)).2.nodes;omega,by show _≤(tD E (exG E (d+1)) (exKG E (d+2) s) (s.dn.nx E)).2.nodes;omega⟩
end Go.Proofs.YtfpkpnkdnammnaaGreatDoor
namespace Go.Proofs.YtfpkpnkdnammnaaGreatDoor
structure SK (fs:List Fn) (P:List Bs) (D e:Nat) (s:GS) (r:List St×GS):Prop where
 ok:rkB fs r.1 (P++qR.take s.vars)=(P++qR.take r.2.vars,0)
 nm:NmI r.2 (P++qR.take r.2.vars)
 v2:r.2.vars≤8
 vs:stVs r.1+s.vars=r.2.vars
 lf:r.2.left≤s.left
 dp:stDps r.1≤D
 xd:stXds r.1≤4
 nn:(stNs r.1:Int)≤s.nodes-r.2.nodes+9*((s.left:Int)+e-r.2.left)
 lo:min s.nodes (-8)-4*((s.left:Int)+e-r.2.left)≤min r.2.nodes (-8)
variable {E:GE}{fs:List Fn}{P:List Bs}
theorem SK.app {D e1 e2:Nat}{s s1 s2:GS}{a b:List St}(h:SK fs P D e1 s (a,s1)) (k:SK fs P D e2 s1 (b,s2)):SK fs P D (e1+e2) s (a++b,s2):=by
 obtain⟨a1,a2,a3,a4,a5,a6,a7,a8,a9⟩:=h;obtain⟨b1,b2,b3,b4,b5,b6,b7,b8,b9⟩:=k;dsimp only at *;refine⟨?_,b2,b3,?_,?_,?_,?_,?_,?_⟩
 ·dsimp only;rw[rkB_app,a1];simpa using b1
 ·dsimp only;rw[rB];omega
 ·dsimp only;omega
 ·dsimp only;rw[stDps_app];omega
 ·dsimp only;rw[stXds_app];omega
 ·dsimp only;rw[sB];omega
 ·dsimp only;omega
theorem SK.up {D D' e:Nat}{s:GS}{r:List St×GS}(h:SK fs P D e s r) (hd:D≤D'):SK fs P D' e s r:=⟨h.ok,h.nm,h.v2,h.vs,h.lf,Kx h.dp hd,h.xd,h.nn,h.lo⟩
end Go.Proofs.YtfpkpnkdnammnaaGreatDoor
namespace Go.Proofs.YtfpkpnkdnammnaaGreatDoor
variable {E:GE}{fs:List Fn}{P:List Bs}
theorem fns_at (h:E.me+1<E.fs.length) (s:GS):∃i,i<E.fs.length∧(tT E s).1=E.fs.getD i wJ∧(tT E s).2.names=s.names∧(tT E s).2.vars=s.vars∧(tT E s).2.left=s.left∧(tT E s).2.nodes=s.nodes:=by
 unfold tT
 split
 ·have:=wU E.l ((s.nx E).nx E).at_ (show 0<E.fs.length-1 by omega);exact⟨1+((s.nx E).nx E).v E (E.fs.length-1),by show 1+nxV E.l ((s.nx E).nx E).at_ (E.fs.length-1)<E.fs.length;omega,rfl,rfl,rfl,rfl,rfl⟩
 ·obtain⟨i,hi,e⟩:=fnG_at h s;exact⟨i,hi,e,rfl,rfl,rfl,rfl⟩
theorem par_free:∀n,n<5→rkP [] (rW.take n)=0∧(rW.take n).length≤4∧∀x∈rW.take n,x∈rW:=by decide
def HdK (l:List Fn):Prop:=∀(i:Nat) (f:Fn),l[i]? = some f→f.name=sD.getD i []∧∃n,n<5∧(i=0→n=0)∧f.params=rW.take n
theorem HdK.snoc {l:List Fn}(h:HdK l) {f:Fn}(h1:f.name=sD.getD l.length []) (h2:∃n,n<5∧(l.length=0→n=0)∧f.params=rW.take n):HdK (l++[f]):=fun i g hg=>by
 rcases Nat.lt_or_ge i l.length with hi|hi
 ·rw[List.getElem?_append_left hi] at hg;exact h i g hg
 ·rw[List.getElem?_append_right hi] at hg
  have:i=l.length:=by
   have:=(Jm.1 hg).1;simp at this;omega
  subst this;simp at hg;subst hg;exact⟨h1,h2⟩
theorem hd_k (l:List Int):∀(n:Nat) (acc:List Fn) (a:Nat),HdK acc→HdK (hdG l n acc a).1
 | 0,_,_,h=>h
 | n+1,acc,a,h=>by
  unfold hdG
  split
  ·next h0=>exact hd_k l n _ a (h.snoc rfl ⟨0,by omega,fun _=>rfl,rfl⟩)
  ·next h0=>exact hd_k l n _ _ (h.snoc rfl ⟨nxV l a 5,wU _ _ (by omega),fun h=>absurd h h0,rfl⟩)
theorem bd_k (l:List Int) (hs:List Fn) (hh:HdK hs):∀(n:Nat) (acc:List Fn) (a:Nat),acc.length+n≤hs.length→(∀(i:Nat) (f:Fn),acc[i]? = some f→∃(h:Fn) (a:Nat),hs[i]? = some h∧f=⟨h.name,h.params,(stsG ⟨l,hs,i⟩ 3 ⟨a,8,150,0,h.params⟩).1⟩)→(∀(i:Nat) (f:Fn),(bdG l hs n acc a).1[i]? = some f→∃(h:Fn) (a:Nat),hs[i]? = some h∧f=⟨h.name,h.params,(stsG ⟨l,hs,i⟩ 3 ⟨a,8,150,0,h.params⟩).1⟩)∧(bdG l hs n acc a).1.length=acc.length+n
 | 0,acc,a,_,h=>⟨h,rfl⟩
 | n+1,acc,a,hl,h=>by
  unfold bdG;dsimp only
  have hat:hs[acc.length]? = some (hs.getD acc.length wJ):=by
   have:acc.length<hs.length:=by omega
   rw[Ka,Jt this];rfl
  have:=bd_k l hs hh n (acc++[⟨(hs.getD acc.length wJ).name,(hs.getD acc.length wJ).params,(stsG ⟨l,hs,acc.length⟩ 3 ⟨a,8,150,0,(hs.getD acc.length wJ).params⟩).1⟩]) (stsG ⟨l,hs,acc.length⟩ 3 ⟨a,8,150,0,(hs.getD acc.length wJ).params⟩).2.at_ (by simp;omega) (fun i f hf=>by
   rcases Nat.lt_or_ge i acc.length with hi|hi
   ·rw[List.getElem?_append_left hi] at hf;exact h i f hf
   ·rw[List.getElem?_append_right hi] at hf
    have:i=acc.length:=by
     have:=(Jm.1 hf).1;simp at this;omega
    subst this;simp at hf
    exact⟨_,a,hat,hf.symm⟩)
  exact⟨this.1,by rw[this.2];simp;omega⟩
theorem fnn_new:∀i,i<4→∀j,j<i→sD.getD j []≠sD.getD i []:=by decide
theorem fidx_at {fs:List Fn}(hn:∀i f,fs[i]? = some f→f.name=sD.getD i []) (hl:fs.length≤4) {i:Nat}(hi:i<fs.length):tG fs (sD.getD i [])=(i:Nat) :=
 idxQ_at (k:=i) (x:=fs[i]) ⟨by omega,fun j x hj hx=>Kw (by rw[hn j x hx];exact fnn_new i (by omega) j hj)⟩ (Jt hi) (Kv (hn i _ (Jt hi)))
end Go.Proofs.YtfpkpnkdnammnaaGreatDoor
