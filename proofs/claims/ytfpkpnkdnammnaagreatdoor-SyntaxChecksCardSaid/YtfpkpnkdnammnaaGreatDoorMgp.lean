/- A made expression passes the check. -/
import Derived.Test.YtfpkpnkdnammnaaGreatDoorMgY
import Derived.Test.YtfpkpnkdnammnaaGreatDoorMgk
import Derived.Test.YtfpkpnkdnammnaaGreatDoorMgN
import Derived.Test.YtfpkpnkdnammnaaGreatDoorMgl
namespace Go.Proofs.YtfpkpnkdnammnaaGreatDoor
def nL:Nat→Int
 | 0=>0
 | d+1=>-3*(d:Int)
theorem nL_step (d:Nat):nL (d+2)=nL (d+1)-3:=by simp only[nL];omega
theorem nL_le (d:Nat):nL d≤0:=by cases d<;>simp only[nL]<;>omega
/-- The heads that the program has. -/
def Fit (E:GE) (fs:List Fn):Prop:=∀i,i<E.fs.length→¬vW fs (E.fs.getD i wJ).name<0∧(fs.getD (vW fs (E.fs.getD i wJ).name).toNat sH).params.length=(E.fs.getD i wJ).params.length∧(E.fs.getD i wJ).params.length≤4
/-- What holds of an expression that was made. -/
structure EK (fs:List Fn) (nm:List Bs) (d:Nat) (s:GS) (r:Ex×GS):Prop where
 ok:rkE fs nm r.1=0
 nme:r.2.names=s.names
 vr:r.2.vars=s.vars
 lf:r.2.left=s.left
 dp:exD r.1≤d
 nn:(exN r.1:Int)=s.nodes-r.2.nodes
 lo:min s.nodes (nL d+1)-1≤r.2.nodes
/-- The same of several. -/
structure KK (fs:List Fn) (nm:List Bs) (d n:Nat) (s:GS) (acc:List Ex) (r:List Ex×GS):Prop where
 ok:rkEs fs nm r.1=0
 nme:r.2.names=s.names
 vr:r.2.vars=s.vars
 lf:r.2.left=s.left
 dp:exDs r.1≤d
 nn:(exNs r.1:Int)=exNs acc+(s.nodes-r.2.nodes)
 lo:min s.nodes (nL d+1)-n≤r.2.nodes
 ln:r.1.length=acc.length+n
/-- The same of the inner part: k its choice, s behind the first step. -/
structure BK' (fs:List Fn) (nm:List Bs) (D:Nat) (low:Int) (s:GS) (r:Ex×GS):Prop where
 ok:rkE fs nm r.1=0
 nme:r.2.names=s.names
 vr:r.2.vars=s.vars
 lf:r.2.left=s.left
 dp:exD r.1≤D
 nn:(exN r.1:Int)=1+(s.nodes-r.2.nodes)
 lo:low≤r.2.nodes
def NmI (s:GS) (nm:List Bs):Prop:=∀x∈s.names,x∈nm
theorem NmI.of {s t:GS} {nm:List Bs} (h:NmI s nm) (e:t.names=s.names):NmI t nm:=fun x hx=>h x (e▸hx)
theorem rk_leaf {fs:List Fn} {nm:List Bs} {k n:Nat} {s:Bs} (h2:k≠2) (h3:k≠3):rkE fs nm (.mk k n s [])=0:=by
 rw[rkE,if_neg (by simp[h2]),if_neg (by simp[h3]),if_neg (by simp[h3]),rkEs]
theorem rk_node {fs:List Fn} {nm:List Bs} {k n:Nat} {s:Bs} {l:List Ex} (h2:k≠2) (h3:k≠3) (h:rkEs fs nm l=0):rkE fs nm (.mk k n s l)=0:=by
 rw[rkE,if_neg (by simp[h2]),if_neg (by simp[h3]),if_neg (by simp[h3]),h]
theorem rk_name {fs:List Fn} {nm:List Bs} {s:Bs} (h:s∈nm):rkE fs nm (.mk 2 0 s [])=0:=by
 rw[rkE,if_neg (by simp[h]),if_neg (by simp),if_neg (by simp),rkEs]
theorem uC {fs:List Fn} {nm:List Bs} {x:Ex} (h:rkE fs nm x=0):rkEs fs nm [x]=0:=by simp only[rkEs,h];rfl
theorem rkEs_two {fs:List Fn} {nm:List Bs} {x y:Ex} (h:rkE fs nm x=0) (k:rkE fs nm y=0):rkEs fs nm [x,y]=0:=by simp only[rkEs,h,k];rfl
theorem rkEs_snoc {fs:List Fn} {nm:List Bs} {x:Ex}:∀{l:List Ex},rkEs fs nm l=0→rkE fs nm x=0→rkEs fs nm (l++[x])=0
 | [],_,h=>uC h
 | y::l,hl,h=>by
  rw[List.cons_append,rkEs];rw[rkEs] at hl;unfold orE at *
  by_cases hy:rkE fs nm y=0
  ·simp only[hy,ne_eq,not_true,if_false] at *;exact rkEs_snoc hl h
  ·simp[hy] at hl
variable {E:GE} {fs:List Fn} {nm:List Bs}
theorem kids_k {rec:GS→Ex×GS} {d:Nat} (hr:∀s,NmI s nm→EK fs nm d s (rec s)):∀(n:Nat) (acc:List Ex) (s:GS),NmI s nm→rkEs fs nm acc=0→exDs acc≤d→KK fs nm d n s acc (tQ rec n acc s)
 | 0,acc,s,hs,h,hd=>⟨h,rfl,rfl,rfl,hd,by show (exNs acc:Int)=exNs acc+(s.nodes-s.nodes);omega,by show min s.nodes (nL d+1)-(0:Nat)≤s.nodes;omega,rfl⟩
 | n+1,acc,s,hs,h,hd=>by
  have h1:=hr s hs
  have h2:=kids_k hr n (acc++[(rec s).1]) (rec s).2 (hs.of h1.nme) (rkEs_snoc h h1.ok) (by
   rw[tI];have:=h1.dp;simp only[exDs];omega)
  have e:tQ rec (n+1) acc s=tQ rec n (acc++[(rec s).1]) (rec s).2:=rfl;rw[e];refine⟨h2.ok,h2.nme.trans h1.nme,h2.vr.trans h1.vr,h2.lf.trans h1.lf,h2.dp,?_,?_,by rw[h2.ln,List.length_append];simp;omega⟩
  ·have a1:=h2.nn;have a2:=h1.nn;rw[vK] at a1;simp only[exNs] at a1;omega
  ·have a1:=h2.lo;have a2:=h1.lo;omega
theorem call_k {rec:GS→Ex×GS} {d:Nat} (hr:∀s,NmI s nm→EK fs nm d s (rec s)) (hF:Fit E fs) {i:Nat} (hi:i<E.fs.length) {s:GS} (hs:NmI s nm):BK' fs nm (d+1) (min s.nodes (nL d+1)-4) s (tH rec (E.fs.getD i wJ) s):=by
 obtain⟨f1,f2,f3⟩:=hF i hi;generalize E.fs.getD i wJ=f at f1 f2 f3;have h:=kids_k hr f.params.length [] s hs (by simp only[rkEs]) (by simp only[exDs];omega);have hl:=h.ln;refine⟨?_,h.nme,h.vr,h.lf,?_,?_,?_⟩
 ·show rkE fs nm (.mk 3 0 f.name (tQ rec f.params.length [] s).1)=0;rw[rkE,if_neg (by simp),if_neg (by simp only[true_and];exact f1),if_neg (by rw[hl,f2];simp),h.ok]
 ·show exD (.mk 3 0 f.name (tQ rec f.params.length [] s).1)≤d+1;have:=h.dp;simp only[exD];omega
 ·show (exN (.mk 3 0 f.name (tQ rec f.params.length [] s).1):Int)=1+(s.nodes-(tQ rec f.params.length [] s).2.nodes);have:=h.nn;simp only[exN,exNs] at this ⊢;omega
 ·have:=h.lo;show _≤(tQ rec f.params.length [] s).2.nodes;omega
theorem fnG_at (h:E.me+1<E.fs.length) (s:GS):∃i,i<E.fs.length∧fnG E s=E.fs.getD i wJ:=by
 have:=wP E.l s.at_ (show 0<E.fs.length-E.me-1 by omega);exact⟨E.me+1+s.v E (E.fs.length-E.me-1),by show E.me+1+nxV E.l s.at_ (E.fs.length-E.me-1)<E.fs.length;omega,rfl⟩
theorem leaf_k {rec:GS→Ex×GS} {k:Nat} (hk:k≤3) {s:GS} (hs:NmI s nm):BK' fs nm 1 s.nodes s (tL E rec k s):=by
 unfold tL
 split
 ·next h =>
  refine⟨rk_name (hs _ (getD_in (wP _ _ h.2) _)),rfl,rfl,rfl,?_,?_,Int.le_refl _⟩
  ·simp only[exD,exDs];omega
  ·simp only[exN,exNs];show ((1+0:Nat):Int)=1+(s.nodes-s.nodes);omega
 split
 ·refine⟨rk_leaf (by omega) (by omega),rfl,rfl,rfl,?_,?_,Int.le_refl _⟩
  ·simp only[exD,exDs];omega
  ·simp only[exN,exNs];omega
 rw[if_neg (by omega),if_neg (by omega),if_neg (by omega),if_neg (by omega)];refine⟨rk_leaf (by omega) (by omega),rfl,rfl,rfl,?_,?_,Int.le_refl _⟩
 ·simp only[conG,exD,exDs];omega
 ·simp only[conG,exN,exNs];show ((1+0:Nat):Int)=1+(s.nodes-s.nodes);omega
theorem node_k (hF:Fit E fs) {rec:GS→Ex×GS} {d:Nat} (hd:1≤d) (hr:∀s,NmI s nm→EK fs nm d s (rec s)) {k:Nat} {s:GS} (hs:NmI s nm) (hn:1≤s.nodes):BK' fs nm (d+1) (nL d-3) s (tL E rec k s):=by
 have hL:=nL_le d
 by_cases hk:k≤3
 ·have h:=leaf_k (E:=E) (fs:=fs) (rec:=rec) hk hs;exact⟨h.ok,h.nme,h.vr,h.lf,Nat.le_trans h.dp (by omega),h.nn,by have:=h.lo;omega⟩
 unfold tL;rw[if_neg (by omega),if_neg (by omega)]
 split
 ·have h:=hr s hs;have a1:=h.dp;have a2:=h.nn;have a3:=h.lo;refine⟨rk_node (by omega) (by omega) (uC h.ok),h.nme,h.vr,h.lf,?_,?_,?_⟩
  ·simp only[exD,exDs];omega
  ·simp only[exN,exNs];omega
  ·show _≤(rec s).2.nodes;omega
 split
 ·have h:=hr (s.nx E) hs;have a1:=h.dp;have a2:=h.nn;have a3:=h.lo;have e:(s.nx E).nodes=s.nodes:=rfl;refine⟨rk_node (by omega) (by omega) (uC h.ok),h.nme,h.vr,h.lf,?_,?_,?_⟩
  ·simp only[exD,exDs];omega
  ·simp only[exN,exNs];omega
  ·show _≤(rec (s.nx E)).2.nodes;omega
 split
 ·next h7 =>
  obtain⟨i,hi,e⟩:=fnG_at h7.2 s;rw[e];have h:=call_k hr hF hi (s:=s.nx E) hs;have e2:(s.nx E).nodes=s.nodes:=rfl;exact⟨h.ok,h.nme,h.vr,h.lf,h.dp,by have:=h.nn;omega,by have:=h.lo;omega⟩
 split
 ·have h:=hr (s.nx E) hs;have h2:=hr (rec (s.nx E)).2 (NmI.of (s:=s) hs h.nme);have a1:=h.dp;have a2:=h.nn;have a3:=h.lo;have b1:=h2.dp;have b2:=h2.nn;have b3:=h2.lo;have e:(s.nx E).nodes=s.nodes:=rfl;refine⟨rk_node (by omega) (by omega) (rkEs_two h.ok h2.ok),h2.nme.trans h.nme,h2.vr.trans h.vr,h2.lf.trans h.lf,?_,?_,?_⟩
  ·simp only[exD,exDs];omega
  ·simp only[exN,exNs];omega
  ·show _≤(rec (rec (s.nx E)).2).2.nodes;omega
 ·refine⟨rk_leaf (by omega) (by omega),rfl,rfl,rfl,?_,?_,?_⟩
  ·simp only[conG,exD,exDs];omega
  ·simp only[conG,exN,exNs];show ((1+0:Nat):Int)=1+(s.nodes-s.nodes);omega
  ·show _≤s.nodes;omega
theorem exK_le' {d:Nat} {s:GS} (h:d≤1∨s.nodes-1<1):exKG E d s≤3:=by
 unfold exKG;rw[if_pos h];omega
theorem up_leaf {d:Nat} (hd:1≤d) {s:GS} {r:Ex×GS} (h:BK' fs nm 1 (s.dn.nx E).nodes (s.dn.nx E) r):EK fs nm d s r:=by
 have hL:=nL_le d;have a1:=h.nn;have a2:=h.lo;have e:(s.dn.nx E).nodes=s.nodes-1:=rfl;exact⟨h.ok,h.nme,h.vr,h.lf,Nat.le_trans h.dp hd,by omega,by omega⟩
theorem ex_k (hF:Fit E fs):∀(d:Nat) (s:GS),NmI s nm→EK fs nm (max d 1) s (exG E d s)
 | 0,s,hs=>up_leaf (d:=1) (Nat.le_refl _) (leaf_k (exK_le' (.inl (Nat.zero_le _))) (s:=s.dn.nx E) hs)
 | 1,s,hs=>up_leaf (d:=1) (Nat.le_refl _) (leaf_k (exK_le' (.inl (Nat.le_refl 1))) (s:=s.dn.nx E) hs)
 | d+2,s,hs=>by
  rw[show max (d+2) 1=d+2 by omega]
  by_cases hn:s.nodes-1<1
  ·exact up_leaf (by omega) (leaf_k (exK_le' (.inr hn)) (s:=s.dn.nx E) hs)
  ·have ih:=ex_k hF (d+1);rw[show max (d+1) 1=d+1 by omega] at ih;have h:=node_k hF (by omega) ih (k:=exKG E (d+2) s) (s:=s.dn.nx E) hs (by show 1≤s.nodes-1;omega);have a1:=h.nn;have a2:=h.lo;have e:(s.dn.nx E).nodes=s.nodes-1:=rfl;have hs:=nL_step d;exact⟨h.ok,h.nme,h.vr,h.lf,h.dp,by show (exN (tL E (exG E (d+1)) (exKG E (d+2) s) (s.dn.nx E)).1:Int)=_;show _=s.nodes-(tL E (exG E (d+1)) (exKG E (d+2) s) (s.dn.nx E)).2.nodes;omega,by show _≤(tL E (exG E (d+1)) (exKG E (d+2) s) (s.dn.nx E)).2.nodes;omega⟩
end Go.Proofs.YtfpkpnkdnammnaaGreatDoor
/- A made block passes the check. -/
namespace Go.Proofs.YtfpkpnkdnammnaaGreatDoor
theorem fre_new:∀v,v<8→wO.getD v []∉wO.take v∧wO.getD v []∉uK:=by decide
theorem fre_take:∀v,v<8→wO.take (v+1)=wO.take v++[wO.getD v []]:=by decide
/-- What holds of statements that were made; e: how many more may have been. -/
structure SK (fs:List Fn) (P:List Bs) (D e:Nat) (s:GS) (r:List St×GS):Prop where
 ok:rkB fs r.1 (P++wO.take s.vars)=(P++wO.take r.2.vars,0)
 nm:NmI r.2 (P++wO.take r.2.vars)
 v2:r.2.vars≤8
 vs:stVs r.1+s.vars=r.2.vars
 lf:r.2.left≤s.left
 dp:stDps r.1≤D
 xd:stXds r.1≤4
 nn:(stNs r.1:Int)≤s.nodes-r.2.nodes+9*((s.left:Int)+e-r.2.left)
 lo:min s.nodes (-8)-4*((s.left:Int)+e-r.2.left)≤min r.2.nodes (-8)
theorem rkB_one (fs:List Fn) (x:St) (nm:List Bs):rkB fs [x] nm=rkS fs x nm:=by
 simp only[rkB]
 by_cases h:(rkS fs x nm).2=0
 ·simp only[h,ne_eq,not_true,if_false];rw[← h]
 ·simp[h]
variable {E:GE} {fs:List Fn} {P:List Bs}
theorem SK.app {D e1 e2:Nat} {s s1 s2:GS} {a b:List St} (h:SK fs P D e1 s (a,s1)) (k:SK fs P D e2 s1 (b,s2)):SK fs P D (e1+e2) s (a++b,s2):=by
 obtain⟨a1,a2,a3,a4,a5,a6,a7,a8,a9⟩:=h;obtain⟨b1,b2,b3,b4,b5,b6,b7,b8,b9⟩:=k;dsimp only at *;refine⟨?_,b2,b3,?_,?_,?_,?_,?_,?_⟩
 ·dsimp only;rw[rkB_app,a1];simpa using b1
 ·dsimp only;rw[uD];omega
 ·dsimp only;omega
 ·dsimp only;rw[stDps_app];omega
 ·dsimp only;rw[stXds_app];omega
 ·dsimp only;rw[uP];omega
 ·dsimp only;omega
theorem SK.up {D D' e:Nat} {s:GS} {r:List St×GS} (h:SK fs P D e s r) (hd:D≤D'):SK fs P D' e s r:=⟨h.ok,h.nm,h.v2,h.vs,h.lf,Nat.le_trans h.dp hd,h.xd,h.nn,h.lo⟩
theorem sk_nil {D:Nat} {s:GS} (hs:NmI s (P++wO.take s.vars)) (hv:s.vars≤8):SK fs P D 0 s ([],s):=by
 refine⟨by simp only[rkB],hs,hv,?_,Nat.le_refl _,?_,?_,?_,?_⟩
 ·simp only[stVs];omega
 ·simp only[stDps];omega
 ·simp only[stXds];omega
 ·simp only[stNs];omega
 ·dsimp only;omega
theorem rkS_deep {k:Nat} {s:Bs} {es:List Ex} {b c:List St} {nm nm1 nm2:List Bs} (h1:k≠1) (h2:k=2→s∈nm) (he:rkEs fs nm es=0) (hb:rkB fs b nm=(nm1,0)) (hc:rkB fs c nm1=(nm2,0)):rkS fs (.mk k s es b c) nm=(nm2,0):=by
 rw[rkS,if_neg (fun h=>h.2 (h2 h.1)),if_neg (fun h=>h1 h.1),if_neg (by rw[he];simp)];simp only[if_neg h1,hb,hc,ne_eq,not_true,if_false]
theorem rkB_nil (nm:List Bs):rkB fs [] nm=(nm,0):=by simp only[rkB]
theorem rkS_flat {k:Nat} {s:Bs} {es:List Ex} {nm:List Bs} (h1:k≠1) (h2:k=2→s∈nm) (he:rkEs fs nm es=0):rkS fs (.mk k s es [] []) nm=(nm,0):=rkS_deep h1 h2 he (rkB_nil _) (rkB_nil _)
theorem sk_one {k:Nat} {x:Bs} {es:List Ex} {D:Nat} {t u:GS} (hD:1≤D) (hk:k≠1) (h2:k=2→x∈P++wO.take t.vars) (he:rkEs fs (P++wO.take t.vars) es=0) (hd:exDs es≤4) (e1:u.names=t.names) (e2:u.vars=t.vars) (e3:u.left=t.left) (hn:(exNs es:Int)≤t.nodes-u.nodes+1) (hl:min t.nodes (-8)-4≤min u.nodes (-8)) (hs:NmI t (P++wO.take t.vars)) (hv:t.vars≤8):SK fs P D 1 t ([.mk k x es [] []],u):=by
 refine⟨?_,?_,?_,?_,?_,?_,?_,?_,?_⟩
 ·dsimp only;rw[rkB_one,rkS_flat hk h2 he,e2]
 ·dsimp only;rw[e2];exact hs.of e1
 ·dsimp only;omega
 ·simp only[stVs,stV,if_neg hk];omega
 ·dsimp only;omega
 ·simp only[stDps,stDp];omega
 ·simp only[stXds,stXd];omega
 ·simp only[stNs,stN];omega
 ·dsimp only;omega
theorem par_new {v:Nat} (hP:∀x∈P,x∈uK) (hv:v<8):wO.getD v []∉P++wO.take v:=fun h=>by
 rcases List.mem_append.1 h with h|h
 ·exact (fre_new v hv).2 (hP _ h)
 ·exact (fre_new v hv).1 h
theorem nm_next {v:Nat} (hv:v<8):P++wO.take v++[wO.getD v []]=P++wO.take (v+1):=by rw[fre_take v hv,List.append_assoc]
theorem rkS_var {v:Nat} (hP:∀x∈P,x∈uK) (hv:v<8) {es:List Ex} (he:rkEs fs (P++wO.take v) es=0):rkS fs (.mk 1 (wO.getD v []) es [] []) (P++wO.take v)=(P++wO.take (v+1),0):=by
 rw[rkS,if_neg (by simp),if_neg (fun h=>par_new hP hv h.2),if_neg (by rw[he];simp)];simp only[if_true,nm_next hv,rkB_nil,ne_eq,not_true,if_false]
theorem nm_mono {v w:Nat} (h:v≤w) {x:Bs} (hx:x∈P++wO.take v):x∈P++wO.take w:=by
 rcases List.mem_append.1 hx with hx|hx
 ·exact List.mem_append_left _ hx
 ·exact List.mem_append_right _ (List.take_subset_take_left _ h hx)
theorem fr_mem {v:Nat} (hv:v<8):wO.getD v []∈P++wO.take (v+1):=by
 rw[← nm_next hv];exact List.mem_append_right _ (List.mem_singleton.2 V)
/-- What makes a block. -/
def SR (fs:List Fn) (P:List Bs) (D:Nat) (rec:GS→List St×GS):Prop:=∀s,NmI s (P++wO.take s.vars)→s.vars≤8→SK fs P D 0 s (rec s)
theorem if_k {rec:GS→List St×GS} {D:Nat} (hr:SR fs P D rec) {e:Ex} {t s:GS} (hs:NmI t (P++wO.take t.vars)) (hv:t.vars≤8) (he:EK fs (P++wO.take t.vars) 3 t (e,s)):SK fs P (D+1) 1 t (ifG E rec e s):=by
 obtain⟨c1,c2,c3,c4,c5,c6,c7⟩:=he;dsimp only at *;have h3:nL 3=-6:=rfl;have hs1:NmI s (P++wO.take s.vars):=by rw[c3];exact hs.of c2
 obtain⟨a1,a2,a3,a4,a5,a6,a7,a8,a9⟩:=hr s hs1 (by omega);rw[c3] at a1;unfold ifG
 split
 ·obtain⟨b1,b2,b3,b4,b5,b6,b7,b8,b9⟩:=hr ((rec s).2.nx E) a2 a3;have n1:((rec s).2.nx E).vars=(rec s).2.vars:=rfl;have n2:((rec s).2.nx E).left=(rec s).2.left:=rfl;have n3:((rec s).2.nx E).nodes=(rec s).2.nodes:=rfl;rw[n1] at b1 b4;rw[n2] at b5 b8 b9;rw[n3] at b8 b9;generalize rec ((rec s).2.nx E)=r2 at *;generalize rec s=r1 at *;refine⟨?_,b2,b3,?_,?_,?_,?_,?_,?_⟩
  ·dsimp only;rw[rkB_one,rkS_deep (by omega) (fun h=>absurd h (by omega)) (uC c1) a1 b1]
  ·simp only[stVs,stV,if_neg (show ¬(4=1) by omega)];omega
  ·dsimp only;omega
  ·simp only[stDps,stDp];omega
  ·simp only[stXds,stXd,exDs];omega
  ·simp only[stNs,stN,exNs];omega
  ·dsimp only;omega
 ·have n1:((rec s).2.nx E).vars=(rec s).2.vars:=rfl;have n2:((rec s).2.nx E).left=(rec s).2.left:=rfl;have n3:((rec s).2.nx E).nodes=(rec s).2.nodes:=rfl;refine⟨?_,a2,a3,?_,?_,?_,?_,?_,?_⟩
  ·dsimp only;rw[rkB_one,rkS_deep (by omega) (fun h=>absurd h (by omega)) (uC c1) a1 (rkB_nil _),n1]
  ·simp only[stVs,stV,if_neg (show ¬(4=1) by omega)];omega
  ·dsimp only;omega
  ·simp only[stDps,stDp];omega
  ·simp only[stXds,stXd,exDs];omega
  ·simp only[stNs,stN,exNs];omega
  ·dsimp only;omega
theorem wh_k (hP:∀x∈P,x∈uK) {rec:GS→List St×GS} {D:Nat} (hr:SR fs P D rec) {s:GS} (hs:NmI s (P++wO.take s.vars)) (hv:s.vars<8):SK fs P (max D 1+1) 1 s (whG E rec (frG s) s.vr):=by
 have hs1:NmI (s.vr.nx E) (P++wO.take (s.vr.nx E).vars):=fun x hx=>nm_mono (Nat.le_succ _) (hs x hx);have hv1:(s.vr.nx E).vars=s.vars+1:=rfl;obtain⟨a1,a2,a3,a4,a5,a6,a7,a8,a9⟩:=hr (s.vr.nx E) hs1 (by rw[hv1];omega);have n2:(s.vr.nx E).left=s.left:=rfl;have n3:(s.vr.nx E).nodes=s.nodes:=rfl;rw[hv1] at a1 a4;rw[n2] at a5 a8 a9;rw[n3] at a8 a9;have hf:frG s=wO.getD s.vars []:=rfl;unfold whG;rw[hf];generalize rec (s.vr.nx E)=r at *;have hm:wO.getD s.vars []∈P++wO.take r.2.vars:=nm_mono (show s.vars+1≤r.2.vars by omega) (fr_mem hv);refine⟨?_,?_,a3,?_,?_,?_,?_,?_,?_⟩
 ·dsimp only;have e1:=rkS_var (fs:=fs) hP hv (es:=[.mk 1 (s.vr.v E 5) [] []]) (uC (rk_leaf (by omega) (by omega)))
  have e2:rkB fs (r.1++[.mk 2 (wO.getD s.vars []) [.mk 7 0 [45] [.mk 2 0 (wO.getD s.vars []) [],.mk 1 1 [] []]] [] []]) (P++wO.take (s.vars+1))=(P++wO.take r.2.vars,0):=by
   rw[rkB_app,a1];simp only[ne_eq,not_true,if_false];rw[rkB_one,rkS_flat (by omega) (fun _=>hm) (uC (rk_node (by omega) (by omega) (rkEs_two (rk_name hm) (rk_leaf (by omega) (by omega)))))]
  have e3:=rkS_deep (k:=5) (s:=[]) (by omega) (fun h=>absurd h (by omega)) (uC (rk_name (fr_mem (P:=P) hv))) e2 (rkB_nil _);rw[rkB,e1];simp only[ne_eq,not_true,if_false];rw[rkB_one,e3];rfl
 ·intro x hx;rcases List.mem_append.1 hx with hx|hx
  ·exact a2 x hx
  ·cases List.mem_singleton.1 hx;exact hm
 ·show stVs _+s.vars=r.2.vars;simp only[stVs,stV,uD,if_neg (show ¬(5=1) by omega),if_neg (show ¬(2=1) by omega),if_true];omega
 ·show r.2.left≤s.left;omega
 ·simp only[stDps,stDp,stDps_app];omega
 ·simp only[stXds,stXd,exDs,exD,stXds_app];omega
 ·show (stNs _:Int)≤s.nodes-r.2.nodes+9*((s.left:Int)+(1:Nat)-r.2.left);simp only[stNs,stN,exNs,exN,uP];omega
 ·show min s.nodes (-8)-4*((s.left:Int)+(1:Nat)-r.2.left)≤min r.2.nodes (-8);omega
end Go.Proofs.YtfpkpnkdnammnaaGreatDoor
/- A made program passes the check. -/
namespace Go.Proofs.YtfpkpnkdnammnaaGreatDoor
variable {E:GE} {fs:List Fn} {P:List Bs}
theorem exNs_one (e:Ex):exNs [e]=exN e:=by simp only[exNs];omega
theorem exDs_one (e:Ex):exDs [e]=exD e:=by simp only[exDs];omega
theorem ek_one {k:Nat} {x:Bs} {D d:Nat} {t t':GS} {r:Ex×GS} (hD:1≤D) (hd4:d≤4) (h1d:1≤d) (hk:k≠1) (h2:k=2→x∈P++wO.take t.vars) (e1:t'.names=t.names) (e2:t'.vars=t.vars) (e3:t'.left=t.left) (e4:t'.nodes=t.nodes) (h:EK fs (P++wO.take t.vars) d t' r) (hs:NmI t (P++wO.take t.vars)) (hv:t.vars≤8):SK fs P D 1 t ([.mk k x [r.1] [] []],r.2):=by
 obtain⟨c1,c2,c3,c4,c5,c6,c7⟩:=h
 have hL:-9≤nL d:=by
  obtain rfl|rfl|rfl|rfl:d=1∨d=2∨d=3∨d=4:=by omega
  all_goals simp only[nL];omega
 exact sk_one hD hk h2 (uC c1) (by rw[exDs_one];omega) (c2.trans e1) (c3.trans e2) (c4.trans e3) (by rw[exNs_one];omega) (by omega) hs hv
theorem fns_at (h:E.me+1<E.fs.length) (s:GS):∃i,i<E.fs.length∧(uG E s).1=E.fs.getD i wJ∧(uG E s).2.names=s.names∧(uG E s).2.vars=s.vars∧(uG E s).2.left=s.left∧(uG E s).2.nodes=s.nodes:=by
 unfold uG
 split
 ·have:=wP E.l ((s.nx E).nx E).at_ (show 0<E.fs.length-1 by omega);exact⟨1+((s.nx E).nx E).v E (E.fs.length-1),by show 1+nxV E.l ((s.nx E).nx E).at_ (E.fs.length-1)<E.fs.length;omega,rfl,rfl,rfl,rfl,rfl⟩
 ·obtain⟨i,hi,e⟩:=fnG_at h s;exact⟨i,hi,e,rfl,rfl,rfl,rfl⟩
theorem st_k (hF:Fit E fs) (hP:∀x∈P,x∈uK) {rec:GS→List St×GS} {D:Nat} (hr:SR fs P D rec) (deep k:Nat) {s:GS} (hs:NmI s (P++wO.take s.vars)) (hv:s.vars≤8):SK fs P (max D 1+1) 1 s (stG E rec deep k s):=by
 have hx4:∀t,NmI t (P++wO.take s.vars)→EK fs (P++wO.take s.vars) 4 t (exG E 4 t):=ex_k hF 4;have hx3:∀t,NmI t (P++wO.take s.vars)→EK fs (P++wO.take s.vars) 3 t (exG E 3 t):=ex_k hF 3;have hx2:∀t,NmI t (P++wO.take s.vars)→EK fs (P++wO.take s.vars) 2 t (exG E 2 t):=ex_k hF 2;have h3:nL 3=-6:=rfl;have h4:nL 4=-9:=rfl;have h2:nL 2=-3:=rfl;unfold stG
 split
 ·next h =>
  have hf:frG s=wO.getD s.vars []:=rfl;obtain⟨c1,c2,c3,c4,c5,c6,c7⟩:=hx4 s.vr hs;have n1:s.vr.vars=s.vars+1:=rfl;have n2:s.vr.left=s.left:=rfl;have n3:s.vr.nodes=s.nodes:=rfl;have n4:s.vr.names=s.names:=rfl;rw[n1] at c3;rw[n2] at c4;rw[n3] at c6 c7;rw[n4] at c2;generalize exG E 4 s.vr=r at *;have m1:(r.2.add (frG s)).vars=r.2.vars:=rfl;have m2:(r.2.add (frG s)).left=r.2.left:=rfl;have m3:(r.2.add (frG s)).nodes=r.2.nodes:=rfl;refine⟨?_,?_,?_,?_,?_,?_,?_,?_,?_⟩
  ·dsimp only;rw[rkB_one,hf,rkS_var hP h.2 (uC c1)];show _=(P++wO.take r.2.vars,0);rw[c3]
  ·intro x hx;show x∈P++wO.take r.2.vars;rw[c3];rcases List.mem_append.1 hx with hx|hx
   ·exact nm_mono (Nat.le_succ _) (hs x (c2▸hx))
   ·cases List.mem_singleton.1 hx;exact fr_mem h.2
  ·dsimp only;rw[m1,c3];omega
  ·simp only[stVs,stV,if_true,m1];omega
  ·dsimp only;omega
  ·simp only[stDps,stDp];omega
  ·simp only[stXds,stXd,exDs];omega
  ·simp only[stNs,stN,exNs,m2,m3];omega
  ·dsimp only;rw[m2,m3];omega
 split
 ·next h=>exact ek_one (by omega) (Nat.le_refl 4) (by omega) (by omega) (fun _=>hs _ (getD_in (wP _ _ h.2) _)) (t':=(nmG E s).2) rfl rfl rfl rfl (hx4 (nmG E s).2 hs) hs hv
 split
 ·obtain⟨c1,c2,c3,c4,c5,c6,c7⟩:=hx3 s hs;obtain⟨d1,d2,d3,d4,d5,d6,d7⟩:=hx4 (exG E 3 s).2 (hs.of c2);exact sk_one (by omega) (by omega) (fun h=>absurd h (by omega)) (rkEs_two c1 d1) (by simp only[exDs];omega) (d2.trans c2) (d3.trans c3) (d4.trans c4) (by simp only[exNs];omega) (by omega) hs hv
 split
 ·exact (if_k hr hs hv (hx3 s hs)).up (by omega)
 split
 ·next h=>exact wh_k hP hr hs h.2.2
 split
 ·split
  ·exact ek_one (by omega) (Nat.le_refl 4) (by omega) (by omega) (fun h=>absurd h (by omega)) (t':=s.nx E) V V V V (hx4 (s.nx E) hs) hs hv
  ·exact ek_one (by omega) (Nat.le_refl 4) (by omega) (by omega) (fun h=>absurd h (by omega)) (t':=s.nx E) V V V V (hx4 (s.nx E) hs) hs hv
 split
 ·next h =>
  obtain⟨i,hi,e,f1,f2,f3,f4⟩:=fns_at h.2 s;obtain⟨c1,c2,c3,c4,c5,c6,c7⟩:=call_k (nm:=P++wO.take s.vars) hx2 hF hi (s:=(uG E s).2) (hs.of f1);rw[← e] at c1 c2 c3 c4 c5 c6 c7;exact sk_one (by omega) (by omega) (fun h=>absurd h (by omega)) (uC c1) (by rw[exDs_one];omega) (c2.trans f1) (c3.trans f2) (c4.trans f3) (by rw[exNs_one];omega) (by omega) hs hv
 ·exact ek_one (by omega) (Nat.le_refl 4) (by omega) (by omega) (fun h=>absurd h (by omega)) V V V V (hx4 s hs) hs hv
theorem bl_k (hF:Fit E fs) (hP:∀x∈P,x∈uK) {rec:GS→List St×GS} {D:Nat} (hr:SR fs P D rec) (deep:Nat) (s0:GS):∀(n:Nat) (acc:List St) (s:GS),SK fs P (max D 1+1) 0 s0 (acc,s)→SK fs P (max D 1+1) 0 s0 (blG E rec deep n acc s)
 | 0,acc,s,h=>h
 | n+1,acc,s,h=>by
  unfold blG
  split
  ·exact h
  ·next hl =>
   have h1:=st_k hF hP hr deep (s.lf.v E 12) (s:=s.lf.nx E) h.nm h.v2;refine bl_k hF hP hr deep s0 n _ _ ?_;obtain⟨a1,a2,a3,a4,a5,a6,a7,a8,a9⟩:=h1;have n1:(s.lf.nx E).left=s.left-1:=rfl;have n2:(s.lf.nx E).nodes=s.nodes:=rfl;have n3:(s.lf.nx E).vars=s.vars:=rfl;rw[n1] at a5 a8 a9;rw[n2] at a8 a9;rw[n3] at a1 a4;generalize stG E rec deep (s.lf.v E 12) (s.lf.nx E)=r at *;have h2:SK fs P (max D 1+1) 0 s (r.1,r.2):=⟨a1,a2,a3,a4,by dsimp only;omega,a6,a7,by dsimp only;omega,by dsimp only;omega⟩;exact h.app h2
theorem sts_k (hF:Fit E fs) (hP:∀x∈P,x∈uK):∀r,SR fs P (r+2) (rA E r)
 | 0,s,hs,hv=>by
  have h:=bl_k hF hP (D:=1) (rec:=fun s=>([],s)) (fun s hs hv=>sk_nil hs hv) 4 (s.nx E) (1+s.v E 5) [] (s.nx E) (sk_nil hs hv);exact⟨h.ok,h.nm,h.v2,h.vs,h.lf,h.dp,h.xd,h.nn,h.lo⟩
 | r+1,s,hs,hv=>by
  have h:=bl_k hF hP (sts_k hF hP r) (4-(r+1)) (s.nx E) (1+s.v E 5) [] (s.nx E) (sk_nil hs hv);rw[show max (r+2) 1+1=r+1+2 by omega] at h;exact⟨h.ok,h.nm,h.v2,h.vs,h.lf,h.dp,h.xd,h.nn,h.lo⟩
/-! ### Functions -/
theorem par_free:∀n,n<5→rkP [] (uK.take n)=0∧(uK.take n).length≤4∧∀x∈uK.take n,x∈uK:=by decide
theorem fn_k (hF:Fit E fs) {n:Nat} (hn:n<5) (a:Nat) (nm:Bs):rkF fs ⟨nm,uK.take n,(rA E 3 ⟨a,8,150,0,uK.take n⟩).1⟩=0:=by
 obtain⟨p1,p2,p3⟩:=par_free n hn;have h:=sts_k hF p3 3 ⟨a,8,150,0,uK.take n⟩ (fun x hx=>List.mem_append_left _ hx) (Nat.zero_le _);generalize rA E 3 ⟨a,8,150,0,uK.take n⟩=r at *;obtain⟨a1,a2,a3,a4,a5,a6,a7,a8,a9⟩:=h;dsimp only at *;rw[List.take_zero,List.append_nil] at a1
 have hm:¬tA ⟨nm,uK.take n,r.1⟩:=by
  unfold tA;dsimp only;omega
 unfold rkF;rw[if_neg hm,if_neg (by dsimp only;rw[p1];simp)];dsimp only;rw[a1]
/-! ### Programs -/
/-- The heads of made functions. -/
def HdK (l:List Fn):Prop:=∀(i:Nat) (f:Fn),l[i]? = some f→f.name=sQ.getD i []∧∃n,n<5∧(i=0→n=0)∧f.params=uK.take n
theorem HdK.snoc {l:List Fn} (h:HdK l) {f:Fn} (h1:f.name=sQ.getD l.length []) (h2:∃n,n<5∧(l.length=0→n=0)∧f.params=uK.take n):HdK (l++[f]):=fun i g hg=>by
 rcases Nat.lt_or_ge i l.length with hi|hi
 ·rw[List.getElem?_append_left hi] at hg;exact h i g hg
 ·rw[List.getElem?_append_right hi] at hg
  have:i=l.length:=by
   have:=(List.getElem?_eq_some_iff.1 hg).1;simp at this;omega
  subst this;simp at hg;subst hg;exact⟨h1,h2⟩
theorem hd_k (l:List Int):∀(n:Nat) (acc:List Fn) (a:Nat),HdK acc→HdK (hdG l n acc a).1
 | 0,_,_,h=>h
 | n+1,acc,a,h=>by
  unfold hdG
  split
  ·next h0=>exact hd_k l n _ a (h.snoc rfl ⟨0,by omega,fun _=>rfl,rfl⟩)
  ·next h0=>exact hd_k l n _ _ (h.snoc rfl ⟨nxV l a 5,wP _ _ (by omega),fun h=>absurd h h0,rfl⟩)
/-- What the bodies' maker makes. -/
theorem bd_k (l:List Int) (hs:List Fn) (hh:HdK hs):∀(n:Nat) (acc:List Fn) (a:Nat),acc.length+n≤hs.length→(∀(i:Nat) (f:Fn),acc[i]? = some f→∃(h:Fn) (a:Nat),hs[i]? = some h∧f=⟨h.name,h.params,(rA ⟨l,hs,i⟩ 3 ⟨a,8,150,0,h.params⟩).1⟩)→(∀(i:Nat) (f:Fn),(bdG l hs n acc a).1[i]? = some f→∃(h:Fn) (a:Nat),hs[i]? = some h∧f=⟨h.name,h.params,(rA ⟨l,hs,i⟩ 3 ⟨a,8,150,0,h.params⟩).1⟩)∧(bdG l hs n acc a).1.length=acc.length+n
 | 0,acc,a,_,h=>⟨h,rfl⟩
 | n+1,acc,a,hl,h=>by
  unfold bdG;dsimp only
  have hat:hs[acc.length]? = some (hs.getD acc.length wJ):=by
   have:acc.length<hs.length:=by omega
   rw[List.getD_eq_getElem?_getD,List.getElem?_eq_getElem this];rfl
  have:=bd_k l hs hh n (acc++[⟨(hs.getD acc.length wJ).name,(hs.getD acc.length wJ).params,(rA ⟨l,hs,acc.length⟩ 3 ⟨a,8,150,0,(hs.getD acc.length wJ).params⟩).1⟩]) (rA ⟨l,hs,acc.length⟩ 3 ⟨a,8,150,0,(hs.getD acc.length wJ).params⟩).2.at_ (by simp;omega) (fun i f hf=>by
   rcases Nat.lt_or_ge i acc.length with hi|hi
   ·rw[List.getElem?_append_left hi] at hf;exact h i f hf
   ·rw[List.getElem?_append_right hi] at hf
    have:i=acc.length:=by
     have:=(List.getElem?_eq_some_iff.1 hf).1;simp at this;omega
    subst this;simp at hf
    exact⟨_,a,hat,hf.symm⟩)
  exact⟨this.1,by rw[this.2];simp;omega⟩
theorem fnn_new:∀i,i<4→∀j,j<i→sQ.getD j []≠sQ.getD i []:=by decide
theorem fidx_at {fs:List Fn} (hn:∀i f,fs[i]? = some f→f.name=sQ.getD i []) (hl:fs.length≤4) {i:Nat} (hi:i<fs.length):vW fs (sQ.getD i [])=(i:Nat) :=
 idxQ_at (k:=i) (x:=fs[i]) ⟨by omega,fun j x hj hx=>decide_eq_false (by rw[hn j x hx];exact fnn_new i (by omega) j hj)⟩ (List.getElem?_eq_getElem hi) (decide_eq_true (hn i _ (List.getElem?_eq_getElem hi)))
theorem made_check (l:List Int):uY (vB l)=0:=by
 have hm:=wP l 0 (show 0<4 by omega);have hlen:=hd_right l (1+nxV l 0 4) [] (nxA l 0) (by simp;omega) (fun f hf=>by cases hf);have hk:=hd_k l (1+nxV l 0 4) [] (nxA l 0) (fun i f hf=>by simp at hf);have hlen2:(hdG l (1+nxV l 0 4) [] (nxA l 0)).1.length=1+nxV l 0 4:=by rw[hlen.2];simp
 have hb:=bd_k l _ hk (1+nxV l 0 4) [] (hdG l (1+nxV l 0 4) [] (nxA l 0)).2 (by rw[hlen2];simp) (fun i f hf=>by simp at hf);have hmade:(bdG l (hdG l (1+nxV l 0 4) [] (nxA l 0)).1 (1+nxV l 0 4) [] (hdG l (1+nxV l 0 4) [] (nxA l 0)).2).1=vB l:=rfl;rw[hmade] at hb;generalize (hdG l (1+nxV l 0 4) [] (nxA l 0)).1=hs at *;have hright:=made_right l;generalize vB l=fs at *;obtain⟨hb1,hb2⟩:=hb;have hl1:fs.length=hs.length:=by rw[hb2,hlen2];simp
 have hl4:fs.length≤4:=by omega
 have hl0:0<fs.length:=by omega
 have hnm:∀i f,fs[i]? = some f→f.name=sQ.getD i []:=fun i f hf=>by
  obtain⟨h,a,h1,rfl⟩:=hb1 i f hf;exact (hk i h h1).1
 have hfi:∀{i:Nat},i<fs.length→vW fs (sQ.getD i [])=(i:Nat):=fun hi=>fidx_at hnm hl4 hi
 have hat:∀{i:Nat},i<fs.length→∃f h a,fs[i]? = some f∧fs.getD i sH=f∧hs[i]? = some h∧hs.getD i wJ=h∧f=⟨h.name,h.params,(rA ⟨l,hs,i⟩ 3 ⟨a,8,150,0,h.params⟩).1⟩:=fun {i} hi=>by
  have hf:fs[i]? = some fs[i]:=List.getElem?_eq_getElem hi;obtain⟨h,a,h1,h2⟩:=hb1 i _ hf;exact⟨fs[i],h,a,hf,by rw[List.getD_eq_getElem?_getD,hf];rfl,h1,by rw[List.getD_eq_getElem?_getD,h1];rfl,h2⟩
 have hfit:∀me,Fit ⟨l,hs,me⟩ fs:=fun me i hi=>by
  have hi':i<fs.length:=by rw[hl1];exact hi
  obtain⟨f,h,a,e1,e2,e3,e4,e5⟩:=hat hi';obtain⟨q1,n,q2,q3,q4⟩:=hk i h e3;show ¬vW fs (hs.getD i wJ).name<0∧(fs.getD (vW fs (hs.getD i wJ).name).toNat sH).params.length=(hs.getD i wJ).params.length∧(hs.getD i wJ).params.length≤4;rw[e4,q1,hfi hi',Int.toNat_natCast,e2,e5];exact⟨by omega,rfl,by rw[q4];exact (par_free n q2).2.1⟩
 have hmain:sQ.getD 0 []=[109,97,105,110]:=rfl;have h0:=hfi hl0;rw[hmain] at h0;unfold uY
 rw[if_neg (by rw[hright];simp),if_neg (by omega),if_neg (by
  rw[List.any_eq_true]
  rintro⟨j,hj,hd⟩
  have hj:=List.mem_range.1 hj;obtain⟨f,h,a,e1,e2,e3,e4,e5⟩:=hat hj;rw[e2,hnm j f e1,hfi hj] at hd
  simp at hd),if_neg (by rw[h0];simp),if_neg (by
  rw[h0];obtain⟨f,h,a,e1,e2,e3,e4,e5⟩:=hat hl0;obtain⟨q1,n,q2,q3,q4⟩:=hk 0 h e3;rw[show ((0:Nat):Int).toNat=0 from rfl,e2,e5];dsimp only
  rw[q4,q3 rfl];simp),ckFs_eq]
 have hall:∀f∈fs,rkF fs f=0:=fun f hf=>by
  obtain⟨i,hi,rfl⟩:=List.getElem_of_mem hf;obtain⟨f,h,a,e1,e2,e3,e4,e5⟩:=hat hi;obtain⟨q1,n,q2,q3,q4⟩:=hk i h e3;rw[List.getElem?_eq_getElem hi] at e1;cases e1;rw[e5,q4];exact fn_k (hfit i) q2 a _
 have key:∀m:List Fn,(∀f∈m,rkF fs f=0)→rkFs fs m=0:=by
  intro m
  induction m with
  | nil=>intro _;rfl
  | cons f m ih =>
   intro h;rw[rkFs,if_neg (by rw[h f (by simp)];simp)];exact ih fun g hg=>h g (List.mem_cons_of_mem _ hg)
 exact key fs hall
end Go.Proofs.YtfpkpnkdnammnaaGreatDoor
/- How large a program is that was changed. -/
namespace Go.Proofs.YtfpkpnkdnammnaaGreatDoor
theorem nestE_n:∀n,exN (nestE n)=n+1
 | 0=>rfl
 | n+1=>by simp only[nestE,exN,exNs,nestE_n n];omega
theorem nestS_n:∀n,stN (rJ n)=2*n+2
 | 0=>rfl
 | n+1=>by simp only[rJ,stN,stNs,exNs,inE,exN,nestS_n n];omega
/-- What a change may add. -/
def Szd (a b c:Nat) (l:List Fn):Prop:=∀f∈l,f.params.length≤a∧f.body.length≤b∧stNs f.body≤c
theorem qY (l:List St) (x:St):stNs (l++[x])=stNs l+stN x:=by rw[uP];simp only[stNs];omega
theorem stNs_cons (l:List St) (x:St):stNs (x::l)=stN x+stNs l:=by simp only[stNs]
theorem tuF_szd {a b c:Nat} (k n:Int) {f:Fn} (h:f.params.length≤a∧f.body.length≤b∧stNs f.body≤c):(tuF k n f).params.length≤a+1∧(tuF k n f).body.length≤b+1∧stNs (tuF k n f).body≤c+100:=by
 obtain⟨h1,h2,h3⟩:=h;have h4:(n%4).toNat<4:=by omega
 unfold tuF
 split
 ·exact⟨by dsimp only;omega,by dsimp only;omega,by dsimp only;omega⟩
 split
 ·exact⟨by simp;omega,by dsimp only;omega,by dsimp only;omega⟩
 split
 ·exact⟨by dsimp only;omega,by simp;omega,by dsimp only;rw[qY];simp only[stN,exNs,exN,stNs];omega⟩
 split
 ·exact⟨by dsimp only;omega,by simp;omega,by dsimp only;rw[qY];simp only[stN,inE,exNs,exN,stNs];omega⟩
 split
 ·exact⟨by dsimp only;omega,by simp;omega,by dsimp only;rw[stNs_cons];simp only[stN,inE,exNs,exN,stNs];omega⟩
 split
 ·exact⟨by dsimp only;omega,by simp;omega,by dsimp only;rw[stNs_cons];simp only[stN,exNs,exN,stNs];omega⟩
 split
 ·exact⟨by dsimp only;omega,by simp;omega,by dsimp only;rw[qY];simp only[stN,exNs,exN,stNs];omega⟩
 split
 ·exact⟨by dsimp only;omega,by simp;omega,by dsimp only;rw[qY];simp only[stN,exNs,nestE_n,stNs];omega⟩
 ·exact⟨by dsimp only;omega,by simp;omega,by dsimp only;rw[qY,nestS_n];omega⟩
theorem turned_szd {a b c:Nat} {l:List Fn} (h:Szd a b c l) (k n q:Int):Szd (a+1) (b+1) (c+100) (vY l k n q):=by
 unfold vY
 split
 ·intro f hf;cases hf
 ·next h0 =>
  intro f hf
  have hlt:(q%l.length).toNat<l.length:=by
   have:=Int.emod_lt_of_pos q (show (0:Int)<l.length by omega);have:=Int.emod_nonneg q (show (l.length:Int)≠0 by omega);omega
  rcases List.mem_or_eq_of_mem_set hf with hf|hf
  ·have:=h f hf;omega
  ·rw[hf];exact tuF_szd _ _ (h _ (getD_in hlt wJ))
theorem made_szd (l:List Int):Szd 4 1000000 200000000 (vB l):=fun f hf=>by
 have h1:=made_sml l f hf;have h3:=stNs_z 1 f.body;have h4:=h1.1.z;have h5:=h1.2.1;exact⟨h1.2.2,((madeL_size l).2 f hf).2,by omega⟩
end Go.Proofs.YtfpkpnkdnammnaaGreatDoor
/- The law of Check. -/
namespace Go.Proofs.YtfpkpnkdnammnaaGreatDoor
open Go.RowKit
theorem qN {fs:List Fn} {a b c:Nat} (h:Szd a b c fs) (ha:a≤1000000) (hc:c≤1000000000):∀f∈fs,f.params.length+stNs f.body+stVs f.body≤1000000000000:=fun f hf=>by
 have h1:=h f hf;have h2:=stVs_le f.body;omega
theorem size_szd {fs:List Fn} {a b c:Nat} (h:Szd a b c fs) (ha:a≤1000000) (hb:b≤1000000) (hl:fs.length≤4):fs.length≤1000000∧∀f∈fs,f.params.length≤1000000∧f.body.length≤1000000 :=
 ⟨by omega,fun f hf=>by have:=h f hf;omega⟩
theorem made_szd' (l:List Int):Szd 4 999000 200000000 (vB l):=fun f hf=>by
 have h1:=made_szd l f hf;have h2:=bdG_par l _ (hdG_par l (1+nxV l 0 4) [] (nxA l 0) (fun _ h=>by cases h)) (1+nxV l 0 4) [] _ (fun _ h=>by cases h) f hf;exact⟨h1.1,by omega,h1.2.2⟩
set_option maxHeartbeats 4000000 in
set_option maxRecDepth 100000 in
theorem checks_law (l:List Int) (lA:Option Addr) (lc:Nat) (K n q K2 n2 q2:Int) (hn1:-9223372036854775808≤n) (hn2:n≤9223372036854775807) (hm1:-9223372036854775808≤n2) (hm2:n2≤9223372036854775807) (hl:l.length≤9223372036854775807) {F:Nat→Prop} (w_0:World) (hv:rP w_0) (hT:TbN w_0) (hL:RdF F lA (rV l) w_0) :
  Calls Tryz.prog 8 #[.slice lA l.length lc,.agg [Value.int .i64 K,.int .i64 n,.int .i64 q].toArray,.agg [Value.int .i64 K2,.int .i64 n2,.int .i64 q2].toArray] w_0 fun e w'=>e=.returned (.bool true)∧Ext w_0 w':=by
 have hm4:(vB l).length≤4:=(madeL_len l).2;have hl4:(vY (vB l) K n q).length≤4:=by rw[turnedL_len];exact hm4
 have s1:=made_szd' l;have s2:=turned_szd s1 K n q;have s3:=turned_szd s2 K2 n2 q2;refine yR (args:=[.slice lA l.length lc,.agg [Value.int .i64 K,.int .i64 n,.int .i64 q].toArray,.agg [Value.int .i64 K2,.int .i64 n2,.int .i64 q2].toArray]) Tryz.func8 V 40 V (Nat.le_of_ble_eq_true V)<|Z3 0 1 2 V V V<|yY (H':=Hp (fun _=>False) w_0 [] [] (fun _=>True)) (fun u hu=>?_) ?_
 ·subst hu;exact Hp.start0
 refine zY<|zX<|zD .none V (wS V V) (fun b4=>?_);refine zD .none V (wS V V) (fun b5=>?_);refine Za V V<|ZX<|zX<|yN .none V  (v:=.bool true) (by kernel_rfl) V (fun w hw=>sanity_any w (hv.ext (HpG.keep hw).ext) (hT.ext (HpG.keep hw).ext)) ?_;refine Za V V<|ZX<|Z7r 0 1 2 4 5 6 7 V V V V V V V<|Zm V V<|wl_callZ .none V  (by kernel_rfl) V (fun w hw=>made_z hl hL (HpG.keep hw).ext) (fun ⟨Ap,cp⟩ v1 hp1 hw1=>?_);have hb4:=HpG.blk hw1 (k:=1) rfl;have hb5:=HpG.blk hw1 (k:=0) rfl;refine zD .none V (yM (z:=.agg #[.slice none 0 0]) (cs:=[.slice none 0 0]) (by kernel_rfl) V) (fun b8=>?_);refine ZR 0 V V V V V (by kernel_rfl) ?_;refine ZX<|Z8 0 1 2 4 5 6 7 8 V V V V V V V V<|wc_freeze (fun v2 hw2=>?_);have hb8:=HpG.blk hw2 (k:=0) rfl;replace hb4:=(HpG.x hw2).blk hb4;replace hb5:=(HpG.x hw2).blk hb5;have hp2:=(HpG.x hw2).get PgK.lies hp1;refine zX<|ZF V (YF.anti (wB V U32 V (by kernel_rfl)) (fun u h=>(HpG.x h).blk hb8)) ?_;refine ZF V (YF.anti (wB V U37 V (by kernel_rfl)) (fun u h=>(HpG.x h).blk hb4)) ?_;refine wl_callZ .none V  (by kernel_rfl) V (fun w hw=>turned_z hn1 hn2 hp2 (HpG.x hw) (madeL_size l)) (fun ⟨Ax,cx⟩ v3 hx3 hw3=>?_);refine zD .none V (yM (z:=.agg #[.slice none 0 0]) (cs:=[.slice none 0 0]) (by kernel_rfl) V) (fun b9=>?_);refine ZR 0 V V V V V (by kernel_rfl) ?_;refine ZX<|Z9 0 1 2 4 5 6 7 8 9 V V V V V V V V V<|wc_freeze (fun v4 hw4=>?_);have hb9:=HpG.blk hw4 (k:=0) rfl;replace hb8:=(HpG.x hw4).blk ((HpG.x hw3).blk hb8);replace hb5:=(HpG.x hw4).blk ((HpG.x hw3).blk hb5);have hp4:=(HpG.x hw4).get PgK.lies ((HpG.x hw3).get PgK.lies hp2);have hx4:=(HpG.x hw4).get PgK.lies hx3;refine zX<|ZF V (YF.anti (wB V U32 V (by kernel_rfl)) (fun u h=>(HpG.x h).blk hb9)) ?_;refine ZF V (YF.anti (wB V U37 V (by kernel_rfl)) (fun u h=>(HpG.x h).blk hb5)) ?_;refine wl_callZ .none V  (by kernel_rfl) V (fun w hw=>turned_z hm1 hm2 hx4 (HpG.x hw) (size_szd s2 (by omega) (by omega) hl4)) (fun ⟨Ay,cy⟩ v5 hy5 hw5=>?_);refine zD .none V (yM (z:=.agg #[.slice none 0 0]) (cs:=[.slice none 0 0]) (by kernel_rfl) V) (fun b10=>?_);refine ZR 0 V V V V V (by kernel_rfl) ?_;refine ZX<|Z10 0 1 2 4 5 6 7 8 9 10 V V V V V V V V V V<|wc_freeze (fun v6 hw6=>?_);have hb10:=HpG.blk hw6 (k:=0) rfl;replace hb8:=(HpG.x hw6).blk ((HpG.x hw5).blk hb8);replace hb9:=(HpG.x hw6).blk ((HpG.x hw5).blk hb9);have hp6:=(HpG.x hw6).get PgK.lies ((HpG.x hw5).get PgK.lies hp4);have hx6:=(HpG.x hw6).get PgK.lies ((HpG.x hw5).get PgK.lies hx4);have hy6:=(HpG.x hw6).get PgK.lies hy5;refine wc_drawN [0,1,2,3,4,5,6,7,8,9,10,11,12,13,14,15,16,17,18,19,20] (xK (fun _=>True) v6) (by kernel_rfl) (by kernel_rfl) xK.stab (fun w h=>HpG.x h) (fun n0 hn0=>?_);refine Zd V V V (zL V)<|Zd V V V (zL V)<|wd_split 21 V (fun g2=>?_) (fun g2=>?_)
 ·refine yL V ?_;(refine yG ?_ (.some rfl rfl) rfl (YF.anti (wB rfl U32 rfl (by kernel_rfl)) (fun u h=>h.blk hb8)) ?_;(· rfl);skip);refine yL V<|wL (.some V V) V  (v:=.int .i64 0) (by kernel_rfl) V (fun w w' h hx=>h.ext hx) (fun w hw=>(check_any (vB l) _ Ap cp w (qN s1 (by omega) (by omega)) ((HpG.x hw).get PgK.lies hp6)).mono fun _ _ ⟨e1,e2⟩=>⟨by rw[e1,made_check];rfl,e2⟩) ?_;refine yL V ?_;(refine yG ?_ (.some rfl rfl) rfl (yP rfl rfl) ?_;(· rfl);skip);refine Zd V V V (zM V V)<|Zd V V V (zL V)<|wd_split 26 V (fun g7=>?_) (fun g7=>?_)
  ·replace g7:=eq_of_beq g7;refine yL V ?_;(refine yG ?_ (.some rfl rfl) rfl (YF.anti (wB rfl U32 rfl (by kernel_rfl)) (fun u h=>h.blk hb9)) ?_;(· rfl);skip);refine yL V<|wL (.some V V) V  (v:=.int .i64 (uY (vY (vB l) K n q):Nat)) (by kernel_rfl) V (fun w w' h hx=>h.ext hx) (fun w hw=>check_any (vY (vB l) K n q) _ Ax cx w (qN s2 (by omega) (by omega)) ((HpG.x hw).get PgK.lies hx6)) ?_;refine yL V ?_;(refine yG ?_ (.some rfl rfl) rfl (YF.anti (wB rfl U32 rfl (by kernel_rfl)) (fun u h=>h.blk hb9)) ?_;(· rfl);skip);refine yL V<|wL (.some V V) V  (v:=.int .i64 (uY (vY (vB l) K n q):Nat)) (by kernel_rfl) V (fun w w' h hx=>h.ext hx) (fun w hw=>rcheck_any (vY (vB l) K n q) _ Ax cx w (fun f hf=>Nat.le_trans (Nat.le_add_right _ _) (qN s2 (by omega) (by omega) f hf)) ((HpG.x hw).get PgK.lies hx6)) ?_;refine yL V ?_;(refine yG ?_ (.some rfl rfl) rfl (yP rfl rfl) ?_;(· rfl);skip);refine Zd V V V (zM V V)<|Zd V V V (zL V)<|wd_split 33 V (fun g14=>?_) (fun g14=>?_)
   ·replace g14:=eq_of_beq g14;refine yL V ?_;(refine yG ?_ (.some rfl rfl) rfl (YF.anti (wB rfl U32 rfl (by kernel_rfl)) (fun u h=>h.blk hb10)) ?_;(· rfl);skip);refine yL V<|wL (.some V V) V  (v:=.int .i64 (uY (vY (vY (vB l) K n q) K2 n2 q2):Nat)) (by kernel_rfl) V (fun w w' h hx=>h.ext hx) (fun w hw=>check_any (vY (vY (vB l) K n q) K2 n2 q2) _ Ay cy w (qN s3 (by omega) (by omega)) ((HpG.x hw).get PgK.lies hy6)) ?_;refine yL V ?_;(refine yG ?_ (.some rfl rfl) rfl (YF.anti (wB rfl U32 rfl (by kernel_rfl)) (fun u h=>h.blk hb10)) ?_;(· rfl);skip);refine yL V<|wL (.some V V) V  (v:=.int .i64 (uY (vY (vY (vB l) K n q) K2 n2 q2):Nat)) (by kernel_rfl) V (fun w w' h hx=>h.ext hx) (fun w hw=>rcheck_any (vY (vY (vB l) K n q) K2 n2 q2) _ Ay cy w (fun f hf=>Nat.le_trans (Nat.le_add_right _ _) (qN s3 (by omega) (by omega) f hf)) ((HpG.x hw).get PgK.lies hy6)) ?_;refine yL V ?_;(refine yG ?_ (.some rfl rfl) rfl (yP rfl rfl) ?_;(· rfl);skip);refine Zd V V V (zM V V)<|Zd V V V (vE V)<|wd_endH<|zO<|zI<|zA V V (fun w hw=>?_);exact⟨by simp,(HpG.keep hw).ext⟩
   ·replace g14:=yJ g14;exact absurd g14 (by simp)
  ·replace g7:=yJ g7;exact absurd g7 (by simp)
 ·cases g2
end Go.Proofs.YtfpkpnkdnammnaaGreatDoor
