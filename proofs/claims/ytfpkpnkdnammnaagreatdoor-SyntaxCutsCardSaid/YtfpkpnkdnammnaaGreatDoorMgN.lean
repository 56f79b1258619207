import Derived.Test.YtfpkpnkdnammnaaGreatDoorMgY
import Derived.Test.YtfpkpnkdnammnaaGreatDoorMgw
import Derived.Test.YtfpkpnkdnammnaaGreatDoorMgL
import Derived.Test.YtfpkpnkdnammnaaGreatDoorStr
namespace Go.Proofs.YtfpkpnkdnammnaaGreatDoor
def NmG (s:GS):Prop:=∀x∈s.names,yG x=true
def GE.Nm (E:GE):Prop:=∀f∈E.fs,yG f.name=true∧∀x∈f.params,yG x=true
theorem sQ (k n:Nat) (s:Bs) (kids:List Ex):yJ (.mk k n s kids)=(xK k s kids.length&&(decide (k=1)||decide (n=0))&&rightExs kids):=by simp only[yJ]
theorem pD (k:Nat) (s:Bs) (es:List Ex) (b c:List St):xH (.mk k s es b c)=(pA k s es.length b.length c.length&&rightExs es&&rightSts b&&rightSts c):=by simp only[xH]
theorem exs_nil:rightExs []=true:=by simp only[rightExs]
theorem exs_one {x:Ex}(h:yJ x=true):rightExs [x]=true:=by simp only[rightExs,h,Bool.and_true]
theorem exs_two {x y:Ex}(h:yJ x=true) (k:yJ y=true):rightExs [x,y]=true:=by simp only[rightExs,h,k,Bool.and_true]
theorem pT:rightSts []=true:=by simp only[rightSts]
theorem sts_one {x:St}(h:xH x=true):rightSts [x]=true:=by simp only[rightSts,h,Bool.and_true]
theorem sts_app {a b:List St}(h:rightSts a=true) (k:rightSts b=true):rightSts (a++b)=true:=by
 rw[uQ] at *;rw[List.all_append,h,k];rfl
theorem exs_app {a b:List Ex}(h:rightExs a=true) (k:rightExs b=true):rightExs (a++b)=true:=by
 rw[wK] at *;rw[List.all_append,h,k];rfl
def RX (rec:GS→Ex×GS):Prop:=∀s,NmG s→yJ (rec s).1=true∧(rec s).2.names=s.names
theorem NmG.of {s t:GS}(h:NmG s) (e:t.names=s.names):NmG t:=fun x hx=>h x (e▸hx)
theorem getD_in {α:Type}{l:List α}{i:Nat}(h:i<l.length) (d:α):l.getD i d∈l:=by
 rw[Ka,Jt h];exact List.getElem_mem h
variable {E:GE}
theorem nmG_right {s:GS}(h:NmG s) (h0:0<s.names.length):yG (nmG E s).1=true:=h _ (getD_in (wU _ _ h0) _)
theorem con_right (s:GS):yJ (conG E s).1=true∧(conG E s).2.names=s.names:=⟨by rw[conG,sQ,exs_nil];rfl,rfl⟩
theorem kids_right {rec:GS→Ex×GS}(hr:RX rec):∀(n:Nat) (acc:List Ex) (s:GS),NmG s→rightExs acc=true→rightExs (uK rec n acc s).1=true∧(uK rec n acc s).2.names=s.names
 | 0,acc,s,_,h=>⟨h,rfl⟩
 | n+1,acc,s,hs,h=>by
  have h1:=hr s hs;have h2:=kids_right hr n (acc++[(rec s).1]) (rec s).2 (hs.of h1.2) (exs_app h (exs_one h1.1));exact⟨h2.1,h2.2.trans h1.2⟩
theorem callG_right {rec:GS→Ex×GS}(hr:RX rec) {f:Fn}(hf:yG f.name=true) {s:GS}(hs:NmG s):yJ (tC rec f s).1=true∧(tC rec f s).2.names=s.names:=by
 have h:=kids_right hr f.params.length [] s hs exs_nil;refine⟨?_,h.2⟩;rw[tC,sQ,h.1];show (yG f.name&&true&&true)=true;rw[hf];rfl
theorem fn_name (hE:E.Nm) {i:Nat}(h:i<E.fs.length):yG (E.fs.getD i wJ).name=true:=(hE _ (getD_in h _)).1
theorem fnG_right (hE:E.Nm) (s:GS) (h:E.me+1<E.fs.length):yG (fnG E s).name=true:=by
 refine fn_name hE ?_;have:=wU E.l s.at_ (show 0<E.fs.length-E.me-1 by omega);show E.me+1+nxV E.l s.at_ (E.fs.length-E.me-1)<E.fs.length;omega
theorem un_in:∀v,v<3→unL.getD v []∈tU:=by decide
theorem op_lev:∀v,v<16→(wA (opL.getD v [])).isSome=true:=by decide
theorem fre_nm:∀v,v<8→yG (qR.getD v [])=true:=by decide
theorem exB_right (hE:E.Nm) {rec:GS→Ex×GS}{k:Nat}(hr:RX rec∨k≤3) {s:GS}(hs:NmG s):yJ (tD E rec k s).1=true∧(tD E rec k s).2.names=s.names:=by
 unfold tD
 split
 ·next h =>
  refine⟨?_,rfl⟩;rw[sQ,exs_nil];show (yG (nmG E s).1&&true&&true&&true)=true;rw[nmG_right hs h.2];rfl
 split
 ·exact⟨by rw[sQ,exs_nil];rfl,rfl⟩
 split
 ·next h =>
  have hr:=hr.resolve_right (by omega);exact⟨by rw[sQ,exs_one (hr s hs).1];rfl,(hr s hs).2⟩
 split
 ·next h =>
  have hr:=(hr.resolve_right (by omega)) (s.nx E) hs;refine⟨?_,hr.2⟩;rw[sQ,exs_one hr.1];show (decide (unL.getD (s.v E 3) []∈tU)&&true&&true&&true)=true;rw[Kv (un_in _ (show s.v E 3<3 from wU _ _ (by omega)))];rfl
 split
 ·next h =>
  have hr:=hr.resolve_right (by omega);exact callG_right hr (fnG_right hE s h.2) (s:=s.nx E) hs
 split
 ·next h =>
  have hr:=hr.resolve_right (by omega);have h1:=hr (s.nx E) hs;have h2:=hr (rec (s.nx E)).2 (NmG.of (s:=s) hs h1.2);refine⟨?_,h2.2.trans h1.2⟩;rw[sQ,exs_two h1.1 h2.1];show ((wA (opL.getD (s.v E 16) [])).isSome&&true&&true&&true)=true;rw[op_lev _ (show s.v E 16<16 from wU _ _ (by omega))];rfl
 ·exact con_right s
theorem exK_le {d:Nat}{s:GS}(h:d≤1):exKG E d s≤3:=by
 unfold exKG;rw[Kp (.inl h)];omega
theorem qY (hE:E.Nm):∀d,RX (exG E d)
 | 0,s,hs=>by
  have:=exB_right (E:=E) hE (rec:=fun s=>(.mk 0 0 [] [],s)) (.inr (exK_le (E:=E) (s:=s) (Kl 1))) (s:=s.dn.nx E) hs;exact this
 | d+1,s,hs=>exB_right hE (.inl (qY hE d)) (s:=s.dn.nx E) hs
def RT (rec:GS→List St×GS):Prop:=∀s,NmG s→rightSts (rec s).1=true∧NmG (rec s).2
theorem NmG.add {s:GS}(h:NmG s) {x:Bs}(hx:yG x=true):NmG (s.add x):=fun y hy=>by
 rcases Kz.1 hy with hy|hy
 ·exact h y hy
 ·cases Aa.1 hy;exact hx
theorem pS {k:Nat}{s:Bs}{e:Ex}(he:yJ e=true) (ho:pA k s 1 0 0=true):rightSts [.mk k s [e] [] []]=true:=sts_one (by rw[pD,exs_one he,pT];show (pA k s 1 0 0&&true&&true&&true)=true;rw[ho];rfl)
theorem ok_nm {k:Nat}(hk:k=1∨k=2) {s:Bs}(h:yG s=true):pA k s 1 0 0=true:=by
 rcases hk with rfl|rfl<;>(show (true&&true&&true&&yG s&&true&&true)=true;rw[h];rfl)
theorem name2 {nm:Bs}(h:yG nm=true):yJ (.mk 2 0 nm [])=true:=by
 rw[sQ,exs_nil];show (yG nm&&true&&true&&true)=true;rw[h];rfl
theorem one1 (n:Nat):yJ (.mk 1 n [] [])=true:=by rw[sQ,exs_nil];rfl
theorem wh_right {rec:GS→List St×GS}(hr:RT rec) {nm:Bs}(hn:yG nm=true) {s:GS}(hs:NmG s):rightSts (whG E rec nm s).1=true∧NmG (whG E rec nm s).2:=by
 have h1:=hr (s.nx E) hs;refine⟨?_,h1.2.add hn⟩;have hd:rightSts [.mk 2 nm [.mk 7 0 [45] [.mk 2 0 nm [],.mk 1 1 [] []]] [] []]=true:=pS (by rw[sQ,exs_two (name2 hn) (one1 1)];show (xK 7 [45] 2&&true&&true)=true;decide) (ok_nm (.inr rfl) hn);have hb:=sts_app h1.1 hd;have ha:rightSts [.mk 1 nm [.mk 1 (s.v E 5) [] []] [] []]=true:=pS (one1 _) (ok_nm (.inl rfl) hn)
 have hw:rightSts [.mk 5 [] [.mk 2 0 nm []] ((rec (s.nx E)).1++[.mk 2 nm [.mk 7 0 [45] [.mk 2 0 nm [],.mk 1 1 [] []]] [] []]) []]=true:=sts_one (by
  rw[pD,exs_one (name2 hn),hb,pT]
  rfl)
 exact sts_app ha hw
theorem if_right {rec:GS→List St×GS}(hr:RT rec) {e:Ex}(he:yJ e=true) {s:GS}(hs:NmG s):rightSts (ifG E rec e s).1=true∧NmG (ifG E rec e s).2:=by
 have h1:=hr s hs;unfold ifG
 split
 ·have h2:=hr ((rec s).2.nx E) h1.2;exact⟨sts_one (by rw[pD,exs_one he,h1.1,h2.1];rfl),h2.2⟩
 ·exact⟨sts_one (by rw[pD,exs_one he,h1.1,pT];rfl),h1.2⟩
theorem st_right (hE:E.Nm) {rec:GS→List St×GS}(hr:RT rec) (deep k:Nat) {s:GS}(hs:NmG s):rightSts (stG E rec deep k s).1=true∧NmG (stG E rec deep k s).2:=by
 have hx4:=qY hE 4;have hx3:=qY hE 3;unfold stG
 split
 ·next h =>
  have hn:yG (frG s)=true:=fre_nm _ h.2;have h1:=hx4 s.vr hs;exact⟨pS h1.1 (ok_nm (.inl V) hn),(NmG.of (s:=s) hs h1.2).add hn⟩
 split
 ·next h =>
  have hn:=nmG_right (E:=E) hs h.2;have h1:=hx4 (nmG E s).2 hs;exact⟨pS h1.1 (ok_nm (.inr V) hn),NmG.of (s:=s) hs h1.2⟩
 split
 ·have h1:=hx3 s hs;have h2:=hx4 (exG E 3 s).2 (hs.of h1.2);exact⟨sts_one (by rw[pD,exs_two h1.1 h2.1,pT];rfl),NmG.of (s:=s) hs (h2.2.trans h1.2)⟩
 split
 ·have h1:=hx3 s hs;exact if_right hr h1.1 (hs.of h1.2)
 split
 ·next h=>exact wh_right hr (fre_nm _ h.2.2) (s:=s.vr) hs
 split
 ·have h1:=hx4 (s.nx E) hs
  split
  ·exact⟨pS h1.1 rfl,NmG.of (s:=s) hs h1.2⟩
  ·exact⟨pS h1.1 rfl,NmG.of (s:=s) hs h1.2⟩
 split
 ·next h =>
  have hf:yG (tT E s).1.name=true∧(tT E s).2.names=s.names:=by
   unfold tT
   split
   ·refine⟨fn_name hE ?_,rfl⟩;have:=wU E.l ((s.nx E).nx E).at_ (show 0<E.fs.length-1 by omega);show 1+nxV E.l ((s.nx E).nx E).at_ (E.fs.length-1)<E.fs.length;omega
   ·exact⟨fnG_right hE s h.2,rfl⟩
  have h1:=callG_right (qY hE 2) hf.1 (hs.of hf.2);exact⟨pS h1.1 rfl,NmG.of (s:=s) hs (h1.2.trans hf.2)⟩
 ·have h1:=hx4 s hs;exact⟨pS h1.1 rfl,hs.of h1.2⟩
theorem bl_right (hE:E.Nm) {rec:GS→List St×GS}(hr:RT rec) (deep:Nat):∀(n:Nat) (acc:List St) (s:GS),NmG s→rightSts acc=true→rightSts (blG E rec deep n acc s).1=true∧NmG (blG E rec deep n acc s).2
 | 0,acc,s,hs,h=>⟨h,hs⟩
 | n+1,acc,s,hs,h=>by
  unfold blG
  split
  ·exact⟨h,hs⟩
  ·have h1:=st_right hE hr deep (s.lf.v E 12) (s:=s.lf.nx E) hs;exact bl_right hE hr deep n _ _ h1.2 (sts_app h h1.1)
theorem sts_right (hE:E.Nm):∀r,RT (stsG E r)
 | 0,s,hs=>bl_right hE (fun _ hs=>⟨pT,hs⟩) 4 _ [] (s.nx E) hs pT
 | r+1,s,hs=>bl_right hE (sts_right hE r) _ _ [] (s.nx E) hs pT
def HdR (l:List Fn):Prop:=∀f∈l,yG f.name=true∧∀x∈f.params,yG x=true
theorem HdR.one {l:List Fn}(h:HdR l) {f:Fn}(h1:yG f.name=true) (h2:∀x∈f.params,yG x=true):HdR (l++[f]):=fun g hg=>by
 rcases Kz.1 hg with hg|hg
 ·exact h g hg
 ·cases Aa.1 hg;exact⟨h1,h2⟩
theorem fnn_nm:∀v,v<4→yG (sD.getD v [])=true:=by decide
theorem par_nm:∀x∈rW,yG x=true:=by decide
theorem hd_right (l:List Int):∀(n:Nat) (acc:List Fn) (a:Nat),acc.length+n≤4→HdR acc→HdR (hdG l n acc a).1∧(hdG l n acc a).1.length=acc.length+n
 | 0,acc,a,_,h=>⟨h,rfl⟩
 | n+1,acc,a,hl,h=>by
  have hn:=fnn_nm acc.length (by omega);unfold hdG
  split
  ·have:=hd_right l n (acc++[⟨sD.getD acc.length [],[],[]⟩]) a (by simp;omega) (h.one hn (fun x hx=>by cases hx));exact⟨this.1,by rw[this.2];simp;omega⟩
  ·have:=hd_right l n (acc++[⟨sD.getD acc.length [],rW.take (nxV l a 5),[]⟩]) (nxA l a) (by simp;omega) (h.one hn (fun x hx=>par_nm x (List.mem_of_mem_take hx)));exact⟨this.1,by rw[this.2];simp;omega⟩
theorem bd_right (l:List Int) (fs:List Fn) (hf:HdR fs):∀(n:Nat) (acc:List Fn) (a:Nat),acc.length+n≤fs.length→wD acc=true→wD (bdG l fs n acc a).1=true
 | 0,acc,a,_,h=>h
 | n+1,acc,a,hl,h=>by
  have hg:=hf _ (getD_in (show acc.length<fs.length by omega) wJ);have hr:=sts_right (E:=⟨l,fs,acc.length⟩) hf 3 ⟨a,8,150,0,(fs.getD acc.length wJ).params⟩ hg.2;unfold bdG;refine bd_right l fs hf n _ _ (by simp;omega) ?_;unfold wD at *;rw[List.all_append,h];simp only[List.all_cons,List.all_nil,Bool.and_true,Bool.true_and];unfold vO;rw[List.all_eq_true.2 hg.2,hg.1,hr.1];rfl
theorem qD (l:List Int):wD (wI l)=true:=by
 have hm:=wU l 0 (show 0<4 by omega);have h:=hd_right l (1+nxV l 0 4) [] (nxA l 0) (by simp;omega) (fun f hf=>by cases hf);exact bd_right l _ h.1 _ [] _ (by rw[h.2];simp) rfl
end Go.Proofs.YtfpkpnkdnammnaaGreatDoor
namespace Go.Proofs.YtfpkpnkdnammnaaGreatDoor
end Go.Proofs.YtfpkpnkdnammnaaGreatDoor
namespace Go.Proofs.YtfpkpnkdnammnaaGreatDoor
mutual
def zE:Ex→Nat
 | .mk _ _ s kids=>20+s.length+zEs kids
def zEs:List Ex→Nat
 | []=>0
 | x::l=>zE x+2+zEs l
end
theorem join_z (sep:Bs):∀l:List Bs,(Lib.join l sep).length≤(l.map fun x=>x.length+sep.length).sum
 | []=>by rw[Lib.join_nil];exact Kl _
 | [x]=>by simp[Lib.join,List.intercalate]
 | x::y::l=>by
  have ih:=join_z sep (y::l);have e:Lib.join (x::y::l) sep=x++sep++Lib.join (y::l) sep:=by simp[Lib.join,List.intercalate,List.intersperse]
  rw[e,Ji,Ji,Kq,List.sum_cons];omega
mutual
theorem textE_z:∀(x:Ex) (need:Nat),exU x=true→(vD x need).length≤zE x
 | .mk k n s kids,need,h=>by
  simp only[exU,Kj,Kn] at h;have hd:(Lib.decDigits n).length≤10:=dec_len (by omega) (by decide);have h1:=textEs_z kids h.2;have h2:=textHS_z kids 0 0 h.2;have h3:=textHS_z kids 8 0 h.2;have h4:=textHS_z kids (levN s) (levN s+1) h.2;have hj:(Lib.join (textEs kids) [44,32]).length≤zEs kids:=Kx (join_z [44,32] (textEs kids)) h1
  have key:∀t:Bs,t.length≤18+s.length+zEs kids→(if pM k s<need then [40]++t++[41] else t).length≤20+s.length+zEs kids:=by
   intro t ht
   split
   ·simp only[Ji,Jj,Jk];omega
   ·omega
  simp only[vD,zE];refine key _ ?_
  by_cases k1:k=1
  ·rw[Kp k1];omega
  rw[Ko k1]
  by_cases k2:k=2
  ·rw[Kp k2];omega
  rw[Ko k2]
  by_cases k3:k=3
  ·rw[Kp k3];simp only[Ji,Jj,Jk];omega
  rw[Ko k3]
  by_cases k4:k=4
  ·rw[Kp k4];simp only[Ji,Jj,Jk];omega
  rw[Ko k4]
  by_cases k5:k=5
  ·rw[Kp k5];simp only[Jj,Jk];omega
  rw[Ko k5]
  by_cases k6:k=6
  ·rw[Kp k6];simp only[Ji];omega
  rw[Ko k6];simp only[Ji,Jj,Jk];omega
theorem textEs_z:∀(l:List Ex),exUs l=true→((textEs l).map fun x=>x.length+2).sum≤zEs l
 | [],_=>Km _
 | x::l,h=>by
  simp only[exUs,Kj] at h;have h1:=textE_z x 0 h.1;have h2:=textEs_z l h.2;simp only[textEs,zEs,Kq,List.sum_cons];omega
theorem textHS_z:∀(l:List Ex) (a b:Nat),exUs l=true→(textH l a).length+(textS l b).length≤zEs l
 | [],_,_,_=>Km _
 | [x],a,b,h=>by
  simp only[exUs,Kj] at h;have h1:=textE_z x a h.1;simp only[textH,textS,zEs,Jk];omega
 | x::y::l,a,b,h=>by
  simp only[exUs,Kj] at h;have h1:=textE_z x a h.1;have h2:=textE_z y b h.2.1;simp only[textH,textS,zEs];omega
end
mutual
def zS:Nat→St→Nat
 | d,.mk _ s es b c=>6*d+60+s.length+zEs es+zB (d+1) b+zB (d+1) c
def zB:Nat→List St→Nat
 | _,[]=>0
 | d,x::l=>zS d x+zB d l
end
theorem qS (d:Nat) (t:Bs):(uJ d t).length=2*d+t.length+1:=by
 unfold uJ
 have:(Lib.repeatL [32,32] d:Bs).length=2*d:=by
  induction d with
  | zero=>rfl
  | succ d ih=>simp only[Lib.repeatL,List.replicate_succ,Kr,Ji] at *;simp only[Jj,Jk];omega
 simp only[Ji,this,Jj,Jk]
mutual
theorem prS_z:∀(d:Nat) (x:St),stU x=true→(prS d x).length≤zS d x
 | d,.mk k s es b c,h=>by
  simp only[stU,Kj] at h;have h2:=textHS_z es 0 0 h.1.1;have hb:=prB_z (d+1) b h.1.2;have hc:=prB_z (d+1) c h.2;simp only[prS,zS]
  by_cases k1:k=1
  ·rw[Kp k1,qS];simp only[Ji,Jj,Jk];omega
  rw[Ko k1]
  by_cases k2:k=2
  ·rw[Kp k2,qS];simp only[Ji,Jj,Jk];omega
  rw[Ko k2]
  by_cases k3:k=3
  ·rw[Kp k3,qS];simp only[Ji,Jj,Jk];omega
  rw[Ko k3]
  by_cases k6:k=6
  ·rw[Kp k6,qS];simp only[Ji,Jj,Jk];omega
  rw[Ko k6]
  by_cases k7:k=7
  ·rw[Kp k7,qS];simp only[Ji,Jj,Jk];omega
  rw[Ko k7]
  by_cases k8:k=8
  ·rw[Kp k8,qS];simp only[Ji,Jj,Jk];omega
  rw[Ko k8]
  by_cases k5:k=5
  ·rw[Kp k5,Ji,Ji,qS,qS];simp only[Ji,Jj,Jk];omega
  rw[Ko k5]
  by_cases k4:k=4
  ·rw[Kp k4,Ji,Ji,Ji,qS,qS]
   split
   ·simp only[Ji,Jj,Jk,qS];omega
   ·simp only[Ji,Jj,Jk];omega
  rw[Ko k4];exact Kl _
theorem prB_z:∀(d:Nat) (l:List St),stsU l=true→(prB d l).length≤zB d l
 | _,[],_=>by simp[prB]
 | d,x::l,h=>by
  simp only[stsU,Kj] at h;have h1:=prS_z d x h.1;have h2:=prB_z d l h.2;simp only[prB,zB,Ji];omega
end
end Go.Proofs.YtfpkpnkdnammnaaGreatDoor
namespace Go.Proofs.YtfpkpnkdnammnaaGreatDoor
theorem name_z {s:Bs}(h:yG s=true):s.length≤12:=by
 cases s with
 | nil=>exact Kl _
 | cons c r =>
  rw[name_eq] at h;simp only[Kj,Nat.ble_eq] at h;exact h.1.1.1
variable {E:GE}
def RZ (rec:GS→Ex×GS) (c:Nat):Prop:=∀s,NmG s→zE (rec s).1≤c∧exU (rec s).1=true
theorem zEs_app (a b:List Ex):zEs (a++b)=zEs a+zEs b:=by
 induction a with
 | nil=>simp[zEs]
 | cons x a ih=>simp only[List.cons_append,zEs,ih];omega
theorem exUs_app {a b:List Ex}(h:exUs a=true) (k:exUs b=true):exUs (a++b)=true:=by
 induction a with
 | nil=>exact k
 | cons x a ih=>simp only[List.cons_append,exUs,Kj] at *;exact⟨h.1,ih h.2⟩
theorem uC {x:Ex}(h:exU x=true):exUs [x]=true:=by simp only[exUs,h,Bool.and_true]
theorem exU_mk {k n:Nat}{s:Bs}{l:List Ex}(hn:n<4294967296) (h:exUs l=true):exU (.mk k n s l)=true:=by simp only[exU,h,Kv hn,Bool.and_true]
theorem kids_z {rec:GS→Ex×GS}{c:Nat}(hr:RX rec) (hz:RZ rec c):∀(n:Nat) (acc:List Ex) (s:GS),NmG s→exUs acc=true→zEs (uK rec n acc s).1≤zEs acc+n*(c+2)∧exUs (uK rec n acc s).1=true
 | 0,acc,s,_,h=>⟨Nat.le_add_right _ _,h⟩
 | n+1,acc,s,hs,h=>by
  have h1:=hr s hs;have h3:=hz s hs;have h2:=kids_z hr hz n (acc++[(rec s).1]) (rec s).2 (hs.of h1.2) (exUs_app h (uC h3.2));have e:zEs (acc++[(rec s).1])=zEs acc+(zE (rec s).1+2):=by rw[zEs_app];rfl
  rw[e] at h2;refine⟨?_,h2.2⟩;have:=h2.1;show zEs (uK rec n (acc++[(rec s).1]) (rec s).2).1≤_;rw[Nat.succ_mul];omega
theorem callG_z {rec:GS→Ex×GS}{c:Nat}(hr:RX rec) (hz:RZ rec c) {f:Fn}(hf:yG f.name=true) (hp:f.params.length≤4) {s:GS}(hs:NmG s):zE (tC rec f s).1≤40+4*c∧exU (tC rec f s).1=true:=by
 have h:=kids_z hr hz f.params.length [] s hs rfl;have hn:=name_z hf;refine⟨?_,exU_mk (by omega) h.2⟩;have h1:=h.1;have h2:f.params.length*(c+2)≤4*(c+2):=Nat.mul_le_mul_right _ hp;have h3:zEs []=0:=rfl;show 20+f.name.length+zEs (uK rec f.params.length [] s).1≤_;omega
def GE.Pm (E:GE):Prop:=∀f∈E.fs,f.params.length≤4
theorem fn_par (hP:E.Pm) (i:Nat):(E.fs.getD i wJ).params.length≤4:=by
 rw[Ka]
 cases h:E.fs[i]? with
 | none=>exact Kl _
 | some f=>exact hP f (Ju h)
theorem con_z:∀v,v<15→conL.getD v 0<4294967296:=by decide
theorem un_z:∀v,v<3→(unL.getD v []).length≤2:=by decide
theorem op_z:∀v,v<16→(opL.getD v []).length≤2:=by decide
theorem conG_z (s:GS):zE (conG E s).1≤40∧exU (conG E s).1=true:=⟨by show 20+0+0≤40;omega,exU_mk (con_z _ (wU _ _ (by omega))) rfl⟩
theorem exB_z (hE:E.Nm) (hP:E.Pm) {rec:GS→Ex×GS}{k c:Nat}(hr:RX rec∧RZ rec c∨k≤3) {s:GS}(hs:NmG s):zE (tD E rec k s).1≤40+4*c∧exU (tD E rec k s).1=true:=by
 unfold tD
 split
 ·next h =>
  have:=name_z (nmG_right (E:=E) hs h.2);exact⟨by show 20+(nmG E s).1.length+0≤_;omega,exU_mk (by omega) rfl⟩
 split
 ·exact⟨by show 20+0+0≤_;omega,rfl⟩
 split
 ·next h =>
  have h1:=(hr.resolve_right (by omega)).2 s hs;exact⟨by show 20+0+(zE (rec s).1+2+0)≤_;omega,exU_mk (by omega) (uC h1.2)⟩
 split
 ·next h =>
  have h1:=(hr.resolve_right (by omega)).2 (s.nx E) hs;have:=un_z _ (show s.v E 3<3 from wU _ _ (by omega));exact⟨by show 20+(unL.getD (s.v E 3) []).length+(zE (rec (s.nx E)).1+2+0)≤_;omega,exU_mk (by omega) (uC h1.2)⟩
 split
 ·next h =>
  have hr:=hr.resolve_right (by omega);exact callG_z hr.1 hr.2 (fnG_right hE s h.2) (fn_par hP _) (s:=s.nx E) hs
 split
 ·next h =>
  have hr:=hr.resolve_right (by omega);have h1:=hr.2 (s.nx E) hs;have h2:=hr.2 (rec (s.nx E)).2 (NmG.of (s:=s) hs (hr.1 (s.nx E) hs).2);have:=op_z _ (show s.v E 16<16 from wU _ _ (by omega));exact⟨by show 20+(opL.getD (s.v E 16) []).length+(zE (rec (s.nx E)).1+2+(zE (rec (rec (s.nx E)).2).1+2+0))≤_;omega,exU_mk (by omega) (exUs_app (uC h1.2) (uC h2.2))⟩
 ·have:=conG_z (E:=E) s;exact⟨by omega,this.2⟩
def cz:Nat→Nat
 | 0=>40
 | d+1=>40+4*cz d
theorem ex_z (hE:E.Nm) (hP:E.Pm):∀d,RZ (exG E d) (cz d)
 | 0,s,hs=>by
  have:=exB_z (E:=E) hE hP (c:=0) (rec:=fun s=>(.mk 0 0 [] [],s)) (.inr (exK_le (E:=E) (s:=s) (Kl 1))) (s:=s.dn.nx E) hs;exact this
 | d+1,s,hs=>exB_z hE hP (.inl ⟨qY hE d,ex_z hE hP d⟩) (s:=s.dn.nx E) hs
end Go.Proofs.YtfpkpnkdnammnaaGreatDoor
namespace Go.Proofs.YtfpkpnkdnammnaaGreatDoor
variable {E:GE}
def RW (rec:GS→List St×GS) (c m:Nat):Prop:=∀s,NmG s→(∀d,d≤m→zB d (rec s).1≤c)∧stsU (rec s).1=true
theorem zB_app (d:Nat) (a b:List St):zB d (a++b)=zB d a+zB d b:=by
 induction a with
 | nil=>simp[zB]
 | cons x a ih=>simp only[List.cons_append,zB,ih];omega
theorem stsU_app {a b:List St}(h:stsU a=true) (k:stsU b=true):stsU (a++b)=true:=by
 induction a with
 | nil=>exact k
 | cons x a ih=>simp only[List.cons_append,stsU,Kj] at *;exact⟨h.1,ih h.2⟩
theorem zB_one (d k:Nat) (s:Bs) (es:List Ex) (b c:List St):zB d [.mk k s es b c]=6*d+60+s.length+zEs es+zB (d+1) b+zB (d+1) c:=by simp only[zB,zS,Nat.add_zero]
theorem qK {k:Nat}{s:Bs}{es:List Ex}{b c:List St}(h1:exUs es=true) (h2:stsU b=true) (h3:stsU c=true):stsU [.mk k s es b c]=true:=by simp only[stsU,stU,h1,h2,h3,Bool.and_true]
theorem zB_nil (d:Nat):zB d []=0:=by simp only[zB]
theorem uF:stsU []=true:=by simp only[stsU]
theorem zEs_one (e:Ex):zEs [e]=zE e+2:=rfl
theorem one_z {d k:Nat}{s:Bs}{e:Ex}(hd:d≤10) (hs:s.length≤12) (he:zE e≤13640):zB d [.mk k s [e] [] []]≤30000:=by
 rw[zB_one,zEs_one,zB_nil];omega
theorem cz4:cz 4=13640:=rfl
theorem cz3:cz 3=3400:=rfl
theorem cz2:cz 2=840:=rfl
theorem if_z {rec:GS→List St×GS}{c m:Nat}(hr:RT rec) (hz:RW rec c (m+1)) {e:Ex}(he:zE e≤13640) (hu:exU e=true) {s:GS}(hs:NmG s):(∀d,d≤m→d≤10→zB d (ifG E rec e s).1≤30000+2*c)∧stsU (ifG E rec e s).1=true:=by
 have h1:=hz s hs;have h2:=hz ((rec s).2.nx E) (hr s hs).2;unfold ifG
 split
 ·refine⟨fun d hd hd2=>?_,qK (uC hu) h1.2 h2.2⟩;have:=h1.1 (d+1) (by omega);have:=h2.1 (d+1) (by omega);rw[zB_one,zEs_one];simp only[Jk];omega
 ·refine⟨fun d hd hd2=>?_,qK (uC hu) h1.2 uF⟩;have:=h1.1 (d+1) (by omega);rw[zB_one,zEs_one,zB_nil];simp only[Jk];omega
theorem wh_z {rec:GS→List St×GS}{c m:Nat}(hz:RW rec c (m+1)) {nm:Bs}(hn:nm.length≤12) {s:GS}(hs:NmG s):(∀d,d≤m→d≤10→zB d (whG E rec nm s).1≤30000+2*c)∧stsU (whG E rec nm s).1=true:=by
 have h1:=hz (s.nx E) hs;have hv:s.v E 5<5:=wU _ _ (by omega);have e:(whG E rec nm s).1=[.mk 1 nm [.mk 1 (s.v E 5) [] []] [] []]++[.mk 5 [] [.mk 2 0 nm []] ((rec (s.nx E)).1++[.mk 2 nm [.mk 7 0 [45] [.mk 2 0 nm [],.mk 1 1 [] []]] [] []]) []]:=rfl;rw[e];refine⟨fun d hd hd2=>?_,stsU_app (qK (uC (exU_mk (by omega) V)) uF uF) (qK (uC (exU_mk (by omega) V)) (stsU_app h1.2 (qK (uC (exU_mk (by omega) V)) uF uF)) uF)⟩;have:=h1.1 (d+1) (by omega);rw[zB_app,zB_one,zB_one,zB_app,zB_one,zB_nil,zB_nil];simp only[zEs,zE,zB_nil,Jk,Jj];omega
theorem st_z (hE:E.Nm) (hP:E.Pm) {rec:GS→List St×GS}{c m:Nat}(hr:RT rec) (hz:RW rec c (m+1)) (deep k:Nat) {s:GS}(hs:NmG s):(∀d,d≤m→d≤10→zB d (stG E rec deep k s).1≤30000+2*c)∧stsU (stG E rec deep k s).1=true:=by
 have hx4:=qY hE 4;have hx3:=qY hE 3;have hz4:=ex_z hE hP 4;have hz3:=ex_z hE hP 3;rw[cz4] at hz4;rw[cz3] at hz3
 have one:∀{k:Nat} {nm:Bs} {e:Ex},nm.length≤12→zE e≤13640∧exU e=true→(∀d,d≤m→d≤10→zB d [.mk k nm [e] [] []]≤30000+2*c)∧stsU [.mk k nm [e] [] []]=true :=
  fun hn he=>⟨fun d _ hd=>Kx (one_z hd hn he.1) (Nat.le_add_right _ _),qK (uC he.2) uF uF⟩
 unfold stG
 split
 ·next h=>exact one (name_z (fre_nm _ h.2)) (hz4 s.vr hs)
 split
 ·next h=>exact one (name_z (nmG_right (E:=E) hs h.2)) (hz4 (nmG E s).2 hs)
 split
 ·have h1:=hz3 s hs;have h2:=hz4 (exG E 3 s).2 (hs.of (hx3 s hs).2);refine⟨fun d _ hd=>?_,qK (exUs_app (uC h1.2) (uC h2.2)) uF uF⟩;rw[zB_one,zB_nil];simp only[zEs,Jk];omega
 split
 ·have h1:=hz3 s hs;exact if_z hr hz (by omega) h1.2 (hs.of (hx3 s hs).2)
 split
 ·next h=>exact wh_z hz (name_z (fre_nm _ h.2.2)) (s:=s.vr) hs
 split
 ·split
  ·exact one (Kl _) (hz4 (s.nx E) hs)
  ·exact one (Kl _) (hz4 (s.nx E) hs)
 split
 ·next h =>
  have hf:yG (tT E s).1.name=true∧(tT E s).2.names=s.names∧(tT E s).1.params.length≤4:=by
   unfold tT
   split
   ·refine⟨fn_name hE ?_,rfl,fn_par hP _⟩;have:=wU E.l ((s.nx E).nx E).at_ (show 0<E.fs.length-1 by omega);show 1+nxV E.l ((s.nx E).nx E).at_ (E.fs.length-1)<E.fs.length;omega
   ·exact⟨fnG_right hE s h.2,rfl,fn_par hP _⟩
  have h1:=callG_z (qY hE 2) (ex_z hE hP 2) hf.1 hf.2.2 (hs.of hf.2.1);rw[cz2] at h1;exact one (Kl _) ⟨by omega,h1.2⟩
 ·exact one (Kl _) (hz4 s hs)
theorem bl_z (hE:E.Nm) (hP:E.Pm) {rec:GS→List St×GS}{c m:Nat}(hr:RT rec) (hz:RW rec c (m+1)) (hm:m≤10) (deep:Nat):∀(n:Nat) (acc:List St) (s:GS) (C:Nat),NmG s→(∀d,d≤m→zB d acc≤C)→stsU acc=true→(∀d,d≤m→zB d (blG E rec deep n acc s).1≤C+n*(30000+2*c))∧stsU (blG E rec deep n acc s).1=true
 | 0,acc,s,C,_,h,hu=>⟨fun d hd=>Kx (h d hd) (Nat.le_add_right _ _),hu⟩
 | n+1,acc,s,C,hs,h,hu=>by
  unfold blG
  split
  ·exact⟨fun d hd=>Kx (h d hd) (Nat.le_add_right _ _),hu⟩
  ·have h1:=st_right hE hr deep (s.lf.v E 12) (s:=s.lf.nx E) hs;have h2:=st_z hE hP hr hz deep (s.lf.v E 12) (s:=s.lf.nx E) hs
   have h3:=bl_z hE hP hr hz hm deep n (acc++(stG E rec deep (s.lf.v E 12) (s.lf.nx E)).1) _ (C+(30000+2*c)) h1.2 (fun d hd=>by
    rw[zB_app];have:=h d hd;have:=h2.1 d hd (by omega)
    omega) (stsU_app hu h2.2)
   refine⟨fun d hd=>?_,h3.2⟩;have:=h3.1 d hd;rw[Nat.succ_mul];omega
def bz:Nat→Nat
 | 0=>150000
 | r+1=>5*(30000+2*bz r)
theorem sts_z (hE:E.Nm) (hP:E.Pm):∀(r m:Nat),r+m≤10→RW (stsG E r) (bz r) m
 | 0,m,hm,s,hs=>by
  have hv:s.v E 5<5:=wU _ _ (by omega);have h:=bl_z hE hP (rec:=fun s=>([],s)) (c:=0) (m:=m) (fun _ hs=>⟨pT,hs⟩) (fun _ _=>⟨fun d _=>by rw[zB_nil];exact Km _,uF⟩) (by omega) 4 (1+s.v E 5) [] (s.nx E) 0 hs (fun d _=>by rw[zB_nil];exact Km _) uF;refine⟨fun d hd=>Kx (h.1 d hd) ?_,h.2⟩;show 0+(1+s.v E 5)*(30000+2*0)≤150000;omega
 | r+1,m,hm,s,hs=>by
  have hv:s.v E 5<5:=wU _ _ (by omega);have h:=bl_z hE hP (sts_right hE r) (sts_z hE hP r (m+1) (by omega)) (by omega) (4-(r+1)) (1+s.v E 5) [] (s.nx E) 0 hs (fun d _=>by rw[zB_nil];exact Km _) uF;refine⟨fun d hd=>Kx (h.1 d hd) ?_,h.2⟩;show 0+(1+s.v E 5)*(30000+2*bz r)≤5*(30000+2*bz r);rw[Kk];exact Nat.mul_le_mul_right _ (by omega)
theorem bz3:bz 3≤200000000:=by decide
end Go.Proofs.YtfpkpnkdnammnaaGreatDoor
namespace Go.Proofs.YtfpkpnkdnammnaaGreatDoor
structure Sml (f:Fn):Prop where
 nm:f.name.length≤12
 pr:f.params.length≤5
 pn:∀x∈f.params,x.length≤12
 z:zB 1 f.body≤300000000
 u:stsU f.body=true
theorem hd_par (l:List Int):∀(n:Nat) (acc:List Fn) (a:Nat),(∀f∈acc,f.params.length≤4)→∀f∈(hdG l n acc a).1,f.params.length≤4
 | 0,_,_,h=>h
 | n+1,acc,a,h=>by
  unfold hdG
  split
  ·refine hd_par l n _ _ fun f hf=>?_;rcases Kz.1 hf with hf|hf
   ·exact h f hf
   ·cases Aa.1 hf;exact Kl _
  ·refine hd_par l n _ _ fun f hf=>?_;rcases Kz.1 hf with hf|hf
   ·exact h f hf
   ·cases Aa.1 hf;show (rW.take _).length≤4;rw[Ki];exact Nat.min_le_right _ _
theorem bd_z (l:List Int) (fs:List Fn) (hf:HdR fs) (hp:∀f∈fs,f.params.length≤4):∀(n:Nat) (acc:List Fn) (a:Nat),acc.length+n≤fs.length→(∀f∈acc,Sml f∧zB 1 f.body≤200000000∧f.params.length≤4)→∀f∈(bdG l fs n acc a).1,Sml f∧zB 1 f.body≤200000000∧f.params.length≤4
 | 0,acc,a,_,h=>h
 | n+1,acc,a,hl,h=>by
  have hm:=getD_in (show acc.length<fs.length by omega) wJ;have hg:=hf _ hm;have hr:=sts_z (E:=⟨l,fs,acc.length⟩) hf hp 3 7 (by omega) ⟨a,8,150,0,(fs.getD acc.length wJ).params⟩ hg.2;have hb:=hr.1 1 (by omega);have:=bz3;unfold bdG;refine bd_z l fs hf hp n _ _ (by simp;omega) fun f hf'=>?_;rcases Kz.1 hf' with hf'|hf'
  ·exact h f hf'
  ·cases Aa.1 hf';have h4:=hp _ hm;exact⟨⟨name_z hg.1,by show (fs.getD acc.length wJ).params.length≤5;omega,fun x hx=>name_z (hg.2 x hx),Kx hb (by omega),hr.2⟩,Kx hb (by omega),h4⟩
theorem made_sml (l:List Int):∀f∈wI l,Sml f∧zB 1 f.body≤200000000∧f.params.length≤4:=by
 have hm:=wU l 0 (show 0<4 by omega);have h:=hd_right l (1+nxV l 0 4) [] (nxA l 0) (by simp;omega) (fun f hf=>by cases hf);exact bd_z l _ h.1 (hd_par l _ [] _ (fun _ h=>by cases h)) _ [] _ (by rw[h.2];simp) (fun _ h=>by cases h)
theorem prF_z {f:Fn}(h:Sml f):(prF f).length≤400000000:=by
 have h1:=prB_z 1 f.body h.u;have h2:=h.z;have h3:=h.nm;have hj:=join_z [44,32] f.params
 have hs:∀l:List Bs,(∀x∈l,x.length≤12)→(l.map fun x=>x.length+2).sum≤14*l.length:=by
  intro l
  induction l with
  | nil=>intro _;exact Km _
  | cons x l ih =>
   intro hx;have:=hx x (by simp);have:=ih fun y hy=>hx y (Kg _ hy);simp only[Kq,List.sum_cons,Jj];omega
 have hp:=hs f.params h.pn;have hpr:=h.pr;have hj2:(Lib.join f.params [44,32]).length≤14*f.params.length:=Kx hj hp;unfold prF;simp only[Ji,qS,Jj,Jk];have h1':(prB (0+1) f.body).length≤zB 1 f.body:=h1;omega
theorem print_z {fs:List Fn}(h:∀f∈fs,Sml f) (hl:fs.length≤4):(xE fs).length≤1000000000000:=by
 have:∀l:List Fn,(∀f∈l,Sml f)→((l.map prF).flatten).length≤l.length*400000000:=by
  intro l
  induction l with
  | nil=>intro _;exact Km _
  | cons x l ih =>
   intro hx;have h1:=prF_z (hx x (by simp));have h2:=ih fun y hy=>hx y (Kg _ hy);rw[Kq,Kr,Ji,Jj,Nat.succ_mul];omega
 have h1:=this fs h;unfold xE
 split
 ·omega
 ·exact Kl _
end Go.Proofs.YtfpkpnkdnammnaaGreatDoor
namespace Go.Proofs.YtfpkpnkdnammnaaGreatDoor
mutual
theorem exN_z:∀x:Ex,exN x≤zE x
 | .mk k n s kids=>by
  have:=exNs_z kids;simp only[exN,zE];omega
theorem exNs_z:∀l:List Ex,exNs l≤zEs l
 | []=>Km _
 | x::l=>by
  have:=exN_z x;have:=exNs_z l;simp only[exNs,zEs];omega
end
mutual
theorem stN_z:∀(d:Nat) (x:St),stN x≤zS d x
 | d,.mk k s es b c=>by
  have:=exNs_z es;have:=stNs_z (d+1) b;have:=stNs_z (d+1) c;simp only[stN,zS];omega
theorem stNs_z:∀(d:Nat) (l:List St),stNs l≤zB d l
 | _,[]=>Kl _
 | d,x::l=>by
  have:=stN_z d x;have:=stNs_z d l;simp only[stNs,zB];omega
end
end Go.Proofs.YtfpkpnkdnammnaaGreatDoor
