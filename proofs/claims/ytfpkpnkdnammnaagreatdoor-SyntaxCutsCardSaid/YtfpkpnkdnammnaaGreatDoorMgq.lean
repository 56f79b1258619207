import Derived.Test.YtfpkpnkdnammnaaGreatDoorMgb
import Derived.Test.YtfpkpnkdnammnaaGreatDoorMgp
import Derived.Test.YtfpkpnkdnammnaaGreatDoorMgN
import Derived.Test.YtfpkpnkdnammnaaGreatDoorMgd
namespace Go.Proofs.YtfpkpnkdnammnaaGreatDoor
def wT:List Tk→Nat
 | []=>0
 | x::l=>4*x.2.1.length+7+wT l
theorem vG (a b:List Tk):wT (a++b)=wT a+wT b:=by
 induction a with
 | nil=>simp[wT]
 | cons x a ih=>simp only[List.cons_append,wT,ih];omega
def kp (k:Nat):Nat:=if k=7 then 22 else 0
theorem kpk (k n:Nat) (s:Bs) (l:List Ex):kp (Ex.mk k n s l).kind=kp k:=rfl
theorem kp_1:kp 1=0:=rfl
theorem kp_2:kp 2=0:=rfl
theorem kp_3:kp 3=0:=rfl
theorem kp_4:kp 4=0:=rfl
theorem kp_5:kp 5=0:=rfl
theorem kp_6:kp 6=0:=rfl
theorem kp_7:kp 7=22:=rfl
theorem wt_w (k:Nat) (s:Bs) (least:Int) (t:List Tk):wT (wt false k s least t)≤wT t+kp k:=by
 unfold wt kp
 by_cases h:k=7
 ·rw[Kp h]
  split
  ·simp only[wT,vG,sg,Jj,Jk];omega
  ·omega
 ·rw[Ko (by simp[h])];omega
def uW:List Ex→Nat
 | []=>0
 | x::l=>wT (tx false x)+kp x.kind+uW l
theorem uW_app (a b:List Ex):uW (a++b)=uW a+uW b:=by
 induction a with
 | nil=>simp[uW]
 | cons x a ih=>simp only[List.cons_append,uW,ih];omega
theorem txt_w:∀l:List Ex,wT (txt false l)≤uW l+11*l.length
 | []=>by rw[txt];exact Kl _
 | x::l=>by
  have h1:=wt_w x.kind x.name 0 (tx false x);have h2:=txt_w l;rw[txt];simp only[wT,vG,sg,uW,Jj,Jk];omega
theorem txs_w:∀l:List Ex,wT (txs false l)≤uW l+11*(l.length-1)
 | []=>by rw[txs];exact Kl _
 | x::l=>by
  have h1:=wt_w x.kind x.name 0 (tx false x);have h2:=txt_w l;rw[txs];simp only[vG,uW,Jj];omega
theorem txH_w (x:Ex) (l:List Ex) (least:Int):wT (txH false (x::l) least)≤wT (tx false x)+kp x.kind:=by
 rw[txH];exact wt_w _ _ _ _
theorem nuT_w {n:Nat}(h:n<4294967296):wT [nuT n]≤47:=by
 have hd:(Lib.decDigits n).length≤10:=dec_len (by omega) (by decide);simp only[wT,nuT];omega
structure EW (δ:Nat) (s:GS) (r:Ex×GS):Prop where
 w:((wT (tx false r.1)+kp r.1.kind+δ:Nat):Int)≤77*(s.nodes-r.2.nodes)
 nme:r.2.names=s.names
structure BW (δ:Nat) (s:GS) (r:Ex×GS):Prop where
 w:((wT (tx false r.1)+kp r.1.kind+δ:Nat):Int)≤77*(1+(s.nodes-r.2.nodes))
 nme:r.2.names=s.names
def NmS (s:GS):Prop:=∀x∈s.names,x.length≤4
theorem NmS.of {s t:GS}(h:NmS s) (e:t.names=s.names):NmS t:=fun x hx=>h x (e▸hx)
def OwnF (δ:Nat) (f:Fn):Prop:=4*f.name.length+29+11*(f.params.length-1)+δ≤77+f.params.length*δ
def OwnE (E:GE) (δ:Nat):Prop:=∀i,i<E.fs.length→OwnF δ (E.fs.getD i wJ)
variable {E:GE}{δ:Nat}
theorem kids_w {rec:GS→Ex×GS}(hr:∀s,NmS s→EW δ s (rec s)):∀(n:Nat) (acc:List Ex) (s:GS),NmS s→((uW (uK rec n acc s).1:Nat):Int)+((n*δ:Nat):Int)≤(uW acc:Nat)+77*(s.nodes-(uK rec n acc s).2.nodes)∧(uK rec n acc s).2.names=s.names∧(uK rec n acc s).1.length=acc.length+n
 | 0,acc,s,hs=>⟨by show ((uW acc:Nat):Int)+((0*δ:Nat):Int)≤(uW acc:Nat)+77*(s.nodes-s.nodes);rw[Nat.zero_mul];omega,rfl,rfl⟩
 | n+1,acc,s,hs=>by
  have h1:=hr s hs;obtain⟨a1,a2,a3⟩:=kids_w hr n (acc++[(rec s).1]) (rec s).2 (hs.of h1.nme);have e:uK rec (n+1) acc s=uK rec n (acc++[(rec s).1]) (rec s).2:=rfl;rw[e];rw[uW_app] at a1;simp only[uW] at a1;have h3:=h1.w;refine⟨by rw[Nat.succ_mul];omega,a2.trans h1.nme,by rw[a3,Ji];simp;omega⟩
theorem call_w {rec:GS→Ex×GS}(hr:∀s,NmS s→EW δ s (rec s)) {f:Fn}(hf:OwnF δ f) {s:GS}(hs:NmS s):BW δ s (tC rec f s):=by
 obtain⟨a1,a2,a3⟩:=kids_w hr f.params.length [] s hs;unfold OwnF at hf;refine⟨?_,a2⟩;unfold tC;dsimp only;generalize uK rec f.params.length [] s=r at *;have ht:=txs_w r.1;rw[Jk,Kk] at a3;rw[a3] at ht;have e:tx false (.mk 3 0 f.name r.1)=nmT f.name::sg [40]::(txs false r.1++[sg [41]]):=by rw[tx,Ko (by omega),Ko (by omega),Kp rfl]
 rw[e];simp only[wT,vG,nmT,sg,kpk,kp_3,uW,Jj,Jk] at *;omega
theorem con_w (hδ:δ≤30) (s:GS):BW δ s (conG E s):=by
 refine⟨?_,rfl⟩;have h:=nuT_w (con_z _ (wU E.l s.at_ (show 0<15 by omega)));unfold conG;dsimp only;have e:tx false (.mk 1 (conL.getD (s.v E 15) 0) [] [])=[nuT (conL.getD (s.v E 15) 0)]:=by rw[tx,Kp rfl]
 rw[e];have e2:(s.nx E).nodes=s.nodes:=rfl;simp only[kpk,kp_1];have h':wT [nuT (conL.getD (s.v E 15) 0)]≤47:=h;omega
theorem unL_w:∀v,v<3→(unL.getD v []).length=1:=by decide
theorem exB_w (hO:OwnE E δ) (hδ:δ≤30) {rec:GS→Ex×GS}{k:Nat}(hr:(∀s,NmS s→EW δ s (rec s))∨k≤3) {s:GS}(hs:NmS s):BW δ s (tD E rec k s):=by
 unfold tD
 split
 ·next h =>
  refine⟨?_,rfl⟩;have hx:=hs _ (getD_in (wU E.l s.at_ h.2) []);dsimp only;have e:tx false (.mk 2 0 (nmG E s).1 [])=[nmT (nmG E s).1]:=by rw[tx,Ko (by omega),Kp rfl]
  rw[e];have hx':(nmG E s).1.length≤4:=hx;have e2:(nmG E s).2.nodes=s.nodes:=rfl;simp only[wT,nmT,kpk,kp_2];omega
 split
 ·refine⟨?_,rfl⟩;have e:tx false (.mk 5 0 [] [])=[sg kIn]:=by rw[tx,Ko (by omega),Ko (by omega),Ko (by omega),Ko (by omega),Kp rfl]
  dsimp only;rw[e];have hk:kIn.length=2:=rfl;simp only[wT,sg,kpk,kp_5,hk];omega
 split
 ·next h =>
  obtain⟨h1,h2⟩:=(hr.resolve_right (by omega)) s hs;refine⟨?_,h2⟩;generalize rec s=r at *;have ht:=txH_w r.1 [] 0;have e:tx false (.mk 4 0 [] [r.1])=sg kMem::sg [91]::(txH false [r.1] 0++[sg [93]]):=by rw[tx,Ko (by omega),Ko (by omega),Ko (by omega),Kp rfl]
  dsimp only;rw[e];have hk:kMem.length=3:=rfl;simp only[wT,vG,sg,kpk,kp_4,hk,Jj,Jk] at *;omega
 split
 ·next h =>
  obtain⟨h1,h2⟩:=(hr.resolve_right (by omega)) (s.nx E) hs;refine⟨?_,h2⟩;have e2:(s.nx E).nodes=s.nodes:=rfl;have hu:=unL_w _ (show s.v E 3<3 from wU _ _ (by omega));generalize rec (s.nx E)=r at *;generalize unL.getD (s.v E 3) []=op at *;have ht:=txH_w r.1 [] 8;have e:tx false (.mk 6 0 op [r.1])=sg op::txH false [r.1] 8:=by rw[tx,Ko (by omega),Ko (by omega),Ko (by omega),Ko (by omega),Ko (by omega),Kp rfl]
  dsimp only;rw[e];simp only[wT,sg,kpk,kp_6] at *;omega
 split
 ·next h =>
  obtain⟨i,hi,e⟩:=fnG_at h.2 s;rw[e];have h:=call_w (hr.resolve_right (by omega)) (hO i hi) (s:=s.nx E) hs;exact⟨h.w,h.nme⟩
 split
 ·next h =>
  have hr:=hr.resolve_right (by omega);obtain⟨h1,h2⟩:=hr (s.nx E) hs;obtain⟨g1,g2⟩:=hr (rec (s.nx E)).2 (NmS.of (s:=s) hs h2);refine⟨?_,g2.trans h2⟩;have e2:(s.nx E).nodes=s.nodes:=rfl;have hu:=op_z _ (show s.v E 16<16 from wU _ _ (by omega));generalize rec (s.nx E)=r at *;generalize rec r.2=r2 at *;generalize opL.getD (s.v E 16) []=op at *;have ht:=txH_w r.1 [r2.1] (vZ op);have ht2:=txH_w r2.1 [] (vZ op+1)
  have e:tx false (.mk 7 0 op [r.1,r2.1])=txH false [r.1,r2.1] (vZ op)++sg op::txH false [r2.1] (vZ op+1):=by
   rw[tx,Ko (by omega),Ko (by omega),Ko (by omega),Ko (by omega),Ko (by omega),Ko (by omega),txS]
  dsimp only;rw[e];simp only[wT,vG,sg,kpk,kp_7] at *;omega
 ·exact con_w hδ s
theorem ex_w (hO:OwnE E δ) (hδ:δ≤30):∀(d:Nat) (s:GS),NmS s→EW δ s (exG E d s)
 | 0,s,hs=>by
  have h:=exB_w (E:=E) hO hδ (rec:=fun s=>(.mk 0 0 [] [],s)) (.inr (exK_le' (E:=E) (d:=0) (s:=s) (.inl (Kl _)))) (s:=s.dn.nx E) hs;have h1:=h.w;have e:(s.dn.nx E).nodes=s.nodes-1:=rfl;exact⟨by show _≤77*(s.nodes-(tD E (fun s=>(.mk 0 0 [] [],s)) (exKG E 0 s) (s.dn.nx E)).2.nodes);exact Int.le_trans h1 (by omega),h.nme⟩
 | d+1,s,hs=>by
  have h:=exB_w (E:=E) hO hδ (rec:=exG E d) (k:=exKG E (d+1) s) (.inl (ex_w hO hδ d)) (s:=s.dn.nx E) hs;have h1:=h.w;have e:(s.dn.nx E).nodes=s.nodes-1:=rfl;exact⟨by show _≤77*(s.nodes-(tD E (exG E d) (exKG E (d+1) s) (s.dn.nx E)).2.nodes);exact Int.le_trans h1 (by omega),h.nme⟩
end Go.Proofs.YtfpkpnkdnammnaaGreatDoor
namespace Go.Proofs.YtfpkpnkdnammnaaGreatDoor
theorem tB_app (a b:List St):tB false (a++b)=tB false a++tB false b:=by
 induction a with
 | nil=>simp[tB]
 | cons x a ih=>rw[List.cons_append,tB,tB,ih,Kb]
theorem tB_one (x:St):wT (tB false [x])=wT (tS false x):=by rw[tB,tB,Ku]
theorem one_w {k:Nat}{x:Bs}{e:Ex}(hk:k=1∨k=2∨k=6∨k=7∨k=8):wT (tB false [.mk k x [e] [] []])≤4*x.length+60+(wT (tx false e)+kp e.kind):=by
 have h:=txH_w e [] 0;have k1:kVar.length=3:=rfl;have k2:kRet.length=6:=rfl;have k3:kOut.length=3:=rfl;rw[tB_one];rcases hk with rfl|rfl|rfl|rfl|rfl
 ·rw[tS,Kp rfl];simp only[wT,vG,sg,nmT,k1,Jj,Jk];omega
 ·rw[tS,Ko (by omega),Kp rfl];simp only[wT,vG,sg,nmT,Jj,Jk];omega
 ·rw[tS,Ko (by omega),Ko (by omega),Ko (by omega),Ko (by omega),Ko (by omega),Kp rfl];simp only[wT,vG,sg,k2,Jj,Jk];omega
 ·rw[tS,Ko (by omega),Ko (by omega),Ko (by omega),Ko (by omega),Ko (by omega),Ko (by omega),Kp rfl];simp only[wT,vG,sg,k3,Jj,Jk];omega
 ·rw[tS,Ko (by omega),Ko (by omega),Ko (by omega),Ko (by omega),Ko (by omega),Ko (by omega),Ko (by omega),Kp rfl];simp only[wT,vG,sg,Jj,Jk];omega
theorem put_w {x:Bs}{d e:Ex}:wT (tB false [.mk 3 x [d,e] [] []])≤63+(wT (tx false d)+kp d.kind)+(wT (tx false e)+kp e.kind):=by
 have h:=txH_w d [e] 0;have h2:=txH_w e [] 0;have k1:kMem.length=3:=rfl;rw[tB_one,tS,Ko (by omega),Ko (by omega),Kp rfl,txS];simp only[wT,vG,sg,k1,Jj,Jk];omega
theorem if_w {x:Bs}{e:Ex}{b c:List St}:wT (tB false [.mk 4 x [e] b c])≤82+(wT (tx false e)+kp e.kind)+wT (tB false b)+wT (tB false c):=by
 have h:=txH_w e [] 0;have k1:kIf.length=2:=rfl;have k2:tI.length=4:=rfl;rw[tB_one,tS,Ko (by omega),Ko (by omega),Ko (by omega),Kp rfl]
 split
 ·simp only[wT,vG,sg,k1,k2,Jj,Jk];omega
 ·simp only[wT,vG,sg,k1,Jj,Jk];omega
theorem while_w {x:Bs}{e:Ex}{b c:List St}:wT (tB false [.mk 5 x [e] b c])≤60+(wT (tx false e)+kp e.kind)+wT (tB false b):=by
 have h:=txH_w e [] 0;have k1:kWhile.length=5:=rfl;rw[tB_one,tS,Ko (by omega),Ko (by omega),Ko (by omega),Ko (by omega),Kp rfl];simp only[wT,vG,sg,k1,Jj,Jk];omega
structure XW (c:Int) (s:GS) (r:Ex×GS):Prop where
 w:((wT (tx false r.1)+kp r.1.kind:Nat):Int)≤77*(max s.nodes (-9)-max r.2.nodes (-9))+c
 nm:NmS r.2
 lf:r.2.left=s.left
structure SW (e:Nat) (s:GS) (r:List St×GS):Prop where
 w:((wT (tB false r.1):Nat):Int)≤77*(max s.nodes (-9)-max r.2.nodes (-9))+470*((s.left:Int)+e-r.2.left)
 nm:NmS r.2
variable {E:GE}{fs:List Fn}{δ:Nat}
theorem ex_xw (hF:Fit E fs) (hO:OwnE E δ) (hδ:δ≤30) {d:Nat}(h1d:1≤d) (hd:d≤4) {s:GS}(hs:NmS s):XW 77 s (exG E d s):=by
 have h:=ex_w hO hδ d s hs;have k:=ex_k (nm:=s.names) hF d s (fun x hx=>hx);have hw:=h.w;have hl:=k.lo
 have hL:-9≤nL (max d 1):=by
  rw[show max d 1=d by omega];obtain rfl|rfl|rfl|rfl:d=1∨d=2∨d=3∨d=4:=by omega
  all_goals simp only[nL];omega
 exact⟨by omega,hs.of h.nme,k.lf⟩
theorem call_xw (hF:Fit E fs) (hO:OwnE E δ) (hδ:δ≤30) {i:Nat}(hi:i<E.fs.length) {s:GS}(hs:NmS s):XW 385 s (tC (exG E 2) (E.fs.getD i wJ) s):=by
 have h:=call_w (ex_w hO hδ 2) (hO i hi) hs;have k:=call_k (nm:=s.names) (d:=2) (fun t ht=>ex_k hF 2 t ht) hF hi (s:=s) (fun x hx=>hx);have hw:=h.w;have hl:=k.lo;have hL:nL 2=-3:=rfl;exact⟨by omega,hs.of h.nme,k.lf⟩
theorem SW.app {e1 e2:Nat}{s s1 s2:GS}{a b:List St}(h:SW e1 s (a,s1)) (k:SW e2 s1 (b,s2)):SW (e1+e2) s (a++b,s2):=by
 have h1:=h.w;have k1:=k.w;dsimp only at h1 k1;refine⟨?_,k.nm⟩;dsimp only;rw[tB_app,vG];omega
theorem sw_nil {s:GS}(hs:NmS s):SW 0 s ([],s):=⟨by dsimp only;rw[tB];simp only[wT];omega,hs⟩
def RSW (rec:GS→List St×GS):Prop:=∀s,NmS s→SW 0 s (rec s)
theorem sw_one {k:Nat}{x:Bs}{c:Int}{t s:GS}{r:Ex×GS}(hk:k=1∨k=2∨k=6∨k=7∨k=8) (hx:x.length≤4) (hc:c≤390) (e1:t.nodes=s.nodes) (e2:t.left=s.left) (h:XW c t r):SW 1 s ([.mk k x [r.1] [] []],r.2):=by
 obtain⟨a1,a2,a3⟩:=h;have h1:=one_w (x:=x) (e:=r.1) hk;exact⟨by dsimp only;omega,a2⟩
theorem fre_len (v:Nat):(qR.getD v []).length≤4:=by
 rcases Nat.lt_or_ge v 8 with h|h
 ·have:∀v,v<8→(qR.getD v []).length≤4:=by decide
  exact this v h
 ·rw[Ka,List.getElem?_eq_none (by show 8≤v;exact h)];exact Kl _
theorem NmS.add {s:GS}(h:NmS s) {x:Bs}(hx:x.length≤4):NmS (s.add x):=fun y hy=>by
 rcases Kz.1 hy with hy|hy
 ·exact h y hy
 ·cases Aa.1 hy;exact hx
theorem if_sw {rec:GS→List St×GS}(hr:RSW rec) {r:Ex×GS}{s:GS}(h:XW 77 s r):SW 1 s (ifG E rec r.1 r.2):=by
 obtain⟨a1,a2,a3⟩:=h;obtain⟨b1,b2⟩:=hr r.2 a2;unfold ifG
 split
 ·obtain⟨c1,c2⟩:=hr ((rec r.2).2.nx E) b2;have n2:((rec r.2).2.nx E).left=(rec r.2).2.left:=rfl;have n3:((rec r.2).2.nx E).nodes=(rec r.2).2.nodes:=rfl;rw[n2,n3] at c1;have h1:=if_w (x:=[]) (e:=r.1) (b:=(rec r.2).1) (c:=(rec ((rec r.2).2.nx E)).1);exact⟨by dsimp only;omega,c2⟩
 ·have n2:((rec r.2).2.nx E).left=(rec r.2).2.left:=rfl;have n3:((rec r.2).2.nx E).nodes=(rec r.2).2.nodes:=rfl;have h1:=if_w (x:=[]) (e:=r.1) (b:=(rec r.2).1) (c:=[]);have h2:wT (tB false [])=0:=by rw[tB];rfl
  exact⟨by dsimp only;omega,b2⟩
theorem nu_w {n:Nat}(h:n<4294967296):wT (tx false (.mk 1 n [] []))+kp (Ex.mk 1 n [] []).kind≤47:=by
 have:=nuT_w h;rw[tx,Kp rfl];simp only[kpk,kp_1];omega
theorem nm_w {x:Bs}(h:x.length≤4):wT (tx false (.mk 2 0 x []))+kp (Ex.mk 2 0 x []).kind≤23:=by
 rw[tx,Ko (by omega),Kp rfl];simp only[wT,nmT,kpk,kp_2];omega
theorem less_w {x:Bs}(h:x.length≤4):wT (tx false (.mk 7 0 [45] [.mk 2 0 x [],.mk 1 1 [] []]))+kp (Ex.mk 7 0 [45] [.mk 2 0 x [],.mk 1 1 [] []]).kind≤103:=by
 have h1:=nm_w h;have h2:=nu_w (show 1<4294967296 by omega);have h3:=txH_w (.mk 2 0 x []) [.mk 1 1 [] []] (vZ [45]);have h4:=txH_w (.mk 1 1 [] []) [] (vZ [45]+1);rw[tx,Ko (by omega),Ko (by omega),Ko (by omega),Ko (by omega),Ko (by omega),Ko (by omega),txS];simp only[wT,vG,sg,kpk,kp_1,kp_2,kp_7,Jj,Jk] at *;omega
theorem wh_sw {rec:GS→List St×GS}(hr:RSW rec) {x:Bs}(hx:x.length≤4) {t s:GS}(e1:t.nodes=s.nodes) (e2:t.left=s.left) (ht:NmS t):SW 1 s (whG E rec x t):=by
 obtain⟨b1,b2⟩:=hr (t.nx E) ht;have hv:t.v E 5<5:=wU _ _ (by omega);have n2:(t.nx E).left=t.left:=rfl;have n3:(t.nx E).nodes=t.nodes:=rfl;rw[n2,n3] at b1;have h1:=one_w (k:=1) (x:=x) (e:=.mk 1 (t.v E 5) [] []) (.inl rfl);have h2:=nu_w (show t.v E 5<4294967296 by omega);have h3:=while_w (x:=[]) (e:=.mk 2 0 x []) (b:=(rec (t.nx E)).1++[.mk 2 x [.mk 7 0 [45] [.mk 2 0 x [],.mk 1 1 [] []]] [] []]) (c:=[]);have h4:=nm_w hx;have h5:=one_w (k:=2) (x:=x) (e:=.mk 7 0 [45] [.mk 2 0 x [],.mk 1 1 [] []]) (.inr (.inl rfl));have h6:=less_w hx;rw[tB_app,vG] at h3;refine⟨?_,b2.add hx⟩;have e:(whG E rec x t).1=[.mk 1 x [.mk 1 (t.v E 5) [] []] [] []]++[.mk 5 [] [.mk 2 0 x []] ((rec (t.nx E)).1++[.mk 2 x [.mk 7 0 [45] [.mk 2 0 x [],.mk 1 1 [] []]] [] []]) []]:=rfl;have m2:(whG E rec x t).2.left=(rec (t.nx E)).2.left:=rfl;have m3:(whG E rec x t).2.nodes=(rec (t.nx E)).2.nodes:=rfl;rw[e,tB_app,vG,m2,m3];omega
theorem st_sw (hF:Fit E fs) (hO:OwnE E δ) (hδ:δ≤30) {rec:GS→List St×GS}(hr:RSW rec) (deep k:Nat) {s:GS}(hs:NmS s):SW 1 s (stG E rec deep k s):=by
 have hx4:∀t,NmS t→XW 77 t (exG E 4 t):=fun t ht=>ex_xw hF hO hδ (by omega) (Km 4) ht;have hx3:∀t,NmS t→XW 77 t (exG E 3 t):=fun t ht=>ex_xw hF hO hδ (by omega) (by omega) ht;unfold stG
 split
 ·have h:=sw_one (c:=77) (k:=1) (t:=s.vr) (s:=s) (.inl rfl) (fre_len s.vars) (by omega) rfl rfl (hx4 s.vr hs);exact⟨h.w,h.nm.add (fre_len s.vars)⟩
 split
 ·next h=>exact sw_one (c:=77) (k:=2) (t:=(nmG E s).2) (s:=s) (.inr (.inl rfl)) (hs _ (getD_in (wU E.l s.at_ h.2) [])) (by omega) rfl rfl (hx4 (nmG E s).2 hs)
 split
 ·obtain⟨a1,a2,a3⟩:=hx3 s hs;obtain⟨b1,b2,b3⟩:=hx4 (exG E 3 s).2 a2;have h1:=put_w (x:=[]) (d:=(exG E 3 s).1) (e:=(exG E 4 (exG E 3 s).2).1);exact⟨by dsimp only;omega,b2⟩
 split
 ·exact if_sw hr (hx3 s hs)
 split
 ·exact wh_sw hr (fre_len s.vars) V V (t:=s.vr) hs
 split
 ·split
  ·exact sw_one (c:=77) (k:=6) (t:=s.nx E) (s:=s) (.inr (.inr (.inl V))) (Kl _) (by omega) V V (hx4 (s.nx E) hs)
  ·exact sw_one (c:=77) (k:=7) (t:=s.nx E) (s:=s) (.inr (.inr (.inr (.inl V)))) (Kl _) (by omega) V V (hx4 (s.nx E) hs)
 split
 ·next h =>
  obtain⟨i,hi,e,f1,f2,f3,f4⟩:=fns_at h.2 s;rw[e]
  exact sw_one (c:=385) (k:=8) (t:=(tT E s).2) (s:=s) (.inr (.inr (.inr (.inr V)))) (Kl _) (by omega) f4 f3 (by
   have h:=call_xw hF hO hδ hi (s:=(tT E s).2) (hs.of f1)
   exact h)
 ·exact sw_one (c:=77) (k:=7) (t:=s) (s:=s) (.inr (.inr (.inr (.inl V)))) (Kl _) (by omega) V V (hx4 s hs)
theorem bl_sw (hF:Fit E fs) (hO:OwnE E δ) (hδ:δ≤30) {rec:GS→List St×GS}(hr:RSW rec) (deep:Nat) (s0:GS):∀(n:Nat) (acc:List St) (s:GS),SW 0 s0 (acc,s)→SW 0 s0 (blG E rec deep n acc s)
 | 0,acc,s,h=>h
 | n+1,acc,s,h=>by
  unfold blG
  split
  ·exact h
  ·next hl =>
   obtain⟨a1,a2⟩:=st_sw hF hO hδ hr deep (s.lf.v E 12) (s:=s.lf.nx E) h.nm;refine bl_sw hF hO hδ hr deep s0 n _ _ ?_;have n1:(s.lf.nx E).left=s.left-1:=rfl;have n2:(s.lf.nx E).nodes=s.nodes:=rfl;rw[n1,n2] at a1;generalize stG E rec deep (s.lf.v E 12) (s.lf.nx E)=r at *;have h2:SW 0 s (r.1,r.2):=⟨by dsimp only;omega,a2⟩;exact h.app h2
theorem sts_sw (hF:Fit E fs) (hO:OwnE E δ) (hδ:δ≤30):∀r,RSW (stsG E r)
 | 0,s,hs=>by
  have h:=bl_sw hF hO hδ (rec:=fun s=>([],s)) (fun s hs=>sw_nil hs) 4 (s.nx E) (1+s.v E 5) [] (s.nx E) (sw_nil hs);exact⟨h.w,h.nm⟩
 | r+1,s,hs=>by
  have h:=bl_sw hF hO hδ (sts_sw hF hO hδ r) (4-(r+1)) (s.nx E) (1+s.v E 5) [] (s.nx E) (sw_nil hs);exact⟨h.w,h.nm⟩
theorem par_w:∀n,n<5→wT (pr (rW.take n))≤77∧(∀x∈rW.take n,x.length≤4)∧(rW.take n).length=n:=by decide
theorem fn_sw (hF:Fit E fs) (hO:OwnE E δ) (hδ:δ≤30) {n:Nat}(hn:n<5) (a:Nat) {nm:Bs}(hm:nm.length≤12):wT (tF false ⟨nm,rW.take n,(stsG E 3 ⟨a,8,150,0,rW.take n⟩).1⟩)≤16194:=by
 obtain⟨p1,p2,p3⟩:=par_w n hn;obtain⟨h,_⟩:=sts_sw hF hO hδ 3 ⟨a,8,150,0,rW.take n⟩ p2;have k1:kFn.length=2:=rfl;unfold tF;dsimp only at h ⊢;simp only[wT,vG,sg,nmT,k1,Jj,Jk];omega
theorem own_k {hs:List Fn}(hk:HdK hs) (hl:hs.length≤4):∃δ,δ≤30∧∀i,i<hs.length→OwnF δ (hs.getD i wJ):=by
 have key:∀δ:Nat,(∀f,hs[3]? = some f→f.params.length=0→δ=0)→(∀f,hs[3]? = some f→f.params.length≠0→δ=11)→δ=0∨δ=11→∀i,i<hs.length→OwnF δ (hs.getD i wJ):=by
  intro δ h0 h1 h01 i hi;have hg:hs[i]? = some hs[i]:=Jt hi;have e:hs.getD i wJ=hs[i]:=by rw[Ka,hg];rfl
  obtain⟨q1,n,q2,q3,q4⟩:=hk i _ hg;rw[e];have hp:hs[i].params.length=n:=by rw[q4];exact (par_w n q2).2.2
  unfold OwnF;rw[q1,hp];obtain rfl|rfl|rfl|rfl:i=0∨i=1∨i=2∨i=3:=by omega
  ·have:=q3 rfl;subst this;have e2:(sD.getD 0 []).length=4:=rfl;rw[e2];omega
  ·have e2:(sD.getD 1 []).length=1:=rfl;rw[e2];rcases h01 with rfl|rfl<;>omega
  ·have e2:(sD.getD 2 []).length=1:=rfl;rw[e2];rcases h01 with rfl|rfl<;>omega
  ·have e2:(sD.getD 3 []).length=12:=rfl;rw[e2]
   by_cases hz:n=0
   ·have:=h0 _ hg (hp.trans hz);subst this;omega
   ·have:=h1 _ hg (by rw[hp];exact hz);subst this;omega
 by_cases h3:∃f,hs[3]? = some f∧f.params.length=0
 ·obtain⟨f,h4,h5⟩:=h3;exact⟨0,by omega,key 0 (fun _ _ _=>rfl) (fun g hg hn=>by rw[h4] at hg;cases hg;exact absurd h5 hn) (.inl V)⟩
 ·exact⟨11,by omega,key 11 (fun f h4 h5=>absurd ⟨f,h4,h5⟩ h3) (fun _ _ _=>rfl) (.inr V)⟩
theorem fnn_len (i:Nat):(sD.getD i []).length≤12:=by
 rcases Nat.lt_or_ge i 4 with h|h
 ·have:∀v,v<4→(sD.getD v []).length≤12:=by decide
  exact this i h
 ·rw[Ka,List.getElem?_eq_none (by show 4≤i;exact h)];exact Kl _
theorem made_w (l:List Int):wT (tP false (wI l))≤64783:=by
 have hm:=wU l 0 (show 0<4 by omega);have hlen:=hd_right l (1+nxV l 0 4) [] (nxA l 0) (by simp;omega) (fun f hf=>by cases hf);have hk:=hd_k l (1+nxV l 0 4) [] (nxA l 0) (fun i f hf=>by simp at hf);have hlen2:(hdG l (1+nxV l 0 4) [] (nxA l 0)).1.length=1+nxV l 0 4:=by rw[hlen.2];simp
 have hb:=bd_k l _ hk (1+nxV l 0 4) [] (hdG l (1+nxV l 0 4) [] (nxA l 0)).2 (by rw[hlen2];simp) (fun i f hf=>by simp at hf);have hmade:(bdG l (hdG l (1+nxV l 0 4) [] (nxA l 0)).1 (1+nxV l 0 4) [] (hdG l (1+nxV l 0 4) [] (nxA l 0)).2).1=wI l:=rfl;rw[hmade] at hb;generalize (hdG l (1+nxV l 0 4) [] (nxA l 0)).1=hs at *;generalize wI l=fs at *;obtain⟨hb1,hb2⟩:=hb;have hl1:fs.length=hs.length:=by rw[hb2,hlen2];simp
 have hl4:fs.length≤4:=by omega
 have hnm:∀i f,fs[i]? = some f→f.name=sD.getD i []:=fun i f hf=>by
  obtain⟨h,a,h1,rfl⟩:=hb1 i f hf;exact (hk i h h1).1
 have hfi:∀{i:Nat},i<fs.length→tG fs (sD.getD i [])=(i:Nat):=fun hi=>fidx_at hnm hl4 hi
 have hat:∀{i:Nat},i<fs.length→∃f h a,fs[i]? = some f∧fs.getD i noFn=f∧hs[i]? = some h∧hs.getD i wJ=h∧f=⟨h.name,h.params,(stsG ⟨l,hs,i⟩ 3 ⟨a,8,150,0,h.params⟩).1⟩:=fun {i} hi=>by
  have hf:fs[i]? = some fs[i]:=Jt hi;obtain⟨h,a,h1,h2⟩:=hb1 i _ hf;exact⟨fs[i],h,a,hf,by rw[Ka,hf];rfl,h1,by rw[Ka,h1];rfl,h2⟩
 have hfit:∀me,Fit ⟨l,hs,me⟩ fs:=fun me i hi=>by
  have hi':i<fs.length:=by rw[hl1];exact hi
  obtain⟨f,h,a,e1,e2,e3,e4,e5⟩:=hat hi';obtain⟨q1,n,q2,q3,q4⟩:=hk i h e3;show ¬tG fs (hs.getD i wJ).name<0∧(fs.getD (tG fs (hs.getD i wJ).name).toNat noFn).params.length=(hs.getD i wJ).params.length∧(hs.getD i wJ).params.length≤4;rw[e4,q1,hfi hi',Int.toNat_natCast,e2,e5];exact⟨by omega,rfl,by rw[q4];exact (par_free n q2).2.1⟩
 obtain⟨δ,hδ,hO⟩:=own_k hk (by omega)
 have hall:∀f∈fs,wT (tF false f)≤16194:=fun f hf=>by
  obtain⟨i,hi,rfl⟩:=List.getElem_of_mem hf;obtain⟨f,h,a,e1,e2,e3,e4,e5⟩:=hat hi;obtain⟨q1,n,q2,q3,q4⟩:=hk i h e3;rw[Jt hi] at e1;cases e1;rw[e5,q4];exact fn_sw (hfit i) (fun i hi=>hO i hi) hδ q2 a (by rw[q1];exact fnn_len i)
 have key:∀m:List Fn,(∀f∈m,wT (tF false f)≤16194)→wT ((m.map (tF false)).flatten)≤16194*m.length:=by
  intro m
  induction m with
  | nil=>intro _;exact Km _
  | cons f m ih =>
   intro h;have h1:=h f (by simp);have h2:=ih fun g hg=>h g (Kg _ hg);rw[Kq,Kr,vG,Jj];omega
 have h1:=key fs hall;unfold tP;rw[vG];simp only[wT,Jk];omega
end Go.Proofs.YtfpkpnkdnammnaaGreatDoor
namespace Go.Proofs.YtfpkpnkdnammnaaGreatDoor
theorem tw_mem (p:UInt8→Bool):∀(s:Bs) (x:UInt8),x∈s.takeWhile p→p x=true
 | [],x,h=>by rw[List.takeWhile_nil] at h;cases h
 | c::s,x,h=>by
  rw[List.takeWhile_cons] at h
  split at h
  ·next hc =>
   rcases List.mem_cons.1 h with rfl|h
   ·exact hc
   ·exact tw_mem p s x h
  ·cases h
theorem one_bla:∀c∈sE,wP c=false:=by decide
theorem two_head:∀s∈rX,s.headD 0∈sE∧s.length=2:=by decide
theorem next_again {c:UInt8}{r r':Bs}(h4:(xP (c::r)).kind≠4) (hr:Bk r'):wP c=false∧xP ((xP (c::r)).text++r')=xP (c::r)∧∃w,(xP (c::r)).text=c::w:=by
 by_cases hd:vW c=true
 ·have e:xP (c::r)=⟨1,0,(c::r).takeWhile vW,min (sV ((c::r).takeWhile vW)) 4294967296⟩:=by unfold xP;dsimp only;rw[Kp hd]
  have hw:(c::r).takeWhile vW=c::r.takeWhile vW:=by rw[List.takeWhile_cons,Kp hd]
  have ht:(c::r.takeWhile vW++r').takeWhile vW=c::r.takeWhile vW:=takeW (fun x hx=>tw_mem vW (c::r) x (by rw[hw];exact hx)) hr.dig;have ht':(c::(r.takeWhile vW++r')).takeWhile vW=c::r.takeWhile vW:=ht;rw[hw] at e;refine⟨dig_blank hd,?_,_,by rw[e]⟩;rw[e];show xP (c::(r.takeWhile vW++r'))=_;unfold xP;dsimp only;rw[Kp hd,ht']
 by_cases hl:qN c=true
 ·have e:xP (c::r)=⟨if 12<((c::r).takeWhile vH).length then 4 else if (c::r).takeWhile vH∈vN then 3 else 2,0,(c::r).takeWhile vH,0⟩:=by unfold xP;dsimp only;rw[Ko hd,Kp hl]
  have hw:(c::r).takeWhile vH=c::r.takeWhile vH:=by rw[List.takeWhile_cons,Kp (let_wor hl)]
  have ht:(c::r.takeWhile vH++r').takeWhile vH=c::r.takeWhile vH:=takeW (fun x hx=>tw_mem vH (c::r) x (by rw[hw];exact hx)) hr.wor;have ht':(c::(r.takeWhile vH++r')).takeWhile vH=c::r.takeWhile vH:=ht;rw[hw] at e;refine⟨(let_dig hl).2,?_,_,by rw[e]⟩;rw[e];show xP (c::(r.takeWhile vH++r'))=_;unfold xP;dsimp only;rw[Ko hd,Kp hl,ht']
 ·have hz:uZ (c::r)≠0:=fun h0=>h4 (by unfold xP;dsimp only;rw[Ko hd,Ko hl,Kp h0]);have e:xP (c::r)=⟨3,0,(c::r).take (uZ (c::r)),0⟩:=by unfold xP;dsimp only;rw[Ko hd,Ko hl,Ko hz]
  by_cases h2:(c::r).take 2∈rX
  ·have hs:uZ (c::r)=2:=by unfold uZ;rw[Kp h2]
   obtain⟨g1,g2⟩:=two_head _ h2
   cases r with
   | nil=>simp at g2
   | cons d t =>
    rw[hs] at e;have et:(c::d::t).take 2=[c,d]:=rfl;rw[et] at e h2 g1;refine⟨one_bla c g1,?_,_,by rw[e]⟩;rw[e];have hs2:uZ (c::d::r')=2:=symL_two h2 r';show xP (c::d::r')=_;unfold xP;dsimp only;rw[Ko hd,Ko hl,Ko (by omega),hs2];rfl
  ·have hc:c∈sE:=by
    refine Classical.byContradiction fun hn=>hz ?_;unfold uZ;rw[Ko h2];dsimp only;rw[Ko hn]
   have hs:uZ (c::r)=1:=by unfold uZ;rw[Ko h2];dsimp only;rw[Kp hc]
   rw[hs] at e;refine⟨one_bla c hc,?_,_,by rw[e];rfl⟩;rw[e];have hs2:uZ (c::r')=1:=symL_one hc fun d t e=>brk_two c hc d (hr d t e);show xP (c::r')=_;unfold xP;dsimp only;rw[Ko hd,Ko hl,Ko (by omega),hs2];rfl
def GT (x:Tk):Prop:=∀r,Bk r→lx (x.2.1++r)=x::lx r
theorem lx_again:∀(k:Nat) (s:Bs),s.length=k→∀x∈lx s,x.1≠0→x.1≠4→GT x:=by
 intro k
 induction k using Nat.strongRecOn with
 | _ k ih =>
  intro s hk x hx h0 h4
  cases h:s.drop (spanL wP s) with
  | nil =>
   unfold lx at hx;rw[sT h] at hx;simp only[Kq,List.map_nil,Aa] at hx;subst hx;exact absurd V h0
  | cons c r =>
   have hl:=rZ c r;have hd:(c::r).length≤s.length:=by rw[← h,Kc];omega
   unfold lx at hx;rw[uU h,Kq] at hx;rcases List.mem_cons.1 hx with rfl|hx
   ·intro r' hr';obtain⟨a1,a2,w,a3⟩:=next_again (c:=c) (r:=r) (r':=r') h4 hr';show lx ((xP (c::r)).text++r')=_;rw[a3] at a2 ⊢;have e:c::w++r'=c::(w++r'):=rfl;rw[e,lx_next a1,← e,a2,a3];rw[List.drop_left' rfl];rfl
   ·rw[tokD_free _ _ 0 _ rfl] at hx;exact ih _ (by rw[Kc];omega) _ V x hx h0 h4
theorem lx_blanks {b:Bs}(hb:∀c∈b,wP c=true) (r:Bs):lx (b++r)=lx r:=by
 induction b with
 | nil=>rfl
 | cons c b ih =>
  rw[List.cons_append,lx_blank (hb c (by simp))];exact ih fun x hx=>hb x (Kg _ hx)
theorem bln_bla:∀v,v<4→(∀c∈blnL.getD v [],wP c=true)∧(blnL.getD v []).headD 0∈brkL∧blnL.getD v []≠[]:=by decide
theorem bln_lt (b:Int) (i:Nat):((b+i)%4).toNat<4:=by omega
theorem bln_bk {v:Nat}(h:v<4) (r:Bs):Bk (blnL.getD v []++r):=by
 obtain⟨_,h2,h3⟩:=bln_bla v h
 cases hb:blnL.getD v [] with
 | nil=>exact absurd hb h3
 | cons c t=>rw[hb] at h2;exact bk_cons h2
theorem sp_end:∀(m:List Bs) (i:Nat) (b:Int),(∀x∈m,x=[])→lx (spF i m b)=[(0,[],0)]
 | [],_,_,_=>lx_end
 | x::m,i,b,h=>by
  have hx:=h x (by simp);subst hx;rw[spF,List.nil_append,lx_blanks (bln_bla _ (bln_lt b i)).1];exact sp_end m _ _ fun y hy=>h y (Kg _ hy)
theorem sp_back:∀(l:List Tk) (m:List Bs) (i:Nat) (b:Int),(∀x∈l,GT x)→(∀x∈m,x=[])→lx (spF i (l.map (·.2.1)++m) b)=l++[(0,[],0)]
 | [],m,i,b,_,hm=>sp_end m i b hm
 | x::l,m,i,b,h,hm=>by
  have hv:=bln_lt b i;rw[Kq,List.cons_append,spF,Kb,h x (by simp) _ (bln_bk hv _),lx_blanks (bln_bla _ hv).1,sp_back l m _ _ (fun y hy=>h y (Kg _ hy)) hm];rfl
def wS:List Bs→Nat
 | []=>0
 | x::l=>4*x.length+7+wS l
theorem wS_map:∀l:List Tk,wS (l.map (·.2.1))=wT l
 | []=>rfl
 | x::l=>by rw[Kq,wS,wT,wS_map l]
theorem bln_w:∀v,v<4→4*(blnL.getD v []).length+[6,3,0,5].getD v 0≤7+[6,3,0,5].getD ((v+1)%4) 0:=by decide
theorem sp_w0:∀(l:List Bs) (i:Nat),4*(spF i l 0).length+[6,3,0,5].getD (i%4) 0≤wS l+6
 | [],i=>by
  have:∀v,v<4→[6,3,0,5].getD v 0≤6:=by decide
  have:=this (i%4) (by omega);simp only[spF,wS,Jk];omega
 | x::l,i=>by
  have h:=sp_w0 l (i+1);have hb:=bln_w (i%4) (by omega);have e:(((0:Int)+i)%4).toNat=i%4:=by omega
  have e2:(i%4+1)%4=(i+1)%4:=by omega
  rw[e2] at hb;have e3:(0:Int).tdiv 3=0:=rfl;simp only[spF,wS,Ji,e,e3];omega
theorem sp_w:∀(k:Nat) (l:List Bs) (i:Nat) (b:Int),b.natAbs<3 ^ k→4*(spF i l b).length≤wS l+6+5*k
 | 0,l,i,b,h=>by
  have:b=0:=by simp at h;exact h
  subst this;have:=sp_w0 l i;omega
 | k+1,[],i,b,_=>by simp only[spF,wS,Jk];omega
 | k+1,x::l,i,b,h=>by
  have h2:(b.tdiv 3).natAbs<3 ^ k:=by
   have e:(b.tdiv 3).natAbs=b.natAbs/3:=Int.natAbs_tdiv b 3;rw[Nat.pow_succ] at h;rw[e];omega
  have ih:=sp_w k l (i+1) (b.tdiv 3) h2;have hb:=bln_len ((b+i)%4).toNat;simp only[spF,wS,Ji];omega
theorem sp_len {l:List Tk}{m:List Bs}{b:Int}(h1:-9223372036854775808≤b) (h2:b≤9223372036854775807) (hw:wS (l.map (·.2.1)++m)≤64783):(spF 0 (l.map (·.2.1)++m) b).length≤16247:=by
 have:=sp_w 40 (l.map (·.2.1)++m) 0 b (by omega);omega
def K3 (l:List Tk):Prop:=∀x∈l,1≤x.1∧x.1≤3
theorem K3.app {a b:List Tk}(h:K3 a) (k:K3 b):K3 (a++b):=fun x hx=>(Kz.1 hx).elim (h x) (k x)
theorem K3.cons {a:Tk}{b:List Tk}(h:1≤a.1∧a.1≤3) (k:K3 b):K3 (a::b):=fun x hx=>by
 rcases List.mem_cons.1 hx with rfl|hx
 ·exact h
 ·exact k x hx
theorem K3.nil:K3 []:=fun _ h=>by cases h
theorem uE (x:Bs):1≤(sg x).1∧(sg x).1≤3:=⟨by show 1≤3;omega,by show 3≤3;omega⟩
theorem nm_3 (x:Bs):1≤(nmT x).1∧(nmT x).1≤3:=⟨by show 1≤2;omega,by show 2≤3;omega⟩
theorem nu_3 (x:Nat):1≤(nuT x).1∧(nuT x).1≤3:=⟨by show 1≤1;omega,by show 1≤3;omega⟩
theorem wt_3 {all:Bool}{k:Nat}{s:Bs}{least:Int}{t:List Tk}(h:K3 t):K3 (wt all k s least t):=by
 unfold wt
 split
 ·exact .cons (uE _) (h.app (.cons (uE _) .nil))
 ·exact h
mutual
theorem tx_3 (all:Bool):∀e:Ex,K3 (tx all e)
 | .mk k n s kids=>by
  have h1:=txs_3 all kids;have h2:=txH_3 all kids;have h3:=txS_3 all kids;rw[tx]
  split
  ·exact .cons (nu_3 _) .nil
  split
  ·exact .cons (nm_3 _) .nil
  split
  ·exact .cons (nm_3 _) (.cons (uE _) (h1.app (.cons (uE _) .nil)))
  split
  ·exact .cons (uE _) (.cons (uE _) ((h2 _).app (.cons (uE _) .nil)))
  split
  ·exact .cons (uE _) .nil
  split
  ·exact .cons (uE _) (h2 _)
  ·exact (h2 _).app (.cons (uE _) (h3 _))
theorem txs_3 (all:Bool):∀l:List Ex,K3 (txs all l)
 | []=>by rw[txs];exact .nil
 | x::l=>by rw[txs];exact (wt_3 (tx_3 all x)).app (txt_3 all l)
theorem txt_3 (all:Bool):∀l:List Ex,K3 (txt all l)
 | []=>by rw[txt];exact .nil
 | x::l=>by rw[txt];exact .cons (uE _) ((wt_3 (tx_3 all x)).app (txt_3 all l))
theorem txH_3 (all:Bool):∀(l:List Ex) (least:Int),K3 (txH all l least)
 | [],_=>by rw[txH];exact .nil
 | x::l,_=>by rw[txH];exact wt_3 (tx_3 all x)
theorem txS_3 (all:Bool):∀(l:List Ex) (least:Int),K3 (txS all l least)
 | [],_=>by rw[txS];exact .nil
 | _::l,_=>by rw[txS];exact txH_3 all l _
end
mutual
theorem tS_3 (all:Bool):∀x:St,K3 (tS all x)
 | .mk k s es b c=>by
  have h1:=txH_3 all es 0;have h2:=txS_3 all es 0;have h3:=tB_3 all b;have h4:=tB_3 all c;rw[tS]
  split
  ·exact .cons (uE _) (.cons (nm_3 _) (.cons (uE _) (h1.app (.cons (uE _) .nil))))
  split
  ·exact .cons (nm_3 _) (.cons (uE _) (h1.app (.cons (uE _) .nil)))
  split
  ·exact .cons (uE _) (.cons (uE _) (h1.app (.cons (uE _) (.cons (uE _) (h2.app (.cons (uE _) .nil))))))
  split
  ·refine .cons (uE _) (h1.app (.cons (uE _) (h3.app (.cons (uE _) ?_))))
   split
   ·exact .cons (uE _) (.cons (uE _) (h4.app (.cons (uE _) .nil)))
   ·exact .nil
  split
  ·exact .cons (uE _) (h1.app (.cons (uE _) (h3.app (.cons (uE _) .nil))))
  split
  ·exact .cons (uE _) (h1.app (.cons (uE _) .nil))
  split
  ·exact .cons (uE _) (h1.app (.cons (uE _) .nil))
  split
  ·exact h1.app (.cons (uE _) .nil)
  ·exact .nil
theorem tB_3 (all:Bool):∀l:List St,K3 (tB all l)
 | []=>by rw[tB];exact .nil
 | x::l=>by rw[tB];exact (tS_3 all x).app (tB_3 all l)
end
theorem prt_3:∀l:List Bs,K3 (prt l)
 | []=>.nil
 | _::l=>.cons (uE _) (.cons (nm_3 _) (prt_3 l))
theorem pr_3:∀l:List Bs,K3 (pr l)
 | []=>.nil
 | _::l=>.cons (nm_3 _) (prt_3 l)
theorem tF_3 (all:Bool) (f:Fn):K3 (tF all f):=.cons (uE _) (.cons (nm_3 _) (.cons (uE _) ((pr_3 _).app (.cons (uE _) (.cons (uE _) ((tB_3 all _).app (.cons (uE _) .nil)))))))
theorem tFs_3 (all:Bool) (fs:List Fn):K3 ((fs.map (tF all)).flatten):=by
 induction fs with
 | nil=>exact .nil
 | cons f fs ih=>rw[Kq,Kr];exact (tF_3 all f).app ih
theorem lx_src {fs:List Fn}(hr:wD fs=true) (hu:∀f∈fs,stsU f.body=true):lx (xE fs)=tP false fs:=by
 have h:=pf_src (all:=false) fs hr hu [];rw[Ku,lx_end,rSrc_eq hr] at h;exact h
theorem tFs_gt {fs:List Fn}(hr:wD fs=true) (hu:∀f∈fs,stsU f.body=true):∀x∈(fs.map (tF false)).flatten,GT x:=fun x hx=>by
 have h3:=tFs_3 false fs x hx;exact lx_again _ (xE fs) V x (by rw[lx_src hr hu];exact List.mem_append_left _ hx) (by omega) (by omega)
theorem rtok_in:∀(k:Nat) (i:Nat) (s:Bs),s.length=k→∀j m,(sR i s).length=m+1→j<m→(vK (sR i s) j).kind≠0:=by
 intro k
 induction k using Nat.strongRecOn with
 | _ k ih =>
  intro i s hk j m hm hj
  cases h:s.drop (spanL wP s) with
  | nil =>
   rw[rtokD_end h] at hm;simp at hm;omega
  | cons c r =>
   have hl:=sA c r;have hd:(c::r).length≤s.length:=by rw[← h,Kc];omega
   by_cases h4:(xW (c::r)).kind=4
   ·rw[rtokD_bad h h4] at hm;simp at hm;omega
   ·have hl2:=hl.2 h4;rw[rtokD_next h h4] at hm ⊢
    cases j with
    | zero=>exact (rnext_kind c r).1
    | succ j =>
     rw[Jj] at hm;exact ih _ (by rw[Kc];omega) _ _ V j (m-1) (by omega) (by omega)
theorem rtok_src {fs:List Fn}(hr:wD fs=true) (hu:∀f∈fs,stsU f.body=true):(rJ (xE fs)).map stT=tP false fs:=by
 have h:=lx_src hr hu;obtain⟨m,h1,h2,h3,h4⟩:=rtok_same _ 0 (xE fs) rfl;obtain⟨l,a,e,hl,hl2⟩:=tokD_last _ 0 (xE fs) rfl;unfold lx at h
 have hk:∀t∈pW 0 (xE fs),t.kind≠4:=fun t ht h9=>by
  have hm:stT t∈tP false fs:=by rw[← h];exact List.mem_map_of_mem ht
  rcases Kz.1 hm with hm|hm
  ·have:=tFs_3 false fs _ hm;have e9:(stT t).1=t.kind:=rfl;omega
  ·have e9:stT t=(0,[],0):=Aa.1 hm;have e9:t.kind=0:=congrArg (·.1) e9;omega
 have hlen:(pW 0 (xE fs)).length=l.length+1:=by rw[e];simp
 have hml:m=l.length:=by
  rcases Nat.lt_trichotomy m l.length with hlt|heq|hgt
  ·exfalso
   have hm:vK (pW 0 (xE fs)) m∈pW 0 (xE fs):=tkOf_mem (by omega)
   have hmt:vK (pW 0 (xE fs)) m∈l:=by
    unfold vK;rw[Ka,e,List.getElem?_append_left hlt,Jt hlt];exact List.getElem_mem hlt
   have hh:=(h4 m (Km m)).kind;rcases h3 with h3|h3
   ·exact hl _ hmt (by omega)
   ·exact hk _ hm (by omega)
  ·exact heq
  ·exfalso
   have hh:=h4 l.length (by omega)
   have h5:(vK (sR 0 (xE fs)) l.length).kind=0:=by
    rw[hh.kind];unfold vK;rw[Ka,e,List.getElem?_append_right (Km _)];simp
   exact rtok_in _ 0 (xE fs) V l.length m h1 (by omega) h5
 rw[← h];refine List.ext_getElem (by rw[Kt,Kt];show (sR 0 (xE fs)).length=_;omega) fun i hi1 hi2=>?_;rw[List.getElem_map,List.getElem_map];rw[Kt] at hi1 hi2
 have hh:=h4 i (by
  have:(rJ (xE fs)).length=m+1:=h1
  omega)
 have g1:vK (rJ (xE fs)) i=(rJ (xE fs))[i]:=by unfold vK;rw[Ka,Jt hi1];rfl
 have g3:vK (sR 0 (xE fs)) i=vK (rJ (xE fs)) i:=rfl;have g2:vK (pW 0 (xE fs)) i=(pW 0 (xE fs))[i]:=by unfold vK;rw[Ka,Jt hi2];rfl
 rw[g3,g1,g2] at hh;unfold stT;rw[hh.kind,hh.val,hh.text (by rw[hh.kind];exact hk _ (List.getElem_mem hi2))]
end Go.Proofs.YtfpkpnkdnammnaaGreatDoor
namespace Go.Proofs.YtfpkpnkdnammnaaGreatDoor
theorem lx_back {all:Bool}{fs:List Fn}{s:Bs}(hr:wD fs=true) (hu:∀f∈fs,stsU f.body=true) (hl:s.length≤16384) (h:lx s=tP all fs):qT 100000 s=some (fs,0,0):=by
 have hA:At (vK (uS s)) 0 (tP all fs):=fun j x hj=>by
  have h2:(uS s).map stT=tP all fs:=h;rw[← h2,List.getElem?_map] at hj
  cases ht:(uS s)[j]? with
  | none=>rw[ht] at hj;cases hj
  | some t =>
   rw[ht] at hj;rw[Kk];unfold vK;rw[Ka,ht];exact Option.some.inj hj
 obtain⟨F,hF⟩:=parse_back (fun f hf=>⟨by
  have:=List.all_eq_true.1 hr f hf;unfold vO at this;simp only[Kj] at this
  exact this.2,hu f hf⟩) hA
 have hm:=tokL_len s;have hp:=tokL_pos s;obtain⟨r,hr2⟩:=runX_t (tk:=vK (uS s)) (m:=(uS s).length-1) (.inl (tokL_end _)) (f:=100000) (by omega);have e1:=runP_le (tk:=vK (uS s)) (fun s=>rM (Nat.le_max_left 100000 F) s) (Nat.le_max_left 100000 F) _ hr2;have e2:=runP_le (tk:=vK (uS s)) (fun s=>rM (Nat.le_max_right 100000 F) s) (Nat.le_max_right 100000 F) _ hF;rw[e1] at e2;unfold qT;rw[Ko (by omega),hr2,Option.some.inj e2]
def tFs (fs:List Fn):List Tk:=(fs.map (tF false)).flatten
theorem tP_eq (fs:List Fn):tP false fs=tFs fs++[(0,[],0)]:=rfl
theorem made_u (l:List Int):∀f∈wI l,stsU f.body=true:=fun f hf=>((made_sml l f hf).1).u
theorem made_tok (l:List Int):(rJ (xE (wI l))).map stT=tFs (wI l)++[(0,[],0)]:=rtok_src (qD l) (made_u l)
theorem made_gt (l:List Int):∀x∈tFs (wI l),GT x:=tFs_gt (qD l) (made_u l)
theorem made_w2 (l:List Int):wT (tFs (wI l))+7≤64783:=by
 have h:=made_w l;rw[tP_eq,vG] at h;exact h
theorem texts_eq (T:List Tok):T.map (·.text)=(T.map stT).map (·.2.1):=by rw[List.map_map];rfl
end Go.Proofs.YtfpkpnkdnammnaaGreatDoor
