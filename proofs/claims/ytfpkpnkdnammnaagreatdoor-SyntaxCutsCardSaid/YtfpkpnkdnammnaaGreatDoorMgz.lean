import Derived.Test.YtfpkpnkdnammnaaGreatDoorMgQ
import Derived.Test.YtfpkpnkdnammnaaGreatDoorTreB
import Derived.Test.YtfpkpnkdnammnaaGreatDoorMgL
import Derived.Test.YtfpkpnkdnammnaaGreatDoorSyV
namespace Go.Proofs.YtfpkpnkdnammnaaGreatDoor
open Go.RowKit
section
variable {P:Program}{Q:Exit→Act→World→Prop}{N:Nat}
def mX (l:List Oper) (val:Nat→Nat→Value) (xs:Nat→Nat):List Nat→List (Nat×Value)→List (Nat×Value)
 | [],m=>m
 | j::r,m=>mX l val xs r (match nthO l j with
  | some ⟨some d,_,_,_,_,_⟩=>(d,val j (xs j))::m
  | _=>m)
def CEr (P:Program) (o:Oper) (N:Nat) (m:List (Nat×Value)) (n0:Nat) (H:World→Prop) (val:Nat→Value) (fact:Nat→(Nat→Prop)→World→Prop):Prop :=
 ∀a w,Sat N m a→H w→n0≤w.heap.size→Ch P o a w fun v w'=>Ext w w'∧∃x,v=val x∧fact x (fun k=>n0≤k) w'
def EOr (P:Program) (l:List Oper) (N n0:Nat) (val:Nat→Nat→Value) (fact:Nat→Nat→(Nat→Prop)→World→Prop) (i:Nat) (o:Oper):List Nat→List (Nat×Value)→(World→Prop)→Prop
 | [],m,H=>CEr P o N m n0 H (val i) (fact i)
 | j::r,m,H=>∀x,EOr P l N n0 val fact i o r (match nthO l j with
  | some ⟨some d,_,_,_,_,_⟩=>(d,val j x)::m
  | _=>m) (fun w=>fact j x (fun k=>n0≤k) w∧H w)
def EOsr (P:Program) (l:List Oper) (N n0:Nat) (val:Nat→Nat→Value) (fact:Nat→Nat→(Nat→Prop)→World→Prop) (deps:List (List Nat)) (m:List (Nat×Value)) (H:World→Prop):Nat→List Oper→Prop
 | _,[]=>True
 | i,o::r=>EOr P l N n0 val fact i o (deps.getD i []) m H∧EOsr P l N n0 val fact deps m H (i+1) r
theorem nthO_some:∀{l:List Oper}{i:Nat}{o:Oper},l[i]? = some o→nthO l i=some o
 | [],_,_,h=>by cases h
 | x::l,0,o,h=>by simpa [nthO] using h
 | x::l,i+1,o,h=>by
  have:Nat.beq (i+1) 0=false:=rfl;simp only[nthO,this,cond_false,Nat.pred_succ];exact nthO_some (by simpa using h)
theorem EOsr.at {l:List Oper}{n0:Nat}{val:Nat→Nat→Value}{fact:Nat→Nat→(Nat→Prop)→World→Prop}{deps:List (List Nat)}{m:List (Nat×Value)}{H:World→Prop}:∀{r:List Oper}{i k:Nat}{o:Oper},EOsr P l N n0 val fact deps m H i r→r[k]? = some o→EOr P l N n0 val fact (i+k) o (deps.getD (i+k) []) m H
 | [],_,_,_,_,h=>by cases h
 | x::r,i,0,o,⟨h1,_⟩,h=>by simp at h;subst h;exact h1
 | x::r,i,k+1,o,⟨_,h2⟩,h=>by
  have:=EOsr.at h2 (k:=k) (by simpa using h)
  rwa [show i+1+k=i+(k+1) by omega] at this
theorem sat_actS {l:List Oper}{val:Nat→Nat→Value}{xs:Nat→Nat}{vs:Nat→Value}:∀(js:List Nat) (m:List (Nat×Value)) (a:Act),Sat N m a→(∀j∈js,vs j=val j (xs j))→(∀o∈l,∀d,o.dst=some d→d<N)→Sat N (mX l val xs js m) (uB l.toArray vs js a)
 | [],_,_,h,_,_=>h
 | j::js,m,a,h,hv,hd=>by
  show Sat N (mX l val xs js _) (uB l.toArray vs js (a.put (rI l.toArray j) (vs j)));refine sat_actS js _ _ ?_ (fun k hk=>hv k (Kg _ hk)) hd;rw[hv j (Jy ..)];unfold rI;rw[List.getElem?_toArray]
  cases hj:l[j]? with
  | none =>
   have:nthO l j=none:=by
    cases h2:nthO l j with
    | none=>rfl
    | some o=>rw[nthO_eq h2] at hj;cases hj
   rw[this];exact h.put0
  | some o =>
   rw[nthO_some hj];obtain⟨d,op,ty,pos,af,g⟩:=o
   cases d with
   | none=>exact h.put0
   | some d=>exact h.put (by rw[Nat.blt_eq];exact hd _ (Ju hj) d rfl)
theorem eo_ch {l:List Oper}{n0:Nat}{val:Nat→Nat→Value}{fact:Nat→Nat→(Nat→Prop)→World→Prop}{i:Nat}{o:Oper}{xs:Nat→Nat}{a:Act}{w:World}(h0:n0≤w.heap.size):∀(js:List Nat) (m:List (Nat×Value)) (H:World→Prop),EOr P l N n0 val fact i o js m H→Sat N (mX l val xs js m) a→H w→(∀j∈js,fact j (xs j) (fun k=>n0≤k) w)→Ch P o a w fun v w'=>Ext w w'∧∃x,v=val i x∧fact i x (fun k=>n0≤k) w'
 | [],_,_,h,hs,hw,_=>h a w hs hw h0
 | j::js,_,_,h,hs,hw,hf=>eo_ch h0 js _ _ (h (xs j)) hs ⟨hf j (Jy ..),hw⟩ fun k hk=>hf k (Kg _ hk)
theorem Lies.onE {T:(Nat→Prop)→World→Prop}(hT:Lies T) {F:Nat→Prop}{w w':World}(h:T F w) (hx:Ext w w'):T F w' :=
 hT.mono (fun _ h=>h.1) (hT.foot (F:=fun k=>F k∧k<w.heap.size) (fun k hk=>by rw[Ext.block hx (Array.getElem?_eq_getElem hk.2),Array.getElem?_eq_getElem hk.2]) (hT.lt h))
theorem wc_drawE {id:Nat}{l:List Oper}{m:List (Nat×Value)}{w0:World}{L:List (Nat×Obj)}{R:List Rw}{X:World→Prop}(n:Nat) (deps:List (List Nat)) (val:Nat→Nat→Value) (fact:Nat→Nat→(Nat→Prop)→World→Prop) (hm:P.follows .mixedOrders=true) (hB:extB0 l.toArray n deps=true) (hA:okW l.toArray n=true)
  (hds:(l.all fun o=>(match o.dst with|some d=>Nat.blt d N|none=>true)&&o.guard.isNone)=true) (hF:∀j x,Lies (fact j x)) (hop:∀n0,w0.heap.size≤n0→EOsr P l N n0 val fact deps m (Hp (fun _=>False) w0 L R X) 0 (l.take n))
  (hend:∀(xs:Nat→Nat) (F:Nat→Prop),(∀k,F k→w0.heap.size≤k)→WA P l.toArray Q (l.toArray.size-n) (vE l.toArray.size n) N (mX l val xs (List.range n) m) (Hp (fun _=>False) w0 L R (fun u=>(∀j,j<n→fact j (xs j) F u)∧X u))) :
  WC P (.region id l.toArray true) Q N m (Hp (fun _=>False) w0 L R X):=fun a w hs hw=>by
 have E:=extB0_ok hB;have hok:=okW_ok hA;have hdw:=Hp.drew hw;simp only[List.all_eq_true,Kj] at hds
 have hd1:∀o∈l,∀d,o.dst=some d→d<N:=fun o ho d hd=>by
  have:=(hds o ho).1;rw[hd] at this
  simpa [Nat.blt_eq] using this
 have hg1:∀o∈l,o.guard=none:=fun o ho=>by simpa [Option.isNone_iff_eq_none] using (hds o ho).2
 refine wp_region_any hm ?_
 let T:Nat→Value→World→Prop:=fun i v w'=>∃x,v=val i x∧fact i x (fun k=>w.drew.heap.size≤k) w'
 have hmono:∀i v w w',T i v w→Ext w w'→T i v w':=fun i v w1 w2 ⟨x,e,h⟩ hx=>⟨x,e,(hF i x).onE h hx⟩;have hn0:w0.heap.size≤w.drew.heap.size:=HpG.size hdw;have hops:=hop w.drew.heap.size hn0
 have hopok:OpsOk P l.toArray deps T a w.drew n:=fun i o hi ho=>by
  rw[List.getElem?_toArray] at ho;have h1:=EOsr.at hops (k:=i) (o:=o) (by rw[List.getElem?_take_of_lt hi];exact ho);rw[Kk] at h1;intro vs w' hx hT K hK
  have hxs:∃xs:Nat→Nat,∀j∈deps.getD i [],vs j=val j (xs j)∧fact j (xs j) (fun k=>w.drew.heap.size≤k) w':=by
   classical
   exact⟨fun j=>if h:T j (vs j) w' then h.choose else 0,fun j hj=>by
    have h:=hT j hj;simp only[dif_pos h]
    exact h.choose_spec⟩
  obtain⟨xs,hxs⟩:=hxs;have hsat:=sat_actS (vs:=vs) (xs:=xs) (val:=val) (deps.getD i []) m a hs (fun j hj=>(hxs j hj).1) hd1;have hch:=eo_ch (xs:=xs) hx.size _ _ _ h1 hsat (HpG.onE hdw hx) (fun j hj=>(hxs j hj).2);rw[Kp (show Region.wanted o _=true by unfold Region.wanted;rw[hg1 o (Ju ho)])];exact Ch.wp hch fun v w2 ⟨h1,h2⟩=>hK v w2 h1 h2
 have inv0:RInv l.toArray n T a w.drew (Array.replicate l.toArray.size false) a w.drew:=by
  refine⟨⟨by simp,fun j oj _ hl=>(by rw[getD_replicate_false] at hl;cases hl),fun t _ ht=>getD_in (by simpa using ht) (getD_replicate_false _ _)⟩,Ext.refl _,[],fun _=>undef,rfl,fun j=>?_,fun j hj=>by cases hj⟩;rw[getD_replicate_false];simp
 have H:=walk_ok (Q:=Q) E (fun listed hh i hi hu t ht=>waitA hok hh hi hu t ht) hmono hopok (fun listed a' w' inv hu=>?_) n _ a w.drew inv0 (unl_none _ _)
 ·rw[show n+(l.toArray.size-n)=l.toArray.size by have:=E.le;omega] at H;exact H
 ·obtain⟨hh,hx,τ,vs,rfl,hτ,hT⟩:=inv;have hall:=unl_zero hu
  have hact:uB l.toArray vs τ a=uB l.toArray vs (List.range n) a:=by
   refine act_ext (by rw[actS_defers,actS_defers]) fun t=>?_
   by_cases hx:∃j,j<n∧rI l.toArray j=some t
   ·obtain⟨j,hj,hd⟩:=hx;rw[actS_in vs hd τ a ((hτ j).2 ⟨hj,hall j hj⟩) (fun k hk he=>E.apart k j t ((hτ k).1 hk).1 hj hd he),actS_in vs hd _ a (List.mem_range.2 hj) (fun k hk he=>E.apart k j t (List.mem_range.1 hk) hj hd he)]
   ·rw[oT vs τ a (fun j hj he=>hx ⟨j,((hτ j).1 hj).1,he⟩),oT vs _ a (fun j hj he=>hx ⟨j,List.mem_range.1 hj,he⟩)]
  rw[hact,listed_full hh hall]
  have hxs:∃xs:Nat→Nat,∀j,j<n→vs j=val j (xs j)∧fact j (xs j) (fun k=>w.drew.heap.size≤k) w':=by
   classical
   exact⟨fun j=>if h:T j (vs j) w' then h.choose else 0,fun j hj=>by
    have h:=hT j ((hτ j).2 ⟨hj,hall j hj⟩);simp only[dif_pos h]
    exact h.choose_spec⟩
  obtain⟨xs,hxs⟩:=hxs;have hlie:Lies fun F u=>∀j,j<n→fact j (xs j) F u:=⟨fun hk h j hj=>(hF j (xs j)).foot hk (h j hj),fun h j hj=>(hF j (xs j)).lt (h j hj),fun hk h j hj=>(hF j (xs j)).mono hk (h j hj)⟩;obtain⟨F,hF1,hp⟩:=Hp.lie hlie (HpG.onE hdw hx) (n0:=w.drew.heap.size) (fun j hj=>(hxs j hj).2) hn0 (HpG.lt hdw) (fun _ h=>h.elim);exact hend xs F hF1 _ _ (sat_actS _ m a hs (fun j hj=>(hxs j (List.mem_range.1 hj)).1) hd1) hp
variable {op:Op}{d:Nat}{ty:TypeId}{pos:String}{af:Array Edge}{m:List (Nat×Value)}{n0:Nat}{H:World→Prop}{val:Nat→Value}{fact:Nat→(Nat→Prop)→World→Prop}
theorem tY {v:Value}(x:Nat) (hy:YF P op ty N m H v) (hv:v=val x) (hf:∀w,H w→n0≤w.heap.size→fact x (fun k=>n0≤k) w):CEr P ⟨some d,op,ty,pos,af,none⟩ N m n0 H val fact:=fun a w hs hw h0 =>
 (hy a w _ pos af none hs hw).ch.mono fun v' w' ⟨e1,e2⟩=>by subst e1;subst e2;exact⟨Ext.refl _,x,hv,hf _ hw h0⟩
theorem ce_new {ob:Obj}{f:Nat→Value}(hn:NF P op ty N m ob f) (hv:∀b,f b=val b) (hf:∀b (F:Nat→Prop) w,F b→b<w.heap.size→Blk b ob w→fact b F w):CEr P ⟨some d,op,ty,pos,af,none⟩ N m n0 H val fact:=fun a w hs _ h0=>by
 unfold Ch;rw[hn a w _ pos af none hs];exact⟨Ext.alloc (Ext.refl w) ob,w.heap.size,hv _,hf _ _ _ h0 (by simp) (by show (w.heap.push ob)[w.heap.size]? = some ob;simp)⟩
theorem ce_pure {v:Value}{f:FuncId}{args:List Operand}{ats:Array TypeId}{vs:List Value}(x:Nat) (hf:goes P f=true) (ha:evl m args=some vs) (hC:∀w,H w→Calls P f vs.toArray w fun e w'=>e=.returned v∧Ext w w') (hv:v=val x) (hf2:∀(F:Nat→Prop) w,fact x F w) :
  CEr P ⟨some d,.call { callee:=.value (.func f),args:=args.toArray,argTypes:=ats },ty,pos,af,none⟩ N m n0 H val fact:=fun a w hs hw _ =>
 Ch.mono (R:=fun v' w'=>v'=v∧Ext w w') (ch_call hs hf ha ((hC w hw).mono fun e w' h=>⟨v,h.1,rfl,h.2⟩)) fun v' w' h=>⟨h.2,x,by rw[h.1,hv],hf2 _ _⟩
theorem wa_weak {ops:Array Oper}{k:Nat}{listed:Array Bool}{m':List (Nat×Value)}{H':World→Prop}(hp:Pr m m') (hH:∀w,H w→H' w) (h:WA P ops Q k listed N m' H'):WA P ops Q k listed N m H:=fun a w hs hw=>h a w (hs.weak hp) (hH w hw)
def fcL (l:List (Option (Nat→Obj))) (j x:Nat) (F:Nat→Prop) (u:World):Prop:=match l.getD j none with
 | none=>True
 | some ob=>F x∧x<u.heap.size∧Blk x (ob x) u
theorem fcL.lies {l:List (Option (Nat→Obj))}(j x:Nat):Lies (fcL l j x):=by
 unfold fcL
 cases l.getD j none with
 | none=>exact⟨fun _ _=>trivial,fun _=>trivial,fun _ _=>trivial⟩
 | some ob =>
  refine⟨fun {F w w'} hk ⟨h1,h2,h3⟩=>⟨h1,?_,?_⟩,fun ⟨h1,h2,h3⟩=>⟨⟨h1,h2⟩,h2,h3⟩,fun hF ⟨h1,h2,h3⟩=>⟨hF _ h1,h2,h3⟩⟩
  ·have:=hk x h1;rw[Array.getElem?_eq_getElem h2] at this;exact (Jv.1 this).1
  ·show w'.heap[x]? = _;rw[hk x h1];exact h3
end
end Go.Proofs.YtfpkpnkdnammnaaGreatDoor
namespace Go.Proofs.YtfpkpnkdnammnaaGreatDoor
open Go.RowKit
theorem Hp.freeze {w0 v:World}{L:List (Nat×Obj)}{R:List Rw}{X:World→Prop}(h:Hp (fun _=>False) w0 L R X v):Hp (fun _=>False) w0 [] [] (wN (fun _=>True) v) v :=
 ⟨h.keep,(fun _ h=>by cases h),(fun _ h=>by cases h),(fun _ h=>by cases h),List.nodup_nil,fun _ _=>trivial,fun k=>k<v.heap.size,fun k hk=>⟨hk,id,(fun h=>by cases h),trivial⟩,fun u hu k _ hk=>hu k hk⟩
theorem wN.blk {v u:World}{b:Nat}{o:Obj}(h:wN (fun _=>True) v u) (hb:Blk b o v):Blk b o u:=by
 unfold Blk at hb ⊢;rw[h b trivial (Jv.1 hb).1];exact hb
theorem wN.refl (v:World):wN (fun _=>True) v v:=fun _ _ _=>rfl
section
variable {P:Program}{ops:Array Oper}{Q:Exit→Act→World→Prop}{n:Nat}{m:List (Nat×Value)}{ty:TypeId}{w0:World}{L:List (Nat×Obj)}{R:List Rw}{X:World→Prop}{rest:List Oper}{d:Nat}{pos:String}{af:Array Edge}{gd:Option (Nat×Bool)}{f:FuncId}{args:List Operand}{ats:Array TypeId}{vs:List Value}
theorem wl_callZ {ι:Type}{val:ι→Value}{Φ:ι→World→Prop}(hg:Gd ops m gd) (hd:Nat.blt d n=true) (hf:goes P f=true) (ha:evl m args=some vs)
  (hC:∀w,Hp (fun _=>False) w0 L R X w→Calls P f vs.toArray w fun e w'=>∃i,e=.returned (val i)∧Ext w w'∧Φ i w')
  (h:∀i v,Φ i v→Hp (fun _=>False) w0 L R X v→WL P ops Q rest n ((d,val i)::m) (Hp (fun _=>False) w0 [] [] (wN (fun _=>True) v))):WL P ops Q (⟨some d,.call { callee:=.value (.func f),args:=args.toArray,argTypes:=ats },ty,pos,af,gd⟩::rest) n m (Hp (fun _=>False) w0 L R X) :=
 xQ (ι:={i:ι×World // Φ i.1 i.2∧Hp (fun _=>False) w0 L R X i.2}) (val:=fun i=>val i.1.1) (H':=fun i=>Hp (fun _=>False) w0 [] [] (wN (fun _=>True) i.1.2)) hg hd
  (vT hf ha fun w hw=>(hC w hw).mono fun _ w' ⟨i,e1,e2,e3⟩=>⟨_,e1,⟨(i,w'),e3,HpG.onE hw e2⟩,rfl,Hp.freeze (HpG.onE hw e2)⟩) fun i=>h i.1.1 i.1.2 i.2.1 i.2.2
end
end Go.Proofs.YtfpkpnkdnammnaaGreatDoor
