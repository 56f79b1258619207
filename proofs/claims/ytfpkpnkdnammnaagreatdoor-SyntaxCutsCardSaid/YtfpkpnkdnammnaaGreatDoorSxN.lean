import Derived.Test.YtfpkpnkdnammnaaGreatDoorMgS
namespace Go.Proofs.YtfpkpnkdnammnaaGreatDoor
open Go.RowKit
section
variable {P:Program}{ops:Array Oper}{Q:Exit→Act→World→Prop}{J:World→Prop}
def waitB (ops:Array Oper) (n:Nat):Bool:=let c:=Region.before ops
 (List.range ops.size).all fun t=>decide (t<n)||match ops[t]? with
 | some o=>(o.after.any fun e=>Region.binds .any e&&Nat.ble n e.on)||(List.range n).all fun i=>o.after.any fun e=>Region.binds .any e&&(Nat.beq e.on i||(decide (i<e.on)&&decide (e.on<n)&&(c.getD e.on 0).testBit i))
 | none=>false
def okA (ops:Array Oper) (n:Nat) (σ:List Nat):Bool :=
 let c:=Region.before ops
 decide (n<ops.size)&&waitB ops n &&
 ((List.range n).all fun j=>(List.range j).all fun i=>!(c.getD j 0).testBit i||ancB ops c j i) &&
 σ.all (fun i=>decide (i<n))&&(List.range n).all (fun i=>σ.contains i)&&tK (uD ops c) σ&&lowerB ops
def okW (ops:Array Oper) (n:Nat):Bool :=
 let c:=Region.before ops
 decide (n<ops.size)&&waitB ops n &&
 ((List.range n).all fun j=>(List.range j).all fun i=>!(c.getD j 0).testBit i||ancB ops c j i)&&lowerB ops
structure OkW (ops:Array Oper) (n:Nat):Prop where
 le:n<ops.size
 wait:∀t o,n≤t→ops[t]? = some o→(∃e∈o.after,Region.binds .any e=true∧n≤e.on)∨∀i,i<n→∃e∈o.after,Region.binds .any e=true∧(e.on=i∨(i<e.on∧e.on<n∧((Region.before ops).getD e.on 0).testBit i=true))
 anc:∀j,j<n→∀i,i<j→((Region.before ops).getD j 0).testBit i=true→ancB ops (Region.before ops) j i=true
 lower:∀i o,ops[i]? = some o→∀e∈o.after,Region.binds .any e=true→e.on<i
structure OkA (ops:Array Oper) (n:Nat) (σ:List Nat):Prop extends OkW ops n where
 lt:∀i∈σ,i<n
 all:∀i,i<n→i∈σ
 pairs:tK (uD ops (Region.before ops)) σ=true
theorem okW_ok {n:Nat}(h:okW ops n=true):OkW ops n:=by
 unfold okW lowerB waitB at h;simp only[Kj,Kn,List.all_eq_true,List.mem_range] at h;obtain⟨⟨⟨h1,h2⟩,h5⟩,h9⟩:=h;refine⟨h1,fun t o ht ho=>?_,fun j hj i hi hb=>?_,fun i o ho e he hb=>?_⟩
 ·have:=h2 t (Jv.1 ho).1;simp only[Bool.or_eq_true,Kn] at this;rcases this with h|h
  ·omega
  ·rw[ho] at h;simp only[Bool.or_eq_true,List.all_eq_true,List.mem_range] at h;rcases h with h|h
   ·obtain⟨e,he,hc⟩:=Array.any_eq_true'.1 h;simp only[Kj] at hc;exact .inl ⟨e,he,hc.1,Jn hc.2⟩
   ·refine .inr fun i hi=>?_;obtain⟨e,he,hc⟩:=Array.any_eq_true'.1 (h i hi);simp only[Kj,Bool.or_eq_true,Kn] at hc;exact⟨e,he,hc.1,hc.2.elim (fun h=>.inl (Nat.eq_of_beq_eq_true h)) fun h=>.inr ⟨h.1.1,h.1.2,h.2⟩⟩
 ·have:=h5 j hj i hi;simp only[Bool.or_eq_true,Bool.not_eq_true'] at this;rcases this with h|h
  ·rw[hb] at h;cases h
  ·exact h
 ·have:=h9 i (Jv.1 ho).1;rw[ho] at this;have:=Array.all_eq_true_iff_forall_mem.1 this e he
  simpa [hb] using this
theorem okA_ok {n:Nat}{σ:List Nat}(h:okA ops n σ=true):OkA ops n σ:=by
 have hw:okW ops n=true:=by
  unfold okA at h;unfold okW;simp only[Kj] at h ⊢;exact⟨h.1.1.1.1,h.2⟩
 unfold okA at h;simp only[Kj,Kn,List.all_eq_true,List.mem_range] at h;exact⟨okW_ok hw,h.1.1.1.2,fun i hi=>by simpa using h.1.1.2 i hi,h.1.2⟩
theorem ancA_listed {n:Nat}(hok:OkW ops n) {listed:Array Bool}(hcl:∀j o,ops[j]? = some o→listed.getD j false=true→∀e∈o.after,Region.binds .any e=true→listed.getD e.on false=true) :
  ∀(j:Nat),j<n→(∀o,ops[j]? = some o→∀e∈o.after,Region.binds .any e=true→listed.getD e.on false=true)→∀i,i<j→((Region.before ops).getD j 0).testBit i=true→listed.getD i false=true:=by
 intro j
 induction j using Nat.strongRecOn with
 | _ j ih =>
  intro hj hd i hi hb;have:=hok.anc j hj i hi hb;unfold ancB at this
  split at this
  ·rename_i o ho;obtain⟨e,he,hc⟩:=Array.any_eq_true'.1 this;simp only[Kj,Bool.or_eq_true,Kn,beq_iff_eq] at hc;obtain⟨⟨hbd,hlt⟩,hc⟩:=hc;have hl:=hd o ho e he hbd;rcases hc with hc|⟨hc1,hc⟩
   ·rw[← hc];exact hl
   ·exact ih e.on hlt (by omega) (fun o' ho' e' he' hb'=>hcl e.on o' ho' hl e' he' hb') i hc1 hc
  ·cases this
theorem waitA {n:Nat}(hok:OkW ops n) {listed:Array Bool}(inv:HeadInv .any ops n listed) {i:Nat}(hi:i<n) (hu:listed.getD i false=false) (t:Nat) (ht:n≤t):t∉Region.ready .any ops listed:=fun hm=>by
 obtain⟨_,o,ho,hall⟩:=mem_ready.1 hm;rcases hok.wait t o ht ho with ⟨e,he,hb,hn⟩|h
 ·have h1:=hall e he hb;have h2:=hok.lower t o ho e he hb;have h3:=inv.tail e.on hn (by have:=(Jv.1 ho).1;omega);rw[getD_both h3] at h1;cases h1
 ·obtain⟨e,he,hb,hc⟩:=h i hi;have h1:=hall e he hb;rcases hc with hc|⟨hc1,hc2,hc3⟩
  ·rw[hc,hu] at h1;cases h1
  ·have:=ancA_listed hok inv.closed e.on hc2 (fun o' ho' e' he' hb'=>inv.closed e.on o' ho' h1 e' he' hb') i hc1 hc3;rw[hu] at this;cases this
theorem pickA {n:Nat}{σ:List Nat}(hok:OkA ops n σ) {listed:Array Bool}{R:List Nat}{i:Nat}(inv:InvT ops n listed R) (hr:i∈Region.ready .any ops listed) (hin:i<n) :
  ∃p q,R=p++i::q∧(∀x∈p,comm ops x i=true)∧InvT ops n (listed.setIfInBounds i true) (p++q):=by
 obtain⟨hun,o,ho,hall⟩:=mem_ready.1 hr;have hi:i<ops.size:=(Jv.1 ho).1;have hil:i<listed.size:=by rw[inv.head.size];exact hi
 obtain⟨p,q,rfl⟩:=List.append_of_mem ((inv.mem i).2 ⟨hin,getD_both hun⟩);obtain⟨h1,h2,h3⟩:=pairsB_at inv.pairs;refine⟨p,q,rfl,fun x hx=>?_,inv.head.set hr hin,fun j=>?_,h3⟩
 ·have:=h1 x hx;unfold uD at this;simp only[Kj,Bool.or_eq_true,Kn] at this;rcases this.2 with ⟨hlt,hb⟩|h
  ·have hl:=ancA_listed hok.toOkW inv.head.closed i hin (fun o' ho'=>by have:o'=o:=Option.some.inj (ho'.symm.trans ho);subst this;exact hall) x hlt hb;have:=((inv.mem x).1 (List.mem_append_left _ hx)).2;rw[hl] at this;cases this
  ·exact h
 ·have hm:=inv.mem j
  by_cases hij:i=j
  ·subst hij;rw[sN hil]
   constructor
   ·intro h
    exfalso
    rcases Kz.1 h with h|h
    ·have:=h1 i h;unfold uD at this;simp at this
    ·have:=h2 i h;unfold uD at this;simp at this
   ·intro h;cases h.2
  ·rw[getD_set_ne false hij,← hm]
   constructor
   ·intro h;rcases Kz.1 h with h|h<;>simp[h]
   ·intro h;rcases Kz.1 h with h|h
    ·exact List.mem_append_left _ h
    ·rcases List.mem_cons.1 h with h|h
     ·exact absurd h.symm hij
     ·exact List.mem_append_right _ h
theorem readyA {n:Nat}{σ:List Nat}(hok:OkA ops n σ) {listed:Array Bool}{R:List Nat}(inv:InvT ops n listed R) (hR:R≠[]):Region.ready .any ops listed≠[]∧∀i∈Region.ready .any ops listed,i<n:=by
 obtain⟨x,r,rfl⟩:=List.exists_cons_of_ne_nil hR;have hx:=(inv.mem x).1 (Jy ..)
 have hpos:0<unl listed n:=by
  rcases Nat.eq_zero_or_pos (unl listed n) with h|h
  ·rw[unl_zero h x hx.1] at hx;cases hx.2
  ·exact h
 obtain⟨i,hi,hu,hb⟩:=unl_some hpos;have hle:=hok.le;have his:i<ops.size:=by omega
 have hun:listed.getD i true=false:=getD_in (by rw[inv.head.size];exact his) hu
 constructor
 ·intro he;have:i∈Region.ready .any ops listed:=mem_ready.2 ⟨hun,ops[i],Array.getElem?_eq_getElem his,fun e hm hbd=>hb _ (hok.lower i _ (Array.getElem?_eq_getElem his) e hm hbd)⟩;rw[he] at this;cases this
 ·intro j hj;rcases Nat.lt_or_ge j n with h|h
  ·exact h
  ·exact absurd hj (waitA hok.toOkW inv.head hi hu j h)
theorem pF {n:Nat}{σ:List Nat}{l:List Oper}(hok:OkA l.toArray n σ):∀(f:Nat) (listed:Array Bool) (R:List Nat) (G:Nat→Prop) (S:World→Prop) (a:Act) (w:World),R.length=f→InvT l.toArray n listed R→Here G S J w →
  sG P l.toArray J (fun _ a w=>wpAny P .any l.toArray Q (l.toArray.size-n) (vE l.toArray.size n) a w) R G S a→wpAny P .any l.toArray Q (f+(l.toArray.size-n)) listed a w
 | 0,listed,R,G,S,a,w,hn,inv,hh,hs=>by
  have:R=[]:=List.eq_nil_of_length_eq_zero hn;subst this;rw[Kk]
  have hfull:listed=vE l.toArray.size n:=listed_full inv.head fun i hi=>by
   cases hl:listed.getD i false with
   | true=>rfl
   | false=>have:=(inv.mem i).2 ⟨hi,hl⟩;cases this
  rw[hfull];exact hs w hh.s hh.j
 | f+1,listed,R,G,S,a,w,hn,inv,hh,hs=>by
  rw[show f+1+(l.toArray.size-n)=(f+(l.toArray.size-n))+1 by omega];obtain⟨hr1,hr2⟩:=readyA hok inv (by intro h;subst h;cases hn);refine⟨fun he=>absurd he hr1,fun i hi=>?_⟩;obtain⟨p,q,rfl,hc,inv'⟩:=pickA hok inv hi (hr2 i hi);obtain⟨hun,o,ho,hall⟩:=mem_ready.1 hi;have hlen:(p++q).length=f:=by simp at hn ⊢;omega
  obtain⟨hk,hsel⟩:=known ho hc hh hs;unfold wpOp;rw[ho];show if Region.wanted o (yielded l.toArray a.tmps)=true then _ else _;rcases hk with ⟨v,hf⟩|⟨hw,hk,ob,fv,hr⟩|⟨hw,hk⟩
  ·have hs':=pullF ⟨w,hh.j⟩ ho hsel hc hf hs;rcases hf with ⟨hw,rfl⟩|⟨hw,hk,hy⟩
   ·rw[Ko (by rw[hw];exact Bool.false_ne_true)];exact pF hok f _ _ G S _ w hlen inv' hh hs'
   ·rw[Kp hw];exact .inl ((hy w hh.j).ch.wp fun v' w' ⟨h1,h2⟩=>by subst h1;subst h2;exact pF hok f _ _ G S _ w' hlen inv' hh hs')
  ·rw[Kp hw];have hg:¬G w.heap.size:=fun h=>absurd (hh.g _ h) (by omega);have hs':=pullN ho hsel hk hc hw hr hg hs;refine .inl (Ch.wp (R:=fun v' w'=>v'=fv w.heap.size∧w'=w.alloc ob) ?_ fun v' w' ⟨h1,h2⟩=>?_)
   ·unfold Ch;rw[hr w];exact⟨rfl,rfl⟩
   ·subst h1;subst h2;refine pF hok f _ _ _ _ _ _ hlen inv' ⟨⟨hh.ss w ob hh.s,heap_alloc_new w ob⟩,hh.js w ob hh.j,hh.ss.and _ _,hh.js,fun k hk=>?_⟩ hs';rcases hk with rfl|hk
    ·simp
    ·have:=hh.g k hk;simp;omega
  ·rw[Kp hw]
   exact .inl ((pullC ho hsel hk hc hw hs w hh.s hh.j).wp fun v w' ⟨k1,k2,S',N,kn,k3,k4,k5⟩ =>
    pF hok f _ _ _ S' _ w' hlen inv' ⟨k4,k2,k3,hh.js,fun k hk=>hk.elim (fun h=>(kn k h).2) fun h=>Jx (hh.g k h) k1.size⟩ k5)
theorem region_SA {id:Nat}{a:Act}{w:World}{n:Nat}{σ:List Nat}{l:List Oper}(hm:P.follows .mixedOrders=true) (hB:okA l.toArray n σ=true) (G:Nat→Prop) (S:World→Prop) (hS:vA S) (hJ:vA J) (h0:S w.drew) (hj:J w.drew) (hG:∀k,G k→k<w.heap.size)
  (h:sG P l.toArray J (fun _ a w=>wpAny P .any l.toArray Q (l.toArray.size-n) (vE l.toArray.size n) a w) σ G S a):(Code.region id l.toArray true).wp P Q a w:=by
 have hok:=okA_ok hB;refine wp_region_any hm ?_;have hp:=hok.pairs
 have inv:InvT l.toArray n (Array.replicate l.toArray.size false) σ:=by
  refine⟨⟨by simp,fun j oj _ hl=>(by rw[getD_replicate_false] at hl;cases hl),fun t _ ht=>getD_in (by simpa using ht) (getD_replicate_false _ _)⟩,fun i=>?_,hok.pairs⟩;rw[getD_replicate_false];exact⟨fun h=>⟨hok.lt i h,rfl⟩,fun h=>hok.all i h.1⟩
 have hlen:σ.length=n:=by
  have hnd:σ.Nodup:=by
   clear hB hj h0 hG h inv hok
   induction σ with
   | nil=>exact List.nodup_nil
   | cons x r ih =>
    simp only[tK,Kj,List.all_eq_true] at hp;refine List.nodup_cons.2 ⟨fun hx=>?_,ih hp.2⟩;have:=hp.1 x hx;unfold uD at this;simp at this
  have h1:σ.Subset (List.range n):=fun i hi=>List.mem_range.2 (hok.lt i hi);have h2:(List.range n).Subset σ:=fun i hi=>hok.all i (List.mem_range.1 hi);have a1:=List.Nodup.length_le_of_subset hnd h1;have a2:=List.Nodup.length_le_of_subset List.nodup_range h2;simp at a1 a2;omega
 have hle:=hok.le;have:=pF hok σ.length _ σ G S a w.drew rfl inv ⟨h0,hj,hS,hJ,hG⟩ h;rw[hlen,show n+(l.toArray.size-n)=l.toArray.size by omega] at this;exact this
def WA (P:Program) (ops:Array Oper) (Q:Exit→Act→World→Prop) (k:Nat) (listed:Array Bool) (n:Nat) (m:List (Nat×Value)) (H:World→Prop):Prop:=∀a w,Sat n m a→H w→wpAny P .any ops Q k listed a w
def QA (P:Program) (ops:Array Oper) (Q:Exit→Act→World→Prop) (k:Nat) (listed:Array Bool):Exit→Act→World→Prop:=fun e a w=>match e with
 | .normal=>wpAny P .any ops Q k listed a w
 | e=>Q e a w
def nthA (ops:Array Oper) (P:Program) (Q:Exit→Act→World→Prop) (k:Nat) (listed:Array Bool) (n:Nat) (m:List (Nat×Value)) (H:World→Prop):List Nat→Prop
 | []=>True
 | i::r=>(∃o,ops[i]? = some o∧WL P ops (QA P ops Q k (listed.setIfInBounds i true)) [o] n m H)∧nthA ops P Q k listed n m H r
section
variable {k n:Nat}{listed:Array Bool}{m:List (Nat×Value)}{H:World→Prop}
theorem nthA_at {is:List Nat}(h:nthA ops P Q k listed n m H is):∀i∈is,∃o,ops[i]? = some o∧WL P ops (QA P ops Q k (listed.setIfInBounds i true)) [o] n m H:=by
 induction is with
 | nil=>intro i hi;cases hi
 | cons j r ih =>
  intro i hi;rcases List.mem_cons.1 hi with rfl|hi
  ·exact h.1
  ·exact ih h.2 i hi
theorem QA.wp {o:Oper}{a:Act}{w:World}{K:Act→World→Prop}(hK:∀a w,K a w→wpAny P .any ops Q k listed a w) (h:o.wp P a w K (QA P ops Q k listed)):o.wp P a w (wpAny P .any ops Q k listed) Q:=by
 unfold Oper.wp at *;generalize (execOp a.eval o).run P w=r at *
 cases r with
 | ok x w' =>
  cases x
  case value v=>exact hK _ _ h
  case skip=>exact hK _ _ h
  case defer d=>exact hK _ _ h
  case enter f args =>
   refine Calls.mono h fun e w'' he=>?_;cases e
   ·exact hK _ _ he
   ·exact he
   ·exact he
  case row r args=>exact Rows.mono h fun v w'' hv=>hK _ _ hv
  all_goals exact h.elim
 | halt x w' =>
  cases x
  all_goals first|exact h|exact h.elim
theorem yN (is:List Nat) (hr:Region.ready .any ops listed=is) (hne:is≠[]) (h:nthA ops P Q k listed n m H is):WA P ops Q (k+1) listed n m H:=fun a w hs hw=>by
 refine⟨fun he=>absurd (hr.symm.trans he) hne,fun i hi=>?_⟩;obtain⟨o,ho,hl⟩:=nthA_at h i (hr▸hi);have:=hl a w hs hw;unfold wpOp;rw[ho];unfold wpList at this;show if Region.wanted o (yielded ops a.tmps)=true then _ else _
 split at this
 ·rename_i hwt;rw[Kp hwt];rcases this with h|⟨h1,h2⟩
  ·exact .inl (QA.wp (fun _ _ h=>h) h)
  ·exact .inr ⟨h1,h2⟩
 ·rename_i hwt;rw[Ko hwt];exact this
theorem qU (hr:Region.ready .any ops listed=[]) (h:WQ Q .normal n m H):WA P ops Q 0 listed n m H:=fun a w hs hw=>⟨hr,h a w hs hw⟩
variable {G B:Nat→Prop}{w0:World}{L:List (Nat×Obj)}{R:List Rw}{X:World→Prop}
theorem wc_drawA {id:Nat}{l:List Oper}(c:Nat) (σ:List Nat) (J:World→Prop) (hm:P.follows .mixedOrders=true) (hB:okA l.toArray c σ=true) (hJ:vA J) (hj:∀w,Hp B w0 L R X w→J w)
  (h:∀n0,w0.heap.size≤n0→WD P l.toArray J (fun _ a w=>wpAny P .any l.toArray Q (l.toArray.size-c) (vE l.toArray.size c) a w) σ (fun j=>j<n0) n m (HpG (fun j=>j<n0) B w0 L R X)):WC P (.region id l.toArray true) Q n m (Hp B w0 L R X):=fun a w hs hw =>
 region_SA (J:=J) hm hB (fun k=>k<w.heap.size) (HpG (fun k=>k<w.heap.size) B w0 L R X) Ky hJ (HpG.drew hw.inn) (hj _ (Hp.drew hw)) (fun _ h=>h) (h w.heap.size (HpG.size hw) a hs)
theorem wd_endA {G':Nat→Prop}(h:WA P ops Q k listed n m (Hp B w0 L R X)):WD P ops J (fun _ a w=>wpAny P .any ops Q k listed a w) [] G' n m (HpG G B w0 L R X):=fun a hs w hw _=>h a w hs hw.hp
theorem yW (h:WA P ops Q k listed n m H):WQ (QA P ops Q k listed) .normal n m H:=h
end
end
end Go.Proofs.YtfpkpnkdnammnaaGreatDoor
