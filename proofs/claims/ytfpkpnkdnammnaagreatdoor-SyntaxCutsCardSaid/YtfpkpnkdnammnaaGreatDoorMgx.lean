import Derived.Test.YtfpkpnkdnammnaaGreatDoorMgA
import Derived.Test.YtfpkpnkdnammnaaGreatDoorMgq
namespace Go.Proofs.YtfpkpnkdnammnaaGreatDoor
def Op {α:Type}(k:Nat) (X X':Option (α×PS)):Prop:=∀x t x' t',X=some (x,t)→X'=some (x',t')→t.err=0→(t.at_<k∧x'=x∧t'=t)∨(k≤t.at_∧t'.at_=k)
def Cl {α:Type}(k:Nat) (X X':Option (α×PS)):Prop:=∀x t x' t',X=some (x,t)→X'=some (x',t')→t.err=0→(t.at_≤k∧x'=x∧t'=t)∨(k<t.at_∧t'.at_=k∧t'.err≠0)
section
variable {α β:Type}{N k:Nat}{X X':Option (α×PS)}
theorem Cl.op (h:Cl k X X'):Op k X X':=fun x t x' t' e e' h0=>by
 rcases h x t x' t' e e' h0 with ⟨a,b,c⟩|⟨a,b,c⟩
 ·rcases Nat.lt_or_ge t.at_ k with hl|hl
  ·exact .inl ⟨hl,b,c⟩
  ·exact .inr ⟨hl,by rw[c];omega⟩
 ·exact .inr ⟨by omega,b⟩
theorem Cl.same {x:α}{t:PS}(ht:t.at_≤k):Cl k (some (x,t)) (some (x,t)):=fun _ _ _ _ e e' _=>by cases e;cases e';exact .inl ⟨ht,rfl,rfl⟩
theorem Cl.start {s:PS}(hg:Gs N s X) (hg':Gs k s X') (hs:s.at_=k):Cl k X X':=fun x t x' t' e e' h0=>by
 have h1:=hg x t e;have h2:=hg' x' t' e';exact .inr ⟨by have:=(h1.2.2 h0).2;omega,by have:=h2.1;have:=h2.2.1;omega,fun h=>by have:=(h2.2.2 h).2;have:=h2.2.1;omega⟩
theorem Op.start {s:PS}(hw:Ws N s X) (hw':Ws k s X') (hs:s.at_=k):Op k X X':=fun x t x' t' e e' h0=>by
 have h1:=hw x t e;have h2:=hw' x' t' e';exact .inr ⟨by have:=h1.1;omega,by have:=h2.1;have:=h2.2.1;omega⟩
theorem Cl.bad {s:PS}(hw:Ws N s X) (hs:s.err≠0):Cl k X X':=fun x t _ _ e _ h0=>absurd ((hw x t e).2.2 h0) hs
variable {f f':α→PS→Option (β×PS)}
theorem Op.bind (h:Op k X X') (hf:∀x t,X=some (x,t)→t.err=0→t.at_<k→Op k (f x t) (f' x t)) (hw:∀x t,X=some (x,t)→Ws N t (f x t)) (hw':∀x t,X'=some (x,t)→t.at_=k→Ws k t (f' x t)):Op k (andThen X f) (andThen X' f'):=fun y u y' u' e e' h0=>by
 obtain⟨x,t,e1,e2⟩:=yL e;obtain⟨x',t',e1',e2'⟩:=yL e';have h1:=hw x t e1 y u e2;have ht:=h1.2.2 h0;rcases h x t x' t' e1 e1' ht with ⟨a,b,c⟩|⟨a,b⟩
 ·subst b c;exact hf _ _ e1 ht a y u y' u' e2 e2' h0
 ·have h2:=hw' x' t' e1' b y' u' e2';exact .inr ⟨Kx a h1.1,by have:=h2.1;have:=h2.2.1;omega⟩
theorem Op.bindC (h:Op k X X') (hf:∀x t,X=some (x,t)→t.err=0→t.at_<k→Cl k (f x t) (f' x t)) (hg:∀x t,X=some (x,t)→Gs N t (f x t)) (hg':∀x t,X'=some (x,t)→t.at_=k→Gs k t (f' x t)):Cl k (andThen X f) (andThen X' f'):=fun y u y' u' e e' h0=>by
 obtain⟨x,t,e1,e2⟩:=yL e;obtain⟨x',t',e1',e2'⟩:=yL e';have h1:=hg x t e1 y u e2;obtain⟨ht,hlt⟩:=h1.2.2 h0;rcases h x t x' t' e1 e1' ht with ⟨a,b,c⟩|⟨a,b⟩
 ·subst b c;exact hf _ _ e1 ht a y u y' u' e2 e2' h0
 ·have h2:=hg' x' t' e1' b y' u' e2';exact .inr ⟨by omega,by have:=h2.1;have:=h2.2.1;omega,fun h=>by have:=(h2.2.2 h).2;have:=h2.2.1;omega⟩
theorem Cl.bindC (h:Cl k X X') (hf:∀x t,X=some (x,t)→t.err=0→t.at_≤k→Cl k (f x t) (f' x t)) (hw:∀x t,X=some (x,t)→Ws N t (f x t)) (hw':∀x t,X'=some (x,t)→t.at_=k→Ws k t (f' x t)):Cl k (andThen X f) (andThen X' f'):=fun y u y' u' e e' h0=>by
 obtain⟨x,t,e1,e2⟩:=yL e;obtain⟨x',t',e1',e2'⟩:=yL e';have h1:=hw x t e1 y u e2;have ht:=h1.2.2 h0;rcases h x t x' t' e1 e1' ht with ⟨a,b,c⟩|⟨a,b,c⟩
 ·subst b c;exact hf _ _ e1 ht a y u y' u' e2 e2' h0
 ·have h2:=hw' x' t' e1' b y' u' e2';exact .inr ⟨by have:=h1.1;omega,by have:=h2.1;have:=h2.2.1;omega,fun h=>c (h2.2.2 h)⟩
theorem Cl.bindO (h:Cl k X X') (hf:∀x t,X=some (x,t)→t.err=0→t.at_≤k→Op k (f x t) (f' x t)) (hw:∀x t,X=some (x,t)→Ws N t (f x t)) (hw':∀x t,X'=some (x,t)→t.at_=k→Ws k t (f' x t)):Op k (andThen X f) (andThen X' f'):=fun y u y' u' e e' h0=>by
 obtain⟨x,t,e1,e2⟩:=yL e;obtain⟨x',t',e1',e2'⟩:=yL e';have h1:=hw x t e1 y u e2;have ht:=h1.2.2 h0;rcases h x t x' t' e1 e1' ht with ⟨a,b,c⟩|⟨a,b,c⟩
 ·subst b c;exact hf _ _ e1 ht a y u y' u' e2 e2' h0
 ·have h2:=hw' x' t' e1' b y' u' e2';exact .inr ⟨by have:=h1.1;omega,by have:=h2.1;have:=h2.2.1;omega⟩
theorem Op.map {g:α→β}(h:Op k X X'):Op k (andThen X fun e s=>some (g e,s)) (andThen X' fun e s=>some (g e,s)):=fun y u y' u' e e' h0=>by
 obtain⟨x,t,e1,e2⟩:=yL e;obtain⟨x',t',e1',e2'⟩:=yL e';cases e2;cases e2';rcases h x _ x' _ e1 e1' h0 with ⟨a,b,c⟩|⟨a,b⟩
 ·exact .inl ⟨a,by rw[b],c⟩
 ·exact .inr ⟨a,b⟩
theorem Cl.map {g:α→β}(h:Cl k X X'):Cl k (andThen X fun e s=>some (g e,s)) (andThen X' fun e s=>some (g e,s)):=fun y u y' u' e e' h0=>by
 obtain⟨x,t,e1,e2⟩:=yL e;obtain⟨x',t',e1',e2'⟩:=yL e';cases e2;cases e2';rcases h x _ x' _ e1 e1' h0 with ⟨a,b,c⟩|⟨a,b⟩
 ·exact .inl ⟨a,by rw[b],c⟩
 ·exact .inr ⟨a,b⟩
end
structure Cut (tk tk':Nat→Tok) (N k:Nat):Prop where
 le:k≤N
 e:∀j,j<k→tk' j=tk j
 hk:(tk' k).kind=0
 hN:(tk N).kind=0
section
variable {tk tk':Nat→Tok}{N k:Nat}(c:Cut tk tk' N k)
include c
theorem Cut.hm:(tk N).kind=0∨(tk N).kind=4:=.inl c.hN
theorem Cut.hm':(tk' k).kind=0∨(tk' k).kind=4:=.inl c.hk
theorem Cut.is {x:Bs}{s:PS}(h:s.at_<k):isP tk' x s=isP tk x s:=by unfold isP;rw[c.e _ h]
theorem Cut.fail {s:PS}(h:s.at_<k):tE tk' s=tE tk s:=by unfold tE;rw[c.e _ h]
theorem Cut.need {x:Bs}{s:PS}(h:s.at_<k):yA tk' x s=yA tk x s:=by unfold yA;rw[c.is h,c.fail h]
theorem Cut.name {s:PS}(h:s.at_<k):xM tk' s=xM tk s:=by unfold xM;rw[c.e _ h,c.fail h]
theorem Cut.no {x:Bs}{s:PS}(h:s.at_=k):isP tk' x s=false:=by
 unfold isP;rw[h,c.hk];simp
omit c in
theorem need_at {x:Bs}{s:PS}:(yA tk x s).at_≤s.at_+1:=by
 unfold yA
 cases isP tk x s with
 | true=>exact Km _
 | false=>rw[cond_false,rR];omega
omit c in
theorem name_at {s:PS}:(xM tk s).2.at_≤s.at_+1:=by
 unfold xM
 split
 ·exact Km _
 ·rw[rR];omega
theorem qE {α:Type}{v:α}(x:Bs) {s:PS}(h:s.at_≤k):Cl k (some (v,yA tk x s)) (some (v,yA tk' x s)):=by
 rcases Nat.lt_or_ge s.at_ k with hl|hl
 ·rw[c.need hl];exact Cl.same (Kx need_at hl)
 ·have hs:s.at_=k:=Nat.le_antisymm h hl;exact Cl.start (Gs.some (Pg.need c.hm x (by have:=c.le;omega))) (Gs.some (Pg.need c.hm' x h)) hs
theorem name_c {s:PS}(h:s.at_≤k):Cl k (some (xM tk s)) (some (xM tk' s)):=by
 rcases Nat.lt_or_ge s.at_ k with hl|hl
 ·rw[c.name hl];exact Cl.same (t:=(xM tk s).2) (Kx name_at hl)
 ·have hs:s.at_=k:=Nat.le_antisymm h hl;exact Cl.start (Gs.some (a:=(xM tk s).1) (Pg.name c.hm (by have:=c.le;omega))) (Gs.some (a:=(xM tk' s).1) (Pg.name c.hm' h)) hs
structure OE (k:Nat) (r r':EF):Prop where
 prim:∀s,s.at_≤k→Op k (r.prim s) (r'.prim s)
 un:∀s,s.at_≤k→Op k (r.un s) (r'.un s)
 bin:∀n s,s.at_≤k→Op k (r.bin n s) (r'.bin n s)
 loop:∀n e s,s.at_≤k→Op k (r.loop n e s) (r'.loop n e s)
 list:∀l s,s.at_≤k→Op k (r.list l s) (r'.list l s)
variable {r r':EF}(hg:EG N r) (hg':EG k r') (h:OE k r r')
include hg hg' h
theorem inner_c {g:Ex→Ex}(x y:Bs) {s:PS}(hs:s.at_≤k):Cl k (andThen (r.bin 0 (yA tk x s)) fun e s=>some (g e,yA tk y s)) (andThen (r'.bin 0 (yA tk' x s)) fun e s=>some (g e,yA tk' y s)):=by
 have hN:s.at_≤N:=Kx hs c.le;have n1:=Pg.need c.hm x hN;have n2:=Pg.need c.hm' x hs;have h1:Op k (r.bin 0 (yA tk x s)) (r'.bin 0 (yA tk' x s)):=(qE c (v:=()) x hs).bindO (f:=fun _ u=>r.bin 0 u) (f':=fun _ u=>r'.bin 0 u) (N:=N) (fun _ t _ _ ht=>h.bin 0 t ht) (fun _ t e=>by cases e;exact (hg.bin 0 _ n1.2.1).w) (fun _ t e _=>by cases e;exact (hg'.bin 0 _ n2.2.1).w);exact h1.bindC (N:=N) (fun e t _ _ ht=>qE c y (Nat.le_of_lt ht)) (fun e t ht=>Gs.some (Pg.need c.hm y (hg.bin 0 _ n1.2.1 e t ht).2.1)) (fun e t ht _=>Gs.some (Pg.need c.hm' y (hg'.bin 0 _ n2.2.1 e t ht).2.1))
theorem par_c {g:Ex→Ex}(y:Bs) {s:PS}(hs:s.at_≤k):Cl k (andThen (r.bin 0 s) fun e s=>some (g e,yA tk y s)) (andThen (r'.bin 0 s) fun e s=>some (g e,yA tk' y s)):=by
 have hN:s.at_≤N:=Kx hs c.le;exact (h.bin 0 s hs).bindC (N:=N) (fun e t _ _ ht=>qE c y (Nat.le_of_lt ht)) (fun e t ht=>Gs.some (Pg.need c.hm y (hg.bin 0 _ hN e t ht).2.1)) (fun e t ht _=>Gs.some (Pg.need c.hm' y (hg'.bin 0 _ hs e t ht).2.1))
theorem prim_c (s:PS) (hs:s.at_≤k):Op k (vS tk r s) (vS tk' r' s):=by
 have hN:s.at_≤N:=Kx hs c.le;rcases (show k≤s.at_∨s.at_<k by omega) with hl|hl
 ·exact (Cl.start (primS_g c.hm hg s hN) (primS_g c.hm' hg' s hs) (Nat.le_antisymm hs hl)).op
 unfold vS;rw[c.e _ hl,c.is (x:=kMem) hl,c.is (x:=kIn) hl,c.is (x:=[40]) hl,c.fail hl];have ha:(adv s).at_=s.at_+1:=rfl;have ha2:(adv (adv s)).at_=s.at_+2:=rfl;have ha3:(adv (adv (adv s))).at_=s.at_+3:=rfl
 by_cases h0:s.err≠0
 ·rw[Kp h0,Kp h0];exact (Cl.same hs).op
 rw[Ko h0,Ko h0]
 by_cases h1:(tk s.at_).kind=1∧(tk s.at_).value<4294967296
 ·rw[Kp h1,Kp h1];exact (Cl.same (by omega)).op
 rw[Ko h1,Ko h1]
 by_cases h2:(tk s.at_).kind=2
 ·rw[Kp h2,Kp h2];have hb:(adv s).at_≤N:=sC c.hm hN (by omega) (by omega);rcases (show k≤(adv s).at_∨(adv s).at_<k by omega) with h3|h3
  ·rw[c.no (x:=[40]) (s:=adv s) (by omega)];refine Op.start (s:=adv s) (N:=N) (Ws.bif (fun h4=>?_) (fun _=>Ws.some (Pw.refl hb))) (Ws.some (Pw.refl (by omega))) (by omega);have h5:=yE c.hm hb h4;refine Ws.from (Pg.adv h5).w (Ws.bif (fun h6=>Ws.some (Pg.adv (yE c.hm h5 h6)).w) fun _=>Ws.bind (hg.list _ _ h5) fun _ _ h7=>Ws.some h7)
  rw[c.is (x:=[40]) h3]
  cases h4:isP tk [40] (adv s) with
  | false=>exact (Cl.same (by omega)).op
  | true =>
   rw[cond_true,cond_true];have h5:=yE c.hm hb h4;rcases (show k≤(adv (adv s)).at_∨(adv (adv s)).at_<k by omega) with h6|h6
   ·rw[c.no (x:=[41]) (s:=adv (adv s)) (by omega)];refine Op.start (s:=adv (adv s)) (N:=N) (Ws.bif (fun h6=>Ws.some (Pg.adv (yE c.hm h5 h6)).w) fun _=>Ws.bind (hg.list _ _ h5) fun _ _ h7=>Ws.some h7) (Ws.bind (hg'.list _ _ (by omega)) fun _ _ h7=>Ws.some h7) (by omega)
   rw[c.is (x:=[41]) h6]
   cases h7:isP tk [41] (adv (adv s)) with
   | true=>exact (Cl.same (by omega)).op
   | false=>exact (h.list [] _ (by omega)).map
 rw[Ko h2,Ko h2]
 cases h3:isP tk kMem s with
 | true=>exact (inner_c c hg hg' h (g:=fun e=>.mk 4 0 [] [e]) [91] [93] (s:=adv s) (by omega)).op
 | false =>
  rw[cond_false,cond_false]
  cases h4:isP tk kIn s with
  | true=>exact (Cl.same (by omega)).op
  | false =>
   rw[cond_false,cond_false]
   cases h5:isP tk [40] s with
   | true=>exact (par_c c hg hg' h (g:=fun e=>e) [41] (s:=adv s) (by omega)).op
   | false=>exact (Cl.same (by rw[rR];exact hs)).op
theorem un_c (s:PS) (hs:s.at_≤k):Op k (unS tk r s) (unS tk' r' s):=by
 have hN:s.at_≤N:=Kx hs c.le;rcases (show k≤s.at_∨s.at_<k by omega) with hl|hl
 ·exact (Cl.start (unS_g c.hm hg s hN) (unS_g c.hm' hg' s hs) (Nat.le_antisymm hs hl)).op
 have ha:(adv s).at_=s.at_+1:=rfl;unfold unS;rw[c.is (x:=[45]) hl,c.is (x:=[126]) hl,c.is (x:=[33]) hl]
 cases isP tk [45] s with
 | true=>exact (h.un (adv s) (by omega)).map
 | false =>
  cases isP tk [126] s with
  | true=>exact (h.un (adv s) (by omega)).map
  | false =>
   cases isP tk [33] s with
   | true=>exact (h.un (adv s) (by omega)).map
   | false=>exact h.prim s hs
theorem bin_c (n:Nat) (s:PS) (hs:s.at_≤k):Op k (binS r n s) (binS r' n s):=by
 have hN:s.at_≤N:=Kx hs c.le;unfold binS;exact (h.un s hs).bind (N:=N) (fun e t _ _ ht=>h.loop n e t (Nat.le_of_lt ht)) (fun e t ht=>hg.loop n e t (hg.un s hN e t ht).2.1) (fun e t ht _=>hg'.loop n e t (hg'.un s hs e t ht).2.1)
omit c hg hg' h in
theorem loop_w {tk:Nat→Tok}{m:Nat}(hm:(tk m).kind=0∨(tk m).kind=4) {r:EF}(hg:EG m r) (n:Nat) (e:Ex) (s:PS) (hs:s.at_≤m):Ws m s (uY tk r n e s):=by
 unfold uY;refine Ws.ite (fun hc=>?_) fun _=>Ws.some (Pw.refl hs)
 split
 ·refine Ws.ite (fun _=>Ws.some (Pw.refl hs)) fun _=>?_;have ha:=sC hm hs (by omega) (by omega);exact Ws.from (Pg.adv ha).w (Ws.bind (hg.bin _ _ ha).w fun x s1 h1=>Ws.from h1 (hg.loop _ _ _ h1.2.1))
 ·exact Ws.some (Pw.refl hs)
theorem loop_c (n:Nat) (e:Ex) (s:PS) (hs:s.at_≤k):Op k (uY tk r n e s) (uY tk' r' n e s):=by
 have hN:s.at_≤N:=Kx hs c.le;rcases (show k≤s.at_∨s.at_<k by omega) with hl|hl
 ·exact Op.start (loop_w c.hm hg n e s hN) (loop_w c.hm' hg' n e s hs) (Nat.le_antisymm hs hl)
 have ha:(adv s).at_=s.at_+1:=rfl;unfold uY;rw[c.e _ hl]
 by_cases h1:s.err=0∧(tk s.at_).kind=3
 ·rw[Kp h1,Kp h1];have hb:(adv s).at_≤N:=sC c.hm hN (by omega) (by omega)
  cases wA (tk s.at_).text with
  | none=>exact (Cl.same hs).op
  | some l =>
   dsimp only
   by_cases h2:l<n
   ·rw[Kp h2,Kp h2];exact (Cl.same hs).op
   ·rw[Ko h2,Ko h2];exact (h.bin (l+1) (adv s) (by omega)).bind (N:=N) (fun x t _ _ ht=>h.loop n _ t (Nat.le_of_lt ht)) (fun x t ht=>hg.loop n _ t (hg.bin _ _ hb x t ht).2.1) (fun x t ht _=>hg'.loop n _ t (hg'.bin _ _ (by omega) x t ht).2.1)
 ·rw[Ko h1,Ko h1];exact (Cl.same hs).op
theorem list_c (l:List Ex) (s:PS) (hs:s.at_≤k):Op k (sX tk r l s) (sX tk' r' l s):=by
 have hN:s.at_≤N:=Kx hs c.le;rcases (show k≤s.at_∨s.at_<k by omega) with hl|hl
 ·exact Op.start (listS_g c.hm hg l s hN) (listS_g c.hm' hg' l s hs) (Nat.le_antisymm hs hl)
 unfold sX
 by_cases h0:s.err≠0
 ·rw[Kp h0,Kp h0];exact (Cl.same hs).op
 rw[Ko h0,Ko h0];have tail:∀{tk:Nat→Tok} {m:Nat} (hm:(tk m).kind=0∨(tk m).kind=4) {r:EF} (hg:EG m r) (e:Ex) (t:PS),t.at_≤m→Ws m t (bif isP tk [41] t then some (l++[e],adv t) else r.list (l++[e]) (yA tk [44] t)):=fun {tk m} hm {r} hg e t ht=>Ws.bif (fun h1=>Ws.some (Pg.adv (yE hm ht h1)).w) fun _=>Ws.from (Pg.need hm [44] ht).w (hg.list _ _ (Pg.need hm [44] ht).2.1);refine (h.bin 0 s hs).bind (N:=N) (fun e t he _ ht=>?_) (fun e t ht=>tail c.hm hg e t (hg.bin 0 s hN e t ht).2.1) (fun e t ht _=>tail c.hm' hg' e t (hg'.bin 0 s hs e t ht).2.1);have ha:(adv t).at_=t.at_+1:=rfl;have htN:t.at_≤N:=by have:=c.le;omega
 rw[c.is (x:=[41]) ht]
 cases isP tk [41] t with
 | true=>exact (Cl.same (by omega)).op
 | false =>
  exact (qE c (v:=()) [44] (Nat.le_of_lt ht)).bindO (f:=fun _ u=>r.list (l++[e]) u) (f':=fun _ u=>r'.list (l++[e]) u) (N:=N) (fun _ u _ _ hu=>h.list _ u hu) (fun _ u e=>by cases e;exact hg.list _ _ (Pg.need c.hm [44] htN).2.1) (fun _ u e _=>by cases e;exact hg'.list _ _ (Pg.need c.hm' [44] (Nat.le_of_lt ht)).2.1)
omit hg hg' h in
theorem exF_c:∀f,OE k (exF tk f) (exF tk' f)
 | 0=>⟨fun _ _ _ _ _ _ e=>(by cases e),fun _ _ _ _ _ _ e=>(by cases e),fun _ _ _ _ _ _ _ e=>(by cases e),fun _ _ _ _ _ _ _ _ e=>(by cases e),fun _ _ _ _ _ _ _ e=>(by cases e)⟩
 | f+1=>by
  have ih:=exF_c f;have g:=qQ c.hm f;have g':=qQ c.hm' f;exact⟨prim_c c g g' ih,un_c c g g' ih,bin_c c g g' ih,loop_c c g g' ih,list_c c g g' ih⟩
end
end Go.Proofs.YtfpkpnkdnammnaaGreatDoor
namespace Go.Proofs.YtfpkpnkdnammnaaGreatDoor
theorem name_some {tk:Nat→Tok}{s t:PS}{x:Bs}(e:some (xM tk s)=some (x,t)):(xM tk s).2=t:=by rw[Option.some.inj e]
section
variable {tk:Nat→Tok}{m:Nat}(hm:(tk m).kind=0∨(tk m).kind=4) {E:PS→Option (Ex×PS)}(hE:∀s,s.at_≤m→Gs m s (E s))
include hm
omit hm in
theorem Pg.bad {s:PS}(hs:s.at_≤m) (h:s.err≠0):Pg m s s:=⟨Km _,hs,fun h0=>absurd h0 h⟩
theorem parF_gs:∀f l (s:PS),s.at_≤m→Gs m s (rK tk f l s)
 | 0,_,_,_=>fun _ _ e=>(by cases e)
 | f+1,l,s,hs=>by
  unfold rK;have hn:=Pg.name hm hs;refine Gs.ite (fun h0=>Gs.some (Pg.bad hs h0)) fun _=>Gs.bif (fun h1=>Gs.some (hn.trans (Pg.adv (yE hm hn.2.1 h1)).w)) fun _=>?_;have hq:=Pg.need hm [44] hn.2.1;exact Gs.fromW (hn.trans hq.w) (parF_g hm f _ _ hq.2.1)
theorem parS_gs (f:Nat) (s:PS) (hs:s.at_≤m):Gs m s (pV tk f s):=by
 unfold pV;exact Gs.bif (fun h1=>Gs.some (Pg.adv (yE hm hs h1))) fun _=>parF_gs hm f _ s hs
include hE
theorem blk_gs:∀f l (s:PS),s.at_≤m→Gs m s ((stF tk E f).blk l s)
 | 0,_,_,_=>fun _ _ e=>(by cases e)
 | f+1,l,s,hs=>by
  have ih:=stF_g hm hE f;show Gs m s (qV tk (stF tk E f) l s);unfold qV;exact Gs.ite (fun h0=>Gs.some (Pg.bad hs h0)) fun _=>Gs.bif (fun h1=>Gs.some (Pg.adv (yE hm hs h1))) fun _=>Gs.bind (ih.stm s hs) fun x s' h2=>Gs.fromW h2 (ih.blk _ _ h2.2.1)
theorem rN (f:Nat) (s:PS) (hs:s.at_≤m):Gs m s (vQ tk (stF tk E f) s):=by
 have hn:=Pg.need hm [123] hs;exact Gs.fromW hn (blk_gs hm hE f _ _ hn.2.1).w
end
section
variable {tk tk':Nat→Tok}{N k:Nat}(c:Cut tk tk' N k) {E E':PS→Option (Ex×PS)}(hE:∀s,s.at_≤k→Op k (E s) (E' s)) (hg:∀s,s.at_≤N→Gs N s (E s)) (hg':∀s,s.at_≤k→Gs k s (E' s))
include c hE hg hg'
theorem sim_c (kd:Nat) (nm:Bs) (l:List Ex) (s:PS) (hs:s.at_≤k):Cl k (rA tk E kd nm l s) (rA tk' E' kd nm l s):=by
 have hN:s.at_≤N:=Kx hs c.le;unfold rA;exact (hE s hs).bindC (N:=N) (fun e t _ _ ht=>qE c [59] (Nat.le_of_lt ht)) (fun e t ht=>Gs.some (Pg.need c.hm [59] (hg _ hN e t ht).2.1)) (fun e t ht _=>Gs.some (Pg.need c.hm' [59] (hg' _ hs e t ht).2.1))
variable {f:Nat}(hb:∀l s,s.at_≤k→Cl k ((stF tk E f).blk l s) ((stF tk' E' f).blk l s)) (hst:∀s,s.at_≤k→Op k ((stF tk E f).stm s) ((stF tk' E' f).stm s))
include hb
omit hE in
theorem block_c (s:PS) (hs:s.at_≤k):Cl k (vQ tk (stF tk E f) s) (vQ tk' (stF tk' E' f) s):=by
 have hN:s.at_≤N:=Kx hs c.le;have n1:=Pg.need c.hm [123] hN;have n2:=Pg.need c.hm' [123] hs;exact (qE c (v:=()) [123] hs).bindC (f:=fun _ u=>(stF tk E f).blk [] u) (f':=fun _ u=>(stF tk' E' f).blk [] u) (N:=N) (fun _ t _ _ ht=>hb [] t ht) (fun _ t e=>by cases e;exact (blk_gs c.hm hg f _ _ n1.2.1).w) (fun _ t e _=>by cases e;exact (blk_gs c.hm' hg' f _ _ n2.2.1).w)
theorem stm_c (s:PS) (hs:s.at_≤k):Op k (sS tk E (stF tk E f) s) (sS tk' E' (stF tk' E' f) s):=by
 have hN:s.at_≤N:=Kx hs c.le;rcases (show k≤s.at_∨s.at_<k by omega) with hl|hl
 ·exact (Cl.start (stmS_g c.hm hg (stF_g c.hm hg f) s hN) (stmS_g c.hm' hg' (stF_g c.hm' hg' f) s hs) (Nat.le_antisymm hs hl)).op
 have ha:(adv s).at_=s.at_+1:=rfl;unfold sS;rw[c.e _ hl,c.is (x:=kVar) hl,c.is (x:=kIf) hl,c.is (x:=kWhile) hl,c.is (x:=kRet) hl,c.is (x:=kOut) hl]
 cases h1:isP tk kVar s with
 | true =>
  have hb1:=yE c.hm hN h1;have m1:=Pg.name c.hm hb1;have m2:=Pg.name c.hm' (show (adv s).at_≤k by omega);have n1:=Pg.need c.hm [61] m1.2.1;have n2:=Pg.need c.hm' [61] m2.2.1
  exact ((name_c c (s:=adv s) (by omega)).bindC (f:=fun x t=>andThen (some ((),yA tk [61] t)) fun _ u=>rA tk E 1 x [] u) (f':=fun x t=>andThen (some ((),yA tk' [61] t)) fun _ u=>rA tk' E' 1 x [] u) (N:=N)
   (fun x t _ _ ht=>(qE c (v:=()) [61] ht).bindC (N:=N) (fun _ u _ _ hu=>sim_c c hE hg hg' 1 x [] u hu)
    (fun _ u e=>by cases e;exact (qI c.hm hg _ _ _ _ (Pg.need c.hm [61] (Kx ht c.le)).2.1).w)
    (fun _ u e _=>by cases e;exact (qI c.hm' hg' _ _ _ _ (Pg.need c.hm' [61] ht).2.1).w))
   (fun x t e=>by cases name_some e;exact Ws.from n1.w (qI c.hm hg _ _ _ _ n1.2.1).w)
   (fun x t e _=>by cases name_some e;exact Ws.from n2.w (qI c.hm' hg' _ _ _ _ n2.2.1).w)).op
 | false =>
 rw[cond_false,cond_false]
 cases h2:isP tk kIf s with
 | true =>
  have hb1:=yE c.hm hN h2;have hb2:(adv s).at_≤k:=by omega
  have tail:∀{tk:Nat→Tok} {m:Nat} (hm:(tk m).kind=0∨(tk m).kind=4) {E:PS→Option (Ex×PS)} (hg:∀s,s.at_≤m→Gs m s (E s)) (e:Ex) (b:List St) (u:PS),u.at_≤m→Ws m u (bif isP tk tI u then andThen (vQ tk (stF tk E f) (adv u)) fun c s=>some (St.mk 4 [] [e] b c,s) else some (St.mk 4 [] [e] b [],u)):=fun {tk m} hm {E} hg e b u hu=>Ws.bif (fun h=>Ws.from (Pg.adv (yE hm hu h)).w (Ws.bind (rN hm hg f _ (yE hm hu h)).w fun _ _ h=>Ws.some h)) fun _=>Ws.some (Pw.refl hu);have mid:∀{tk:Nat→Tok} {m:Nat} (hm:(tk m).kind=0∨(tk m).kind=4) {E:PS→Option (Ex×PS)} (hg:∀s,s.at_≤m→Gs m s (E s)) (e:Ex) (t:PS),t.at_≤m→Ws m t (andThen (vQ tk (stF tk E f) t) fun b u=>bif isP tk tI u then andThen (vQ tk (stF tk E f) (adv u)) fun c s=>some (St.mk 4 [] [e] b c,s) else some (St.mk 4 [] [e] b [],u)):=fun {tk m} hm {E} hg e t ht=>Ws.bind (rN hm hg f t ht).w fun b u hu=>Ws.from hu (Ws.bif (fun h=>Ws.from (Pg.adv (yE hm hu.2.1 h)).w (Ws.bind (rN hm hg f _ (yE hm hu.2.1 h)).w fun _ _ h=>Ws.some h)) fun _=>Ws.some (Pw.refl hu.2.1));refine (hE (adv s) hb2).bind (N:=N) (fun e t _ _ ht=>?_) (fun e t ht=>mid c.hm hg e t (hg _ hb1 e t ht).2.1) (fun e t ht _=>mid c.hm' hg' e t (hg' _ hb2 e t ht).2.1);have htN:t.at_≤N:=by have:=c.le;omega
  refine (block_c c hg hg' hb t (Nat.le_of_lt ht)).bindO (N:=N) (fun b u _ _ hu=>?_) (fun b u hu=>tail c.hm hg e b u (rN c.hm hg f t htN b u hu).2.1) (fun b u hu _=>tail c.hm' hg' e b u (rN c.hm' hg' f t (Nat.le_of_lt ht) b u hu).2.1);have huN:u.at_≤N:=Kx hu c.le;have hau:(adv u).at_=u.at_+1:=rfl;rcases (show k≤u.at_∨u.at_<k by omega) with h3|h3
  ·exact Op.start (tail c.hm hg e b u huN) (tail c.hm' hg' e b u hu) (Nat.le_antisymm hu h3)
  ·rw[c.is (x:=tI) h3]
   cases isP tk tI u with
   | true=>exact (block_c c hg hg' hb (adv u) (by omega)).map.op
   | false=>exact (Cl.same hu).op
 | false =>
 rw[cond_false,cond_false]
 cases h3:isP tk kWhile s with
 | true =>
  have hb1:=yE c.hm hN h3;have hb2:(adv s).at_≤k:=by omega
  exact (hE (adv s) hb2).bind (N:=N) (fun e t _ _ ht=>(block_c c hg hg' hb t (Nat.le_of_lt ht)).map.op) (fun e t ht=>Ws.bind (rN c.hm hg f t (hg _ hb1 e t ht).2.1).w fun _ _ h=>Ws.some h) (fun e t ht _=>Ws.bind (rN c.hm' hg' f t (hg' _ hb2 e t ht).2.1).w fun _ _ h=>Ws.some h)
 | false =>
 rw[cond_false,cond_false]
 cases h4:isP tk kRet s with
 | true=>exact (sim_c c hE hg hg' 6 [] [] (adv s) (by omega)).op
 | false =>
 rw[cond_false,cond_false]
 cases h5:isP tk kOut s with
 | true=>exact (sim_c c hE hg hg' 7 [] [] (adv s) (by omega)).op
 | false =>
 rw[cond_false,cond_false];have tail:∀{tk0 tk:Nat→Tok} {m:Nat} (hm:(tk m).kind=0∨(tk m).kind=4) {E:PS→Option (Ex×PS)} (hg:∀s,s.at_≤m→Gs m s (E s)) (e:Ex) (t:PS),t.at_≤m→Ws m t (if (tk0 s.at_).kind=2∧e.kind=2∧isP tk [61] t=true then rA tk E 2 e.name [] (adv t) else if (tk0 s.at_).text=kMem∧e.kind=4∧isP tk [61] t=true then rA tk E 3 [] e.kids (adv t) else some (St.mk 8 [] [e] [] [],yA tk [59] t)):=fun {tk0 tk m} hm {E} hg e t ht=>Ws.ite (fun h=>Ws.from (Pg.adv (yE hm ht h.2.2)).w (qI hm hg _ _ _ _ (yE hm ht h.2.2)).w) fun _=>Ws.ite (fun h=>Ws.from (Pg.adv (yE hm ht h.2.2)).w (qI hm hg _ _ _ _ (yE hm ht h.2.2)).w) fun _=>Ws.some (Pg.need hm [59] ht).w;refine (hE s hs).bind (N:=N) (fun e t _ _ ht=>?_) (fun e t ht=>tail (tk0:=tk) c.hm hg e t (hg _ hN e t ht).2.1) (fun e t ht _=>tail (tk0:=tk) c.hm' hg' e t (hg' _ hs e t ht).2.1);have hat:(adv t).at_=t.at_+1:=rfl;rw[c.is (x:=[61]) ht]
 by_cases h6:(tk s.at_).kind=2∧e.kind=2∧isP tk [61] t=true
 ·rw[Kp h6,Kp h6];exact (sim_c c hE hg hg' _ _ _ (adv t) (by omega)).op
 rw[Ko h6,Ko h6]
 by_cases h7:(tk s.at_).text=kMem∧e.kind=4∧isP tk [61] t=true
 ·rw[Kp h7,Kp h7];exact (sim_c c hE hg hg' _ _ _ (adv t) (by omega)).op
 rw[Ko h7,Ko h7];exact (qE c [59] (Nat.le_of_lt ht)).op
include hst
omit hE in
theorem blk_c (l:List St) (s:PS) (hs:s.at_≤k):Cl k ((stF tk E (f+1)).blk l s) ((stF tk' E' (f+1)).blk l s):=by
 have hN:s.at_≤N:=Kx hs c.le;rcases (show k≤s.at_∨s.at_<k by omega) with hl|hl
 ·exact Cl.start (blk_gs c.hm hg (f+1) l s hN) (blk_gs c.hm' hg' (f+1) l s hs) (Nat.le_antisymm hs hl)
 have ha:(adv s).at_=s.at_+1:=rfl;show Cl k (qV tk (stF tk E f) l s) (qV tk' (stF tk' E' f) l s);unfold qV;rw[c.is (x:=[125]) hl]
 by_cases h0:s.err≠0
 ·rw[Kp h0,Kp h0];exact Cl.same hs
 rw[Ko h0,Ko h0]
 cases isP tk [125] s with
 | true=>exact Cl.same (by omega)
 | false=>exact (hst s hs).bindC (N:=N) (fun x t _ _ ht=>hb _ t (Nat.le_of_lt ht)) (fun x t ht=>blk_gs c.hm hg f _ t ((stF_g c.hm hg f).stm s hN x t ht).2.1) (fun x t ht _=>blk_gs c.hm' hg' f _ t ((stF_g c.hm' hg' f).stm s hs x t ht).2.1)
omit hb hst in
theorem stF_c:∀f,(∀l s,s.at_≤k→Cl k ((stF tk E f).blk l s) ((stF tk' E' f).blk l s))∧(∀s,s.at_≤k→Op k ((stF tk E f).stm s) ((stF tk' E' f).stm s))
 | 0=>⟨fun _ _ _ _ _ _ _ e=>(by cases e),fun _ _ _ _ _ _ e=>(by cases e)⟩
 | f+1=>by
  obtain⟨h1,h2⟩:=stF_c f;exact⟨blk_c c hg hg' h1 h2,stm_c c hE hg hg' h1⟩
omit hE hg hg' hb hst in
theorem parF_c:∀f l s,s.at_≤k→Cl k (rK tk f l s) (rK tk' f l s)
 | 0,_,_,_=>fun _ _ _ _ e=>(by cases e)
 | f+1,l,s,hs=>by
  have hN:s.at_≤N:=Kx hs c.le;rcases (show k≤s.at_∨s.at_<k by omega) with hl|hl
  ·exact Cl.start (parF_gs c.hm (f+1) l s hN) (parF_gs c.hm' (f+1) l s hs) (Nat.le_antisymm hs hl)
  unfold rK
  by_cases h0:s.err≠0
  ·rw[Kp h0,Kp h0];exact Cl.same hs
  rw[Ko h0,Ko h0,c.name hl];have m1:=Pg.name c.hm hN;have hv:(xM tk s).2.at_≤k:=Kx name_at hl;have ha:(adv (xM tk s).2).at_=(xM tk s).2.at_+1:=rfl;generalize (xM tk s).1=x at *;generalize (xM tk s).2=v at *;have n1:=Pg.need c.hm [44] m1.2.1;have n2:=Pg.need c.hm' [44] hv;rcases (show k≤v.at_∨v.at_<k by omega) with h3|h3
  ·exact Cl.start (s:=v) (N:=N) (Gs.bif (fun h=>Gs.some (Pg.adv (yE c.hm m1.2.1 h))) fun _=>Gs.fromW n1 (parF_g c.hm f _ _ n1.2.1)) (Gs.bif (fun h=>Gs.some (Pg.adv (yE c.hm' hv h))) fun _=>Gs.fromW n2 (parF_g c.hm' f _ _ n2.2.1)) (Nat.le_antisymm hv h3)
  rw[c.is (x:=[41]) h3]
  cases isP tk [41] v with
  | true=>exact Cl.same (by omega)
  | false=>exact (qE c (v:=()) [44] hv).bindC (f:=fun _ u=>rK tk f (l++[x]) u) (f':=fun _ u=>rK tk' f (l++[x]) u) (N:=N) (fun _ t _ _ ht=>parF_c f _ t ht) (fun _ t e=>by cases e;exact parF_g c.hm f _ _ n1.2.1) (fun _ t e _=>by cases e;exact parF_g c.hm' f _ _ n2.2.1)
omit hE hg hg' hb hst in
theorem parS_c (f:Nat) (s:PS) (hs:s.at_≤k):Cl k (pV tk f s) (pV tk' f s):=by
 have hN:s.at_≤N:=Kx hs c.le;rcases (show k≤s.at_∨s.at_<k by omega) with hl|hl
 ·exact Cl.start (parS_gs c.hm f s hN) (parS_gs c.hm' f s hs) (Nat.le_antisymm hs hl)
 have ha:(adv s).at_=s.at_+1:=rfl;unfold pV;rw[c.is (x:=[41]) hl]
 cases isP tk [41] s with
 | true=>exact Cl.same (by omega)
 | false=>exact parF_c c f [] s hs
omit hb hst in
theorem fn_c (f:Nat) (s:PS) (hs:s.at_≤k):Cl k (fnS tk E f s) (fnS tk' E' f s):=by
 have hN:s.at_≤N:=Kx hs c.le;have hb:=(stF_c c hE hg hg' f).1;have wb:∀{tk:Nat→Tok} {m:Nat} (hm:(tk m).kind=0∨(tk m).kind=4) {E:PS→Option (Ex×PS)} (hg:∀s,s.at_≤m→Gs m s (E s)) (nm:Bs) (l:List Bs) (t:PS),t.at_≤m→Ws m t (andThen (vQ tk (stF tk E f) t) fun b u=>some (Fn.mk nm l b,u)):=fun {tk m} hm {E} hg nm l t ht=>Ws.bind (rN hm hg f t ht).w fun _ _ h=>Ws.some h;have wp:∀{tk:Nat→Tok} {m:Nat} (hm:(tk m).kind=0∨(tk m).kind=4) {E:PS→Option (Ex×PS)} (hg:∀s,s.at_≤m→Gs m s (E s)) (nm:Bs) (t:PS),t.at_≤m→Ws m t (andThen (pV tk f t) fun l v=>andThen (vQ tk (stF tk E f) v) fun b u=>some (Fn.mk nm l b,u)):=fun {tk m} hm {E} hg nm t ht=>Ws.bind (parS_g hm f t ht) fun l v hv=>Ws.from hv (Ws.bind (rN hm hg f v hv.2.1).w fun _ _ h=>Ws.some h);have wn:∀{tk:Nat→Tok} {m:Nat} (hm:(tk m).kind=0∨(tk m).kind=4) {E:PS→Option (Ex×PS)} (hg:∀s,s.at_≤m→Gs m s (E s)) (nm:Bs) (t:PS),t.at_≤m→Ws m t (andThen (some ((),yA tk [40] t)) fun _ w=>andThen (pV tk f w) fun l v=>andThen (vQ tk (stF tk E f) v) fun b u=>some (Fn.mk nm l b,u)):=fun {tk m} hm {E} hg nm t ht=>Ws.from (Pg.need hm [40] ht).w (wp hm hg nm _ (Pg.need hm [40] ht).2.1);have wm:∀{tk:Nat→Tok} {m:Nat} (hm:(tk m).kind=0∨(tk m).kind=4) {E:PS→Option (Ex×PS)} (hg:∀s,s.at_≤m→Gs m s (E s)) (t:PS),t.at_≤m→Ws m t (andThen (some (xM tk t)) fun nm t=>andThen (some ((),yA tk [40] t)) fun _ w=>andThen (pV tk f w) fun l v=>andThen (vQ tk (stF tk E f) v) fun b u=>some (Fn.mk nm l b,u)):=fun {tk m} hm {E} hg t ht=>Ws.from (Pg.name hm ht).w (wn hm hg _ _ (Pg.name hm ht).2.1);show Cl k (andThen (some ((),yA tk kFn s)) fun _ t=>andThen (some (xM tk t)) fun nm t=>andThen (some ((),yA tk [40] t)) fun _ w=>andThen (pV tk f w) fun l v=>andThen (vQ tk (stF tk E f) v) fun b u=>some (Fn.mk nm l b,u)) (andThen (some ((),yA tk' kFn s)) fun _ t=>andThen (some (xM tk' t)) fun nm t=>andThen (some ((),yA tk' [40] t)) fun _ w=>andThen (pV tk' f w) fun l v=>andThen (vQ tk' (stF tk' E' f) v) fun b u=>some (Fn.mk nm l b,u));refine (qE c (v:=()) kFn hs).bindC (N:=N) (fun _ t e1 _ ht=>?_) (fun _ t e=>by cases e;exact wm c.hm hg _ (Pg.need c.hm kFn hN).2.1) (fun _ t e _=>by cases e;exact wm c.hm' hg' _ (Pg.need c.hm' kFn hs).2.1);have htN:=Kx ht c.le;refine (name_c c ht).bindC (N:=N) (fun nm v _ _ hv=>?_) (fun nm v e=>by cases name_some e;exact wn c.hm hg _ _ (Pg.name c.hm htN).2.1) (fun nm v e _=>by cases name_some e;exact wn c.hm' hg' _ _ (Pg.name c.hm' ht).2.1);have hvN:=Kx hv c.le;refine (qE c (v:=()) [40] hv).bindC (N:=N) (fun _ w _ _ hw=>?_) (fun _ w e=>by cases e;exact wp c.hm hg _ _ (Pg.need c.hm [40] hvN).2.1) (fun _ w e _=>by cases e;exact wp c.hm' hg' _ _ (Pg.need c.hm' [40] hv).2.1);have hwN:=Kx hw c.le;exact (parS_c c f w hw).bindC (N:=N) (fun l q _ _ hq=>(block_c c hg hg' hb q hq).map) (fun l q e=>wb c.hm hg _ _ _ (parS_g c.hm f w hwN l q e).2.1) (fun l q e _=>wb c.hm' hg' _ _ _ (parS_g c.hm' f w hw l q e).2.1)
end
end Go.Proofs.YtfpkpnkdnammnaaGreatDoor
namespace Go.Proofs.YtfpkpnkdnammnaaGreatDoor
variable {tk:Nat→Tok}
def Iv (tk:Nat→Tok) (s:PS):Prop:=s.err=0∨(s.err=(if (tk s.at_).kind=1∧4294967296≤(tk s.at_).value then 24 else 20)∧s.off=(tk s.at_).at_)
def IR {α:Type}(tk:Nat→Tok) (X:Option (α×PS)):Prop:=∀x t,X=some (x,t)→Iv tk t
theorem IR.some {α:Type}{x:α}{t:PS}(h:Iv tk t):IR tk (some (x,t)):=fun _ _ e=>by cases e;exact h
theorem IR.bind {α β:Type}{X:Option (α×PS)}{f:α→PS→Option (β×PS)}(h:IR tk X) (k:∀x t,Iv tk t→IR tk (f x t)):IR tk (andThen X f):=fun y u e=>by
 obtain⟨x,t,e1,e2⟩:=yL e;exact k x t (h x t e1) y u e2
theorem IR.ite {α:Type}{p:Prop}[Decidable p] {x y:Option (α×PS)}(h:p→IR tk x) (k:¬p→IR tk y):IR tk (if p then x else y):=by split;exact h ‹_›;exact k ‹_›
theorem IR.bif {α:Type}{p:Bool}{x y:Option (α×PS)}(h:p=true→IR tk x) (k:IR tk y):IR tk (bif p then x else y):=by cases p;exact k;exact h rfl
theorem iv_adv {s:PS}(h:s.err=0):Iv tk (adv s):=.inl h
theorem sO {x:Bs}{s:PS}(h:isP tk x s=true):Iv tk (adv s):=.inl (isP_kind h).1
theorem iv_fail {s:PS}(h:Iv tk s):Iv tk (tE tk s):=by
 unfold tE
 split
 ·exact .inr ⟨rfl,rfl⟩
 ·exact h
theorem sK (x:Bs) {s:PS}(h:Iv tk s):Iv tk (yA tk x s):=by
 unfold yA
 cases hp:isP tk x s with
 | true=>exact sO hp
 | false=>exact iv_fail h
theorem iv_name {s:PS}(h:Iv tk s):Iv tk (xM tk s).2:=by
 unfold xM
 split
 ·next h0=>exact .inl h0.1
 ·exact iv_fail h
structure EI (tk:Nat→Tok) (r:EF):Prop where
 prim:∀s,Iv tk s→IR tk (r.prim s)
 un:∀s,Iv tk s→IR tk (r.un s)
 bin:∀n s,Iv tk s→IR tk (r.bin n s)
 loop:∀n e s,Iv tk s→IR tk (r.loop n e s)
 list:∀l s,Iv tk s→IR tk (r.list l s)
theorem ex_iv {r:EF}(h:EI tk r):EI tk (exStep tk r):=by
 refine⟨fun s hs=>?_,fun s hs=>?_,fun n s hs=>?_,fun n e s hs=>?_,fun l s hs=>?_⟩
 ·show IR tk (vS tk r s);unfold vS;refine .ite (fun _=>.some hs) fun h0=>.ite (fun _=>.some (iv_adv (by omega))) fun _=>.ite (fun _=>.bif (fun h3=>.bif (fun h4=>.some (sO h4)) (.bind (h.list _ _ (sO h3)) fun _ _ ht=>.some ht)) (.some (iv_adv (by omega)))) fun _=>.bif (fun h3=>.bind (h.bin _ _ (sK _ (sO h3))) fun _ _ ht=>.some (sK _ ht)) (.bif (fun h4=>.some (sO h4)) (.bif (fun h5=>.bind (h.bin _ _ (sO h5)) fun _ _ ht=>.some (sK _ ht)) (.some (iv_fail hs))))
 ·show IR tk (unS tk r s);unfold unS;exact .bif (fun h1=>.bind (h.un _ (sO h1)) fun _ _ ht=>.some ht) (.bif (fun h1=>.bind (h.un _ (sO h1)) fun _ _ ht=>.some ht) (.bif (fun h1=>.bind (h.un _ (sO h1)) fun _ _ ht=>.some ht) (h.prim s hs)))
 ·exact .bind (h.un s hs) fun e t ht=>h.loop n e t ht
 ·show IR tk (uY tk r n e s);unfold uY;refine .ite (fun hc=>?_) fun _=>.some hs
  split
  ·exact .ite (fun _=>.some hs) fun _=>.bind (h.bin _ _ (iv_adv hc.1)) fun _ _ ht=>h.loop _ _ _ ht
  ·exact .some hs
 ·show IR tk (sX tk r l s);unfold sX;exact .ite (fun _=>.some hs) fun _=>.bind (h.bin 0 s hs) fun e t ht=>.bif (fun h1=>.some (sO h1)) (h.list _ _ (sK _ ht))
theorem exF_iv:∀f,EI tk (exF tk f)
 | 0=>⟨fun _ _ _ _ e=>(by cases e),fun _ _ _ _ e=>(by cases e),fun _ _ _ _ _ e=>(by cases e),fun _ _ _ _ _ _ e=>(by cases e),fun _ _ _ _ _ e=>(by cases e)⟩
 | f+1=>ex_iv (exF_iv f)
section
variable {E:PS→Option (Ex×PS)}(hE:∀s,Iv tk s→IR tk (E s))
include hE
theorem sim_iv (k:Nat) (nm:Bs) (l:List Ex) (s:PS) (hs:Iv tk s):IR tk (rA tk E k nm l s):=by
 unfold rA;exact .bind (hE s hs) fun e t ht=>.some (sK _ ht)
theorem stF_iv:∀f,(∀s,Iv tk s→IR tk ((stF tk E f).stm s))∧(∀l s,Iv tk s→IR tk ((stF tk E f).blk l s))
 | 0=>⟨fun _ _ _ _ e=>(by cases e),fun _ _ _ _ _ e=>(by cases e)⟩
 | f+1=>by
  obtain⟨h1,h2⟩:=stF_iv f;have hb:∀s,Iv tk s→IR tk (vQ tk (stF tk E f) s):=fun s hs=>h2 [] _ (sK _ hs);refine⟨fun s hs=>?_,fun l s hs=>?_⟩
  ·show IR tk (sS tk E (stF tk E f) s);unfold sS;refine .bif (fun h=>sim_iv hE _ _ _ _ (sK _ (iv_name (sO h)))) (.bif (fun h=>.bind (hE _ (sO h)) fun e t ht=>.bind (hb t ht) fun b u hu=>.bif (fun h=>.bind (hb _ (sO h)) fun _ _ h=>.some h) (.some hu)) (.bif (fun h=>.bind (hE _ (sO h)) fun e t ht=>.bind (hb t ht) fun b u hu=>.some hu) (.bif (fun h=>sim_iv hE _ _ _ _ (sO h)) (.bif (fun h=>sim_iv hE _ _ _ _ (sO h)) (.bind (hE s hs) fun e t ht=>.ite (fun h=>sim_iv hE _ _ _ _ (sO h.2.2)) fun _=>.ite (fun h=>sim_iv hE _ _ _ _ (sO h.2.2)) fun _=>.some (sK _ ht))))))
  ·show IR tk (qV tk (stF tk E f) l s);unfold qV;exact .ite (fun _=>.some hs) fun _=>.bif (fun h=>.some (sO h)) (.bind (h1 s hs) fun x t ht=>h2 _ t ht)
omit hE in
theorem parF_iv:∀f l (s:PS),Iv tk s→IR tk (rK tk f l s)
 | 0,_,_,_=>fun _ _ e=>(by cases e)
 | f+1,l,s,hs=>by
  unfold rK;exact .ite (fun _=>.some hs) fun _=>.bif (fun h=>.some (sO h)) (parF_iv f _ _ (sK _ (iv_name hs)))
theorem fn_iv (f:Nat) (s:PS) (hs:Iv tk s):IR tk (fnS tk E f s):=by
 unfold fnS;refine .bind (X:=pV tk f (yA tk [40] (xM tk (yA tk kFn s)).2)) ?_ fun l t ht=>.bind ((stF_iv hE f).2 [] _ (sK _ ht)) fun _ _ h=>.some h;unfold pV;exact .bif (fun h=>.some (sO h)) (parF_iv f _ _ (sK _ (iv_name (sK _ hs))))
theorem prg_iv (f:Nat):∀g l (s:PS),Iv tk s→IR tk (rL tk E f g l s)
 | 0,_,_,_=>fun _ _ e=>(by cases e)
 | g+1,l,s,hs=>by
  unfold rL;exact .ite (fun _=>.bind (fn_iv hE f s hs) fun x t ht=>prg_iv f g _ t ht) fun _=>.some hs
end
end Go.Proofs.YtfpkpnkdnammnaaGreatDoor
namespace Go.Proofs.YtfpkpnkdnammnaaGreatDoor
def brS (o:Int×Bool) (x:Bs):Int×Bool:=if x=kFn then (o.1,true) else if x=[123] then (o.1+1,o.2) else if x=[125] then (o.1-1,o.2&&decide (0<o.1-1)) else o
def brF (o:Int×Bool) (l:List Tk):Int×Bool:=l.foldl (fun o x=>brS o x.2.1) o
theorem pN (o:Int×Bool) (a b:List Tk):brF o (a++b)=brF (brF o a) b:=List.foldl_append
theorem pZ (o:Int×Bool) (x:Tk) (b:List Tk):brF o (x::b)=brF (brS o x.2.1) b:=rfl
def Nb (l:List Tk):Prop:=∀x∈l,x.2.1≠[123]∧x.2.1≠[125]
theorem Nb.app {a b:List Tk}(h:Nb a) (k:Nb b):Nb (a++b):=fun x hx=>(Kz.1 hx).elim (h x) (k x)
theorem Nb.cons {a:Tk}{b:List Tk}(h:a.2.1≠[123]∧a.2.1≠[125]) (k:Nb b):Nb (a::b):=fun x hx=>by
 rcases List.mem_cons.1 hx with rfl|hx
 ·exact h
 ·exact k x hx
theorem Nb.nil:Nb []:=fun _ h=>by cases h
theorem nb_step {x:Tk}(h:x.2.1≠[123]∧x.2.1≠[125]) (o:Int):brS (o,true) x.2.1=(o,true):=by
 unfold brS;rw[Ko h.1,Ko h.2]
 split<;>rfl
theorem Nb.fold {l:List Tk}(h:Nb l) (o:Int):brF (o,true) l=(o,true):=by
 induction l with
 | nil=>rfl
 | cons x l ih=>rw[pZ,nb_step (h x (by simp))];exact ih fun y hy=>h y (Kg _ hy)
theorem Nb.take {l:List Tk}(h:Nb l) (j:Nat):Nb (l.take j):=fun x hx=>h x (List.mem_of_mem_take hx)
structure Bal (l:List Tk):Prop where
 all:∀o:Int,1≤o→brF (o,true) l=(o,true)
 pre:∀(o:Int) (j:Nat),1≤o→1≤(brF (o,true) (l.take j)).1∧(brF (o,true) (l.take j)).2=true
theorem Nb.bal {l:List Tk}(h:Nb l):Bal l:=⟨fun o _=>h.fold o,fun o j ho=>by rw[(h.take j).fold o];exact⟨ho,rfl⟩⟩
theorem Bal.app {a b:List Tk}(h:Bal a) (k:Bal b):Bal (a++b):=⟨fun o ho=>by rw[pN,h.all o ho,k.all o ho],fun o j ho=>by
 rw[List.take_append];rcases Nat.le_total j a.length with hj|hj
 ·rw[show j-a.length=0 by omega,List.take_zero,Ku];exact h.pre o j ho
 ·rw[List.take_of_length_le hj,pN,h.all o ho];exact k.pre o _ ho⟩
theorem br_open (o:Int):brS (o,true) [123]=(o+1,true):=rfl
theorem br_close {o:Int}(h:1≤o):brS (o+1,true) [125]=(o,true):=by
 unfold brS;rw[Ko (by decide),Ko (by decide),Kp rfl];dsimp only;rw[Kv (by omega)];simp
theorem Bal.brace {l:List Tk}(h:Bal l):Bal (sg [123]::(l++[sg [125]])):=by
 refine⟨fun o ho=>?_,fun o j ho=>?_⟩
 ·rw[pZ,pN];show brF (brF (brS (o,true) [123]) l) [sg [125]]=_;rw[br_open,h.all _ (by omega)];show brS (o+1,true) [125]=_;rw[br_close ho]
 ·cases j with
  | zero=>exact⟨ho,rfl⟩
  | succ j =>
   rw[List.take_succ_cons,pZ];show 1≤(brF (brS (o,true) [123]) ((l++[sg [125]]).take j)).1∧(brF (brS (o,true) [123]) ((l++[sg [125]]).take j)).2=true;rw[br_open,List.take_append];rcases Nat.le_total j l.length with hj|hj
   ·rw[show j-l.length=0 by omega,List.take_zero,Ku];exact h.pre _ j (by omega)
   ·rw[List.take_of_length_le hj,pN,h.all _ (by omega)];rcases Nat.eq_zero_or_pos (j-l.length) with h0|h0
    ·rw[h0,List.take_zero];exact⟨by show 1≤o+1;omega,rfl⟩
    ·rw[List.take_of_length_le (by simp only[Jj,Jk];omega)];show 1≤(brS (o+1,true) [125]).1∧(brS (o+1,true) [125]).2=true;rw[br_close ho];exact⟨ho,rfl⟩
theorem Bal.cons {x:Tk}{l:List Tk}(h:x.2.1≠[123]∧x.2.1≠[125]) (k:Bal l):Bal (x::l):=(Nb.cons h .nil).bal.app k
theorem gt_brace {x:Tk}(h:GT x) (hk:x.1≠3):x.2.1≠[123]∧x.2.1≠[125]:=by
 have e:∀c:UInt8,c∈([123,125]:Bs)→x.2.1≠[c]:=fun c hc he=>by
  have h1:=h [] (fun _ _ e=>by cases e);rw[he,Ku] at h1;have h2:=one_free (c:=c) (by simp only[List.mem_cons,List.not_mem_nil,or_false] at hc;rcases hc with rfl|rfl<;>decide) [];rw[h2] at h1;injection h1 with h3 _;rw[← h3] at hk;exact hk rfl
 exact⟨e 123 (by decide),e 125 (by decide)⟩
def Ns (l:List Tk):Prop:=∀x∈l,x.1=3→x.2.1≠[123]∧x.2.1≠[125]
theorem Ns.app {a b:List Tk}(h:Ns a) (k:Ns b):Ns (a++b):=fun x hx=>(Kz.1 hx).elim (h x) (k x)
theorem Ns.cons {a:Tk}{b:List Tk}(h:a.1=3→a.2.1≠[123]∧a.2.1≠[125]) (k:Ns b):Ns (a::b):=fun x hx=>by
 rcases List.mem_cons.1 hx with rfl|hx
 ·exact h
 ·exact k x hx
theorem Ns.nil:Ns []:=fun _ h=>by cases h
theorem Ns.nb {l:List Tk}(h:Ns l) (hg:∀x∈l,GT x):Nb l:=fun x hx=>by
 by_cases h3:x.1=3
 ·exact h x hx h3
 ·exact gt_brace (hg x hx) h3
theorem ns_nm (x:Bs):(nmT x).1=3→(nmT x).2.1≠[123]∧(nmT x).2.1≠[125]:=fun h=>by cases h
theorem ns_nu (x:Nat):(nuT x).1=3→(nuT x).2.1≠[123]∧(nuT x).2.1≠[125]:=fun h=>by cases h
theorem ns_wt {k:Nat}{s:Bs}{least:Int}{t:List Tk}(h:Ns t):Ns (wt false k s least t):=by
 unfold wt
 split
 ·exact .cons (fun _=>by decide) (h.app (.cons (fun _=>by decide) .nil))
 ·exact h
theorem lev_nb {s:Bs}{l:Nat}(h:wA s=some l):s≠[123]∧s≠[125]:=⟨fun e=>(by subst e;cases h),fun e=>(by subst e;cases h)⟩
theorem un_nb {s:Bs}(h:s∈tU):s≠[123]∧s≠[125]:=⟨fun e=>(by subst e;exact absurd h (by decide)),fun e=>(by subst e;exact absurd h (by decide))⟩
mutual
theorem tx_ns:∀e:Ex,yJ e=true→Ns (tx false e)
 | .mk k n s kids,hr=>by
  simp only[yJ,Kj] at hr;obtain⟨⟨hok,_⟩,hk⟩:=hr;have h1:=txs_ns kids hk;have h2:=txH_ns kids hk;have h3:=txS_ns kids hk;rw[tx]
  split
  ·exact .cons (ns_nu _) .nil
  split
  ·exact .cons (ns_nm _) .nil
  split
  ·exact .cons (ns_nm _) (.cons (fun _=>by decide) (h1.app (.cons (fun _=>by decide) .nil)))
  split
  ·exact .cons (fun _=>by decide) (.cons (fun _=>by decide) ((h2 _).app (.cons (fun _=>by decide) .nil)))
  split
  ·exact .cons (fun _=>by decide) .nil
  rename_i g1 g2 g3 g4 g5
  split
  ·rename_i g6;subst g6
   have:s∈tU:=by
    have h9:xK 6 s kids.length=(decide (s∈tU)&&decide (kids.length=1)):=rfl;rw[h9] at hok;simp only[Kj,Kn] at hok;exact hok.1
   exact .cons (fun _=>un_nb this) (h2 _)
  ·rename_i g6
   have h7:k=7:=by
    refine Classical.byContradiction fun g7=>?_;unfold xK at hok;rw[Ko (by omega),Ko g2,Ko g3,Ko g4,Ko g6,Ko g7] at hok;cases hok
   subst h7
   have:∃l,wA s=some l:=by
    have h9:xK 7 s kids.length=((wA s).isSome&&decide (kids.length=2)):=rfl;rw[h9] at hok;simp only[Kj] at hok;exact Option.isSome_iff_exists.1 hok.1
   obtain⟨l,hl⟩:=this;exact (h2 _).app (.cons (fun _=>lev_nb hl) (h3 _))
theorem txs_ns:∀l:List Ex,rightExs l=true→Ns (txs false l)
 | [],_=>by rw[txs];exact .nil
 | x::l,h=>by
  simp only[rightExs,Kj] at h;rw[txs];exact (ns_wt (tx_ns x h.1)).app (txt_ns l h.2)
theorem txt_ns:∀l:List Ex,rightExs l=true→Ns (txt false l)
 | [],_=>by rw[txt];exact .nil
 | x::l,h=>by
  simp only[rightExs,Kj] at h;rw[txt];exact .cons (fun _=>by decide) ((ns_wt (tx_ns x h.1)).app (txt_ns l h.2))
theorem txH_ns:∀(l:List Ex),rightExs l=true→∀(least:Int),Ns (txH false l least)
 | [],_,_=>by rw[txH];exact .nil
 | x::l,h,_=>by
  simp only[rightExs,Kj] at h;rw[txH];exact ns_wt (tx_ns x h.1)
theorem txS_ns:∀(l:List Ex),rightExs l=true→∀(least:Int),Ns (txS false l least)
 | [],_,_=>by rw[txS];exact .nil
 | _::l,h,_=>by
  simp only[rightExs,Kj] at h;rw[txS];exact txH_ns l h.2 _
end
theorem bal_if {a b c:List Tk}{x:Bs}(hx:x≠[123]∧x≠[125]) (ha:Bal a) (hb:Bal b) (hc:Bal c):Bal (sg x::(a++sg [123]::(b++sg [125]::c))):=by
 have e:sg x::(a++sg [123]::(b++sg [125]::c))=sg x::(a++((sg [123]::(b++[sg [125]]))++c)):=by simp
 rw[e];exact .cons hx (ha.app (hb.brace.app hc))
mutual
theorem tS_bal:∀x:St,xH x=true→(∀y∈tS false x,GT y)→Bal (tS false x)
 | .mk k s es b c,hr,hg=>by
  simp only[xH,Kj] at hr;obtain⟨⟨⟨_,he⟩,hb⟩,hc⟩:=hr;have h1:=txH_ns es he 0;have h2:=txS_ns es he 0;have h3:=tB_bal b hb;have h4:=tB_bal c hc;rw[tS] at hg ⊢
  split
  ·rename_i g;rw[Kp g] at hg;exact (Ns.nb (.cons (fun _=>by decide) (.cons (ns_nm _) (.cons (fun _=>by decide) (h1.app (.cons (fun _=>by decide) .nil))))) hg).bal
  rename_i g1;rw[Ko g1] at hg
  split
  ·rename_i g;rw[Kp g] at hg;exact (Ns.nb (.cons (ns_nm _) (.cons (fun _=>by decide) (h1.app (.cons (fun _=>by decide) .nil)))) hg).bal
  rename_i g2;rw[Ko g2] at hg
  split
  ·rename_i g;rw[Kp g] at hg;exact (Ns.nb (.cons (fun _=>by decide) (.cons (fun _=>by decide) (h1.app (.cons (fun _=>by decide) (.cons (fun _=>by decide) (h2.app (.cons (fun _=>by decide) .nil))))))) hg).bal
  rename_i g3;rw[Ko g3] at hg
  split
  ·rename_i g;rw[Kp g] at hg;refine bal_if (by decide) (h1.nb fun y hy=>hg y (by simp[hy])).bal (h3 fun y hy=>hg y (by simp[hy])) ?_
   split
   ·rename_i g5;rw[Kp g5] at hg;exact .cons (by decide) (h4 fun y hy=>hg y (by simp[hy])).brace
   ·exact Nb.nil.bal
  rename_i g4;rw[Ko g4] at hg
  split
  ·rename_i g;rw[Kp g] at hg;exact bal_if (by decide) (h1.nb fun y hy=>hg y (by simp[hy])).bal (h3 fun y hy=>hg y (by simp[hy])) Nb.nil.bal
  rename_i g5;rw[Ko g5] at hg
  split
  ·rename_i g;rw[Kp g] at hg;exact (Ns.nb (.cons (fun _=>by decide) (h1.app (.cons (fun _=>by decide) .nil))) hg).bal
  rename_i g6;rw[Ko g6] at hg
  split
  ·rename_i g;rw[Kp g] at hg;exact (Ns.nb (.cons (fun _=>by decide) (h1.app (.cons (fun _=>by decide) .nil))) hg).bal
  rename_i g7;rw[Ko g7] at hg
  split
  ·rename_i g;rw[Kp g] at hg;exact (Ns.nb (h1.app (.cons (fun _=>by decide) .nil)) hg).bal
  ·exact Nb.nil.bal
theorem tB_bal:∀l:List St,rightSts l=true→(∀y∈tB false l,GT y)→Bal (tB false l)
 | [],_,_=>by rw[tB];exact Nb.nil.bal
 | x::l,hr,hg=>by
  simp only[rightSts,Kj] at hr;rw[tB] at hg ⊢;exact (tS_bal x hr.1 fun y hy=>hg y (List.mem_append_left _ hy)).app (tB_bal l hr.2 fun y hy=>hg y (List.mem_append_right _ hy))
end
theorem prt_ns:∀l:List Bs,Ns (prt l)
 | []=>.nil
 | _::l=>.cons (fun _=>by decide) (.cons (ns_nm _) (prt_ns l))
theorem pr_ns:∀l:List Bs,Ns (pr l)
 | []=>.nil
 | _::l=>.cons (ns_nm _) (prt_ns l)
theorem tF_br {f:Fn}(hr:rightSts f.body=true) (hg:∀y∈tF false f,GT y):brF (0,false) (tF false f)=(0,false)∧∀j,0<j→j<(tF false f).length→(brF (0,false) ((tF false f).take j)).2=true:=by
 have hh:Nb (nmT f.name::sg [40]::(pr f.params++[sg [41]])):=Ns.nb (.cons (ns_nm _) (.cons (fun _=>by decide) ((pr_ns _).app (.cons (fun _=>by decide) .nil)))) fun y hy=>hg y (by
  unfold tF;simp only[List.mem_cons,Kz,List.not_mem_nil,or_false] at hy ⊢;rcases hy with h|h|h|h
  ·exact .inr (.inl h)
  ·exact .inr (.inr (.inl h))
  ·exact .inr (.inr (.inr (.inl h)))
  ·exact .inr (.inr (.inr (.inr (.inl h)))))
 have hb:=tB_bal f.body hr fun y hy=>hg y (by unfold tF;simp[hy]);have e:tF false f=sg kFn::((nmT f.name::sg [40]::(pr f.params++[sg [41]]))++(sg [123]::(tB false f.body++[sg [125]]))):=by unfold tF;simp
 rw[e];generalize nmT f.name::sg [40]::(pr f.params++[sg [41]])=h at *;generalize tB false f.body=b at *;have b0:brS (0,false) kFn=(0,true):=rfl;have b1:brS (0,true) [123]=(1,true):=rfl;have b2:brS (1,true) [125]=(0,false):=rfl;refine⟨?_,fun j hj hjl=>?_⟩
 ·rw[pZ,pN];show brF (brF (brS (0,false) kFn) h) _=_;rw[b0,hh.fold,pZ];show brF (brS (0,true) [123]) _=_;rw[b1,pN,hb.all 1 (by omega)];exact b2
 ·obtain⟨j,rfl⟩:∃i,j=i+1:=⟨j-1,by omega⟩;rw[List.take_succ_cons,pZ];show (brF (brS (0,false) kFn) _).2=true;rw[b0,List.take_append];rcases Nat.le_total j h.length with hj2|hj2
  ·rw[show j-h.length=0 by omega,List.take_zero,Ku,(hh.take j).fold]
  ·rw[List.take_of_length_le hj2,pN,hh.fold];simp only[Jj,Ji,Jk] at hjl
   cases hq:j-h.length with
   | zero=>rfl
   | succ i =>
    rw[List.take_succ_cons,pZ];show (brF (brS (0,true) [123]) _).2=true;rw[b1,List.take_append,show i-b.length=0 by omega,List.take_zero,Ku];exact (hb.pre 1 i (by omega)).2
def Bd (fs:List Fn) (k:Nat):Prop:=∃j,j≤fs.length∧(tFs (fs.take j)).length=k
theorem rC (f:Fn) (fs:List Fn):tFs (f::fs)=tF false f++tFs fs:=by unfold tFs;rw[Kq,Kr]
theorem tFs_nil:tFs []=[]:=rfl
theorem bd_zero (fs:List Fn):Bd fs 0:=⟨0,Kl _,rfl⟩
theorem bd_cons {f:Fn}{fs:List Fn}{k:Nat}(h:(tF false f).length≤k):Bd (f::fs) k↔Bd fs (k-(tF false f).length):=by
 have h0:0<(tF false f).length:=by unfold tF;simp
 refine⟨fun ⟨j,h1,h2⟩=>?_,fun ⟨j,h1,h2⟩=>⟨j+1,by simpa using h1,?_⟩⟩
 ·cases j with
  | zero=>rw[List.take_zero,tFs_nil] at h2;simp at h2;omega
  | succ j =>
   rw[List.take_succ_cons,rC,Ji] at h2;exact⟨j,by simpa using h1,by omega⟩
 ·rw[List.take_succ_cons,rC,Ji];omega
theorem bd_not {f:Fn}{fs:List Fn}{k:Nat}(h0:0<k) (h:k<(tF false f).length):¬Bd (f::fs) k:=fun ⟨j,h1,h2⟩=>by
 cases j with
 | zero=>rw[List.take_zero,tFs_nil] at h2;simp at h2;omega
 | succ j=>rw[List.take_succ_cons,rC,Ji] at h2;omega
theorem br_iff:∀(fs:List Fn),(∀f∈fs,rightSts f.body=true)→(∀y∈tFs fs,GT y)→∀k,k≤(tFs fs).length→((brF (0,false) ((tFs fs).take k)).2=false↔Bd fs k)
 | [],_,_,k,hk=>by
  rw[tFs_nil] at hk ⊢;obtain rfl:k=0:=by simpa using hk
  exact⟨fun _=>bd_zero _,fun _=>rfl⟩
 | f::fs,hr,hg,k,hk=>by
  have h1:=tF_br (hr f (by simp)) fun y hy=>hg y (by rw[rC];exact List.mem_append_left _ hy);have h2:=br_iff fs (fun g h=>hr g (Kg _ h)) fun y hy=>hg y (by rw[rC];exact List.mem_append_right _ hy);rw[rC] at hk ⊢;rw[Ji] at hk;rw[List.take_append];rcases Nat.lt_or_ge k (tF false f).length with hl|hl
  ·rw[show k-(tF false f).length=0 by omega,List.take_zero,Ku];rcases Nat.eq_zero_or_pos k with h0|h0
   ·subst h0;exact⟨fun _=>bd_zero _,fun _=>rfl⟩
   ·refine⟨fun h=>?_,fun h=>absurd h (bd_not h0 hl)⟩;rw[h1.2 k h0 hl] at h;cases h
  ·rw[List.take_of_length_le hl,pN,h1.1,bd_cons hl];exact h2 _ (by omega)
end Go.Proofs.YtfpkpnkdnammnaaGreatDoor
namespace Go.Proofs.YtfpkpnkdnammnaaGreatDoor
section
variable {tk tk':Nat→Tok}{N k:Nat}(c:Cut tk tk' N k)
include c
theorem cut_prg:∀(fs:List Fn) (a:Nat),(∀f∈fs,rightSts f.body=true∧stsU f.body=true)→At tk a (tFs fs)→a≤k→k≤a+(tFs fs).length→¬Bd fs (k-a)→∃F0,∀F,F0≤F→∀g acc l t',rL tk' ((exF tk' F).bin 0) F g acc (pst a)=some (l,t')→t'.at_=k∧t'.err≠0
 | [],a,_,_,h1,h2,hb=>by
  rw[tFs_nil] at h2;exact absurd (show Bd [] (k-a) from ⟨0,Kl _,by rw[List.take_zero,tFs_nil];simp at h2 ⊢;omega⟩) hb
 | f::fs,a,hf,hA,h1,h2,hb=>by
  have ha:a<k:=by
   rcases Nat.eq_or_lt_of_le h1 with h|h
   ·exact absurd (by rw[h,Nat.sub_self];exact bd_zero _) hb
   ·exact h
  have hA':At tk a (tF false f++tFs fs):=by rw[← rC];exact hA
  rw[rC,Ji] at h2;obtain⟨f0,hf0⟩:=ev_fn (hf f (by simp)).1 (hf f (by simp)).2 hA'.left
  have hk0:(tk' a).kind=3:=by
   rw[c.e a ha];exact sY (x:=sg kFn) hA'.left.head
  have step:∀F,f0≤F→∀g acc l t',rL tk' ((exF tk' F).bin 0) F g acc (pst a)=some (l,t')→∃g' x' t1,g=g'+1∧rL tk' ((exF tk' F).bin 0) F g' (acc++[x']) t1=some (l,t')∧((a+(tF false f).length≤k∧t1=pst (a+(tF false f).length))∨(k<a+(tF false f).length∧t1.at_=k∧t1.err≠0)):=by
   intro F hF g acc l t' h
   cases g with
   | zero=>cases h
   | succ g =>
    unfold rL at h;rw[Kp ⟨rfl,by show (tk' a).kind≠0;omega⟩] at h;obtain⟨x',t1,e1,e2⟩:=yL h;have e3:=fn_le hF _ _ hf0;refine⟨g,x',t1,rfl,e2,?_⟩;rcases fn_c c (fun s hs=>(exF_c c F).bin 0 s hs) (fun s hs=>(qQ c.hm F).bin 0 s hs) (fun s hs=>(qQ c.hm' F).bin 0 s hs) F (pst a) h1 _ _ _ _ e3 e1 rfl with ⟨p,_,q⟩|⟨p,q,r⟩
    ·exact .inl ⟨p,q⟩
    ·exact .inr ⟨p,q,r⟩
  rcases Nat.lt_or_ge k (a+(tF false f).length) with hlt|hge
  ·refine⟨f0,fun F hF g acc l t' h=>?_⟩;obtain⟨g',x',t1,_,e2,⟨p,_⟩|⟨_,q,r⟩⟩:=step F hF g acc l t' h
   ·omega
   ·cases g' with
    | zero=>cases e2
    | succ g' =>
     unfold rL at e2;rw[Ko (fun hh=>r hh.1)] at e2;cases e2;exact⟨q,r⟩
  ·obtain⟨F0,hF0⟩:=cut_prg fs (a+(tF false f).length) (fun g hg=>hf g (Kg _ hg)) hA'.right hge (by omega) (fun hh=>hb ((bd_cons (by omega)).2 (by rw[show k-a-(tF false f).length=k-(a+(tF false f).length) by omega];exact hh)));refine⟨max f0 F0,fun F hF g acc l t' h=>?_⟩;obtain⟨g',x',t1,_,e2,⟨_,q⟩|⟨p,_,_⟩⟩:=step F (Kx (Nat.le_max_left _ _) hF) g acc l t' h
   ·subst q;exact hF0 F (Kx (Nat.le_max_right _ _) hF) g' _ l t' e2
   ·omega
end
theorem tok_end:∀(n:Nat) (i:Nat) (s:Bs),s.length=n→∃l,pW i s=l++[⟨0,i+s.length,[],0⟩]:=by
 intro n
 induction n using Nat.strongRecOn with
 | _ n ih =>
  intro i s hn
  cases h:s.drop (spanL wP s) with
  | nil =>
   rw[sT h];have h1:=qJ wP s;have h2:s.length-spanL wP s=0:=by rw[← Kc,h];rfl
   exact⟨[],by rw[show spanL wP s=s.length by omega];rfl⟩
  | cons c r =>
   have hl:=rZ c r;have h1:=qJ wP s;have hd:(c::r).length=s.length-spanL wP s:=by rw[← h,Kc]
   rw[uU h];obtain⟨l,e⟩:=ih _ (by rw[Kc];omega) (i+spanL wP s+(xP (c::r)).text.length) ((c::r).drop (xP (c::r)).text.length) rfl;rw[e];exact⟨_::l,by rw[List.cons_append,Kc,show i+spanL wP s+(xP (c::r)).text.length+((c::r).length-(xP (c::r)).text.length)=i+s.length by omega]⟩
theorem cut_back {fs:List Fn}{s:Bs}{k:Nat}(hr:wD fs=true) (hu:∀f∈fs,stsU f.body=true) (hl:s.length≤16384) (hk:k≤(tFs fs).length) (h:lx s=(tFs fs).take k++[(0,[],0)]) (hb:¬Bd fs k):qT 100000 s=some ([],s.length,20):=by
 have h2:(uS s).map stT=(tFs fs).take k++[(0,[],0)]:=h;have htl:((tFs fs).take k).length=k:=by rw[Ki];omega
 have hlen:(uS s).length=k+1:=by
  have:=congrArg List.length h2;rw[Kt,Ji,htl] at this;exact this
 have hat:∀j (hj:j<(uS s).length),stT (vK (uS s) j)=((tFs fs).take k++[(0,[],0)])[j]'(by rw[← h2,Kt];exact hj):=fun j hj=>by
  have e:vK (uS s) j=(uS s)[j]:=by unfold vK;rw[Ka,Jt hj];rfl
  rw[e];simp only[← h2,List.getElem_map]
 let tk:Nat→Tok:=fun j=>if j<k then vK (uS s) j else ⟨((tP false fs).getD j (0,[],0)).1,0,((tP false fs).getD j (0,[],0)).2.1,((tP false fs).getD j (0,[],0)).2.2⟩
 have hend:∃l,uS s=l++[⟨0,s.length,[],0⟩]:=by
  obtain⟨l,e⟩:=tok_end _ 0 s rfl;exact⟨l,by rw[tokL_eq,e,Kk]⟩
 obtain⟨l0,hl0⟩:=hend
 have hk1:vK (uS s) k=⟨0,s.length,[],0⟩:=by
  have:l0.length=k:=by rw[hl0,Ji] at hlen;simpa using hlen
  unfold vK;rw[Ka,hl0,List.getElem?_append_right (by omega),this];simp
 have c:Cut tk (vK (uS s)) (tFs fs).length k:=by
  refine⟨hk,fun j hj=>?_,by rw[hk1],?_⟩
  ·show _=(if j<k then _ else _);rw[Kp hj]
  ·show (if (tFs fs).length<k then _ else _:Tok).kind=0;rw[Ko (by omega)];show ((tP false fs).getD (tFs fs).length (0,[],0)).1=0;rw[tP_eq,Ka,List.getElem?_append_right (Km _),Nat.sub_self];rfl
 have hA:At tk 0 (tFs fs):=fun j x hj=>by
  rw[Kk];have hjl:=(Jm.1 hj).1;show stT (if j<k then _ else _)=x
  by_cases hlt:j<k
  ·rw[Kp hlt,hat j (by omega),List.getElem_append_left (by omega),List.getElem_take];exact (Jm.1 hj).2
  ·rw[Ko hlt];have e:(tP false fs).getD j (0,[],0)=x:=by rw[tP_eq,Ka,List.getElem?_append_left hjl,hj];rfl
   rw[e];rfl
 obtain⟨F0,hF0⟩:=cut_prg c fs 0 (fun f hf=>⟨by
  have:=List.all_eq_true.1 hr f hf;unfold vO at this;simp only[Kj] at this
  exact this.2,hu f hf⟩) hA (Kl _) (by rw[Kk];exact hk) hb
 have hm:=tokL_len s;obtain⟨r,hr2⟩:=runX_t (tk:=vK (uS s)) (m:=(uS s).length-1) (.inl (tokL_end _)) (f:=100000) (by omega);have e1:=runP_le (tk:=vK (uS s)) (fun s=>rM (Nat.le_max_left 100000 F0) s) (Nat.le_max_left 100000 F0) _ hr2;unfold runP at e1
 cases hp:rL (vK (uS s)) ((exF (vK (uS s)) (max 100000 F0)).bin 0) (max 100000 F0) (max 100000 F0) [] ⟨0,0,0⟩ with
 | none=>rw[hp] at e1;cases e1
 | some p =>
  obtain⟨l,t'⟩:=p;rw[hp] at e1;obtain⟨q1,q2⟩:=hF0 _ (Nat.le_max_right 100000 F0) _ _ l t' hp;have hi:=prg_iv (tk:=vK (uS s)) ((exF_iv (max 100000 F0)).bin 0) (max 100000 F0) _ _ _ (.inl rfl) l t' hp;rcases hi with hi|⟨i1,i2⟩
  ·exact absurd hi q2
  ·rw[q1,hk1] at i1 i2;have i1':t'.err=20:=by rw[i1];exact Ko (fun hh=>by cases hh.1)
   unfold qT;rw[Ko (by omega),hr2,← e1];dsimp only;rw[Kp q2,i1',i2]
end Go.Proofs.YtfpkpnkdnammnaaGreatDoor
namespace Go.Proofs.YtfpkpnkdnammnaaGreatDoor
def brT (o:Int×Bool) (ts:List Tok):Int×Bool:=ts.foldl (fun o t=>brS o t.text) o
theorem brT_eq (o:Int×Bool) (ts:List Tok):brT o ts=brF o (ts.map stT):=by
 unfold brT brF;rw[List.foldl_map];rfl
theorem brT_snoc (o:Int×Bool) (ts:List Tok) {k:Nat}(h:k<ts.length):brT o (ts.take (k+1))=brS (brT o (ts.take k)) (vK ts k).text:=by
 have e:vK ts k=ts[k]:=by unfold vK;rw[Ka,Jt h];rfl
 unfold brT;rw[List.take_add_one,Jt h,List.foldl_append,e];rfl
theorem brS_le (o:Int×Bool) (x:Bs):(brS o x).1≤o.1+1∧o.1-1≤(brS o x).1:=by
 unfold brS
 split
 ·exact⟨by dsimp only;omega,by dsimp only;omega⟩
 split
 ·exact⟨by dsimp only;omega,by dsimp only;omega⟩
 split
 ·exact⟨by dsimp only;omega,by dsimp only;omega⟩
 ·omega
theorem brT_le (ts:List Tok):∀k,k≤ts.length→(brT (0,false) (ts.take k)).1≤k∧-(k:Int)≤(brT (0,false) (ts.take k)).1
 | 0,_=>by rw[List.take_zero];exact⟨Int.le_refl _,Int.le_refl _⟩
 | k+1,h=>by
  have ih:=brT_le ts k (by omega);have hs:=brS_le (brT (0,false) (ts.take k)) (vK ts k).text;rw[brT_snoc _ ts (by omega)];omega
theorem tFs_app (a b:List Fn):tFs (a++b)=tFs a++tFs b:=by unfold tFs;rw[List.map_append,List.flatten_append]
theorem cuts_plain (l:List Int) {T:List Tok}(hT:rJ (xE (wI l))=T) {k:Nat}(hk:k<T.length):(spF 0 ((T.take k).map (·.text)) 0).length≤16247∧∃fs off err,qT 100000 (spF 0 ((T.take k).map (·.text)) 0)=some (fs,off,err)∧((brT (0,false) (T.take k)).2=false→off=0∧err=0)∧((brT (0,false) (T.take k)).2=true→off=(spF 0 ((T.take k).map (·.text)) 0).length∧err=20):=by
 have hm:=made_tok l;rw[hT] at hm
 have hlen:T.length=(tFs (wI l)).length+1:=by
  have:=congrArg List.length hm;rw[Kt,Ji] at this;exact this
 have hkl:k≤(tFs (wI l)).length:=by omega
 have e1:(T.take k).map stT=(tFs (wI l)).take k:=by
  rw[List.map_take,hm,List.take_append,show k-(tFs (wI l)).length=0 by omega,List.take_zero,Ku]
 have e2:(T.take k).map (·.text)=((tFs (wI l)).take k).map (·.2.1)++[]:=by rw[texts_eq,e1,Ku]
 have hg:∀x∈(tFs (wI l)).take k,GT x:=fun x hx=>made_gt l x (List.mem_of_mem_take hx)
 have hw:wT ((tFs (wI l)).take k)≤wT (tFs (wI l)):=by
  conv=>rhs;rw[← List.take_append_drop k (tFs (wI l)),vG]
  omega
 have hw2:=made_w2 l;have hl:=sp_len (l:=(tFs (wI l)).take k) (m:=[]) (b:=0) (by omega) (by omega) (by rw[Ku,wS_map];omega);have hlx:=sp_back ((tFs (wI l)).take k) [] 0 0 hg (fun _ h=>by cases h);rw[e2];refine⟨hl,?_⟩
 have hrt:∀f∈wI l,rightSts f.body=true:=fun f hf=>by
  have:=List.all_eq_true.1 (qD l) f hf;unfold vO at this;simp only[Kj] at this;exact this.2
 have hiff:=br_iff (wI l) hrt (made_gt l) k hkl;rw[brT_eq,e1]
 by_cases hb:Bd (wI l) k
 ·obtain⟨j,hj,hjk⟩:=hb
  have e3:(tFs (wI l)).take k=tFs ((wI l).take j):=by
   conv=>lhs;rw[← List.take_append_drop j (wI l),tFs_app]
   rw[List.take_append,hjk,Nat.sub_self,List.take_zero,Ku,List.take_of_length_le (by omega)]
  have hp:=lx_back (all:=false) (fs:=(wI l).take j) (s:=spF 0 (((tFs (wI l)).take k).map (·.2.1)++[]) 0) (by
   have:=qD l;unfold wD at this ⊢;rw[List.all_eq_true] at this ⊢
   exact fun f hf=>this f (List.mem_of_mem_take hf)) (fun f hf=>made_u l f (List.mem_of_mem_take hf)) (by omega) (by rw[hlx,e3];rfl)
  refine⟨_,_,_,hp,fun _=>⟨rfl,rfl⟩,fun h=>?_⟩;rw[hiff.2 ⟨j,hj,hjk⟩] at h;cases h
 ·have hp:=cut_back (qD l) (made_u l) (by omega) hkl hlx hb;refine⟨_,_,_,hp,fun h=>absurd (hiff.1 h) hb,fun _=>⟨rfl,rfl⟩⟩
end Go.Proofs.YtfpkpnkdnammnaaGreatDoor
