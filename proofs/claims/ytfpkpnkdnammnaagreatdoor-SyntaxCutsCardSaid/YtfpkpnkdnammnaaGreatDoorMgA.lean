import Derived.Test.YtfpkpnkdnammnaaGreatDoorMge
namespace Go.Proofs.YtfpkpnkdnammnaaGreatDoor
section
variable (tk:Nat→Tok)
end
variable {tk:Nat→Tok}
def OLe {α:Type}(x y:Option α):Prop:=∀r,x=some r→y=some r
theorem OLe.refl {α:Type}(x:Option α):OLe x x:=fun _ h=>h
theorem OLe.andThen {α β:Type}{x y:Option (α×PS)}{f g:α→PS→Option (β×PS)}(h:OLe x y) (k:∀a s,OLe (f a s) (g a s)):OLe (andThen x f) (andThen y g):=fun r hr=>by
 cases hx:x with
 | none=>rw[hx] at hr;cases hr
 | some p =>
  obtain⟨a,s⟩:=p;rw[hx] at hr;rw[h _ hx];exact k a s r hr
theorem OLe.ite {α:Type}{c:Prop}[Decidable c] {x y x' y':Option α}(h:OLe x x') (k:OLe y y'):OLe (if c then x else y) (if c then x' else y'):=by
 split
 ·exact h
 ·exact k
theorem OLe.bif {α:Type}{c:Bool}{x y x' y':Option α}(h:OLe x x') (k:OLe y y'):OLe (bif c then x else y) (bif c then x' else y'):=by
 cases c
 ·exact k
 ·exact h
structure EF.Le (r r':EF):Prop where
 prim:∀s,OLe (r.prim s) (r'.prim s)
 un:∀s,OLe (r.un s) (r'.un s)
 bin:∀n s,OLe (r.bin n s) (r'.bin n s)
 loop:∀n e s,OLe (r.loop n e s) (r'.loop n e s)
 list:∀l s,OLe (r.list l s) (r'.list l s)
theorem EF.Le.refl (r:EF):EF.Le r r:=⟨fun _=>OLe.refl _,fun _=>OLe.refl _,fun _ _=>OLe.refl _,fun _ _ _=>OLe.refl _,fun _ _=>OLe.refl _⟩
theorem EF.Le.trans {a b c:EF}(h:EF.Le a b) (k:EF.Le b c):EF.Le a c:=⟨fun s r hr=>k.prim s r (h.prim s r hr),fun s r hr=>k.un s r (h.un s r hr),fun n s r hr=>k.bin n s r (h.bin n s r hr),fun n e s r hr=>k.loop n e s r (h.loop n e s r hr),fun l s r hr=>k.list l s r (h.list l s r hr)⟩
theorem primS_le {r r':EF}(h:EF.Le r r') (s:PS):OLe (vS tk r s) (vS tk r' s):=by
 unfold vS;refine OLe.ite (OLe.refl _) (OLe.ite (OLe.refl _) (OLe.ite (OLe.bif (OLe.bif (OLe.refl _) (OLe.andThen (h.list _ _) fun _ _=>OLe.refl _)) (OLe.refl _)) (OLe.bif (OLe.andThen (h.bin _ _) fun _ _=>OLe.refl _) (OLe.bif (OLe.refl _) (OLe.bif (OLe.andThen (h.bin _ _) fun _ _=>OLe.refl _) (OLe.refl _))))))
theorem unS_le {r r':EF}(h:EF.Le r r') (s:PS):OLe (unS tk r s) (unS tk r' s):=by
 unfold unS;refine OLe.bif (OLe.andThen (h.un _) fun _ _=>OLe.refl _) (OLe.bif (OLe.andThen (h.un _) fun _ _=>OLe.refl _) (OLe.bif (OLe.andThen (h.un _) fun _ _=>OLe.refl _) (h.prim _)))
theorem listS_le {r r':EF}(h:EF.Le r r') (l:List Ex) (s:PS):OLe (sX tk r l s) (sX tk r' l s):=by
 unfold sX;exact OLe.ite (OLe.refl _) (OLe.andThen (h.bin _ _) fun _ _=>OLe.bif (OLe.refl _) (h.list _ _))
theorem exStep_le {r r':EF}(h:EF.Le r r'):EF.Le (exStep tk r) (exStep tk r'):=by
 refine⟨primS_le h,unS_le h,fun n s=>OLe.andThen (h.un _) fun _ _=>h.loop _ _ _,fun n e s=>?_,listS_le h⟩;show OLe (uY tk r n e s) (uY tk r' n e s);unfold uY;refine OLe.ite ?_ (OLe.refl _)
 split
 ·exact OLe.ite (OLe.refl _) (OLe.andThen (h.bin _ _) fun _ _=>h.loop _ _ _)
 ·exact OLe.refl _
theorem EF.none_le (r:EF):EF.Le EF.none r:=⟨fun _ _ h=>(by cases h),fun _ _ h=>(by cases h),fun _ _ _ h=>(by cases h),fun _ _ _ _ h=>(by cases h),fun _ _ _ h=>(by cases h)⟩
theorem exF_succ (f:Nat):EF.Le (exF tk f) (exF tk (f+1)):=by
 induction f with
 | zero=>exact EF.none_le _
 | succ f ih=>exact exStep_le ih
theorem exF_le {f g:Nat}(h:f≤g):EF.Le (exF tk f) (exF tk g):=by
 induction h with
 | refl=>exact EF.Le.refl _
 | step _ ih=>exact ih.trans (exF_succ _)
theorem sC {m:Nat}(hm:(tk m).kind=0∨(tk m).kind=4) {s:PS}(hs:s.at_≤m) (h0:(tk s.at_).kind≠0) (h4:(tk s.at_).kind≠4):(adv s).at_≤m:=by
 show s.at_+1≤m;rcases Nat.lt_or_ge s.at_ m with h|h
 ·exact h
 ·have:s.at_=m:=Nat.le_antisymm hs h;rw[this] at h0 h4;rcases hm with hm|hm
  ·exact absurd hm h0
  ·exact absurd hm h4
theorem isP_kind {x:Bs}{s:PS}(h:isP tk x s=true):s.err=0∧(tk s.at_).kind=3∧(tk s.at_).text=x:=by
 unfold isP at h;simp only[Bool.and_eq_true,decide_eq_true_eq] at h;exact⟨h.1.1,h.1.2,h.2⟩
theorem yE {m:Nat}(hm:(tk m).kind=0∨(tk m).kind=4) {x:Bs}{s:PS}(hs:s.at_≤m) (h:isP tk x s=true):(adv s).at_≤m:=by
 obtain⟨_,h2,_⟩:=isP_kind h;exact sC hm hs (by omega) (by omega)
theorem rR (s:PS):(tE tk s).at_=s.at_:=by unfold tE;split<;>rfl
theorem failP_err (s:PS):(tE tk s).err≠0:=by
 unfold tE
 split
 ·show (if _ then 24 else 20)≠0
  split<;>decide
 ·assumption
theorem tJ {m:Nat}(hm:(tk m).kind=0∨(tk m).kind=4) (x:Bs) {s:PS}(hs:s.at_≤m):(yA tk x s).at_≤m∧s.at_≤(yA tk x s).at_∧((yA tk x s).err=0→s.err=0∧s.at_<(yA tk x s).at_):=by
 unfold yA
 cases h:isP tk x s with
 | true=>exact⟨yE hm hs h,Nat.le_succ _,fun h0=>⟨h0,Nat.lt_succ_self _⟩⟩
 | false=>exact⟨by rw[cond_false,rR];exact hs,by rw[cond_false,rR];exact Nat.le_refl _,fun h0=>absurd h0 (failP_err s)⟩
theorem oY {m:Nat}(hm:(tk m).kind=0∨(tk m).kind=4) {s:PS}(hs:s.at_≤m):(xM tk s).2.at_≤m∧s.at_≤(xM tk s).2.at_∧((xM tk s).2.err=0→s.err=0∧s.at_<(xM tk s).2.at_):=by
 unfold xM
 split
 ·rename_i h;exact⟨sC hm hs (by omega) (by omega),Nat.le_succ _,fun h0=>⟨h0,Nat.lt_succ_self _⟩⟩
 ·exact⟨by rw[rR];exact hs,by rw[rR];exact Nat.le_refl _,fun h0=>absurd h0 (failP_err s)⟩
def Pg (m:Nat) (s s':PS):Prop:=s.at_≤s'.at_∧s'.at_≤m∧(s'.err=0→s.err=0∧s.at_<s'.at_)
def Pw (m:Nat) (s s':PS):Prop:=s.at_≤s'.at_∧s'.at_≤m∧(s'.err=0→s.err=0)
theorem Pg.w {m:Nat}{s s':PS}(h:Pg m s s'):Pw m s s':=⟨h.1,h.2.1,fun h0=>(h.2.2 h0).1⟩
theorem Pg.trans {m:Nat}{a b c:PS}(h:Pg m a b) (k:Pw m b c):Pg m a c:=⟨Nat.le_trans h.1 k.1,k.2.1,fun h0=>⟨(h.2.2 (k.2.2 h0)).1,Nat.lt_of_lt_of_le (h.2.2 (k.2.2 h0)).2 k.1⟩⟩
theorem Pw.transg {m:Nat}{a b c:PS}(h:Pw m a b) (k:Pg m b c):Pg m a c:=⟨Nat.le_trans h.1 k.1,k.2.1,fun h0=>⟨h.2.2 (k.2.2 h0).1,Nat.lt_of_le_of_lt h.1 (k.2.2 h0).2⟩⟩
theorem Pw.trans {m:Nat}{a b c:PS}(h:Pw m a b) (k:Pw m b c):Pw m a c:=⟨Nat.le_trans h.1 k.1,k.2.1,fun h0=>h.2.2 (k.2.2 h0)⟩
theorem Pw.refl {m:Nat}{s:PS}(hs:s.at_≤m):Pw m s s:=⟨Nat.le_refl _,hs,id⟩
theorem Pg.adv {m:Nat}{s:PS}(h:(adv s).at_≤m):Pg m s (adv s):=⟨Nat.le_succ _,h,fun h0=>⟨h0,Nat.lt_succ_self _⟩⟩
theorem Pg.need {m:Nat}(hm:(tk m).kind=0∨(tk m).kind=4) (x:Bs) {s:PS}(hs:s.at_≤m):Pg m s (yA tk x s):=⟨(tJ hm x hs).2.1,(tJ hm x hs).1,(tJ hm x hs).2.2⟩
theorem Pg.name {m:Nat}(hm:(tk m).kind=0∨(tk m).kind=4) {s:PS}(hs:s.at_≤m):Pg m s (xM tk s).2:=⟨(oY hm hs).2.1,(oY hm hs).1,(oY hm hs).2.2⟩
theorem Pg.fail {m:Nat}{s:PS}(hs:s.at_≤m):Pg m s (tE tk s):=⟨by rw[rR];exact Nat.le_refl _,by rw[rR];exact hs,fun h0=>absurd h0 (failP_err s)⟩
def Gs {α:Type}(m:Nat) (s:PS) (x:Option (α×PS)):Prop:=∀a s',x=some (a,s')→Pg m s s'
def Ws {α:Type}(m:Nat) (s:PS) (x:Option (α×PS)):Prop:=∀a s',x=some (a,s')→Pw m s s'
theorem Gs.some {α:Type}{m:Nat}{s s':PS}{a:α}(h:Pg m s s'):Gs m s (some (a,s')):=fun _ _ e=>by cases e;exact h
theorem Ws.some {α:Type}{m:Nat}{s s':PS}{a:α}(h:Pw m s s'):Ws m s (some (a,s')):=fun _ _ e=>by cases e;exact h
theorem Gs.bind {α β:Type}{m:Nat}{s:PS}{x:Option (α×PS)}{f:α→PS→Option (β×PS)}(h:Gs m s x) (k:∀a s',Pg m s s'→Gs m s (f a s')):Gs m s (andThen x f):=fun b t e=>by
 cases hx:x with
 | none=>rw[hx] at e;cases e
 | some p=>obtain⟨a,u⟩:=p;rw[hx] at e;exact k a u (h a u hx) b t e
theorem Ws.bind {α β:Type}{m:Nat}{s:PS}{x:Option (α×PS)}{f:α→PS→Option (β×PS)}(h:Ws m s x) (k:∀a s',Pw m s s'→Ws m s (f a s')):Ws m s (andThen x f):=fun b t e=>by
 cases hx:x with
 | none=>rw[hx] at e;cases e
 | some p=>obtain⟨a,u⟩:=p;rw[hx] at e;exact k a u (h a u hx) b t e
theorem Gs.from {α:Type}{m:Nat}{s u:PS}{x:Option (α×PS)}(h:Pw m s u) (k:Gs m u x):Gs m s x:=fun a t e=>h.transg (k a t e)
theorem Gs.fromW {α:Type}{m:Nat}{s u:PS}{x:Option (α×PS)}(h:Pg m s u) (k:Ws m u x):Gs m s x:=fun a t e=>h.trans (k a t e)
theorem Ws.from {α:Type}{m:Nat}{s u:PS}{x:Option (α×PS)}(h:Pw m s u) (k:Ws m u x):Ws m s x:=fun a t e=>h.trans (k a t e)
theorem Gs.w {α:Type}{m:Nat}{s:PS}{x:Option (α×PS)}(h:Gs m s x):Ws m s x:=fun a t e=>(h a t e).w
theorem Gs.ite {α:Type}{m:Nat}{s:PS}{c:Prop}[Decidable c] {x y:Option (α×PS)}(h:c→Gs m s x) (k:¬c→Gs m s y):Gs m s (if c then x else y):=by split<;>rename_i hc;exact h hc;exact k hc
theorem Gs.bif {α:Type}{m:Nat}{s:PS}{c:Bool}{x y:Option (α×PS)}(h:c=true→Gs m s x) (k:c=false→Gs m s y):Gs m s (bif c then x else y):=by cases c;exact k rfl;exact h rfl
theorem Ws.ite {α:Type}{m:Nat}{s:PS}{c:Prop}[Decidable c] {x y:Option (α×PS)}(h:c→Ws m s x) (k:¬c→Ws m s y):Ws m s (if c then x else y):=by split<;>rename_i hc;exact h hc;exact k hc
theorem Ws.bif {α:Type}{m:Nat}{s:PS}{c:Bool}{x y:Option (α×PS)}(h:c=true→Ws m s x) (k:c=false→Ws m s y):Ws m s (bif c then x else y):=by cases c;exact k rfl;exact h rfl
structure EG (m:Nat) (r:EF):Prop where
 prim:∀s,s.at_≤m→Gs m s (r.prim s)
 un:∀s,s.at_≤m→Gs m s (r.un s)
 bin:∀n s,s.at_≤m→Gs m s (r.bin n s)
 loop:∀n e s,s.at_≤m→Ws m s (r.loop n e s)
 list:∀l s,s.at_≤m→Ws m s (r.list l s)
section
variable {m:Nat}(hm:(tk m).kind=0∨(tk m).kind=4) {r:EF}
include hm
theorem primS_g (h:EG m r) (s:PS) (hs:s.at_≤m):Gs m s (vS tk r s):=by
 unfold vS;refine Gs.ite (fun h0=>Gs.some ⟨Nat.le_refl _,hs,fun h1=>absurd h1 h0⟩) (fun h0=>Gs.ite (fun h1=>?_) (fun h1=>Gs.ite (fun h2=>?_) (fun h2=>Gs.bif (fun h3=>?_) (fun h3=>Gs.bif (fun h4=>?_) (fun h4=>Gs.bif (fun h5=>?_) (fun h5=>?_))))))
 ·exact Gs.some (Pg.adv (sC hm hs (by omega) (by omega)))
 ·have ha:=sC hm hs (by omega) (by omega);refine Gs.bif (fun h3=>?_) (fun h3=>Gs.some (Pg.adv ha));have hb:=yE hm ha h3;refine Gs.bif (fun h4=>?_) (fun h4=>?_)
  ·exact Gs.some ((Pg.adv ha).trans ((Pg.adv hb).trans (Pg.adv (yE hm hb h4)).w).w)
  ·refine Gs.fromW ((Pg.adv ha).trans (Pg.adv hb).w) (Ws.bind (h.list _ _ hb) fun l s' h5=>Ws.some h5)
 ·have ha:=yE hm hs h3;have hn:=Pg.need hm [91] ha;exact Gs.from ((Pg.adv ha).trans hn.w).w (Gs.bind (h.bin _ _ hn.2.1) fun e s' h5=>Gs.some (h5.trans (Pg.need hm _ h5.2.1).w))
 ·exact Gs.some (Pg.adv (yE hm hs h4))
 ·have ha:=yE hm hs h5;exact Gs.from (Pg.adv ha).w (Gs.bind (h.bin _ _ ha) fun e s' h5=>Gs.some (h5.trans (Pg.need hm _ h5.2.1).w))
 ·exact Gs.some (Pg.fail hs)
theorem unS_g (h:EG m r) (s:PS) (hs:s.at_≤m):Gs m s (unS tk r s):=by
 unfold unS
 have key:∀x y,isP tk x s=true→Gs m s (andThen (r.un (adv s)) fun e s=>some (Ex.mk 6 0 y [e],s)):=fun x y hx=>by
  have ha:=yE hm hs hx;exact Gs.from (Pg.adv ha).w (Gs.bind (h.un _ ha) fun e s' h5=>Gs.some h5)
 exact Gs.bif (key _ _) fun _=>Gs.bif (key _ _) fun _=>Gs.bif (key _ _) fun _=>h.prim s hs
theorem listS_g (h:EG m r) (l:List Ex) (s:PS) (hs:s.at_≤m):Ws m s (sX tk r l s):=by
 unfold sX;refine Ws.ite (fun _=>Ws.some (Pw.refl hs)) fun _=>Ws.bind (h.bin _ _ hs).w fun e s' h5=>Ws.bif (fun h6=>Ws.some (h5.trans (Pg.adv (yE hm h5.2.1 h6)).w)) fun h6=>?_;have hn:=Pg.need hm [44] h5.2.1;exact Ws.from (h5.trans hn.w) (h.list _ _ hn.2.1)
theorem exStep_g (h:EG m r):EG m (exStep tk r):=by
 refine⟨primS_g hm h,unS_g hm h,fun n s hs=>Gs.bind (h.un s hs) fun e s' h5=>Gs.fromW h5 (h.loop _ _ _ h5.2.1),fun n e s hs=>?_,listS_g hm h⟩;show Ws m s (uY tk r n e s);unfold uY;refine Ws.ite (fun hc=>?_) fun _=>Ws.some (Pw.refl hs)
 split
 ·refine Ws.ite (fun _=>Ws.some (Pw.refl hs)) fun _=>?_;have ha:=sC hm hs (by omega) (by omega);exact Ws.from (Pg.adv ha).w (Ws.bind (h.bin _ _ ha).w fun x s' h5=>Ws.from h5 (h.loop _ _ _ h5.2.1))
 ·exact Ws.some (Pw.refl hs)
omit hm in
theorem EG.none:EG m EF.none:=⟨fun _ _ _ _ e=>(by cases e),fun _ _ _ _ e=>(by cases e),fun _ _ _ _ _ e=>(by cases e),fun _ _ _ _ _ _ e=>(by cases e),fun _ _ _ _ _ e=>(by cases e)⟩
theorem qQ:∀f,EG m (exF tk f)
 | 0=>EG.none
 | f+1=>exStep_g hm (qQ f)
end
def Stop (tk:Nat→Tok) (n:Nat) (s:PS):Prop:=¬(s.err=0∧(tk s.at_).kind=3∧∃l,wA (tk s.at_).text=some l∧n≤l)
def Ev {α:Type}(F:Nat→Option α) (r:α):Prop:=∃f,F f=some r
theorem levOf_lt {x:Bs}{l:Nat}(h:wA x=some l):l<8:=by
 have key:∀(t:List (Bs×Nat)),(∀p∈t,p.2<8)→∀l,vC x t=some l→l<8:=by
  intro t
  induction t with
  | nil=>intro _ l h;cases h
  | cons p t ih =>
   obtain⟨y,v⟩:=p;intro ht l h;unfold vC at h
   split at h
   ·cases h;exact ht _ (List.mem_cons_self ..)
   ·exact ih (fun q hq=>ht q (List.mem_cons_of_mem _ hq)) l h
 exact key levT (by decide) l h
theorem yL {α β:Type}{x:Option (α×PS)}{f:α→PS→Option (β×PS)}{r:β×PS}(h:andThen x f=some r):∃a s,x=some (a,s)∧f a s=some r:=by
 cases hx:x with
 | none=>rw[hx] at h;cases h
 | some p=>obtain⟨a,s⟩:=p;rw[hx] at h;exact⟨a,s,rfl,h⟩
theorem Ev.prim {g:Nat}{s:PS}{p:Ex×PS}(h:vS tk (exF tk g) s=some p):Ev (fun g=>(exF tk g).prim s) p:=⟨g+1,h⟩
end Go.Proofs.YtfpkpnkdnammnaaGreatDoor
namespace Go.Proofs.YtfpkpnkdnammnaaGreatDoor
variable {tk:Nat→Tok}
def Sm {α:Type}(x:Option α):Prop:=∃r,x=some r
theorem Sm.some {α:Type}(a:α):Sm (some a):=⟨a,rfl⟩
theorem Sm.bind {α β:Type}{x:Option (α×PS)}{f:α→PS→Option (β×PS)}(h:Sm x) (k:∀a s,x=.some (a,s)→Sm (f a s)):Sm (andThen x f):=by
 obtain⟨⟨a,s⟩,rfl⟩:=h;exact k a s rfl
theorem Sm.ite {α:Type}{c:Prop}[Decidable c] {x y:Option α}(h:c→Sm x) (k:¬c→Sm y):Sm (if c then x else y):=by split<;>rename_i hc;exact h hc;exact k hc
theorem Sm.bif {α:Type}{c:Bool}{x y:Option α}(h:c=true→Sm x) (k:c=false→Sm y):Sm (bif c then x else y):=by cases c;exact k rfl;exact h rfl
structure ET (m f p u b l a:Nat) (K:Nat→Nat) (r:EF):Prop where
 prim:∀s:PS,s.at_≤m→a*(m-s.at_)+p≤f→Sm (r.prim s)
 un:∀s:PS,s.at_≤m→a*(m-s.at_)+u≤f→Sm (r.un s)
 bin:∀n (s:PS),s.at_≤m→a*(m-s.at_)+b≤f+K n→n≤8→Sm (r.bin n s)
 loop:∀n e (s:PS),s.at_≤m→n≤8→a*(m-s.at_)+l≤f→Sm (r.loop n e s)
 list:∀x (s:PS),s.at_≤m→1≤f→(s.err=0→a*(m-s.at_)+b+1≤f)→Sm (r.list x s)
section
variable {m:Nat}(hm:(tk m).kind=0∨(tk m).kind=4) {r:EF}{f u b l a:Nat}{K:Nat→Nat}
include hm
theorem primS_t (hg:EG m r) (h:ET m f 1 u b l a K r) (ha1:1≤a) (hb:b≤a) (hK:K 0=0) (s:PS) (hs:s.at_≤m) (hf:a*(m-s.at_)+1≤f+1):Sm (vS tk r s):=by
 have step:∀t:PS,t.at_≤m→s.at_<t.at_→a*(m-t.at_)+a≤f:=fun t ht hlt=>by
  have:a*(m-t.at_)+a=a*(m-t.at_+1):=by rw[Nat.mul_add,Nat.mul_one]
  have h2:a*(m-t.at_+1)≤a*(m-s.at_):=Nat.mul_le_mul_left a (by omega);omega
 unfold vS;refine Sm.ite (fun h0=>Sm.some _) (fun h0=>Sm.ite (fun h1=>Sm.some _) (fun h1=>Sm.ite (fun h2=>?_) (fun h2=>Sm.bif (fun h3=>?_) (fun h3=>Sm.bif (fun h4=>Sm.some _) (fun h4=>Sm.bif (fun h5=>?_) (fun h5=>Sm.some _))))))
 ·have ha:=sC hm hs (by omega) (by omega);refine Sm.bif (fun h3=>?_) (fun h3=>Sm.some _);have hb':=yE hm ha h3;refine Sm.bif (fun h4=>Sm.some _) fun h4=>Sm.bind (h.list _ _ hb' ?_ ?_) fun l s' _=>Sm.some _
  ·have:=step _ ha (Nat.lt_succ_self _);omega
  ·intro _;have h6:=step _ ha (Nat.lt_succ_self _)
   have h7:a*(m-(adv (adv s)).at_)+a≤a*(m-(adv s).at_):=by
    have:a*(m-(adv (adv s)).at_)+a=a*(m-(adv (adv s)).at_+1):=by rw[Nat.mul_add,Nat.mul_one]
    rw[this];exact Nat.mul_le_mul_left a (by show m-(s.at_+1+1)+1≤m-(s.at_+1);have:s.at_+1+1≤m:=hb';omega)
   omega
 ·have ha:=yE hm hs h3;have hn:=Pg.need hm [91] ha;have h6:=step _ hn.2.1 (Nat.lt_of_lt_of_le (Nat.lt_succ_self _) hn.1);exact Sm.bind (h.bin 0 _ hn.2.1 (by omega) (by omega)) fun _ _ _=>Sm.some _
 ·have ha:=yE hm hs h5;have h6:=step _ ha (Nat.lt_succ_self _);exact Sm.bind (h.bin 0 _ ha (by omega) (by omega)) fun _ _ _=>Sm.some _
theorem unS_t (h:ET m f 1 2 b l a K r) (ha1:1≤a) (s:PS) (hs:s.at_≤m) (hf:a*(m-s.at_)+2≤f+1):Sm (unS tk r s):=by
 have key:∀x y,isP tk x s=true→Sm (andThen (r.un (adv s)) fun e s=>some (Ex.mk 6 0 y [e],s)):=fun x y hx=>by
  have ha:=yE hm hs hx
  have h2:a*(m-(adv s).at_)+a≤a*(m-s.at_):=by
   have:a*(m-(adv s).at_)+a=a*(m-(adv s).at_+1):=by rw[Nat.mul_add,Nat.mul_one]
   rw[this];exact Nat.mul_le_mul_left a (by show m-(s.at_+1)+1≤m-s.at_;have:s.at_+1≤m:=ha;omega)
  exact Sm.bind (h.un _ ha (by omega)) fun _ _ _=>Sm.some _
 unfold unS;exact Sm.bif (key _ _) fun _=>Sm.bif (key _ _) fun _=>Sm.bif (key _ _) fun _=>h.prim s hs (by omega)
theorem listS_t {p:Nat}(hg:EG m r) (h:ET m f p u b l a K r) (hK:K 0=0) (hb:b≤a) (x:List Ex) (s:PS) (hs:s.at_≤m) (hf:s.err=0→a*(m-s.at_)+b+1≤f+1) (hb1:1≤b):Sm (sX tk r x s):=by
 unfold sX;refine Sm.ite (fun _=>Sm.some _) fun h0=>?_;have hf:=hf (by omega);refine Sm.bind (h.bin 0 s hs (by omega) (by omega)) fun e s' he=>Sm.bif (fun _=>Sm.some _) fun _=>?_;have h1:=hg.bin 0 s hs e s' he;have hn:=Pg.need hm [44] h1.2.1;refine h.list _ _ hn.2.1 (by omega) fun h2=>?_;have h3:=(hn.2.2 h2)
 have h4:a*(m-(yA tk [44] s').at_)+a≤a*(m-s.at_):=by
  have:a*(m-(yA tk [44] s').at_)+a=a*(m-(yA tk [44] s').at_+1):=by rw[Nat.mul_add,Nat.mul_one]
  rw[this];exact Nat.mul_le_mul_left a (by have:=h1.1;have:=hn.2.1;have:=h3.2;omega)
 omega
theorem ex_t (hg:EG m r) (h:ET m f 1 2 5 4 5 (fun _=>0) r):ET m (f+1) 1 2 5 4 5 (fun _=>0) (exStep tk r):=by
 refine⟨fun s hs hf=>primS_t hm hg h (by omega) (Nat.le_refl _) rfl s hs hf,fun s hs hf=>unS_t hm h (by omega) s hs hf,fun n s hs hf hn=>?_,fun n e s hs hn hf=>?_,fun x s hs _ hf=>listS_t hm hg h rfl (by omega) x s hs hf (by omega)⟩
 ·exact Sm.bind (h.un s hs (by omega)) fun e s' he=>h.loop n e s' (hg.un s hs e s' he).2.1 hn (by have:=(hg.un s hs e s' he).1;omega)
 ·show Sm (uY tk r n e s);unfold uY;refine Sm.ite (fun hc=>?_) fun _=>Sm.some _
  split
  ·rename_i lv hl;refine Sm.ite (fun _=>Sm.some _) fun hlt=>?_;have ha:=sC hm hs (by omega) (by omega);have h5:(adv s).at_=s.at_+1:=rfl;refine Sm.bind (h.bin (lv+1) _ ha (by omega) (by have:=levOf_lt hl;omega)) fun x s' hx=>?_;have h6:=hg.bin _ _ ha x s' hx;exact h.loop n _ s' h6.2.1 hn (by have:=h6.1;have:=h6.2.1;omega)
  ·exact Sm.some _
theorem exF_t:∀f,ET m f 1 2 5 4 5 (fun _=>0) (exF tk f)
 | 0=>⟨fun _ _ h=>absurd h (by omega),fun _ _ h=>absurd h (by omega),fun _ _ _ h=>absurd h (by omega),fun _ _ _ _ _ h=>absurd h (by omega),fun _ _ _ h=>absurd h (by omega)⟩
 | f+1=>ex_t hm (qQ hm f) (exF_t f)
end
structure SF.Le (r r':SF):Prop where
 stm:∀s,OLe (r.stm s) (r'.stm s)
 blk:∀l s,OLe (r.blk l s) (r'.blk l s)
theorem SF.Le.refl (r:SF):SF.Le r r:=⟨fun _=>OLe.refl _,fun _ _=>OLe.refl _⟩
theorem simS_le {E E':PS→Option (Ex×PS)}(hE:∀s,OLe (E s) (E' s)) (k:Nat) (nm:Bs) (l:List Ex) (s:PS):OLe (rA tk E k nm l s) (rA tk E' k nm l s):=OLe.andThen (hE s) fun _ _=>OLe.refl _
theorem stmS_le {E E':PS→Option (Ex×PS)}(hE:∀s,OLe (E s) (E' s)) {r r':SF}(h:SF.Le r r') (s:PS):OLe (sS tk E r s) (sS tk E' r' s):=by
 unfold sS;refine OLe.bif (simS_le hE _ _ _ _) (OLe.bif (OLe.andThen (hE _) fun e s=>OLe.andThen (h.blk _ _) fun b s=>OLe.bif (OLe.andThen (h.blk _ _) fun _ _=>OLe.refl _) (OLe.refl _)) (OLe.bif (OLe.andThen (hE _) fun e s=>OLe.andThen (h.blk _ _) fun _ _=>OLe.refl _) (OLe.bif (simS_le hE _ _ _ _) (OLe.bif (simS_le hE _ _ _ _) (OLe.andThen (hE _) fun e s=>OLe.ite (simS_le hE _ _ _ _) (OLe.ite (simS_le hE _ _ _ _) (OLe.refl _)))))))
theorem stF_le {E E':PS→Option (Ex×PS)}(hE:∀s,OLe (E s) (E' s)):∀{f g:Nat},f≤g→SF.Le (stF tk E f) (stF tk E' g)
 | 0,_,_=>⟨fun _ _ h=>(by cases h),fun _ _ _ h=>(by cases h)⟩
 | f+1,0,h=>absurd h (by omega)
 | f+1,g+1,h=>by
  have ih:=stF_le hE (Nat.le_of_succ_le_succ h)
  exact⟨stmS_le hE ih,fun l s=>by
   show OLe (qV tk (stF tk E f) l s) (qV tk (stF tk E' g) l s);unfold qV
   exact OLe.ite (OLe.refl _) (OLe.bif (OLe.refl _) (OLe.andThen (ih.stm s) fun _ _=>ih.blk _ _))⟩
theorem parF_le:∀{f g:Nat},f≤g→∀l s,OLe (rK tk f l s) (rK tk g l s)
 | 0,_,_=>fun _ _ _ h=>(by cases h)
 | f+1,0,h=>absurd h (by omega)
 | f+1,g+1,h=>fun l s=>by
  unfold rK;exact OLe.ite (OLe.refl _) (OLe.bif (OLe.refl _) (parF_le (Nat.le_of_succ_le_succ h) _ _))
theorem fnS_le {E E':PS→Option (Ex×PS)}(hE:∀s,OLe (E s) (E' s)) {f g:Nat}(h:f≤g) (s:PS):OLe (fnS tk E f s) (fnS tk E' g s):=by
 unfold fnS pV;exact OLe.andThen (OLe.bif (OLe.refl _) (parF_le h _ _)) fun _ _=>OLe.andThen ((stF_le hE h).blk _ _) fun _ _=>OLe.refl _
theorem prgF_le {E E':PS→Option (Ex×PS)}(hE:∀s,OLe (E s) (E' s)) {f g:Nat}(h:f≤g):∀{i j:Nat},i≤j→∀l s,OLe (rL tk E f i l s) (rL tk E' g j l s)
 | 0,_,_=>fun _ _ _ h=>(by cases h)
 | i+1,0,h=>absurd h (by omega)
 | i+1,j+1,h'=>fun l s=>by
  unfold rL;exact OLe.ite (OLe.andThen (fnS_le hE h s) fun _ _=>prgF_le hE h (Nat.le_of_succ_le_succ h') _ _) (OLe.refl _)
theorem runP_le {E E':PS→Option (Ex×PS)}(hE:∀s,OLe (E s) (E' s)) {f g:Nat}(h:f≤g):OLe (runP tk E f) (runP tk E' g):=fun r hr=>by
 unfold runP at *
 cases hp:rL tk E f f [] ⟨0,0,0⟩ with
 | none=>rw[hp] at hr;cases hr
 | some p=>rw[hp] at hr;rw[prgF_le hE h h _ _ _ hp];exact hr
structure SG (m:Nat) (r:SF):Prop where
 stm:∀s,s.at_≤m→Gs m s (r.stm s)
 blk:∀l s,s.at_≤m→Ws m s (r.blk l s)
section
variable {m:Nat}(hm:(tk m).kind=0∨(tk m).kind=4) {E:PS→Option (Ex×PS)}(hE:∀s,s.at_≤m→Gs m s (E s)) {r:SF}
include hm hE
theorem qI (k:Nat) (nm:Bs) (l:List Ex) (s:PS) (hs:s.at_≤m):Gs m s (rA tk E k nm l s):=Gs.bind (hE s hs) fun e s' h=>Gs.some (h.trans (Pg.need hm _ h.2.1).w)
omit hE in
theorem oV (h:SG m r) (s:PS) (hs:s.at_≤m):Ws m s (vQ tk r s):=Ws.from (Pg.need hm [123] hs).w (h.blk _ _ (Pg.need hm [123] hs).2.1)
theorem stmS_g (h:SG m r) (s:PS) (hs:s.at_≤m):Gs m s (sS tk E r s):=by
 unfold sS;refine Gs.bif (fun h1=>?_) fun _=>Gs.bif (fun h2=>?_) fun _=>Gs.bif (fun h3=>?_) fun _=>Gs.bif (fun h4=>?_) fun _=>Gs.bif (fun h5=>?_) fun _=>?_
 ·have ha:=yE hm hs h1;have hn:=Pg.name hm ha;have hq:=Pg.need hm [61] hn.2.1;exact Gs.from ((Pg.adv ha).w.trans (hn.w.trans hq.w)) (qI hm hE _ _ _ _ hq.2.1)
 ·have ha:=yE hm hs h2;refine Gs.from (Pg.adv ha).w (Gs.bind (hE _ ha) fun e s' he=>?_);refine Gs.fromW he (Ws.bind (oV hm h _ he.2.1) fun b s2 hb=>Ws.bif (fun h6=>?_) fun _=>Ws.some hb);have h7:=yE hm hb.2.1 h6;exact Ws.from (hb.trans (Pg.adv h7).w) (Ws.bind (oV hm h _ h7) fun c s3 hc=>Ws.some hc)
 ·have ha:=yE hm hs h3;refine Gs.from (Pg.adv ha).w (Gs.bind (hE _ ha) fun e s' he=>?_);exact Gs.fromW he (Ws.bind (oV hm h _ he.2.1) fun b s2 hb=>Ws.some hb)
 ·have ha:=yE hm hs h4;exact Gs.from (Pg.adv ha).w (qI hm hE _ _ _ _ ha)
 ·have ha:=yE hm hs h5;exact Gs.from (Pg.adv ha).w (qI hm hE _ _ _ _ ha)
 ·refine Gs.bind (hE _ hs) fun e s' he=>Gs.ite (fun hc=>?_) fun _=>Gs.ite (fun hc=>?_) fun _=>Gs.some (he.trans (Pg.need hm _ he.2.1).w)
  ·have ha:=yE hm he.2.1 hc.2.2;exact Gs.from (he.trans (Pg.adv ha).w).w (qI hm hE _ _ _ _ ha)
  ·have ha:=yE hm he.2.1 hc.2.2;exact Gs.from (he.trans (Pg.adv ha).w).w (qI hm hE _ _ _ _ ha)
theorem stF_g:∀f,SG m (stF tk E f)
 | 0=>⟨fun _ _ _ _ e=>(by cases e),fun _ _ _ _ _ e=>(by cases e)⟩
 | f+1=>⟨stmS_g hm hE (stF_g f),fun l s hs=>by
  have ih:=stF_g f;show Ws m s (qV tk (stF tk E f) l s);unfold qV
  exact Ws.ite (fun _=>Ws.some (Pw.refl hs)) fun _=>Ws.bif (fun h1=>Ws.some (Pg.adv (yE hm hs h1)).w) fun _=>Ws.bind (ih.stm s hs).w fun x s' h2=>Ws.from h2 (ih.blk _ _ h2.2.1)⟩
omit hE in
theorem parF_g:∀f l (s:PS),s.at_≤m→Ws m s (rK tk f l s)
 | 0,_,_,_=>fun _ _ e=>(by cases e)
 | f+1,l,s,hs=>by
  unfold rK;have hn:=Pg.name hm hs;refine Ws.ite (fun _=>Ws.some (Pw.refl hs)) fun _=>Ws.bif (fun h1=>Ws.some (hn.w.trans (Pg.adv (yE hm hn.2.1 h1)).w)) fun _=>?_;have hq:=Pg.need hm [44] hn.2.1;exact Ws.from (hn.w.trans hq.w) (parF_g f _ _ hq.2.1)
omit hE in
theorem parS_g (f:Nat) (s:PS) (hs:s.at_≤m):Ws m s (pV tk f s):=by
 unfold pV;exact Ws.bif (fun h1=>Ws.some (Pg.adv (yE hm hs h1)).w) fun _=>parF_g hm f _ s hs
theorem fnS_g (f:Nat) (s:PS) (hs:s.at_≤m):Gs m s (fnS tk E f s):=by
 unfold fnS;have h1:=Pg.need hm kFn hs;have h2:=Pg.name hm h1.2.1;have h3:=Pg.need hm [40] h2.2.1;exact Gs.fromW (h1.trans (h2.trans h3.w).w) (Ws.bind (parS_g hm f _ h3.2.1) fun l s' h4=>Ws.bind (Ws.from h4 (oV hm (stF_g hm hE f) _ h4.2.1)) fun b s2 h5=>Ws.some h5)
end
structure STm (m f:Nat) (r:SF):Prop where
 stm:∀s:PS,s.at_≤m→3*(m-s.at_)+1≤f→Sm (r.stm s)
 blk:∀l (s:PS),s.at_≤m→1≤f→(s.err=0→3*(m-s.at_)+2≤f)→Sm (r.blk l s)
section
variable {m:Nat}(hm:(tk m).kind=0∨(tk m).kind=4) {E:PS→Option (Ex×PS)}(hE:∀s,s.at_≤m→Gs m s (E s)) (hT:∀s,s.at_≤m→Sm (E s)) {r:SF}
include hm hE hT
omit hm hE in
theorem simS_t (k:Nat) (nm:Bs) (l:List Ex) (s:PS) (hs:s.at_≤m):Sm (rA tk E k nm l s):=Sm.bind (hT s hs) fun _ _ _=>Sm.some _
omit hE hT in
theorem blockS_t {f:Nat}(h:STm m f r) (s:PS) (hs:s.at_≤m) (h1:1≤f) (hf:3*(m-s.at_)+2≤f):Sm (vQ tk r s):=by
 have hn:=Pg.need hm [123] hs;exact h.blk _ _ hn.2.1 h1 fun _=>by have:=hn.1;omega
theorem stmS_t {f:Nat}(hg:SG m r) (h:STm m f r) (s:PS) (hs:s.at_≤m) (hf:3*(m-s.at_)+1≤f+1):Sm (sS tk E r s):=by
 unfold sS;refine Sm.bif (fun h1=>?_) fun _=>Sm.bif (fun h2=>?_) fun _=>Sm.bif (fun h3=>?_) fun _=>Sm.bif (fun h4=>?_) fun _=>Sm.bif (fun h5=>?_) fun _=>?_
 ·have ha:=yE hm hs h1;have hn:=Pg.name hm ha;have hq:=Pg.need hm [61] hn.2.1;exact simS_t hT _ _ _ _ hq.2.1
 ·have ha:=yE hm hs h2;have h9:(adv s).at_=s.at_+1:=rfl;refine Sm.bind (hT _ ha) fun e s' he=>?_;have h6:=hE _ ha e s' he;refine Sm.bind (blockS_t hm h _ h6.2.1 (by omega) (by have:=h6.1;have:=h6.2.1;omega)) fun b s2 hb=>Sm.bif (fun h7=>?_) fun _=>Sm.some _;have h10:=oV hm hg _ h6.2.1 b s2 hb;have h8:=yE hm h10.2.1 h7;have h12:(adv s2).at_=s2.at_+1:=rfl;exact Sm.bind (blockS_t hm h _ h8 (by omega) (by have:=h6.1;have:=h10.1;omega)) fun _ _ _=>Sm.some _
 ·have ha:=yE hm hs h3;have h9:(adv s).at_=s.at_+1:=rfl;refine Sm.bind (hT _ ha) fun e s' he=>?_;have h6:=hE _ ha e s' he;exact Sm.bind (blockS_t hm h _ h6.2.1 (by omega) (by have:=h6.1;have:=h6.2.1;omega)) fun _ _ _=>Sm.some _
 ·exact simS_t hT _ _ _ _ (yE hm hs h4)
 ·exact simS_t hT _ _ _ _ (yE hm hs h5)
 ·refine Sm.bind (hT _ hs) fun e s' he=>?_;have h6:=hE _ hs e s' he;refine Sm.ite (fun hc=>simS_t hT _ _ _ _ (yE hm h6.2.1 hc.2.2)) fun _=>Sm.ite (fun hc=>simS_t hT _ _ _ _ (yE hm h6.2.1 hc.2.2)) fun _=>Sm.some _
theorem stF_t:∀f,STm m f (stF tk E f)
 | 0=>⟨fun _ _ h=>absurd h (by omega),fun _ _ _ h=>absurd h (by omega)⟩
 | f+1=>⟨fun s hs hf=>stmS_t hm hE hT (stF_g hm hE f) (stF_t f) s hs hf,fun l s hs _ hf=>by
  have ih:=stF_t f;show Sm (qV tk (stF tk E f) l s);unfold qV;refine Sm.ite (fun _=>Sm.some _) fun h0=>Sm.bif (fun h1=>Sm.some _) fun _=>?_;have hf:=hf (by omega);refine Sm.bind (ih.stm s hs (by omega)) fun x s' hx=>?_;have h2:=(stF_g hm hE f).stm s hs x s' hx
  exact ih.blk _ _ h2.2.1 (by omega) fun h3=>by have:=(h2.2.2 h3).2;have:=h2.2.1;omega⟩
omit hE hT in
theorem parF_t:∀f l (s:PS),s.at_≤m→1≤f→(s.err=0→m-s.at_+2≤f)→Sm (rK tk f l s)
 | 0,_,_,_,h,_=>absurd h (by omega)
 | f+1,l,s,hs,_,hf=>by
  unfold rK;refine Sm.ite (fun _=>Sm.some _) fun h0=>Sm.bif (fun _=>Sm.some _) fun _=>?_;have hn:=Pg.name hm hs;have hq:=Pg.need hm [44] hn.2.1;have hf:=hf (by omega);exact parF_t f _ _ hq.2.1 (by omega) fun h1=>by have:=(hn.trans hq.w).2.2 h1;have:=hq.2.1;omega
theorem fnS_t (f:Nat) (s:PS) (hs:s.at_≤m) (hf:3*m+2≤f):Sm (fnS tk E f s):=by
 unfold fnS;have h1:=Pg.need hm kFn hs;have h2:=Pg.name hm h1.2.1;have h3:=Pg.need hm [40] h2.2.1;refine Sm.bind ?_ fun l s' h4=>Sm.bind (blockS_t hm (stF_t hm hE hT f) _ (parS_g hm f _ h3.2.1 l s' h4).2.1 (by omega) (by omega)) fun _ _ _=>Sm.some _;unfold pV;exact Sm.bif (fun _=>Sm.some _) fun _=>parF_t hm f _ _ h3.2.1 (by omega) fun _=>by omega
theorem prgF_t (f:Nat) (hf:3*m+2≤f):∀g l (s:PS),s.at_≤m→1≤g→(s.err=0→m-s.at_+2≤g)→Sm (rL tk E f g l s)
 | 0,_,_,_,h,_=>absurd h (by omega)
 | g+1,l,s,hs,_,hg=>by
  unfold rL;refine Sm.ite (fun hc=>?_) fun _=>Sm.some _;refine Sm.bind (fnS_t hm hE hT f s hs hf) fun x s' hx=>?_;have h1:=fnS_g hm hE f s hs x s' hx;exact prgF_t f hf g _ _ h1.2.1 (by have:=hg hc.1;omega) fun h2=>by have:=(h1.2.2 h2);have:=hg this.1;have:=h1.2.1;omega
theorem runP_t {f:Nat}(hf:3*m+2≤f):Sm (runP tk E f):=by
 obtain⟨⟨l,t⟩,h⟩:=prgF_t hm hE hT f hf f [] ⟨0,0,0⟩ (Nat.zero_le _) (by omega) fun _=>by show m-0+2≤f;omega
 unfold runP;rw[h];exact⟨_,rfl⟩
end
section
variable {m:Nat}(hm:(tk m).kind=0∨(tk m).kind=4)
include hm
theorem runX_t {f:Nat}(hf:5*m+5≤f):Sm (runP tk ((exF tk f).bin 0) f):=runP_t hm ((qQ hm f).bin 0) (fun s hs=>(exF_t hm f).bin 0 s hs (by omega) (by omega)) (by omega)
end
end Go.Proofs.YtfpkpnkdnammnaaGreatDoor
namespace Go.Proofs.YtfpkpnkdnammnaaGreatDoor
variable {tk:Nat→Tok}
def M1 (x:Ex):Prop:=x.kind=4→x.kids.length=1
def Mo {α:Type}(p:α→Prop) (x:Option (α×PS)):Prop:=∀a s,x=some (a,s)→p a
theorem Mo.some {α:Type}{p:α→Prop}{a:α}{s:PS}(h:p a):Mo p (some (a,s)):=fun _ _ e=>by cases e;exact h
theorem Mo.bind {α β:Type}{q:α→Prop}{p:β→Prop}{x:Option (α×PS)}{f:α→PS→Option (β×PS)}(h:Mo q x) (k:∀a s,q a→Mo p (f a s)):Mo p (andThen x f):=fun b t e=>by
 obtain⟨a,s,h1,h2⟩:=yL e;exact k a s (h a s h1) b t h2
theorem Mo.any {α:Type}{x:Option (α×PS)}:Mo (fun _=>True) x:=fun _ _ _=>trivial
theorem Mo.ite {α:Type}{p:α→Prop}{c:Prop}[Decidable c] {x y:Option (α×PS)}(h:Mo p x) (k:Mo p y):Mo p (if c then x else y):=by split;exact h;exact k
theorem Mo.bif {α:Type}{p:α→Prop}{c:Bool}{x y:Option (α×PS)}(h:Mo p x) (k:Mo p y):Mo p (bif c then x else y):=by cases c;exact k;exact h
structure K4 (r:EF):Prop where
 prim:∀s,Mo M1 (r.prim s)
 un:∀s,Mo M1 (r.un s)
 bin:∀n s,Mo M1 (r.bin n s)
 loop:∀n e s,M1 e→Mo M1 (r.loop n e s)
theorem m1_no {k n:Nat}{s:Bs}{l:List Ex}(h:k≠4):M1 (.mk k n s l):=fun e=>absurd e h
theorem primS_k {r:EF}(h:K4 r) (s:PS):Mo M1 (vS tk r s):=by
 unfold vS;exact .ite (.some (m1_no (by decide))) (.ite (.some (m1_no (by decide))) (.ite (.bif (.bif (.some (m1_no (by decide))) (.bind .any fun _ _ _=>.some (m1_no (by decide)))) (.some (m1_no (by decide)))) (.bif (.bind .any fun _ _ _=>.some fun _=>rfl) (.bif (.some (m1_no (by decide))) (.bif (.bind (h.bin _ _) fun _ _ hx=>.some hx) (.some (m1_no (by decide))))))))
theorem unS_k {r:EF}(h:K4 r) (s:PS):Mo M1 (unS tk r s):=by
 unfold unS;exact .bif (.bind .any fun _ _ _=>.some (m1_no (by decide))) (.bif (.bind .any fun _ _ _=>.some (m1_no (by decide))) (.bif (.bind .any fun _ _ _=>.some (m1_no (by decide))) (h.prim s)))
theorem exF_k:∀f,K4 (exF tk f)
 | 0=>⟨fun _ _ _ e=>(by cases e),fun _ _ _ e=>(by cases e),fun _ _ _ _ e=>(by cases e),fun _ _ _ _ _ _ e=>(by cases e)⟩
 | f+1=>by
  have ih:=exF_k f;refine⟨primS_k ih,unS_k ih,fun n s=>.bind (ih.un s) fun e s' he=>ih.loop _ _ _ he,fun n e s he=>?_⟩;show Mo M1 (uY tk (exF tk f) n e s);unfold uY;refine .ite ?_ (.some he)
  split
  ·exact .ite (.some he) (.bind .any fun _ _ _=>ih.loop _ _ _ (m1_no (by decide)))
  ·exact .some he
end Go.Proofs.YtfpkpnkdnammnaaGreatDoor
