import Derived.Test.YtfpkpnkdnammnaaGreatDoorMgZ
import Derived.Test.YtfpkpnkdnammnaaGreatDoorMgn
import Derived.Test.YtfpkpnkdnammnaaGreatDoorMgw
set_option maxRecDepth 100000
namespace Go.Proofs.YtfpkpnkdnammnaaGreatDoor
open Go.RowKit
def PrE (fv:Value) (l:List Ex) (q:Ex→Bool) (Y:World→Prop):Prop:=∃f us vs,fv=.func (.func f) us.toArray vs.toArray∧goes Tryz.prog f=true∧(∀w w',Ext w w'→Y w→Y w')∧∀x∈l,∀F A cap w,xT F w x A cap→Y w→Calls Tryz.prog f (us++[.agg (xL x A cap).toArray]++vs).toArray w fun e w'=>e=.returned (.bool (q x))∧Ext w w'
theorem ExsV.fix {F:Nat→Prop}{w:World}{l:List Ex}{cs:List Value}(h:ExsV F w l cs) {i:Nat}{x:Ex}(hi:l[i]? = some x):∃A cap,∀F' u,ExsV F' u l cs→xT F' u x A cap∧∀(j:Nat) (v:Value),(xL x A cap)[j]? = some v→cs[4*i+j]? = some v:=by
 obtain⟨A,cap,h1,h2⟩:=h.at hi;refine⟨A,cap,fun F' u hu=>?_⟩;obtain⟨A',cap',k1,k2⟩:=hu.at hi;have e3:=h2 3 _ rfl;rw[k2 3 _ rfl] at e3;simp only[Option.some.injEq,Value.slice.injEq] at e3;obtain⟨rfl,_,rfl⟩:=e3;exact⟨k1,k2⟩
theorem indexE_any (l:List Ex) (A0:Option Addr) (cap0:Nat) (hl:Cp l.length cap0) (cs:List Value) {F:Nat→Prop}{fv:Value}{q:Ex→Bool}{Y:World→Prop}(hq:PrE fv l q Y) (w_0:World) (h:RdF F A0 cs w_0∧ExsV F w_0 l cs) (hY:Y w_0):Calls Tryz.prog 154 #[.slice A0 l.length cap0,fv] w_0 fun e w'=>e=.returned (.int .i64 (rH q l))∧Ext w_0 w':=by
 have hlt:=hl.lt
 have hA:0<l.length→∃b off,A0=some ⟨b,off,none⟩:=fun h0=>by
  obtain⟨b,off,e,_⟩:=h.1 (by rw[h.2.len];omega);exact⟨b,off,e⟩
 obtain⟨f,us,vs,rfl,hgo,hYs,hC⟩:=hq;have hT:Lies fun F u=>RdF F A0 cs u∧ExsV F u l cs:=⟨fun hk ⟨a,b⟩=>⟨RdF.lies.foot hk a,ExsV.lies.foot hk b⟩,fun ⟨a,b⟩=>⟨RdF.lies.lt a,ExsV.lies.lt b⟩,fun hF ⟨a,b⟩=>⟨RdF.lies.mono hF a,ExsV.lies.mono hF b⟩⟩;refine yV (args:=[.slice A0 l.length cap0,.func (.func f) us.toArray vs.toArray]) Tryz.func154 V 19 V (Jn V)<|Z2 0 1 V V<|zD (H':=Hp (fun _=>False) w_0 [] [] (fun u=>RdF F A0 cs u∧ExsV F u l cs)) (fun u hu=>?_) ?_
 ·subst hu;exact Hp.startT hT h
 refine zY<|zX<|Za V V<|ZX<|zY<|zX<|Zm V V<|ZF V (yM V U55)<|Zm V V<|ZT<|yY<|xV (ι:={k:Nat // IxQ q l k}) (fun k=>[(0,.slice A0 l.length cap0),(1,.func (.func f) us.toArray vs.toArray),(7,.int .i64 l.length),(8,.int .i64 k.1)]) (fun _=>Hp (fun _=>False) w_0 [] [] (fun u=>RdF F A0 cs u∧ExsV F u l cs)) (fun k=>l.length-k.1) ⟨0,Kl _,fun _ _ h=>absurd h (by omega)⟩ ?_ ?_ (fun k=>?_)
 ·exact .cons V<|.cons V<|.cons V<|.cons V<|.nil
 ·exact fun w h=>h
 obtain⟨k,hk,hno⟩:=k;dsimp only;refine zY<|zX<|ZF V (xS V V)<|ZX<|zT V (fun hc=>?_) (fun hc=>?_)
 ·replace hc:=Jo hc;obtain⟨b,off,rfl⟩:=hA (by omega);have hkl:k<l.length:=by omega
  obtain⟨x,hx⟩:∃x,l[k]? = some x:=⟨l[k],Jt hkl⟩;obtain⟨A,cap,hfix⟩:=h.2.fix hx;refine zG<|zQ<|zY<|yY<|zY<|zX<|Zm rfl rfl<|Za rfl rfl<|ZX<|Z6r 0 1 5 7 8 9 rfl rfl rfl rfl rfl rfl<|Zm rfl rfl<|Zm rfl rfl<|Zm rfl rfl<|ZF rfl (zJ (es:=4) rfl rfl U55 (by kernel_rfl) rfl (by first|decide|omega|(simp;done)|(simp;omega)) rfl) ?_
  refine ZF V (yD (cs:=xL x A cap) V U57 V (by kernel_rfl) (fun w h j v hv=>by
  have h2:=(hfix F w (HpG.x h).2).2 j v hv
  exact RdF.part (HpG.x h).1 (Jm.1 h2).1 (by omega) h2)) ?_
  refine xQ (ι:=Unit) (val:=fun _=>.bool (q x)) (H':=fun _=>Hp (fun _=>False) w_0 [] [] (fun u=>RdF F (some ⟨b,off,none⟩) cs u∧ExsV F u l cs)) .none V  (qA (us:=us) (vs:=[.agg (xL x A cap).toArray]) (cs:=vs) (args:=[.tmp 15]) hgo V V (fun w hw=>(hC x (Ju hx) F A cap w (hfix F w (HpG.x hw).2).1 (hYs _ _ (Jq hw).ext hY)).mono fun e w' ⟨e1,e2⟩=>⟨_,e1,(),rfl,HpG.onE hw e2⟩)) (fun _=>?_);refine ZT<|zT V (fun he=>?_) (fun he=>?_)
  ·refine zY<|Z7r 0 1 5 7 8 9 16 V V V V V V V<|Zm V V<|Za V V<|ZT<|zK<|zR<|zV<|zV<|zR<|zV<|zI V V (fun w hw=>?_);exact⟨by rw[idxQ_at ⟨hk,hno⟩ hx he],(Jq hw).ext⟩
  ·refine zG<|zM<|zQ<|Z7r 0 1 5 7 8 9 16 V V V V V V V<|ZF V (yI V V (i64_in _ (by omega) (by omega))) ?_;refine Zm V V<|zU<|yC (ι:={k:Nat // IxQ q l k}) ⟨k+1,by omega,fun j y hj hy=>?_⟩ (by show l.length-(k+1)<l.length-k;omega) (O4 V V V V) (fun w h=>h);rcases Nat.lt_or_ge j k with h1|h1
   ·exact hno j y h1 hy
   ·have:j=k:=by omega
    subst this;rw[hx] at hy;cases hy;exact he
 ·replace hc:=Jp hc;have hke:k=l.length:=by omega
  refine xY<|zN<|zN<|xZ<|zQ<|zY<|zX<|Za V V<|ZT<|zK<|zI V V (fun w hw=>?_);exact⟨by rw[idxQ_none ⟨Km _,fun j y hj hy=>hno j y (by rw[hke];exact hj) hy⟩],(Jq hw).ext⟩
theorem rD (l:List Ex) (A0:Option Addr) (cap0:Nat) (hl:Cp l.length cap0) (cs:List Value) {F:Nat→Prop}{fv:Value}{q:Ex→Bool}{Y:World→Prop}(hq:PrE fv l q Y) (w_0:World) (h:RdF F A0 cs w_0∧ExsV F w_0 l cs) (hY:Y w_0):Calls Tryz.prog 131 #[.slice A0 l.length cap0,fv] w_0 fun e w'=>e=.returned (.bool (l.any q))∧Ext w_0 w':=by
 have hT:Lies fun F u=>RdF F A0 cs u∧ExsV F u l cs:=⟨fun hk ⟨a,b⟩=>⟨RdF.lies.foot hk a,ExsV.lies.foot hk b⟩,fun ⟨a,b⟩=>⟨RdF.lies.lt a,ExsV.lies.lt b⟩,fun hF ⟨a,b⟩=>⟨RdF.lies.mono hF a,ExsV.lies.mono hF b⟩⟩;have hq0:=hq;obtain⟨f,us,vs,rfl,hgo,hYs,hC⟩:=hq0;refine yV (args:=[.slice A0 l.length cap0,.func (.func f) us.toArray vs.toArray]) Tryz.func131 V 9 V (Jn V)<|Z2 0 1 V V<|zD (H':=Hp (fun _=>False) w_0 [] [] (fun u=>RdF F A0 cs u∧ExsV F u l cs)) (fun u hu=>?_) ?_
 ·subst hu;exact Hp.startT hT h
 refine zY<|zX<|Za V V<|ZX<|zX<|Zm V V<|Zm V V<|yT .none V  (v:=.int .i64 (rH q l)) (by kernel_rfl) V (fun w hw=>indexE_any l A0 cap0 hl cs hq w (HpG.x hw) (hYs _ _ (Jq hw).ext hY)) ?_;refine ZF V (tO V V)<|Za V V<|ZT<|zK<|zI V V (fun w hw=>?_);exact⟨by rw[idxQ_ge],(Jq hw).ext⟩
def PrS (fv:Value) (l:List St) (q:St→Bool) (Y:World→Prop):Prop:=∃f us vs,fv=.func (.func f) us.toArray vs.toArray∧goes Tryz.prog f=true∧(∀w w',Ext w w'→Y w→Y w')∧∀x∈l,∀F a w,stsK F w x a→Y w→Calls Tryz.prog f (us++[.agg (stOf x a).toArray]++vs).toArray w fun e w'=>e=.returned (.bool (q x))∧Ext w w'
theorem StsV.fix {F:Nat→Prop}{w:World}{l:List St}{cs:List Value}(h:StsV F w l cs) {i:Nat}{x:St}(hi:l[i]? = some x):∃a,∀F' u,StsV F' u l cs→stsK F' u x a∧∀(j:Nat) (v:Value),(stOf x a)[j]? = some v→cs[5*i+j]? = some v:=by
 obtain⟨a,h1,h2⟩:=h.at hi;refine⟨a,fun F' u hu=>?_⟩;obtain⟨a',k1,k2⟩:=hu.at hi;obtain⟨B1,B2,B3,d1,d2,d3⟩:=a';obtain⟨A1,A2,A3,c1,c2,c3⟩:=a;have e2:=h2 2 _ rfl;rw[k2 2 _ rfl] at e2;have e3:=h2 3 _ rfl;rw[k2 3 _ rfl] at e3;have e4:=h2 4 _ rfl;rw[k2 4 _ rfl] at e4;simp only[Option.some.injEq,Value.slice.injEq] at e2 e3 e4;obtain⟨rfl,_,rfl⟩:=e2;obtain⟨rfl,_,rfl⟩:=e3;obtain⟨rfl,_,rfl⟩:=e4;exact⟨k1,k2⟩
theorem indexS_any (l:List St) (A0:Option Addr) (cap0:Nat) (hl:Cp l.length cap0) (cs:List Value) {F:Nat→Prop}{fv:Value}{q:St→Bool}{Y:World→Prop}(hq:PrS fv l q Y) (w_0:World) (h:RdF F A0 cs w_0∧StsV F w_0 l cs) (hY:Y w_0):Calls Tryz.prog 130 #[.slice A0 l.length cap0,fv] w_0 fun e w'=>e=.returned (.int .i64 (rH q l))∧Ext w_0 w':=by
 have hlt:=hl.lt
 have hA:0<l.length→∃b off,A0=some ⟨b,off,none⟩:=fun h0=>by
  obtain⟨b,off,e,_⟩:=h.1 (by rw[h.2.len];omega);exact⟨b,off,e⟩
 obtain⟨f,us,vs,rfl,hgo,hYs,hC⟩:=hq;have hT:Lies fun F u=>RdF F A0 cs u∧StsV F u l cs:=⟨fun hk ⟨a,b⟩=>⟨RdF.lies.foot hk a,StsV.lies.foot hk b⟩,fun ⟨a,b⟩=>⟨RdF.lies.lt a,StsV.lies.lt b⟩,fun hF ⟨a,b⟩=>⟨RdF.lies.mono hF a,StsV.lies.mono hF b⟩⟩;refine yV (args:=[.slice A0 l.length cap0,.func (.func f) us.toArray vs.toArray]) Tryz.func130 V 19 V (Jn V)<|Z2 0 1 V V<|zD (H':=Hp (fun _=>False) w_0 [] [] (fun u=>RdF F A0 cs u∧StsV F u l cs)) (fun u hu=>?_) ?_
 ·subst hu;exact Hp.startT hT h
 refine zY<|zX<|Za V V<|ZX<|zY<|zX<|Zm V V<|ZF V (yM V U58)<|Zm V V<|ZT<|yY<|xV (ι:={k:Nat // IxQ q l k}) (fun k=>[(0,.slice A0 l.length cap0),(1,.func (.func f) us.toArray vs.toArray),(7,.int .i64 l.length),(8,.int .i64 k.1)]) (fun _=>Hp (fun _=>False) w_0 [] [] (fun u=>RdF F A0 cs u∧StsV F u l cs)) (fun k=>l.length-k.1) ⟨0,Kl _,fun _ _ h=>absurd h (by omega)⟩ ?_ ?_ (fun k=>?_)
 ·exact .cons V<|.cons V<|.cons V<|.cons V<|.nil
 ·exact fun w h=>h
 obtain⟨k,hk,hno⟩:=k;dsimp only;refine zY<|zX<|ZF V (xS V V)<|ZX<|zT V (fun hc=>?_) (fun hc=>?_)
 ·replace hc:=Jo hc;obtain⟨b,off,rfl⟩:=hA (by omega);have hkl:k<l.length:=by omega
  obtain⟨x,hx⟩:∃x,l[k]? = some x:=⟨l[k],Jt hkl⟩;obtain⟨a,hfix⟩:=h.2.fix hx;refine zG<|zQ<|zY<|yY<|zY<|zX<|Zm rfl rfl<|Za rfl rfl<|ZX<|Z6r 0 1 5 7 8 9 rfl rfl rfl rfl rfl rfl<|Zm rfl rfl<|Zm rfl rfl<|Zm rfl rfl<|ZF rfl (zJ (es:=5) rfl rfl U58 (by kernel_rfl) rfl (by first|decide|omega|(simp;done)|(simp;omega)) rfl) ?_
  refine ZF V (yD (cs:=stOf x a) V U60 V (by kernel_rfl) (fun w h j v hv=>by
  have h2:=(hfix F w (HpG.x h).2).2 j v hv
  exact RdF.part (HpG.x h).1 (Jm.1 h2).1 (by omega) h2)) ?_
  refine xQ (ι:=Unit) (val:=fun _=>.bool (q x)) (H':=fun _=>Hp (fun _=>False) w_0 [] [] (fun u=>RdF F (some ⟨b,off,none⟩) cs u∧StsV F u l cs)) .none V  (qA (us:=us) (vs:=[.agg (stOf x a).toArray]) (cs:=vs) (args:=[.tmp 15]) hgo V V (fun w hw=>(hC x (Ju hx) F a w (hfix F w (HpG.x hw).2).1 (hYs _ _ (Jq hw).ext hY)).mono fun e w' ⟨e1,e2⟩=>⟨_,e1,(),rfl,HpG.onE hw e2⟩)) (fun _=>?_);refine ZT<|zT V (fun he=>?_) (fun he=>?_)
  ·refine zY<|Z7r 0 1 5 7 8 9 16 V V V V V V V<|Zm V V<|Za V V<|ZT<|zK<|zR<|zV<|zV<|zR<|zV<|zI V V (fun w hw=>?_);exact⟨by rw[idxQ_at ⟨hk,hno⟩ hx he],(Jq hw).ext⟩
  ·refine zG<|zM<|zQ<|Z7r 0 1 5 7 8 9 16 V V V V V V V<|ZF V (yI V V (i64_in _ (by omega) (by omega))) ?_;refine Zm V V<|zU<|yC (ι:={k:Nat // IxQ q l k}) ⟨k+1,by omega,fun j y hj hy=>?_⟩ (by show l.length-(k+1)<l.length-k;omega) (O4 V V V V) (fun w h=>h);rcases Nat.lt_or_ge j k with h1|h1
   ·exact hno j y h1 hy
   ·have:j=k:=by omega
    subst this;rw[hx] at hy;cases hy;exact he
 ·replace hc:=Jp hc;have hke:k=l.length:=by omega
  refine xY<|zN<|zN<|xZ<|zQ<|zY<|zX<|Za V V<|ZT<|zK<|zI V V (fun w hw=>?_);exact⟨by rw[idxQ_none ⟨Km _,fun j y hj hy=>hno j y (by rw[hke];exact hj) hy⟩],(Jq hw).ext⟩
theorem containsS_any (l:List St) (A0:Option Addr) (cap0:Nat) (hl:Cp l.length cap0) (cs:List Value) {F:Nat→Prop}{fv:Value}{q:St→Bool}{Y:World→Prop}(hq:PrS fv l q Y) (w_0:World) (h:RdF F A0 cs w_0∧StsV F w_0 l cs) (hY:Y w_0):Calls Tryz.prog 97 #[.slice A0 l.length cap0,fv] w_0 fun e w'=>e=.returned (.bool (l.any q))∧Ext w_0 w':=by
 have hT:Lies fun F u=>RdF F A0 cs u∧StsV F u l cs:=⟨fun hk ⟨a,b⟩=>⟨RdF.lies.foot hk a,StsV.lies.foot hk b⟩,fun ⟨a,b⟩=>⟨RdF.lies.lt a,StsV.lies.lt b⟩,fun hF ⟨a,b⟩=>⟨RdF.lies.mono hF a,StsV.lies.mono hF b⟩⟩;have hq0:=hq;obtain⟨f,us,vs,rfl,hgo,hYs,hC⟩:=hq0;refine yV (args:=[.slice A0 l.length cap0,.func (.func f) us.toArray vs.toArray]) Tryz.func97 V 9 V (Jn V)<|Z2 0 1 V V<|zD (H':=Hp (fun _=>False) w_0 [] [] (fun u=>RdF F A0 cs u∧StsV F u l cs)) (fun u hu=>?_) ?_
 ·subst hu;exact Hp.startT hT h
 refine zY<|zX<|Za V V<|ZX<|zX<|Zm V V<|Zm V V<|yT .none V  (v:=.int .i64 (rH q l)) (by kernel_rfl) V (fun w hw=>indexS_any l A0 cap0 hl cs hq w (HpG.x hw) (hYs _ _ (Jq hw).ext hY)) ?_;refine ZF V (tO V V)<|Za V V<|ZT<|zK<|zI V V (fun w hw=>?_);exact⟨by rw[idxQ_ge],(Jq hw).ext⟩
def PrF (fv:Value) (l:List Fn) (q:Fn→Bool) (Y:World→Prop):Prop:=∃f us vs,fv=.func (.func f) us.toArray vs.toArray∧goes Tryz.prog f=true∧(∀w w',Ext w w'→Y w→Y w')∧∀x∈l,∀F a w,fnsK F w x a→Y w→Calls Tryz.prog f (us++[.agg (rG x a).toArray]++vs).toArray w fun e w'=>e=.returned (.bool (q x))∧Ext w w'
theorem FnsV.fix {F:Nat→Prop}{w:World}{l:List Fn}{cs:List Value}(h:FnsV F w l cs) {i:Nat}{x:Fn}(hi:l[i]? = some x):∃a,∀F' u,FnsV F' u l cs→fnsK F' u x a∧∀(j:Nat) (v:Value),(rG x a)[j]? = some v→cs[3*i+j]? = some v:=by
 obtain⟨a,h1,h2⟩:=h.at hi;refine⟨a,fun F' u hu=>?_⟩;obtain⟨a',k1,k2⟩:=hu.at hi;obtain⟨B1,B2,d1,d2⟩:=a';obtain⟨A1,A2,c1,c2⟩:=a;have e2:=h2 1 _ rfl;rw[k2 1 _ rfl] at e2;have e3:=h2 2 _ rfl;rw[k2 2 _ rfl] at e3;simp only[Option.some.injEq,Value.slice.injEq] at e2 e3;obtain⟨rfl,_,rfl⟩:=e2;obtain⟨rfl,_,rfl⟩:=e3;exact⟨k1,k2⟩
theorem indexF_any (l:List Fn) (A0:Option Addr) (cap0:Nat) (hl:Cp l.length cap0) (cs:List Value) {F:Nat→Prop}{fv:Value}{q:Fn→Bool}{Y:World→Prop}(hq:PrF fv l q Y) (w_0:World) (h:RdF F A0 cs w_0∧FnsV F w_0 l cs) (hY:Y w_0):Calls Tryz.prog 90 #[.slice A0 l.length cap0,fv] w_0 fun e w'=>e=.returned (.int .i64 (rH q l))∧Ext w_0 w':=by
 have hlt:=hl.lt
 have hA:0<l.length→∃b off,A0=some ⟨b,off,none⟩:=fun h0=>by
  obtain⟨b,off,e,_⟩:=h.1 (by rw[h.2.len];omega);exact⟨b,off,e⟩
 obtain⟨f,us,vs,rfl,hgo,hYs,hC⟩:=hq;have hT:Lies fun F u=>RdF F A0 cs u∧FnsV F u l cs:=⟨fun hk ⟨a,b⟩=>⟨RdF.lies.foot hk a,FnsV.lies.foot hk b⟩,fun ⟨a,b⟩=>⟨RdF.lies.lt a,FnsV.lies.lt b⟩,fun hF ⟨a,b⟩=>⟨RdF.lies.mono hF a,FnsV.lies.mono hF b⟩⟩;refine yV (args:=[.slice A0 l.length cap0,.func (.func f) us.toArray vs.toArray]) Tryz.func90 V 19 V (Jn V)<|Z2 0 1 V V<|zD (H':=Hp (fun _=>False) w_0 [] [] (fun u=>RdF F A0 cs u∧FnsV F u l cs)) (fun u hu=>?_) ?_
 ·subst hu;exact Hp.startT hT h
 refine zY<|zX<|Za V V<|ZX<|zY<|zX<|Zm V V<|ZF V (yM V U30)<|Zm V V<|ZT<|yY<|xV (ι:={k:Nat // IxQ q l k}) (fun k=>[(0,.slice A0 l.length cap0),(1,.func (.func f) us.toArray vs.toArray),(7,.int .i64 l.length),(8,.int .i64 k.1)]) (fun _=>Hp (fun _=>False) w_0 [] [] (fun u=>RdF F A0 cs u∧FnsV F u l cs)) (fun k=>l.length-k.1) ⟨0,Kl _,fun _ _ h=>absurd h (by omega)⟩ ?_ ?_ (fun k=>?_)
 ·exact .cons V<|.cons V<|.cons V<|.cons V<|.nil
 ·exact fun w h=>h
 obtain⟨k,hk,hno⟩:=k;dsimp only;refine zY<|zX<|ZF V (xS V V)<|ZX<|zT V (fun hc=>?_) (fun hc=>?_)
 ·replace hc:=Jo hc;obtain⟨b,off,rfl⟩:=hA (by omega);have hkl:k<l.length:=by omega
  obtain⟨x,hx⟩:∃x,l[k]? = some x:=⟨l[k],Jt hkl⟩;obtain⟨a,hfix⟩:=h.2.fix hx;refine zG<|zQ<|zY<|yY<|zY<|zX<|Zm rfl rfl<|Za rfl rfl<|ZX<|Z6r 0 1 5 7 8 9 rfl rfl rfl rfl rfl rfl<|Zm rfl rfl<|Zm rfl rfl<|Zm rfl rfl<|ZF rfl (zJ (es:=3) rfl rfl U30 (by kernel_rfl) rfl (by first|decide|omega|(simp;done)|(simp;omega)) rfl) ?_
  refine ZF V (yD (cs:=rG x a) V U62 V (by kernel_rfl) (fun w h j v hv=>by
  have h2:=(hfix F w (HpG.x h).2).2 j v hv
  exact RdF.part (HpG.x h).1 (Jm.1 h2).1 (by omega) h2)) ?_
  refine xQ (ι:=Unit) (val:=fun _=>.bool (q x)) (H':=fun _=>Hp (fun _=>False) w_0 [] [] (fun u=>RdF F (some ⟨b,off,none⟩) cs u∧FnsV F u l cs)) .none V  (qA (us:=us) (vs:=[.agg (rG x a).toArray]) (cs:=vs) (args:=[.tmp 15]) hgo V V (fun w hw=>(hC x (Ju hx) F a w (hfix F w (HpG.x hw).2).1 (hYs _ _ (Jq hw).ext hY)).mono fun e w' ⟨e1,e2⟩=>⟨_,e1,(),rfl,HpG.onE hw e2⟩)) (fun _=>?_);refine ZT<|zT V (fun he=>?_) (fun he=>?_)
  ·refine zY<|Z7r 0 1 5 7 8 9 16 V V V V V V V<|Zm V V<|Za V V<|ZT<|zK<|zR<|zV<|zV<|zR<|zV<|zI V V (fun w hw=>?_);exact⟨by rw[idxQ_at ⟨hk,hno⟩ hx he],(Jq hw).ext⟩
  ·refine zG<|zM<|zQ<|Z7r 0 1 5 7 8 9 16 V V V V V V V<|ZF V (yI V V (i64_in _ (by omega) (by omega))) ?_;refine Zm V V<|zU<|yC (ι:={k:Nat // IxQ q l k}) ⟨k+1,by omega,fun j y hj hy=>?_⟩ (by show l.length-(k+1)<l.length-k;omega) (O4 V V V V) (fun w h=>h);rcases Nat.lt_or_ge j k with h1|h1
   ·exact hno j y h1 hy
   ·have:j=k:=by omega
    subst this;rw[hx] at hy;cases hy;exact he
 ·replace hc:=Jp hc;have hke:k=l.length:=by omega
  refine xY<|zN<|zN<|xZ<|zQ<|zY<|zX<|Za V V<|ZT<|zK<|zI V V (fun w hw=>?_);exact⟨by rw[idxQ_none ⟨Km _,fun j y hj hy=>hno j y (by rw[hke];exact hj) hy⟩],(Jq hw).ext⟩
theorem containsF_any (l:List Fn) (A0:Option Addr) (cap0:Nat) (hl:Cp l.length cap0) (cs:List Value) {F:Nat→Prop}{fv:Value}{q:Fn→Bool}{Y:World→Prop}(hq:PrF fv l q Y) (w_0:World) (h:RdF F A0 cs w_0∧FnsV F w_0 l cs) (hY:Y w_0):Calls Tryz.prog 52 #[.slice A0 l.length cap0,fv] w_0 fun e w'=>e=.returned (.bool (l.any q))∧Ext w_0 w':=by
 have hT:Lies fun F u=>RdF F A0 cs u∧FnsV F u l cs:=⟨fun hk ⟨a,b⟩=>⟨RdF.lies.foot hk a,FnsV.lies.foot hk b⟩,fun ⟨a,b⟩=>⟨RdF.lies.lt a,FnsV.lies.lt b⟩,fun hF ⟨a,b⟩=>⟨RdF.lies.mono hF a,FnsV.lies.mono hF b⟩⟩;have hq0:=hq;obtain⟨f,us,vs,rfl,hgo,hYs,hC⟩:=hq0;refine yV (args:=[.slice A0 l.length cap0,.func (.func f) us.toArray vs.toArray]) Tryz.func52 V 9 V (Jn V)<|Z2 0 1 V V<|zD (H':=Hp (fun _=>False) w_0 [] [] (fun u=>RdF F A0 cs u∧FnsV F u l cs)) (fun u hu=>?_) ?_
 ·subst hu;exact Hp.startT hT h
 refine zY<|zX<|Za V V<|ZX<|zX<|Zm V V<|Zm V V<|yT .none V  (v:=.int .i64 (rH q l)) (by kernel_rfl) V (fun w hw=>indexF_any l A0 cap0 hl cs hq w (HpG.x hw) (hYs _ _ (Jq hw).ext hY)) ?_;refine ZF V (tO V V)<|Za V V<|ZT<|zK<|zI V V (fun w hw=>?_);exact⟨by rw[idxQ_ge],(Jq hw).ext⟩
end Go.Proofs.YtfpkpnkdnammnaaGreatDoor
