import Derived.Test.YtfpkpnkdnammnaaGreatDoorSyZ
import Derived.Test.YtfpkpnkdnammnaaGreatDoorSyV
set_option maxRecDepth 100000
namespace Go.Proofs.YtfpkpnkdnammnaaGreatDoor
open Go.RowKit
theorem vF {k:Nat}{s:Bs}{es:List Ex}{b c:List St}{x:St}(h:x∈b∨x∈c):SizeOf.sizeOf x<SizeOf.sizeOf (St.mk k s es b c):=by
 rcases h with h|h
 ·have:=List.sizeOf_lt_of_mem h;simp only[St.mk.sizeOf_spec];omega
 ·have:=List.sizeOf_lt_of_mem h;simp only[St.mk.sizeOf_spec];omega
theorem rightS_all:∀(N:Nat) (x:St),SizeOf.sizeOf x<N→RS x
 | 0,_,h=>absurd h (by omega)
 | N+1,.mk k s es b c,h=>rightS_step k s es b c (fun x hx=>rightS_all N x (by have:=vF (k:=k) (s:=s) (es:=es) (c:=c) (.inl hx);omega)) (fun x hx=>rightS_all N x (by have:=vF (k:=k) (s:=s) (es:=es) (b:=b) (.inr hx);omega))
theorem rightS_any (x:St):RS x:=rightS_all _ x (Nat.lt_succ_self _)
def PrB (fv:Value) (q:Bs→Bool):Prop:=∃f,fv=.func (.func f) #[] #[]∧goes Tryz.prog f=true∧∀s w,Calls Tryz.prog f #[.string ⟨s.toArray⟩] w fun e w'=>e=.returned (.bool (q s))∧Ext w w'
theorem indexB_any (l:List Bs) (A0:Option Addr) (cap0:Nat) (hl:Cp l.length cap0) {F:Nat→Prop}{fv:Value}{q:Bs→Bool}(hq:PrB fv q) (w_0:World) (h:RdF F A0 (xX l) w_0):Calls Tryz.prog 91 #[.slice A0 l.length cap0,fv] w_0 fun e w'=>e=.returned (.int .i64 (rH q l))∧Ext w_0 w':=by
 have hlt:=hl.lt
 have hA:0<l.length→∃b off,A0=some ⟨b,off,none⟩:=fun h0=>by
  obtain⟨b,off,e,_⟩:=h (by simpa using h0);exact⟨b,off,e⟩
 obtain⟨f,rfl,hgo,hC⟩:=hq;refine yV (args:=[.slice A0 l.length cap0,.func (.func f) #[] #[]]) Tryz.func91 V 19 V (Jn V)<|Z2 0 1 V V<|zD (H':=Hp (fun _=>False) w_0 [] [] (RdF F A0 (xX l))) (fun u hu=>?_) ?_
 ·subst hu;exact Hp.startT RdF.lies h
 refine zY<|zX<|Za V V<|ZX<|zY<|zX<|Zm V V<|ZF V (yM V U22)<|Zm V V<|ZT<|yY<|xV (ι:={k:Nat // IxQ q l k}) (fun k=>[(0,.slice A0 l.length cap0),(1,.func (.func f) #[] #[]),(7,.int .i64 l.length),(8,.int .i64 k.1)]) (fun _=>Hp (fun _=>False) w_0 [] [] (RdF F A0 (xX l))) (fun k=>l.length-k.1) ⟨0,Kl _,fun _ _ h=>absurd h (by omega)⟩ ?_ ?_ (fun k=>?_)
 ·exact .cons V<|.cons V<|.cons V<|.cons V<|.nil
 ·exact fun w h=>h
 obtain⟨k,hk,hno⟩:=k;dsimp only;refine zY<|zX<|ZF V (xS V V)<|ZX<|zT V (fun hc=>?_) (fun hc=>?_)
 ·replace hc:=Jo hc;obtain⟨b,off,rfl⟩:=hA (by omega);have hkl:k<l.length:=by omega
  obtain⟨x,hx⟩:∃x,l[k]? = some x:=⟨l[k],Jt hkl⟩;refine zG<|zQ<|zY<|yY<|zY<|zX<|Zm rfl rfl<|Za rfl rfl<|ZX<|Z6r 0 1 5 7 8 9 rfl rfl rfl rfl rfl rfl<|Zm rfl rfl<|Zm rfl rfl<|Zm rfl rfl<|ZF rfl (zJ (es:=1) rfl rfl U22 (by kernel_rfl) rfl (by first|decide|omega|(simp;done)|(simp;omega)) rfl) ?_;refine ZF V (yO (v:=.string ⟨x.toArray⟩) V U9 V (fun w h=>RdF.part (HpG.x h) (by simpa using hkl) (by omega) (rU hx))) ?_;refine xQ (ι:=Unit) (val:=fun _=>.bool (q x)) (H':=fun _=>Hp (fun _=>False) w_0 [] [] (RdF F (some ⟨b,off,none⟩) (xX l))) .none V  (qA (us:=[]) (vs:=[.string ⟨x.toArray⟩]) (cs:=[]) (args:=[.tmp 15]) hgo V V (fun w hw=>(hC x w).mono fun e w' ⟨e1,e2⟩=>⟨_,e1,(),rfl,HpG.onE hw e2⟩)) (fun _=>?_);refine ZT<|zT V (fun he=>?_) (fun he=>?_)
  ·refine zY<|Z7r 0 1 5 7 8 9 16 V V V V V V V<|Zm V V<|Za V V<|ZT<|zK<|zR<|zV<|zV<|zR<|zV<|zI V V (fun w hw=>?_);exact⟨by rw[idxQ_at ⟨hk,hno⟩ hx he],(Jq hw).ext⟩
  ·refine zG<|zM<|zQ<|Z7r 0 1 5 7 8 9 16 V V V V V V V<|ZF V (yI V V (i64_in _ (by omega) (by omega))) ?_;refine Zm V V<|zU<|yC (ι:={k:Nat // IxQ q l k}) ⟨k+1,by omega,fun j y hj hy=>?_⟩ (by show l.length-(k+1)<l.length-k;omega) (O4 V V V V) (fun w h=>h);rcases Nat.lt_or_ge j k with h1|h1
   ·exact hno j y h1 hy
   ·have:j=k:=by omega
    subst this;rw[hx] at hy;cases hy;exact he
 ·replace hc:=Jp hc;have hke:k=l.length:=by omega
  refine xY<|zN<|zN<|xZ<|zQ<|zY<|zX<|Za V V<|ZT<|zK<|zI V V (fun w hw=>?_);exact⟨by rw[idxQ_none ⟨Km _,fun j y hj hy=>hno j y (by rw[hke];exact hj) hy⟩],(Jq hw).ext⟩
theorem containsB_any (l:List Bs) (A0:Option Addr) (cap0:Nat) (hl:Cp l.length cap0) {F:Nat→Prop}{fv:Value}{q:Bs→Bool}(hq:PrB fv q) (w_0:World) (h:RdF F A0 (xX l) w_0):Calls Tryz.prog 54 #[.slice A0 l.length cap0,fv] w_0 fun e w'=>e=.returned (.bool (l.any q))∧Ext w_0 w':=by
 have hq0:=hq;obtain⟨f,rfl,hgo,hC⟩:=hq0;refine yV (args:=[.slice A0 l.length cap0,.func (.func f) #[] #[]]) Tryz.func54 V 9 V (Jn V)<|Z2 0 1 V V<|zD (H':=Hp (fun _=>False) w_0 [] [] (RdF F A0 (xX l))) (fun u hu=>?_) ?_
 ·subst hu;exact Hp.startT RdF.lies h
 refine zY<|zX<|Za V V<|ZX<|zX<|Zm V V<|Zm V V<|yT .none V  (v:=.int .i64 (rH q l)) (by kernel_rfl) V (fun w hw=>indexB_any l A0 cap0 hl hq w (HpG.x hw)) ?_;refine ZF V (tO V V)<|Za V V<|ZT<|zK<|zI V V (fun w hw=>?_);exact⟨by rw[idxQ_ge],(Jq hw).ext⟩
theorem prb_name:PrB (.func (.func 55) #[] #[]) (fun s=>!yG s):=⟨_,rfl,by kernel_rfl,fun s w_0=>by
 show Calls Tryz.prog 55 #[.string ⟨s.toArray⟩] w_0 fun e w'=>e=.returned (.bool (!yG s))∧Ext w_0 w';refine yV (args:=[.string ⟨s.toArray⟩]) Tryz.func55 V 6 V (Jn V)<|Z1 0 V<|zD (H':=Hp (fun _=>False) w_0 [] [] (fun _=>True)) (fun u hu=>?_) ?_
 ·subst hu;exact Hp.start0
 refine zY<|zX<|Za V V<|ZX<|zX<|Zm V V<|yT .none V  (v:=.bool (yG s)) (by kernel_rfl) V (fun w hw=>rY s w) ?_;refine ZF V (xJ V)<|Za V V<|ZT<|zK<|zI V V (fun w hw=>?_);exact⟨rfl,(Jq hw).ext⟩
 ⟩
theorem any_notB (l:List Bs):(l.any fun x=>!yG x)=!l.all yG:=by
 induction l with
 | nil=>rfl
 | cons x l ih=>simp only[List.any_cons,List.all_cons,Bool.not_and,ih]
theorem pr_rightF (l:List Fn):PrF (.func (.func 53) #[] #[]) l (fun x=>!vO x) (fun _=>True):=⟨_,[],[],rfl,by kernel_rfl,fun _ _ _ _=>trivial,fun x hx F a w_0 hk _=>by
 show Calls Tryz.prog 53 #[.agg (rG x a).toArray] w_0 fun e w'=>e=.returned (.bool (!vO x))∧Ext w_0 w';have hb:∀w,fnsK F w x a→wQ F w x.body a.A2 a.c2:=fun w h=>⟨h.p2,h.h2⟩;unfold vO;refine yV (args:=[.agg (rG x a).toArray]) Tryz.func53 V 20 V (Jn V)<|Z1 0 V<|zD (H':=Hp (fun _=>False) w_0 [] [] (fun u=>fnsK F u x a)) (fun u hu=>?_) ?_
 ·subst hu;exact Hp.startT fnsK.lies hk
 refine zY<|zX<|zC .none V (vY V V) (fun b1=>?_);refine Za V V<|ZX<|zX<|ZF V (Y62x1 V) ?_;refine ZF V (zW 0 V V V U22 V)<|yT .none V  (v:=.bool (x.params.any fun x=>!yG x)) (by kernel_rfl) V (fun w hw=>containsB_any x.params a.A1 a.c1 (HpG.x hw).p1 prb_name w (HpG.x hw).h1) ?_;refine Za V V<|ZX<|Z4r 0 1 2 3 V V V V ?_;rw[any_notB];refine Zm V V<|Zm V V<|zH 8 V (fun g2=>?_) (fun g2=>?_)
 ·refine ZP V<|ZP V<|ZP V<|ZP V<|ZF V (zP V V)<|Zm V V<|ZP V<|ZP V<|ZP V<|ZP V<|ZF V (zP V V)<|Za V V<|ZT<|zK<|zI V V (fun w hw=>?_);refine⟨?_,(Jq hw).ext⟩;congr 2;rw[Jl]
  simp_all
 ·refine ZG V V V (Y62x0 V) ?_;refine ZG V V V (zW 0 V V V U9 V)<|yT (.some V V) V  (v:=.bool (yG x.name)) (by kernel_rfl) V (fun w hw=>rY x.name w) ?_;refine ZG V V V (xJ V)<|ZF V (zL V V)<|Zm V V<|zH 14 V (fun g8=>?_) (fun g8=>?_)
  ·refine ZP V<|ZP V<|ZP V<|ZP V<|ZF V (zP V V)<|Za V V<|ZT<|zK<|zI V V (fun w hw=>?_);refine⟨?_,(Jq hw).ext⟩;congr 2;rw[Jl]
   simp_all
  ·refine ZG V V V (Y62x2 V) ?_;refine ZG V V V (zW 0 V V V U58 V)<|yT (.some V V) V  (v:=.bool (rightSts x.body)) (by kernel_rfl) V (fun w hw=>qH x.body (fun y _=>rightS_any y) F a.A2 a.c2 w (hb w (HpG.x hw))) ?_;refine ZG V V V (xJ V)<|ZF V (zL V V)<|Za V V<|ZT<|zK<|zI V V (fun w hw=>?_);refine⟨?_,(Jq hw).ext⟩;congr 2;rw[Jl]
   simp_all
 ⟩
theorem any_notF (l:List Fn):(!l.any fun x=>!vO x)=wD l:=by
 unfold wD
 induction l with
 | nil=>rfl
 | cons x l ih=>simp only[List.any_cons,List.all_cons,Bool.not_or,Bool.not_not,ih]
set_option maxHeartbeats 1000000 in
theorem right_any (l:List Fn) (F:Nat→Prop) (A:Option Addr) (cap:Nat) (w_0:World) (hk:PgK F w_0 l A cap):Calls Tryz.prog 27 #[.agg [Value.slice A l.length cap].toArray] w_0 fun e w'=>e=.returned (.bool (wD l))∧Ext w_0 w':=by
 obtain⟨hcp,cs,hk⟩:=hk;refine yV (args:=[Value.agg [Value.slice A l.length cap].toArray]) Tryz.func27 V 7 V (Jn V)<|Z1 0 V<|zD (H':=Hp (fun _=>False) w_0 [] [] (fun u=>RdF F A cs u∧FnsV F u l cs)) (fun u hu=>?_) ?_
 ·subst hu;exact Hp.startT (T:=fun F u=>RdF F A cs u∧FnsV F u l cs) ⟨fun hk ⟨a,b⟩=>⟨RdF.lies.foot hk a,FnsV.lies.foot hk b⟩,fun ⟨a,b⟩=>⟨RdF.lies.lt a,FnsV.lies.lt b⟩,fun hF ⟨a,b⟩=>⟨RdF.lies.mono hF a,FnsV.lies.mono hF b⟩⟩ hk
 refine zY<|zX<|zC .none V (vY V V) (fun b1=>?_);refine Za V V<|ZX<|zX<|ZF V (Y32x0 V) ?_;refine ZF V (zW 0 V V V U30 V)<|yT .none V  (v:=.bool (l.any fun x=>!vO x)) (by kernel_rfl) V (fun w hw=>containsF_any l A cap hcp cs (pr_rightF l) w (HpG.x hw) trivial) ?_;refine ZF V (xJ V)<|Za V V<|ZT<|zK<|zI V V (fun w hw=>?_);exact⟨by rw[any_notF],(Jq hw).ext⟩
end Go.Proofs.YtfpkpnkdnammnaaGreatDoor
