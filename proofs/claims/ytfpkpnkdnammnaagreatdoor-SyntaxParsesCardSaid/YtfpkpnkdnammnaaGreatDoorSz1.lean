/- Right. -/
import Derived.Test.YtfpkpnkdnammnaaGreatDoorSyZ
import Derived.Test.YtfpkpnkdnammnaaGreatDoorSyV
namespace Go.Proofs.YtfpkpnkdnammnaaGreatDoor
open Go.RowKit
theorem vC {k:Nat}{s:Bs}{es:List Ex}{b c:List St}{x:St}(h:x∈b∨x∈c):SizeOf.sizeOf x<SizeOf.sizeOf (St.mk k s es b c):=by
 rcases h with h|h
 ·have:=List.sizeOf_lt_of_mem h;simp only[St.mk.sizeOf_spec];omega
 ·have:=List.sizeOf_lt_of_mem h;simp only[St.mk.sizeOf_spec];omega
theorem rightS_all:∀(N:Nat) (x:St),SizeOf.sizeOf x<N→RS x
 | 0,_,h=>absurd h (by omega)
 | N+1,.mk k s es b c,h=>rightS_step k s es b c (fun x hx=>rightS_all N x (by have:=vC (k:=k) (s:=s) (es:=es) (c:=c) (.inl hx);omega)) (fun x hx=>rightS_all N x (by have:=vC (k:=k) (s:=s) (es:=es) (b:=b) (.inr hx);omega))
theorem rightS_any (x:St):RS x:=rightS_all _ x (Nat.lt_succ_self _)
/-! ### Right -/
def PrB (fv:Value) (q:Bs→Bool):Prop:=∃f,fv=.func (.func f) #[] #[]∧goes Tryz.prog f=true∧∀s w,Calls Tryz.prog f #[.string ⟨s.toArray⟩] w fun e w'=>e=.returned (.bool (q s))∧Ext w w'
set_option maxRecDepth 100000 in
theorem indexB_any (l:List Bs) (A0:Option Addr) (cap0:Nat) (hl:Cp l.length cap0) {F:Nat→Prop}{fv:Value}{q:Bs→Bool}(hq:PrB fv q) (w_0:World) (h:RdF F A0 (xG l) w_0):Calls Tryz.prog 91 #[.slice A0 l.length cap0,fv] w_0 fun e w'=>e=.returned (.int .i64 (tU q l))∧Ext w_0 w':=by
 have hlt:=hl.lt
 have hA:0<l.length→∃b off,A0=some ⟨b,off,none⟩:=fun h0=>by
  obtain⟨b,off,e,_⟩:=h (by simpa using h0);exact⟨b,off,e⟩
 obtain⟨f,rfl,hgo,hC⟩:=hq;refine zC (args:=[.slice A0 l.length cap0,.func (.func f) #[] #[]]) Tryz.func91 V 19 V (Nat.le_of_ble_eq_true V)<|Z2 0 1 V V<|zI (H':=Hp (fun _=>False) w_0 [] [] (RdF F A0 (xG l))) (fun u hu=>?_) ?_
 ·subst hu;exact Hp.startT RdF.lies h
 refine zY<|zX<|Za V V<|ZX<|zY<|zX<|Zm V V<|ZF V (yL V U22)<|Zm V V<|ZT<|zB<|xW (ι:={k:Nat // IxQ q l k}) (fun k=>[(0,.slice A0 l.length cap0),(1,.func (.func f) #[] #[]),(7,.int .i64 l.length),(8,.int .i64 k.1)]) (fun _=>Hp (fun _=>False) w_0 [] [] (RdF F A0 (xG l))) (fun k=>l.length-k.1) ⟨0,Nat.zero_le _,fun _ _ h=>absurd h (by omega)⟩ ?_ ?_ (fun k=>?_)
 ·exact .cons V<|.cons V<|.cons V<|.cons V<|.nil
 ·exact fun w h=>h
 obtain⟨k,hk,hno⟩:=k;dsimp only;refine zY<|zX<|ZF V (xM V V)<|ZX<|zQ V (fun hc=>?_) (fun hc=>?_)
 ·replace hc:=of_decide_eq_true hc;obtain⟨b,off,rfl⟩:=hA (by omega);have hkl:k<l.length:=by omega
  obtain⟨x,hx⟩:∃x,l[k]? = some x:=⟨l[k],List.getElem?_eq_getElem hkl⟩;refine zJ<|zR<|zY<|zB<|zY<|zX<|Zm V V<|Za V V<|ZX<|Z6r 0 1 5 7 8 9 V V V V V V<|Zm V V<|Zm V V<|Zm V V ?_;(refine ZF rfl (zL (es:=1) rfl rfl U22 (by kernel_rfl) rfl ?_ rfl) ?_;(· first|decide|omega|(simp;done)|(simp;omega));skip);refine ZF V (yP (v:=.string ⟨x.toArray⟩) V U9 V (fun w h=>RdF.part (HpG.x h) (by simpa using hkl) (by omega) (uS hx))) ?_;refine xY (ι:=Unit) (val:=fun _=>.bool (q x)) (H':=fun _=>Hp (fun _=>False) w_0 [] [] (RdF F (some ⟨b,off,none⟩) (xG l))) .none V  (sX (us:=[]) (vs:=[.string ⟨x.toArray⟩]) (cs:=[]) (args:=[.tmp 15]) hgo V V (fun w hw=>(hC x w).mono fun e w' ⟨e1,e2⟩=>⟨_,e1,(),rfl,HpG.onE hw e2⟩)) (fun _=>?_);refine ZT<|zQ V (fun he=>?_) (fun he=>?_)
  ·refine zY<|Z7r 0 1 5 7 8 9 16 V V V V V V V<|Zm V V<|Za V V<|ZT<|zO<|zS<|zV<|zV<|zS<|zV<|zK V V (fun w hw=>?_);exact⟨by rw[idxQ_at ⟨hk,hno⟩ hx he],(HpG.keep hw).ext⟩
  ·refine zJ<|zG<|zR<|Z7r 0 1 5 7 8 9 16 V V V V V V V ?_;(refine ZF rfl (yG rfl rfl (i64_in _ ?_ ?_)) ?_;(· omega);(· omega);skip);refine Zm V V<|zN<|yH (ι:={k:Nat // IxQ q l k}) ⟨k+1,by omega,fun j y hj hy=>?_⟩ (by show l.length-(k+1)<l.length-k;omega) (O4 V V V V) (fun w h=>h);rcases Nat.lt_or_ge j k with h1|h1
   ·exact hno j y h1 hy
   ·have:j=k:=by omega
    subst this;rw[hx] at hy;cases hy;exact he
 ·replace hc:=of_decide_eq_false hc;have hke:k=l.length:=by omega
  refine yC<|zP<|zP<|yD<|zR<|zY<|zX<|Za V V<|ZT<|zO<|zK V V (fun w hw=>?_);exact⟨by rw[idxQ_none ⟨Nat.le_refl _,fun j y hj hy=>hno j y (by rw[hke];exact hj) hy⟩],(HpG.keep hw).ext⟩
set_option maxRecDepth 100000 in
theorem containsB_any (l:List Bs) (A0:Option Addr) (cap0:Nat) (hl:Cp l.length cap0) {F:Nat→Prop}{fv:Value}{q:Bs→Bool}(hq:PrB fv q) (w_0:World) (h:RdF F A0 (xG l) w_0):Calls Tryz.prog 54 #[.slice A0 l.length cap0,fv] w_0 fun e w'=>e=.returned (.bool (l.any q))∧Ext w_0 w':=by
 have hq0:=hq;obtain⟨f,rfl,hgo,hC⟩:=hq0;refine zC (args:=[.slice A0 l.length cap0,.func (.func f) #[] #[]]) Tryz.func54 V 9 V (Nat.le_of_ble_eq_true V)<|Z2 0 1 V V<|zI (H':=Hp (fun _=>False) w_0 [] [] (RdF F A0 (xG l))) (fun u hu=>?_) ?_
 ·subst hu;exact Hp.startT RdF.lies h
 refine zY<|zX<|Za V V<|ZX<|zX<|Zm V V<|Zm V V<|yS .none V  (v:=.int .i64 (tU q l)) (by kernel_rfl) V (fun w hw=>indexB_any l A0 cap0 hl hq w (HpG.x hw)) ?_;refine ZF V (uK V V)<|Za V V<|ZT<|zO<|zK V V (fun w hw=>?_);exact⟨by rw[idxQ_ge],(HpG.keep hw).ext⟩
set_option maxRecDepth 100000 in
theorem prb_name:PrB (.func (.func 55) #[] #[]) (fun s=>!xK s):=⟨_,rfl,by kernel_rfl,fun s w_0=>by
 show Calls Tryz.prog 55 #[.string ⟨s.toArray⟩] w_0 fun e w'=>e=.returned (.bool (!xK s))∧Ext w_0 w';refine zC (args:=[.string ⟨s.toArray⟩]) Tryz.func55 V 6 V (Nat.le_of_ble_eq_true V)<|Z1 0 V<|zI (H':=Hp (fun _=>False) w_0 [] [] (fun _=>True)) (fun u hu=>?_) ?_
 ·subst hu;exact Hp.start0
 refine zY<|zX<|Za V V<|ZX<|zX<|Zm V V<|yS .none V  (v:=.bool (xK s)) (by kernel_rfl) V (fun w hw=>uF s w) ?_;refine ZF V (xP V)<|Za V V<|ZT<|zO<|zK V V (fun w hw=>?_);exact⟨rfl,(HpG.keep hw).ext⟩
 ⟩
theorem any_notB (l:List Bs):(l.any fun x=>!xK x)=!l.all xK:=by
 induction l with
 | nil=>rfl
 | cons x l ih=>simp only[List.any_cons,List.all_cons,Bool.not_and,ih]
set_option maxRecDepth 100000 in
theorem pr_rightF (l:List Fn):PrF (.func (.func 53) #[] #[]) l (fun x=>!rightFn x) (fun _=>True):=⟨_,[],[],rfl,by kernel_rfl,fun _ _ _ _=>trivial,fun x hx F a w_0 hk _=>by
 show Calls Tryz.prog 53 #[.agg (fnOf x a).toArray] w_0 fun e w'=>e=.returned (.bool (!rightFn x))∧Ext w_0 w';have hb:∀w,fnsK F w x a→xJ F w x.body a.A2 a.c2:=fun w h=>⟨h.p2,h.h2⟩;unfold rightFn;refine zC (args:=[.agg (fnOf x a).toArray]) Tryz.func53 V 20 V (Nat.le_of_ble_eq_true V)<|Z1 0 V<|zI (H':=Hp (fun _=>False) w_0 [] [] (fun u=>fnsK F u x a)) (fun u hu=>?_) ?_
 ·subst hu;exact Hp.startT fnsK.lies hk
 refine zY<|zX<|zA .none V (wQ V V) (fun b1=>?_);refine Za V V<|ZX<|zX<|ZF V (Y62x1 V) ?_;refine ZF V (zW 0 V V V U22 V)<|yS .none V  (v:=.bool (x.params.any fun x=>!xK x)) (by kernel_rfl) V (fun w hw=>containsB_any x.params a.A1 a.c1 (HpG.x hw).p1 prb_name w (HpG.x hw).h1) ?_;refine Za V V<|ZX<|Z4r 0 1 2 3 V V V V ?_;rw[any_notB];refine Zm V V<|Zm V V<|zH 8 V (fun g2=>?_) (fun g2=>?_)
 ·refine ZP V<|ZP V<|ZP V<|ZP V<|ZF V (zT V V)<|Zm V V<|ZP V<|ZP V<|ZP V<|ZP V<|ZF V (zT V V)<|Za V V<|ZT<|zO<|zK V V (fun w hw=>?_);refine⟨?_,(HpG.keep hw).ext⟩;congr 2;rw[Bool.eq_iff_iff]
  simp_all
 ·refine ZG V V V (Y62x0 V) ?_;refine ZG V V V (zW 0 V V V U9 V)<|yS (.some V V) V  (v:=.bool (xK x.name)) (by kernel_rfl) V (fun w hw=>uF x.name w) ?_;refine ZG V V V (xP V)<|ZF V (zM V V)<|Zm V V<|zH 14 V (fun g8=>?_) (fun g8=>?_)
  ·refine ZP V<|ZP V<|ZP V<|ZP V<|ZF V (zT V V)<|Za V V<|ZT<|zO<|zK V V (fun w hw=>?_);refine⟨?_,(HpG.keep hw).ext⟩;congr 2;rw[Bool.eq_iff_iff]
   simp_all
  ·refine ZG V V V (Y62x2 V) ?_;refine ZG V V V (zW 0 V V V U58 V)<|yS (.some V V) V  (v:=.bool (rightSts x.body)) (by kernel_rfl) V (fun w hw=>tA x.body (fun y _=>rightS_any y) F a.A2 a.c2 w (hb w (HpG.x hw))) ?_;refine ZG V V V (xP V)<|ZF V (zM V V)<|Za V V<|ZT<|zO<|zK V V (fun w hw=>?_);refine⟨?_,(HpG.keep hw).ext⟩;congr 2;rw[Bool.eq_iff_iff]
   simp_all
 ⟩
theorem any_notF (l:List Fn):(!l.any fun x=>!rightFn x)=uC l:=by
 unfold uC
 induction l with
 | nil=>rfl
 | cons x l ih=>simp only[List.any_cons,List.all_cons,Bool.not_or,Bool.not_not,ih]
set_option maxHeartbeats 1000000 in
set_option maxRecDepth 100000 in
theorem right_any (l:List Fn) (F:Nat→Prop) (A:Option Addr) (cap:Nat) (w_0:World) (hk:PgK F w_0 l A cap):Calls Tryz.prog 27 #[.agg [Value.slice A l.length cap].toArray] w_0 fun e w'=>e=.returned (.bool (uC l))∧Ext w_0 w':=by
 obtain⟨hcp,cs,hk⟩:=hk;refine zC (args:=[Value.agg [Value.slice A l.length cap].toArray]) Tryz.func27 V 7 V (Nat.le_of_ble_eq_true V)<|Z1 0 V<|zI (H':=Hp (fun _=>False) w_0 [] [] (fun u=>RdF F A cs u∧FnsV F u l cs)) (fun u hu=>?_) ?_
 ·subst hu;exact Hp.startT (T:=fun F u=>RdF F A cs u∧FnsV F u l cs) ⟨fun hk ⟨a,b⟩=>⟨RdF.lies.foot hk a,FnsV.lies.foot hk b⟩,fun ⟨a,b⟩=>⟨RdF.lies.lt a,FnsV.lies.lt b⟩,fun hF ⟨a,b⟩=>⟨RdF.lies.mono hF a,FnsV.lies.mono hF b⟩⟩ hk
 refine zY<|zX<|zA .none V (wQ V V) (fun b1=>?_);refine Za V V<|ZX<|zX<|ZF V (Y32x0 V) ?_;refine ZF V (zW 0 V V V U30 V)<|yS .none V  (v:=.bool (l.any fun x=>!rightFn x)) (by kernel_rfl) V (fun w hw=>containsF_any l A cap hcp cs (pr_rightF l) w (HpG.x hw) trivial) ?_;refine ZF V (xP V)<|Za V V<|ZT<|zO<|zK V V (fun w hw=>?_);exact⟨by rw[any_notF],(HpG.keep hw).ext⟩
end Go.Proofs.YtfpkpnkdnammnaaGreatDoor
