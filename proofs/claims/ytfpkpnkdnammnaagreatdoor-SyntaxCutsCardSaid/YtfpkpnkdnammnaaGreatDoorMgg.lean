import Derived.Test.YtfpkpnkdnammnaaGreatDoorSxM
import Derived.Test.YtfpkpnkdnammnaaGreatDoorTree
import Derived.Test.YtfpkpnkdnammnaaGreatDoorMge
import Derived.Test.YtfpkpnkdnammnaaGreatDoorSyShelf
import Derived.Test.YtfpkpnkdnammnaaGreatDoorTreB
import Derived.WideLaws
set_option maxRecDepth 100000
namespace Go.Proofs.YtfpkpnkdnammnaaGreatDoor
open Go.RowKit
theorem digit_any (r:Nat) (w_0:World):Calls Tryz.prog 96 #[.int .i32 r] w_0 fun e w'=>e=.returned (.bool (vB r))∧Ext w_0 w':=by
 refine yV (args:=[.int .i32 r]) Tryz.func96 V 9 V (Jn V)<|Z1 0 V<|zD (H':=Hp (fun _=>False) w_0 [] [] (fun _=>True)) (fun u hu=>?_) ?_
 ·subst hu;exact Hp.start0
 refine zY<|zX<|Za V V<|ZX<|zX<|Zm V V<|ZF V (tO V V)<|Zm V V<|zH 5 V (fun hb=>?_) (fun hb=>?_)
 ·replace hb:=Jo hb;refine ZG V V V (zO V)<|ZG V V V (yf_leq V V)<|ZF V (zP V V)<|Za V V<|ZT<|zK<|zI V V (fun w hw=>?_);exact⟨by congr 2;rw[Jl];simp[vB];try omega,(Jq hw).ext⟩
 ·replace hb:=Jp hb;refine ZP V<|ZP V<|ZF V (zL V V)<|Za V V<|ZT<|zK<|zI V V (fun w hw=>?_);exact⟨by congr 2;rw[Jl];simp[vB];try omega,(Jq hw).ext⟩
theorem letter_any (r:Nat) (w_0:World):Calls Tryz.prog 94 #[.int .i32 r] w_0 fun e w'=>e=.returned (.bool (sP r))∧Ext w_0 w':=by
 refine yV (args:=[.int .i32 r]) Tryz.func94 V 9 V (Jn V)<|Z1 0 V<|zD (H':=Hp (fun _=>False) w_0 [] [] (fun _=>True)) (fun u hu=>?_) ?_
 ·subst hu;exact Hp.start0
 refine zY<|zX<|Za V V<|ZX<|zX<|Zm V V<|ZF V (tO V V)<|Zm V V<|zH 5 V (fun hb=>?_) (fun hb=>?_)
 ·replace hb:=Jo hb;refine ZG V V V (zO V)<|ZG V V V (yf_leq V V)<|ZF V (zP V V)<|Za V V<|ZT<|zK<|zI V V (fun w hw=>?_);exact⟨by congr 2;rw[Jl];simp[sP];try omega,(Jq hw).ext⟩
 ·replace hb:=Jp hb;refine ZP V<|ZP V<|ZF V (zL V V)<|Za V V<|ZT<|zK<|zI V V (fun w hw=>?_);exact⟨by congr 2;rw[Jl];simp[sP];try omega,(Jq hw).ext⟩
theorem blank_any (r:Nat) (w_0:World):Calls Tryz.prog 82 #[.int .i32 r] w_0 fun e w'=>e=.returned (.bool (qM r))∧Ext w_0 w':=by
 refine yV (args:=[.int .i32 r]) Tryz.func82 V 17 V (Jn V)<|Z1 0 V<|zD (H':=Hp (fun _=>False) w_0 [] [] (fun _=>True)) (fun u hu=>?_) ?_
 ·subst hu;exact Hp.start0
 refine zY<|zX<|Za V V<|ZX<|zX<|Zm V V<|ZF V (yS V V)<|Zm V V<|zH 5 V (fun hb=>?_) (fun hb=>?_)
 ·replace hb:=Jw hb;refine ZP V<|ZP V<|ZF V (zP V V)<|Zm V V<|ZP V<|ZP V<|ZF V (zP V V)<|Zm V V<|ZP V<|ZP V<|ZF V (zP V V)<|Za V V<|ZT<|zK<|zI V V (fun w hw=>?_);exact⟨by congr 2;rw[Jl];simp[qM];try omega,(Jq hw).ext⟩
 ·replace hb:=yP hb;refine ZG V V V (zO V)<|ZG V V V (yS V V)<|ZF V (zL V V)<|Zm V V<|zH 9 V (fun hb=>?_) (fun hb=>?_)
  ·replace hb:=Jw hb;refine ZP V<|ZP V<|ZF V (zP V V)<|Zm V V<|ZP V<|ZP V<|ZF V (zP V V)<|Za V V<|ZT<|zK<|zI V V (fun w hw=>?_);exact⟨by congr 2;rw[Jl];simp[qM];try omega,(Jq hw).ext⟩
  ·replace hb:=yP hb;refine ZG V V V (zO V)<|ZG V V V (yS V V)<|ZF V (zL V V)<|Zm V V<|zH 13 V (fun hb=>?_) (fun hb=>?_)
   ·replace hb:=Jw hb;refine ZP V<|ZP V<|ZF V (zP V V)<|Za V V<|ZT<|zK<|zI V V (fun w hw=>?_);exact⟨by congr 2;rw[Jl];simp[qM];try omega,(Jq hw).ext⟩
   ·replace hb:=yP hb;refine ZG V V V (zO V)<|ZG V V V (yS V V)<|ZF V (zL V V)<|Za V V<|ZT<|zK<|zI V V (fun w hw=>?_);exact⟨by congr 2;rw[Jl];simp[qM];try omega,(Jq hw).ext⟩
theorem wordc_any (r:Nat) (w_0:World):Calls Tryz.prog 124 #[.int .i32 r] w_0 fun e w'=>e=.returned (.bool (qO r))∧Ext w_0 w':=by
 refine yV (args:=[.int .i32 r]) Tryz.func124 V 9 V (Jn V)<|Z1 0 V<|zD (H':=Hp (fun _=>False) w_0 [] [] (fun _=>True)) (fun u hu=>?_) ?_
 ·subst hu;exact Hp.start0
 refine zY<|zX<|Za V V<|ZX<|zX<|Zm V V<|yT .none V  (v:=.bool (sP r)) (by kernel_rfl) V (fun w hw=>letter_any r w) ?_;refine Zm V V<|zH 5 V (fun hb=>?_) (fun hb=>?_)
 ·refine ZP V<|ZP V<|ZF V (zP V V)<|Za V V<|ZT<|zK<|zI V V (fun w hw=>?_);exact⟨by congr 2;rw[Jl];simp_all [qO],(Jq hw).ext⟩
 ·refine ZG V V V (zO V)<|yT (.some V V) V  (v:=.bool (vB r)) (by kernel_rfl) V (fun w hw=>digit_any r w) ?_;refine ZF V (zL V V)<|Za V V<|ZT<|zK<|zI V V (fun w hw=>?_);exact⟨by congr 2;rw[Jl];simp_all [qO],(Jq hw).ext⟩
theorem wordd_any (r:Nat) (w_0:World):Calls Tryz.prog 95 #[.int .i32 r] w_0 fun e w'=>e=.returned (.bool (qO r))∧Ext w_0 w':=by
 refine yV (args:=[.int .i32 r]) Tryz.func95 V 9 V (Jn V)<|Z1 0 V<|zD (H':=Hp (fun _=>False) w_0 [] [] (fun _=>True)) (fun u hu=>?_) ?_
 ·subst hu;exact Hp.start0
 refine zY<|zX<|Za V V<|ZX<|zX<|Zm V V<|yT .none V  (v:=.bool (sP r)) (by kernel_rfl) V (fun w hw=>letter_any r w) ?_;refine Zm V V<|zH 5 V (fun hb=>?_) (fun hb=>?_)
 ·refine ZP V<|ZP V<|ZF V (zP V V)<|Za V V<|ZT<|zK<|zI V V (fun w hw=>?_);exact⟨by congr 2;rw[Jl];simp_all [qO],(Jq hw).ext⟩
 ·refine ZG V V V (zO V)<|yT (.some V V) V  (v:=.bool (vB r)) (by kernel_rfl) V (fun w hw=>digit_any r w) ?_;refine ZF V (zL V V)<|Za V V<|ZT<|zK<|zI V V (fun w hw=>?_);exact⟨by congr 2;rw[Jl];simp_all [qO],(Jq hw).ext⟩
abbrev rnV (r:Nat):Value:=.int .i32 r
theorem digit_fn:FnOk Tryz.prog (.func (.func 96) #[] #[]) rnV vB:=⟨_,rfl,(by kernel_rfl),fun r _ w=>digit_any r w⟩
theorem blank_fn:FnOk Tryz.prog (.func (.func 82) #[] #[]) rnV qM:=⟨_,rfl,(by kernel_rfl),fun r _ w=>blank_any r w⟩
theorem wordc_fn:FnOk Tryz.prog (.func (.func 124) #[] #[]) rnV qO:=⟨_,rfl,(by kernel_rfl),fun r _ w=>wordc_any r w⟩
theorem wordd_fn:FnOk Tryz.prog (.func (.func 95) #[] #[]) rnV qO:=⟨_,rfl,(by kernel_rfl),fun r _ w=>wordd_any r w⟩
theorem spanL_step {q:Nat→Bool}{l:Bs}{p:Nat}{c:UInt8}(hc:l[p]? = some c) (hp:∀j d,j<p→l[j]? = some d→q d.toNat=true) (hq:q c.toNat=false):spanL (fun c=>q c.toNat) l=p:=by
 induction p generalizing l with
 | zero =>
  cases l with
  | nil=>cases hc
  | cons x l=>cases hc;simp[spanL,List.takeWhile,hq]
 | succ p ih =>
  cases l with
  | nil=>cases hc
  | cons x l =>
   have h0:=hp 0 x (by omega) rfl;have:=ih (l:=l) hc (fun j d hj hd=>hp (j+1) d (by omega) hd);simp only[spanL] at this ⊢;simp[List.takeWhile,h0,this]
theorem spanL_all {q:Nat→Bool}{l:Bs}(hp:∀(j:Nat) (d:UInt8),l[j]? = some d→q d.toNat=true):spanL (fun c=>q c.toNat) l=l.length:=by
 induction l with
 | nil=>rfl
 | cons x l ih =>
  have h0:=hp 0 x rfl;have:=ih (fun j d hd=>hp (j+1) d hd);simp only[spanL] at this ⊢;simp[List.takeWhile,h0,this]
structure SpI (q:Nat→Bool) (l:Bs) (p:Nat):Prop where
 le:p≤l.length
 all:∀j d,j<p→l[j]? = some d→q d.toNat=true
theorem span_any (fv:Value) (q:Nat→Bool) (hf:FnOk Tryz.prog fv rnV q) (hq:∀r,128≤r→q r=false) (l:Bs) (w_0:World):Calls Tryz.prog 81 #[.string ⟨l.toArray⟩,fv] w_0 fun e w'=>e=.returned (.int .i64 (spanL (fun c=>q c.toNat) l))∧Ext w_0 w':=by
 refine yV (args:=[.string ⟨l.toArray⟩,fv]) Tryz.func81 V 20 V (Jn V)<|Z2 0 1 V V<|zD (H':=Hp (fun _=>False) w_0 [] [] (fun _=>True)) (fun u hu=>?_) ?_
 ·subst hu;exact Hp.start0
 refine zY<|zX<|Za V V<|ZX<|zY<|zX<|Zm V V<|wl_range .none V  V Tryz.underlying9 (fun bi=>?_);refine ZT<|yY<|xV (ι:={p:Nat // SpI q l p}) (fun p=>[(0,.string ⟨l.toArray⟩),(1,fv),(8,.pointer (some ⟨bi,0,none⟩))]) (fun p=>Hp (fun _=>False) w_0 [(bi,.stringIter ⟨l.toArray⟩ p.1)] [] (fun _=>True)) (fun p=>l.length-p.1) ⟨0,Kl _,fun _ _ h=>absurd h (by omega)⟩ ?_ ?_ (fun p=>?_)
 ·exact .cons V<|.cons V<|.cons V<|.nil
 ·exact fun w h=>h
 obtain⟨p,hp,hall⟩:=p;dsimp only;refine zY<|zX<|wl_next 0 .none V  V V<|ZF V (xN V (nextV0 ⟨l.toArray⟩ p))<|ZX ?_;skip;refine zT V (fun hlt=>?_) (fun hlt=>?_)
 ·have hlt:=Jo hlt;have hlt':p<l.length:=by simpa [ByteArray.size] using hlt
  obtain⟨c,hc⟩:∃c,l[p]? = some c:=⟨l[p],Jt hlt'⟩;refine zG<|zQ<|yY<|zY<|zX<|ZF V (xN V (nextV1 hlt))<|ZF V (xN V (nextV2 hlt))<|Za V V<|Za V V<|ZX<|Z7r 0 1 5 6 8 9 10 V V V V V V V<|Zm V V<|Zm V V<|wl_callQ .none V  hf V V (decode_le _ _)<|ZF V (xJ V)<|ZT<|zT V (fun hbad=>?_) (fun hbad=>?_)
  ·have hbad:q (Utf8.decode ⟨l.toArray⟩ p).1=false:=by simpa using hbad
   have hcq:q c.toNat=false:=by
    rcases Nat.lt_or_ge c.toNat 128 with h|h
    ·rw[decode_list hc h] at hbad;exact hbad
    ·exact hq _ h
   refine zY<|Z8r 0 1 5 6 8 9 10 16 V V V V V V V V<|Zm V V<|Za V V<|ZT<|zK<|zR<|zV<|zR<|zV<|zI V V (fun w hw=>?_);exact⟨by rw[spanL_step hc hall hcq],(Jq hw).ext⟩
  ·have hgood:q (Utf8.decode ⟨l.toArray⟩ p).1=true:=by simpa using hbad
   have ha:c.toNat<128:=Nat.lt_of_not_le fun h=>by rw[hq _ (decode_big hc h)] at hgood;cases hgood
   have hcq:q c.toNat=true:=by rw[decode_list hc ha] at hgood;exact hgood
   have hnx:nextP ⟨l.toArray⟩ p=p+1:=by unfold nextP;rw[Kp hlt,decode_list hc ha]
   refine zG<|zM<|yC (ι:={p:Nat // SpI q l p}) ⟨p+1,by omega,fun j d hj hd=>?_⟩ (by show l.length-(p+1)<l.length-p;omega) (O3 V V V) (fun w h=>by rw[hnx] at h;exact h);rcases Nat.lt_or_ge j p with h|h
   ·exact hall j d h hd
   ·have:j=p:=by omega
    subst this;rw[hc] at hd;cases hd;exact hcq
 ·have hge:¬p<l.length:=fun h=>absurd hlt (by simp[ByteArray.size,h]);have hpe:p=l.length:=by omega
  refine xY<|zN<|zN<|xZ<|zQ<|zY<|zX<|Zm V V<|ZF V (vL V U9)<|Za V V<|ZT<|zK<|zI V V (fun w hw=>?_);exact⟨by rw[spanL_all (fun j d hd=>hall j d (by rw[hpe];exact (Jm.1 hd).1) hd)],(Jq hw).ext⟩
end Go.Proofs.YtfpkpnkdnammnaaGreatDoor
namespace Go.Proofs.YtfpkpnkdnammnaaGreatDoor
open Go.RowKit
section
variable {P:Program}{n:Nat}{m:List (Nat×Value)}{ty:TypeId}{H:World→Prop}
def isE:Value→Bool
 | .nilIface=>false
 | _=>true
theorem yf_neqNil {x:Operand}{t t':TypeId}{v:Value}(hx:ev m x=some v) (hv:v=.nilIface∨∃u p,v=.iface u p) (ht:P.underlying t=some (.interface (P.methodsAt t))):YF P (.binOp .neq t x (.const .nilIface) t') ty n m H (.bool (isE v)):=fun a w d pos af g hs hw=>by
 have e0:a.eval (.const .nilIface)=.nilIface:=rfl;rcases hv with rfl|⟨u,p,rfl⟩
 ·have:=run_neq_nil_nil (P:=P) w t ht;have e:eqGuard .neq t x (.const .nilIface) .nilIface .nilIface=pure ():=by cases x<;>rfl
  simp[Yl,execOp,hs.ev hx,e0,this,isE,e]
 ·have:=run_neq_held_nil (P:=P) w t u p ht;simp[Yl,execOp,hs.ev hx,e0,this,isE,eqGuard_at_iface]
end
theorem rU {l:List Bs}{i:Nat}{s:Bs}(h:l[i]? = some s):(xX l)[i]? = some (.string ⟨s.toArray⟩):=by simp[xX,h]
structure IxI (l:List Bs) (s:Bs) (k:Nat):Prop where
 le:k≤l.length
 no:∀j x,j<k→l[j]? = some x→x≠s
def idxS:List Bs→Bs→Int
 | [],_=>-1
 | x::r,s=>if x=s then 0 else if idxS r s<0 then -1 else idxS r s+1
theorem idx_at {l:List Bs}{s:Bs}{k:Nat}(h:IxI l s k) (hk:l[k]? = some s):idxS l s=k:=by
 induction k generalizing l with
 | zero =>
  cases l with
  | nil=>cases hk
  | cons x l=>cases hk;simp[idxS]
 | succ k ih =>
  cases l with
  | nil=>cases hk
  | cons x l =>
   have h0:=h.no 0 x (by omega) rfl;have:=ih (l:=l) ⟨by have:=h.le;simp at this;exact this,fun j y hj hy=>h.no (j+1) y (by omega) hy⟩ hk;unfold idxS;rw[Ko h0,this,Ko (by omega)];simp
theorem idx_none {l:List Bs}{s:Bs}(h:IxI l s l.length):idxS l s=-1:=by
 induction l with
 | nil=>rfl
 | cons x l ih =>
  have h0:=h.no 0 x (by simp) rfl;have:=ih ⟨Km _,fun j y hj hy=>h.no (j+1) y (by simpa using hj) hy⟩;unfold idxS;rw[Ko h0,this];rfl
theorem index_any (l:List Bs) (hl:l.length≤9223372036854775807) (s:Bs) (A:Option Addr) (cap:Nat) {F:Nat→Prop}(w_0:World) (h:RdF F A (xX l) w_0):Calls Tryz.prog 129 #[.slice A l.length cap,.string ⟨s.toArray⟩] w_0 fun e w'=>e=.returned (.int .i64 (idxS l s))∧Ext w_0 w':=by
 have hA:0<l.length→∃b off,A=some ⟨b,off,none⟩:=fun h0=>by
  obtain⟨b,off,e,_⟩:=h (by simpa using h0);exact⟨b,off,e⟩
 refine yV (args:=[.slice A l.length cap,.string ⟨s.toArray⟩]) Tryz.func129 V 19 V (Jn V)<|Z2 0 1 V V<|zD (H':=Hp (fun _=>False) w_0 [] [] (RdF F A (xX l))) (fun u hu=>?_) ?_
 ·subst hu;exact Hp.startT RdF.lies h
 refine zY<|zX<|Za V V<|ZX<|zY<|zX<|Zm V V<|ZF V (yM V U22)<|Zm V V<|ZT<|yY<|xV (ι:={k:Nat // IxI l s k}) (fun k=>[(0,.slice A l.length cap),(1,.string ⟨s.toArray⟩),(7,.int .i64 l.length),(8,.int .i64 k.1)]) (fun _=>Hp (fun _=>False) w_0 [] [] (RdF F A (xX l))) (fun k=>l.length-k.1) ⟨0,Kl _,fun _ _ h=>absurd h (by omega)⟩ ?_ ?_ (fun k=>?_)
 ·exact .cons V<|.cons V<|.cons V<|.cons V<|.nil
 ·exact fun w h=>h
 obtain⟨k,hk,hno⟩:=k;dsimp only;refine zY<|zX<|ZF V (xS V V)<|ZX<|zT V (fun hc=>?_) (fun hc=>?_)
 ·replace hc:=Jo hc;obtain⟨b,off,rfl⟩:=hA (by omega);have hkl:k<l.length:=by omega
  obtain⟨x,hx⟩:∃x,l[k]? = some x:=⟨l[k],Jt hkl⟩;refine zG<|zQ<|zY<|yY<|zY<|zX<|Zm rfl rfl<|Za rfl rfl<|ZX<|Z6r 0 1 5 7 8 9 rfl rfl rfl rfl rfl rfl<|Zm rfl rfl<|Zm rfl rfl<|Zm rfl rfl<|ZF rfl (zJ (es:=1) rfl rfl U22 (by kernel_rfl) rfl (by first|decide|omega|(simp;done)|(simp;omega)) rfl) ?_;refine ZF V (yO (v:=.string ⟨x.toArray⟩) V U9 V (fun w h=>RdF.part (HpG.x h) (by simpa using hkl) (by omega) (rU hx))) ?_;refine ZF V (xU V V U9)<|ZT<|zT V (fun he=>?_) (fun he=>?_)
  ·have he:=Jo he;subst he;refine zY<|Z7r 0 1 5 7 8 9 16 V V V V V V V<|Zm V V<|Za V V<|ZT<|zK<|zR<|zV<|zV<|zR<|zV<|zI V V (fun w hw=>?_);exact⟨by rw[idx_at ⟨hk,hno⟩ hx],(Jq hw).ext⟩
  ·have he:=Jp he;refine zG<|zM<|zQ<|Z7r 0 1 5 7 8 9 16 V V V V V V V<|ZF V (yI V V (i64_in _ (by omega) (by omega))) ?_;refine Zm V V<|zU<|yC (ι:={k:Nat // IxI l s k}) ⟨k+1,by omega,fun j y hj hy=>?_⟩ (by show l.length-(k+1)<l.length-k;omega) (O4 V V V V) (fun w h=>h);rcases Nat.lt_or_ge j k with h1|h1
   ·exact hno j y h1 hy
   ·have:j=k:=by omega
    subst this;rw[hx] at hy;cases hy;exact fun e=>he e.symm
 ·replace hc:=Jp hc;have hke:k=l.length:=by omega
  refine xY<|zN<|zN<|xZ<|zQ<|zY<|zX<|Za V V<|ZT<|zK<|zI V V (fun w hw=>?_);exact⟨by rw[idx_none ⟨Km _,fun j y hj hy=>hno j y (by rw[hke];exact hj) hy⟩],(Jq hw).ext⟩
theorem idx_ge (l:List Bs) (s:Bs):decide (0≤idxS l s)=decide (s∈l):=by
 rw[decide_eq_decide]
 induction l with
 | nil=>simp[idxS]
 | cons x l ih =>
  unfold idxS
  by_cases h:x=s
  ·simp[h]
  ·rw[Ko h,List.mem_cons]
   split
   ·rename_i h1
    constructor
    ·intro h2;omega
    ·rintro (h2|h2)
     ·exact absurd h2.symm h
     ·have:=ih.2 h2;omega
   ·rename_i h1
    constructor
    ·intro _;exact .inr (ih.1 (by omega))
    ·intro _;omega
theorem tZ (l:List Bs) (hl:l.length≤9223372036854775807) (s:Bs) (A:Option Addr) (cap:Nat) {F:Nat→Prop}(w_0:World) (h:RdF F A (xX l) w_0):Calls Tryz.prog 92 #[.slice A l.length cap,.string ⟨s.toArray⟩] w_0 fun e w'=>e=.returned (.bool (decide (s∈l)))∧Ext w_0 w':=by
 refine yV (args:=[.slice A l.length cap,.string ⟨s.toArray⟩]) Tryz.func92 V 9 V (Jn V)<|Z2 0 1 V V<|zD (H':=Hp (fun _=>False) w_0 [] [] (RdF F A (xX l))) (fun u hu=>?_) ?_
 ·subst hu;exact Hp.startT RdF.lies h
 refine zY<|zX<|Za V V<|ZX<|zX<|Zm V V<|Zm V V<|yT .none V  (v:=.int .i64 (idxS l s)) (by kernel_rfl) V (fun w hw=>index_any l hl s A cap w (HpG.x hw)) ?_;refine ZF V (tO V V)<|Za V V<|ZT<|zK<|zI V V (fun w hw=>?_);exact⟨by rw[idx_ge],(Jq hw).ext⟩
theorem keywords_any (w_0:World):Calls Tryz.prog 93 #[] w_0 fun e w'=>∃A:Option Addr,e=.returned (.slice A vN.length 9)∧Ext w_0 w'∧RdF (fun k=>w_0.heap.size≤k) A (xX vN) w':=by
 refine yV (args:=[]) Tryz.func93 V 2 V (Jn V)<|wY (.nil)<|zD (H':=Hp (fun _=>False) w_0 [] [] (fun _=>True)) (fun u hu=>?_) ?_
 ·subst hu;exact Hp.start0
 refine zY<|zX<|Za V V<|ZX<|zX<|zC .none V (wM (z:=Ja) V V V V U22 (by kernel_rfl) (by kernel_rfl) V V) (fun b1=>?_);refine Za V V<|ZT<|zK<|zI V V (fun w hw=>?_);exact⟨_,rfl,(Jq hw).ext,HpG.rdF (j:=0) hw V (HpG.mineL hw (j:=0) V id)⟩
theorem ib_low (l:Bs) (c:UInt8):-1≤Lib.indexByte l c:=by
 induction l with
 | nil=>simp[Lib.indexByte]
 | cons y l ih =>
  unfold Lib.indexByte
  split
  ·omega
  ·split
   ·omega
   ·omega
theorem ib_mem (l:Bs) (c:UInt8):decide (0≤Lib.indexByte l c)=decide (c∈l):=by
 rw[decide_eq_decide]
 induction l with
 | nil=>simp[Lib.indexByte]
 | cons x l ih =>
  have h2:=ib_low l c;unfold Lib.indexByte
  by_cases h:x=c
  ·simp[h]
  ·have hb:(x==c)=false:=by simp[h]
   rw[hb];simp only[Bool.false_eq_true,if_false,List.mem_cons]
   split
   ·rename_i h1;have h1:=Jw h1
    constructor
    ·intro h2;omega
    ·rintro (h2|h2)
     ·exact absurd h2.symm h
     ·have:=ih.2 h2;omega
   ·rename_i h1;have h1:Lib.indexByte l c≠-1:=fun e=>h1 (by rw[e];rfl)
    constructor
    ·intro _;exact .inr (ih.1 (by omega))
    ·intro _;omega
theorem symbol_any (c:UInt8) (r:Bs) (hl:(c::r).length≤4294967296) (w_0:World):Calls Tryz.prog 125 #[.string ⟨(c::r).toArray⟩] w_0 fun e w'=>e=.returned (.int .i64 (uZ (c::r)))∧Ext w_0 w':=by
 have h1n:¬(1:Int)<((c::r).length:Nat)→(c::r).take 2∉rX:=fun h=>by
  cases r with
  | nil=>simp[rX]
  | cons d r=>exact absurd h (by simp;omega)
 refine yV (args:=[.string ⟨(c::r).toArray⟩]) Tryz.func125 V 16 V (Jn V)<|Z1 0 V<|zD (H':=Hp (fun _=>False) w_0 [] [] (fun _=>True)) (fun u hu=>?_) ?_
 ·subst hu;exact Hp.start0
 refine zY<|zX<|Za V V<|ZX<|zY<|zX<|Zm V V<|ZF V (vL V U9)<|ZF V (wO V V)<|Zm V V<|zH 6 V (fun h2=>?_) (fun h2=>?_)
 ·replace h2:=Jo h2;refine zC (.some V V) V (wM (z:=Ja) V V V V U22 (by kernel_rfl) (by kernel_rfl) V V) (fun b7=>?_);refine ZG rfl rfl rfl (zO rfl)<|ZG rfl rfl rfl (pI rfl rfl U9 (by first|(simp;done)|omega) (by first|(simp;done)|omega) rfl) ?_;refine yT (.some V V) V  (v:=.bool (decide ((c::r).take 2∈rX))) (by kernel_rfl) V (fun w hw=>tZ rX (by decide) _ _ _ w (HpG.rdF (j:=0) (F:=fun _=>True) hw V trivial)) ?_;refine ZF V (zP V V)<|ZT<|zT V (fun h11=>?_) (fun h11=>?_)
  ·refine zY<|Z3r 0 2 11 V V V<|Za V V<|ZT<|zK<|zV<|zI V V (fun w hw=>?_);exact⟨by rw[uZ,Kp (Jo h11)];rfl,(Jq hw).ext⟩
  ·refine zG<|zQ<|zY<|zY<|Z3r 0 2 11 V V V<|Zm V V<|ZF V (vJ V V U9 V V)<|yT .none V  (v:=.int .i64 (Lib.indexByte sE c)) (by kernel_rfl) V (fun w hw=>(Tryz.strings_IndexByte ⟨sE.toArray⟩ c.toNat w).mono fun e w' ⟨e1,e2⟩=>⟨by rw[e1];simp,e2▸Ext.refl w⟩) ?_;refine ZF V (tO V V)<|ZT<|zT V (fun h15=>?_) (fun h15=>?_)
   ·replace h15:=Jo h15;have hm:c∈sE:=Jo ((ib_mem sE c).symm.trans (Kv h15));refine zY<|Z4r 0 2 11 15 V V V V<|Za V V<|ZT<|zK<|zV<|zI V V (fun w hw=>?_);exact⟨by rw[uZ,Ko (Jp h11)];rw[Kp hm];rfl,(Jq hw).ext⟩
   ·replace h15:=Jp h15;have hm:c∉sE:=Jp ((ib_mem sE c).symm.trans (Kw h15));refine zG<|zQ<|zY<|Z4r 0 2 11 15 V V V V<|Za V V<|ZT<|zK<|zI V V (fun w hw=>?_);exact⟨by rw[uZ,Ko (Jp h11)];rw[Ko hm];rfl,(Jq hw).ext⟩
 ·replace h2:=Jp h2;refine ZP V<|ZP V<|ZP V<|ZP V<|ZF V (zL V V)<|ZT<|vU V<|zG<|zQ<|zY<|zY<|Z3r 0 2 11 V V V<|Zm V V<|ZF V (vJ V V U9 V V)<|yT .none V  (v:=.int .i64 (Lib.indexByte sE c)) (by kernel_rfl) V (fun w hw=>(Tryz.strings_IndexByte ⟨sE.toArray⟩ c.toNat w).mono fun e w' ⟨e1,e2⟩=>⟨by rw[e1];simp,e2▸Ext.refl w⟩) ?_;refine ZF V (tO V V)<|ZT<|zT V (fun h15=>?_) (fun h15=>?_)
  ·replace h15:=Jo h15;have hm:c∈sE:=Jo ((ib_mem sE c).symm.trans (Kv h15));refine zY<|Z4r 0 2 11 15 V V V V<|Za V V<|ZT<|zK<|zV<|zI V V (fun w hw=>?_);exact⟨by rw[uZ,Ko (h1n h2)];rw[Kp hm];rfl,(Jq hw).ext⟩
  ·replace h15:=Jp h15;have hm:c∉sE:=Jp ((ib_mem sE c).symm.trans (Kw h15));refine zG<|zQ<|zY<|Z4r 0 2 11 15 V V V V<|Za V V<|ZT<|zK<|zI V V (fun w hw=>?_);exact⟨by rw[uZ,Ko (h1n h2)];rw[Ko hm];rfl,(Jq hw).ext⟩
end Go.Proofs.YtfpkpnkdnammnaaGreatDoor
namespace Go.Proofs.YtfpkpnkdnammnaaGreatDoor
open Go.RowKit
section
variable {P:Program}{ops:Array Oper}{Q:Exit→Act→World→Prop}{n:Nat}{m:List (Nat×Value)}{ty:TypeId}{G B:Nat→Prop}{w0:World}{L:List (Nat×Obj)}{R:List Rw}{X:World→Prop}{rest:List Oper}{d:Nat}{pos:String}{af:Array Edge}{gd:Option (Nat×Bool)}
end
def pX (w:World):Prop:=∃t p,w.cell? ⟨2,0,none⟩=some (.iface t p)
theorem pX.lies:Lies fun F w=>F 2∧2<w.heap.size∧pX w:=by
 refine⟨fun {F w w'} hk ⟨h0,hl,t,p,h⟩=>⟨h0,?_,t,p,?_⟩,fun {F w} ⟨h0,hl,h⟩=>⟨⟨h0,hl⟩,hl,h⟩,fun {F F' w} hF ⟨h0,hl,h⟩=>⟨hF _ h0,hl,h⟩⟩
 ·have:=hk 2 h0;rw[Array.getElem?_eq_getElem hl] at this;exact (Jv.1 this).1
 ·rw[← h];exact World.cell?_of_block (hk 2 h0)
theorem pX.lt {w:World}(h:pX w):2<w.heap.size:=by
 obtain⟨t,p,h⟩:=h;unfold World.cell? at h;rcases Nat.lt_or_ge 2 w.heap.size with h1|h1
 ·exact h1
 ·simp[Array.getElem?_eq_none h1] at h
theorem take_span (q:Nat→Bool) (l:Bs):l.take (spanL (fun c=>q c.toNat) l)=l.takeWhile (fun c=>q c.toNat):=by
 unfold spanL
 induction l with
 | nil=>rfl
 | cons x l ih =>
  cases hx:q x.toNat
  ·simp[List.takeWhile,hx]
  ·simp[List.takeWhile,hx,ih]
def dec (v:Nat) (l:Bs):Nat:=l.foldl (fun v c=>10*v+(c.toNat-48)) v
theorem dec_ge (l:Bs):∀v,v≤dec v l:=by
 induction l with
 | nil=>intro v;exact Km _
 | cons c l ih=>intro v;exact Kx (by omega) (ih (10*v+(c.toNat-48)))
theorem parseU_dec:∀(l:Bs) (v:Nat),v≤4294967295→(∀c∈l,vW c=true)→Lib.parseUintM 4294967295 v l=if dec v l<4294967296 then .ok (dec v l) else .range
 | [],v,hv,_=>by
  unfold Lib.parseUintM dec;rw[Kp (by show v<4294967296;omega)];rfl
 | c::l,v,hv,h=>by
  have hc:=h c (Jy ..);have hc':48≤c.toNat∧c.toNat≤57:=by simpa [vW,vB] using hc
  unfold Lib.parseUintM;rw[Kp hc',Ko (by omega)];have e:dec v (c::l)=dec (v*10+(c.toNat-48)) l:=by show dec (10*v+(c.toNat-48)) l=_;rw[Nat.mul_comm]
  rw[e]
  split
  ·rename_i h1;rw[Ko];have:=dec_ge l (v*10+(c.toNat-48));omega
  ·rename_i h1;exact parseU_dec l _ (by omega) fun x hx=>h x (Kg _ hx)
def PuC (l:Bs) (i:Nat×Value):Prop:=(sV l<4294967296∧i=(sV l,.nilIface))∨(4294967296≤sV l∧i.1=4294967295∧∃t p,i.2=.iface t p)
theorem parse_any (l:Bs) (h0:l≠[]) (hd:∀c∈l,vW c=true) (hl:l.length≤4294967296) (w:World) (hv:pX w):Calls Tryz.prog 123 #[.string ⟨l.toArray⟩,.int .i64 10,.int .i64 32] w fun e w'=>∃i,PuC l i∧e=.returned (.tuple #[.int .u64 i.1,i.2])∧Ext w w':=by
 have hp:Lib.parseUintB 32 l=if sV l<4294967296 then .ok (sV l) else .range:=by
  unfold Lib.parseUintB;rw[Ko h0];exact parseU_dec l 0 (by omega) hd
 by_cases h:sV l<4294967296
 ·rw[Kp h] at hp
  refine (Tryz.strconv_ParseUint_10_at32_ok ⟨l.toArray⟩ (by simp[ByteArray.size];omega) (sV l) (by simpa using hp) w).mono fun e w' ⟨e1,e2⟩=>⟨(sV l,.nilIface),.inl ⟨h,rfl⟩,e1,?_⟩
  rcases e2 with rfl|rfl
  ·exact Ext.refl _
  ·exact⟨rfl,rfl,rfl,by rw[Lib.bytesWorld_size];omega,fun k hk=>Lib.bytesWorld_at_old _ _ _ k (by omega)⟩
 ·rw[Ko h] at hp;obtain⟨t,p,hv⟩:=hv
  refine (Tryz.strconv_ParseUint_10_at32_range ⟨l.toArray⟩ (by simp[ByteArray.size];omega) (by simpa using hp) _ w hv (.inr ⟨t,p,rfl⟩)).mono fun e w' ⟨N,e1,_,_,e2⟩=>⟨(4294967295,_),.inr ⟨by omega,rfl,_,_,rfl⟩,e1,e2⟩
theorem span_alli (p:UInt8→Bool) (l:Bs):((spanL p l:Int)==(l.length:Int))=l.all p:=by
 rw[Jl,beq_iff_eq,List.all_eq_true]
 induction l with
 | nil=>simp[spanL]
 | cons x l ih =>
  cases hx:p x
  ·simp[spanL,List.takeWhile,hx];try omega
  ·simp only[spanL] at ih;simp[spanL,List.takeWhile,hx,← ih]
   try omega
theorem name_eq (c:UInt8) (r:Bs):yG (c::r)=(Nat.ble (c::r).length 12&&!decide ((c::r)∈vN)&&qN c&&(c::r).all vH):=rfl
theorem name_no {c:UInt8}{r:Bs}(h:12<(c::r).length∨(c::r)∈vN∨qN c=false):yG (c::r)=false:=by
 rw[name_eq];rcases h with h|h|h
 ·have:Nat.ble (c::r).length 12=false:=by rw[← Bool.not_eq_true,Nat.ble_eq];omega
  rw[this];rfl
 ·rw[Kv h];simp
 ·rw[h];simp
theorem name_yes {c:UInt8}{r:Bs}(h1:(c::r).length≤12) (h2:(c::r)∉vN) (h3:qN c=true):yG (c::r)=(c::r).all vH:=by
 have h4:Nat.ble (c::r).length 12=true:=by rw[Nat.ble_eq];exact h1
 rw[name_eq,h4,Kw h2,h3];rfl
theorem rY (s:Bs) (w_0:World):Calls Tryz.prog 56 #[.string ⟨s.toArray⟩] w_0 fun e w'=>e=.returned (.bool (yG s))∧Ext w_0 w':=by
 have hat:s≠[]→∃c r,s=c::r:=fun h=>by cases s with|nil=>exact absurd rfl h|cons c r=>exact⟨c,r,rfl⟩
 refine yV (args:=[.string ⟨s.toArray⟩]) Tryz.func56 V 27 V (Jn V)<|Z1 0 V<|zD (H':=Hp (fun _=>False) w_0 [] [] (fun _=>True)) (fun u hu=>?_) ?_
 ·subst hu;exact Hp.start0
 refine zY<|zX<|Za V V<|ZX<|zY<|zX<|Zm V V<|ZF V (xU (b:=[]) V V Tryz.underlying9)<|Zm V V<|zH 5 V (fun h3=>?_) (fun h3=>?_)
 ·refine ZP V<|ZP V<|ZP V<|ZF V (zP V V)<|Zm V V<|ZP V<|ZP V<|ZP V<|ZF V (zP V V)<|Zm V V<|ZP V<|ZP V<|ZP V<|ZP V<|ZP V<|ZF V (zP V V)<|ZT<|uT V<|zY<|Z3r 0 2 21 V V V<|Za V V<|ZT<|zK<|zV<|zI V V (fun w hw=>?_);exact⟨by rw[Jo h3];rfl,(Jq hw).ext⟩
 ·obtain⟨c,r,rfl⟩:=hat (Jp h3);refine ZG V V V (zO V)<|ZG V V V (vL V U9)<|ZG V V V (wO V V)<|ZF V (zL V V)<|Zm V V<|zH 10 V (fun h8=>?_) (fun h8=>?_)
  ·replace h8:=Jo h8;refine ZP V<|ZP V<|ZP V<|ZF V (zP V V)<|Zm V V<|ZP V<|ZP V<|ZP V<|ZP V<|ZP V<|ZF V (zP V V)<|ZT<|uT V<|zY<|Z3r 0 2 21 V V V<|Za V V<|ZT<|zK<|zV<|zI V V (fun w hw=>?_);exact⟨by rw[name_no (.inl (by omega))],(Jq hw).ext⟩
  ·replace h8:=Jp h8;refine sU (ι:=Option Addr) (C:=fun _=>True) (val:=fun A=>.slice A vN.length 9) (TT:=fun A F u=>RdF F A (xX vN) u) (.some V V) V  (by kernel_rfl) V (fun _ h=>h.elim) (fun _=>RdF.lies) (fun w hw=>(keywords_any w).mono fun e w' ⟨A,e1,e2,e3⟩=>⟨A,trivial,e1,e2,e3⟩) (fun A F _ hF=>?_);refine ZG V V V (zO V)<|yT (.some V V) V  (v:=.bool (decide ((c::r)∈vN))) (by kernel_rfl) V (fun w hw=>tZ vN (by decide) _ _ _ w (HpG.x hw).1) ?_;refine ZF V (zL V V)<|Zm V V<|zH 15 V (fun h13=>?_) (fun h13=>?_)
   ·refine ZP V<|ZP V<|ZP V<|ZP V<|ZP V<|ZF V (zP V V)<|ZT<|uT V<|zY<|Z3r 0 2 21 V V V<|Za V V<|ZT<|zK<|zV<|zI V V (fun w hw=>?_);exact⟨by rw[name_no (.inr (.inl (Jo h13)))],(Jq hw).ext⟩
   ·refine ZG V V V (zO V)<|ZG V V V (vJ V V U9 V V) ?_
    refine ZG V V V (qP V (by kernel_rfl) Tryz.underlying21 (i32_in _ (by have:=c.toNat_lt;omega) (by have:=c.toNat_lt;omega))) ?_
    refine yT (.some V V) V  (v:=.bool (sP c.toNat)) (by kernel_rfl) V (fun w hw=>letter_any _ w) ?_;refine ZG V V V (xJ V)<|ZF V (zL V V)<|ZT<|zT V (fun h21=>?_) (fun h21=>?_)
    ·refine zY<|Z3r 0 2 21 V V V<|Za V V<|ZT<|zK<|zV<|zI V V (fun w hw=>?_);exact⟨by rw[name_no (.inr (.inr (by simpa [qN] using h21)))],(Jq hw).ext⟩
    ·refine zG<|zQ<|zY<|Z3r 0 2 21 V V V<|Zm V V<|yT .none V  (v:=.int .i64 (spanL vH (c::r))) (by kernel_rfl) V (fun w hw=>span_any _ qO wordd_fn (fun x hx=>by simp[qO,sP,vB];omega) (c::r) w) ?_;refine Zm V V<|ZF V (vL V U9)<|ZF V (yS V V)<|Za V V<|ZT<|zK<|zI V V (fun w hw=>?_);exact⟨by rw[name_yes (by omega) (Jp h13) (by simpa [qN] using h21),span_alli],(Jq hw).ext⟩
abbrev tokC (t:Tok):List Value:=[.int .i64 t.kind,.int .i64 t.at_,.string ⟨t.text.toArray⟩,.int .u64 t.value]
def toksC (l:List Tok):List Value:=l.flatMap tokC
theorem toksC_one (l:List Tok) (t:Tok):toksC (l++[t])=toksC l++tokC t:=by simp[toksC]
theorem toksC_at {l:List Tok}{i:Nat}(h:i<l.length) {j:Nat}{v:Value}(hv:(tokC (vK l i))[j]? = some v):(toksC l)[4*i+j]? = some v:=by
 induction l generalizing i with
 | nil=>simp at h
 | cons t l ih =>
  have e:toksC (t::l)=tokC t++toksC l:=rfl
  cases i with
  | zero =>
   rw[e,Nat.mul_zero,Kk];exact (List.getElem?_append_left (Jm.1 hv).1).trans hv
  | succ i =>
   rw[e,List.getElem?_append_right (by simp;omega)];have:4*(i+1)+j-(tokC t).length=4*i+j:=by simp;omega
   rw[this];exact ih (by simpa using h) hv
theorem next_num {c:UInt8}{r:Bs}(h:vB c.toNat=true):xP (c::r)=⟨1,0,(c::r).takeWhile vW,min (sV ((c::r).takeWhile vW)) 4294967296⟩:=by
 have h':vW c=true:=h;unfold xP;dsimp only;rw[Kp h']
theorem next_wor {c:UInt8}{r:Bs}(h1:¬vB c.toNat=true) (h:sP c.toNat=true):xP (c::r)=⟨if 12<((c::r).takeWhile vH).length then 4 else if (c::r).takeWhile vH∈vN then 3 else 2,0,(c::r).takeWhile vH,0⟩:=by
 have h':qN c=true:=h;have h1':¬vW c=true:=h1;unfold xP;dsimp only;rw[Ko h1',Kp h']
theorem next_sym {c:UInt8}{r:Bs}(h1:¬vB c.toNat=true) (h:¬sP c.toNat=true):xP (c::r)=if uZ (c::r)=0 then ⟨4,0,(c::r).take 1,0⟩ else ⟨3,0,(c::r).take (uZ (c::r)),0⟩:=by
 have h':¬qN c=true:=h;have h1':¬vW c=true:=h1;unfold xP;dsimp only;rw[Ko h1',Ko h']
theorem next_any (c:UInt8) (r:Bs) (hl:(c::r).length≤4294967296) (w_0:World) (hv:pX w_0):Calls Tryz.prog 83 #[.string ⟨(c::r).toArray⟩] w_0 fun e w'=>e=.returned (.agg (tokC (xP (c::r))).toArray)∧Ext w_0 w':=by
 have hld:=uA vW (c::r);have hlw:=uA vH (c::r);refine yV (args:=[.string ⟨(c::r).toArray⟩]) Tryz.func83 V 61 V (Jn V)<|Z1 0 V<|zD (H':=Hp (fun _=>False) w_0 [] [] pX) (fun u hu=>?_) ?_
 ·subst hu;exact Hp.weakX (Hp.startT pX.lies (F:=fun _=>True) ⟨trivial,hv.lt,hv⟩) fun u h=>h.2.2
 refine zY<|zX<|zC .none V (yK (z:=.agg #[.int .i64 0,.int .i64 0,.string ⟨#[]⟩,.int .u64 0]) (cs:=Jd) (by kernel_rfl) V) (fun b2=>?_);refine ZX<|zX<|Zm V V<|ZF V (vJ V V U9 V V) ?_
 refine ZF V (qP V (by kernel_rfl) Tryz.underlying21 (i32_in _ (by have:=c.toNat_lt;omega) (by have:=c.toNat_lt;omega))) ?_
 refine Za V V<|ZX<|yY<|zY<|Z3r 0 2 3 V V V<|Zm V V<|yT .none V  (v:=.bool (vB c.toNat)) (by kernel_rfl) V (fun w hw=>digit_any _ w) ?_;refine Za V V<|ZT<|zT V (fun h12=>?_) (fun h12=>?_)
 ·refine zY<|Z4r 0 2 3 12 V V V V<|Zm V V<|Zm V V<|yT .none V  (v:=.int .i64 (spanL vW (c::r))) (by kernel_rfl) V (fun w hw=>span_any _ vB digit_fn (fun x hx=>by simp[vB];omega) (c::r) w) ?_;refine ZF V (pI V V U9 (by have:=qJ vW (c::r);omega) (by have:=qJ vW (c::r);omega) (show (c::r).take (Int.toNat ((spanL vW (c::r):Nat):Int))=(c::r).takeWhile vW from take_span vB (c::r))) ?_;refine ZF V (yQ [.int .i64 0,.int .i64 0,.string ⟨#[]⟩,.int .u64 0] [(0,1),(1,1),(2,1),(3,1)] V (by kernel_rfl) (by kernel_rfl) V) ?_;refine zC .none V (yK (z:=.agg #[.int .i64 0,.int .i64 0,.string ⟨#[]⟩,.int .u64 0]) (cs:=Jd) (by kernel_rfl) V) (fun b4=>?_);refine ZR 0 V V V V V (by kernel_rfl) ?_;refine ZX<|Z5r 0 2 3 4 12 V V V V V<|ZF V (Y92x2 V) ?_;refine ZF V (zW 0 V V V U9 V)<|wl_pureE (ι:=Nat×Value) (C:=PuC ((c::r).takeWhile vW)) (val:=fun i=>.tuple #[.int .u64 i.1,i.2]) .none V  (by kernel_rfl) V (fun w hw=>parse_any _ (List.ne_nil_of_length_pos (pL vW c r h12)) (fun x hx=>List.all_eq_true.1 (List.all_takeWhile (l:=c::r) (p:=vW)) x hx) (by omega) w (HpG.x hw)) (fun i hi=>?_)
  have hi2:i.2=.nilIface∨∃u p,i.2=.iface u p:=by
   rcases hi with ⟨_,rfl⟩|⟨_,_,h⟩
   ·exact .inl rfl
   ·exact .inr h
  refine Zm V V<|ZF V (xN V V)<|ZF V (xN V V)<|Za V V<|Za V V<|ZX<|zY<|Z7r 0 2 3 4 5 6 12 V V V V V V V<|Zm V V<|ZF V (yf_neqNil V hi2 (by kernel_rfl)) ?_;refine ZT<|zT V (fun h27=>?_) (fun h27=>?_)
  ·have hbig:4294967296≤sV ((c::r).takeWhile vW):=by
    rcases hi with ⟨_,rfl⟩|⟨h,_⟩
    ·cases h27
    ·exact h
   refine Z8r 0 2 3 4 5 6 12 27 V V V V V V V V<|Za V V<|ZX<|zX<|Zm V V<|ZF V (Y92x3 V) ?_;refine ZS 0 V V V V V (by kernel_rfl) ?_;refine ZX<|Z8r 0 2 3 4 5 6 12 27 V V V V V V V V<|ZF V (yX 0 V V U92 V (by kernel_rfl)) ?_;refine ZR 1 V V V V V (by kernel_rfl) ?_;refine ZT<|zK<|zR<|zV<|yF V V 1 V U92 V (by kernel_rfl) (fun w hw=>?_);exact⟨by rw[next_num h12,Nat.min_eq_right hbig];rfl,(Jq hw).ext⟩
  ·have hsm:sV ((c::r).takeWhile vW)<4294967296∧i.1=sV ((c::r).takeWhile vW):=by
    rcases hi with ⟨h,rfl⟩|⟨_,_,u,p,h⟩
    ·exact⟨h,rfl⟩
    ·rw[h] at h27;cases h27
   refine zG<|zQ<|zY<|Z8r 0 2 3 4 5 6 12 27 V V V V V V V V<|Zm V V<|ZF V (Y92x3 V) ?_;refine ZS 0 V V V V V (by kernel_rfl) ?_;refine ZX<|Z8r 0 2 3 4 5 6 12 27 V V V V V V V V<|ZF V (yX 0 V V U92 V (by kernel_rfl)) ?_;refine ZR 1 V V V V V (by kernel_rfl) ?_;refine ZT<|zK<|zR<|zV<|yF V V 1 V U92 V (by kernel_rfl) (fun w hw=>?_);exact⟨by rw[next_num h12,Nat.min_eq_left (Nat.le_of_lt hsm.1),← hsm.2];rfl,(Jq hw).ext⟩
 ·refine zY<|Z4r 0 2 3 12 V V V V<|Zm V V<|yT .none V  (v:=.bool (sP c.toNat)) (by kernel_rfl) V (fun w hw=>letter_any _ w) ?_;refine Za V V<|ZT<|zT V (fun h31=>?_) (fun h31=>?_)
  ·refine zY<|Z5r 0 2 3 12 31 V V V V V<|Zm V V<|Zm V V<|yT .none V  (v:=.int .i64 (spanL vH (c::r))) (by kernel_rfl) V (fun w hw=>span_any _ qO wordc_fn (fun x hx=>by simp[qO,sP,vB];omega) (c::r) w) ?_;refine ZF V (pI V V U9 (by have:=qJ vH (c::r);omega) (by have:=qJ vH (c::r);omega) (show (c::r).take (Int.toNat ((spanL vH (c::r):Nat):Int))=(c::r).takeWhile vH from take_span qO (c::r))) ?_;refine ZF V (yQ [.int .i64 0,.int .i64 0,.string ⟨#[]⟩,.int .u64 0] [(0,1),(1,1),(2,1),(3,1)] V (by kernel_rfl) (by kernel_rfl) V) ?_;refine zC .none V (yK (z:=.agg #[.int .i64 0,.int .i64 0,.string ⟨#[]⟩,.int .u64 0]) (cs:=Jd) (by kernel_rfl) V) (fun b7=>?_);refine ZR 0 V V V V V (by kernel_rfl) ?_;refine ZX<|zY<|Z6 0 2 3 7 12 31 V V V V V V<|wR 3 [1,2,0] (Blk b7 _) (by kernel_rfl) (by kernel_rfl) Blk.stab (fun w h=>HpG.blk h (k:=0) V) (fun n0 hn0=>?_);refine Zd V V V (Y92x2 V) ?_;refine Zd V V V (uH V V U9 V)<|xF V<|wd_callX (ι:=Option Addr) (C:=fun _=>True) (val:=fun A=>.slice A vN.length 9) (TT:=fun A F u=>RdF F A (xX vN) u) .none V  (by kernel_rfl) V (fun _ h=>h.elim) (fun _=>RdF.lies) (fun w w' h hx=>Blk.onE h hx) (fun w hw=>(keywords_any w).mono fun e w' ⟨A,e1,e2,e3⟩=>⟨A,trivial,e1,e2,e3⟩) (fun A F _ hF=>?_);refine wL ?_;simp only[Jz,Ke];refine yT .none V  (v:=.bool (decide ((c::r).takeWhile vH∈vN))) (by kernel_rfl) V (fun w hw=>tZ vN (by decide) _ _ _ w (HpG.x hw).1) ?_;refine ZT<|zT V (fun h42=>?_) (fun h42=>?_)
   ·refine Z7r 0 2 3 7 12 31 42 V V V V V V V<|ZF V (Y92x0 V) ?_;refine ZS 0 V V V V V (by kernel_rfl) ?_;refine ZX<|zY<|Z7r 0 2 3 7 12 31 42 V V V V V V V<|ZF V (Y92x2 V) ?_;refine ZF V (zW 0 V V V U9 V)<|ZF V (vL V U9)<|ZF V (wO V V)<|ZT<|zT V (fun h47=>?_) (fun h47=>?_)
    ·replace h47:=Jo h47;refine Z8r 0 2 3 7 12 31 42 47 V V V V V V V V<|ZF V (Y92x0 V) ?_;refine ZS 0 V V V V V (by kernel_rfl) ?_;refine ZX<|Z8r 0 2 3 7 12 31 42 47 V V V V V V V V<|ZF V (yX 0 V V U92 V (by kernel_rfl)) ?_;refine ZR 1 V V V V V (by kernel_rfl) ?_;refine ZT<|zK<|zR<|zV<|yF V V 1 V U92 V (by kernel_rfl) (fun w hw=>?_);exact⟨by rw[next_wor (by simp[h12]) h31,Kp (by omega)];rfl,(Jq hw).ext⟩
    ·replace h47:=Jp h47;refine zG<|zQ<|zY<|Z8r 0 2 3 7 12 31 42 47 V V V V V V V V<|ZF V (yX 0 V V U92 V (by kernel_rfl)) ?_;refine ZR 1 V V V V V (by kernel_rfl) ?_;refine ZT<|zK<|zR<|zV<|yF V V 1 V U92 V (by kernel_rfl) (fun w hw=>?_);exact⟨by rw[next_wor (by simp[h12]) h31,Ko (by omega),Kp (Jo h42)];rfl,(Jq hw).ext⟩
   ·refine zG<|zQ<|zY<|zY<|Z7r 0 2 3 7 12 31 42 V V V V V V V<|ZF V (Y92x2 V) ?_;refine ZF V (zW 0 V V V U9 V)<|ZF V (vL V U9)<|ZF V (wO V V)<|ZT<|zT V (fun h47=>?_) (fun h47=>?_)
    ·replace h47:=Jo h47;refine Z8r 0 2 3 7 12 31 42 47 V V V V V V V V<|ZF V (Y92x0 V) ?_;refine ZS 0 V V V V V (by kernel_rfl) ?_;refine ZX<|Z8r 0 2 3 7 12 31 42 47 V V V V V V V V<|ZF V (yX 0 V V U92 V (by kernel_rfl)) ?_;refine ZR 1 V V V V V (by kernel_rfl) ?_;refine ZT<|zK<|zR<|zV<|yF V V 1 V U92 V (by kernel_rfl) (fun w hw=>?_);exact⟨by rw[next_wor (by simp[h12]) h31,Kp (by omega)];rfl,(Jq hw).ext⟩
    ·replace h47:=Jp h47;refine zG<|zQ<|zY<|Z8r 0 2 3 7 12 31 42 47 V V V V V V V V<|ZF V (yX 0 V V U92 V (by kernel_rfl)) ?_;refine ZR 1 V V V V V (by kernel_rfl) ?_;refine ZT<|zK<|zR<|zV<|yF V V 1 V U92 V (by kernel_rfl) (fun w hw=>?_);exact⟨by rw[next_wor (by simp[h12]) h31,Ko (by omega),Ko (Jp h42)];rfl,(Jq hw).ext⟩
  ·refine zG<|zM<|zQ<|zY<|zY<|Z5r 0 2 3 12 31 V V V V V<|Zm V V<|yT .none V  (v:=.int .i64 (uZ (c::r))) (by kernel_rfl) V (fun w hw=>symbol_any c r hl w) ?_;refine Za V V<|ZX<|Z6r 0 2 3 8 12 31 V V V V V V<|Zm V V<|ZF V (wO V V)<|ZT<|zT V (fun h53=>?_) (fun h53=>?_)
   ·replace h53:=Jo h53;refine zY<|Z7r 0 2 3 8 12 31 53 V V V V V V V<|Zm V V<|Zm V V<|ZF V (pI V V U9 (by have:=symL_le c r;omega) (by have:=symL_le c r;omega) V) ?_;refine ZF V (yQ [.int .i64 0,.int .i64 0,.string ⟨#[]⟩,.int .u64 0] [(0,1),(1,1),(2,1),(3,1)] V (by kernel_rfl) (by kernel_rfl) V) ?_;refine ZR 0 V V V V V (by kernel_rfl) ?_;refine ZT<|zK<|zV<|yF V V 0 V U92 V (by kernel_rfl) (fun w hw=>?_);exact⟨by rw[next_sym (by simp[h12]) (by simp[h31]),Ko (by omega)];rfl,(Jq hw).ext⟩
   ·replace h53:=Jp h53;refine zG<|zQ<|zY<|Z7r 0 2 3 8 12 31 53 rfl rfl rfl rfl rfl rfl rfl<|Zm rfl rfl<|ZF rfl (pI rfl rfl U9 (by first|decide|(simp;omega)) (by first|decide|(simp;omega)) rfl) ?_;refine ZF V (yQ [.int .i64 0,.int .i64 0,.string ⟨#[]⟩,.int .u64 0] [(0,1),(1,1),(2,1),(3,1)] V (by kernel_rfl) (by kernel_rfl) V) ?_;refine ZR 0 V V V V V (by kernel_rfl) ?_;refine ZT<|zK<|yF V V 0 V U92 V (by kernel_rfl) (fun w hw=>?_);exact⟨by rw[next_sym (by simp[h12]) (by simp[h31]),Kp (by omega)];rfl,(Jq hw).ext⟩
structure TkI (l:Bs) (i:Nat) (out:List Tok):Prop where
 le:i≤l.length
 n:out.length≤i
 e:uS l=out++pW i (l.drop i)
theorem tokens_any (l:Bs) (hl:l.length≤1000000) (w_0:World) (hv:pX w_0):Calls Tryz.prog 48 #[.string ⟨l.toArray⟩] w_0 fun e w'=>∃g cap,e=.returned (.slice (some ⟨g,0,none⟩) (uS l).length cap)∧(uS l).length≤cap∧Ext w_0 w'∧RdF (fun k=>w_0.heap.size≤k) (some ⟨g,0,none⟩) (toksC (uS l)) w':=by
 refine yV (args:=[.string ⟨l.toArray⟩]) Tryz.func48 V 36 V (Jn V)<|Z1 0 V<|zD (H':=Hp (fun _=>False) w_0 [] [] pX) (fun u hu=>?_) ?_
 ·subst hu;exact Hp.weakX (Hp.startT pX.lies (F:=fun _=>True) ⟨trivial,hv.lt,hv⟩) fun u h=>h.2.2
 refine zY<|zX<|Za V V<|ZX<|zX<|Za V V<|ZX<|zX<|Za V V<|ZT<|yY<|xV (ι:={j:(Nat×List Tok)×(Option Addr×Nat) // TkI l j.1.1 j.1.2∧j.1.2.length≤j.2.2}) (fun j=>[(0,.string ⟨l.toArray⟩),(3,.slice j.1.2.1 j.1.1.2.length j.1.2.2),(4,.int .i64 j.1.1.1)]) (fun j=>Hp (fun _=>False) w_0 [] [⟨.slice j.1.2.1 j.1.1.2.length j.1.2.2,92,4,j.1.1.2.length,toksC j.1.1.2⟩] pX) (fun j=>l.length-j.1.1.1) ⟨((0,[]),(none,0)),⟨Kl _,Km _,rfl⟩,Km _⟩ ?_ ?_ (fun j=>?_)
 ·exact .cons V<|.cons V<|.cons V<|.nil
 ·exact fun w h=>Hp.nil h _ _
 obtain⟨⟨⟨i,out⟩,⟨A,cap⟩⟩,⟨hi,hn,he⟩,hcap⟩:=j;dsimp only at hi hn he hcap ⊢;have hsp:=qJ wP (l.drop i);rw[Kc] at hsp;refine yY<|zY<|zX<|Zm V V<|Zm V V<|Zm V V<|ZF V (yf_strLo V V U9 (by omega) (by omega) (show l.drop (Int.toNat (i:Int))=l.drop i from V)) ?_;refine yT .none V  (v:=.int .i64 (spanL wP (l.drop i))) (by kernel_rfl) V (fun w hw=>span_any _ qM blank_fn (fun x hx=>by simp[qM];omega) (l.drop i) w) ?_;refine ZF V (yI V V (show IntKind.i64.wrap ((i:Int)+((spanL wP (l.drop i):Nat):Int))=((i+spanL wP (l.drop i):Nat):Int) from by rw[i64_in _ (by omega) (by omega)];simp)) ?_;refine Za V V<|ZX<|zY<|Z3r 0 3 4 V V V<|Zm V V<|Zm V V<|ZF V (vL V U9)<|ZF V (yS V V)<|ZT<|zT V (fun h15=>?_) (fun h15=>?_)
 ·replace h15:=Jw h15;have hend:(l.drop i).drop (spanL wP (l.drop i))=[]:=by rw[List.drop_drop];exact Ks (by omega)
  have hfin:uS l=out++[⟨0,i+spanL wP (l.drop i),[],0⟩]:=by rw[he,sT hend]
  refine zY<|Z4r 0 3 4 15 V V V V<|Zm V V<|Zm V V<|ZF V (yQ [.int .i64 0,.int .i64 0,.string ⟨#[]⟩,.int .u64 0] [(0,1),(1,1),(2,1),(3,1)] V (by kernel_rfl) (by kernel_rfl) V) ?_;refine zC .none V (xR (z:=.agg #[.int .i64 0,.int .i64 0,.string ⟨#[]⟩,.int .u64 0]) V V U87 (by kernel_rfl) (by kernel_rfl) V V) (fun b19=>?_);refine uO (z:=.agg #[.int .i64 0,.int .i64 0,.string ⟨#[]⟩,.int .u64 0]) (bytes:=40) 0 0 .none V V V V V U87 (by kernel_rfl) V V V V V (by omega) (by omega) (fun a20 c20 h20=>?_);refine Za V V<|ZT<|zK<|zV<|zR<|zV<|zR<|zI V V (fun w hw=>?_);exact⟨a20,c20,by rw[hfin,Ji];rfl,by rw[hfin,Ji];exact h20,(Jq hw).ext,by rw[hfin,toksC_one];exact HpG.rowF (j:=0) hw rfl⟩
 ·replace h15:=yP h15
  obtain⟨c,r,hcr⟩:∃c r,(l.drop i).drop (spanL wP (l.drop i))=c::r:=by
   cases hq:(l.drop i).drop (spanL wP (l.drop i)) with
   | nil=>rw[List.drop_drop] at hq;have:=List.drop_eq_nil_iff.1 hq;omega
   | cons c r=>exact⟨c,r,rfl⟩
  have hcr2:l.drop (i+spanL wP (l.drop i))=c::r:=by rw[← hcr,List.drop_drop]
  have hlen:(c::r).length+(i+spanL wP (l.drop i))=l.length:=by rw[← hcr2,Kc];omega
  have hnl:=rZ c r;refine zG<|zQ<|zY<|Z4r 0 3 4 15 V V V V<|Zm V V<|Zm V V<|ZF V (yf_strLo V V U9 (by omega) (by omega) (show l.drop (Int.toNat ((i+spanL wP (l.drop i):Nat):Int))=c::r from hcr2)) ?_;refine yT .none V  (v:=.agg (tokC (xP (c::r))).toArray) (by kernel_rfl) V (fun w hw=>next_any c r (by omega) w (HpG.x hw)) ?_;refine zC .none V (yK (z:=.agg #[.int .i64 0,.int .i64 0,.string ⟨#[]⟩,.int .u64 0]) (cs:=Jd) (by kernel_rfl) V) (fun b5=>?_);refine ZR 0 V V V V V (by kernel_rfl) ?_;refine ZX<|Z5r 0 3 4 5 15 V V V V V<|Zm V V<|ZF V (zZ (off:=1) (sz:=0) V U92 (by kernel_rfl) V) ?_;refine ZS 0 V V V V V (by kernel_rfl) ?_;refine ZX<|Z5r 0 3 4 5 15 V V V V V<|Zm V V<|ZF V (yX 0 V V U92 V (by kernel_rfl)) ?_;refine zC .none V (xR (z:=.agg #[.int .i64 0,.int .i64 0,.string ⟨#[]⟩,.int .u64 0]) V V U87 (by kernel_rfl) (by kernel_rfl) V V) (fun b29=>?_);refine uO (z:=.agg #[.int .i64 0,.int .i64 0,.string ⟨#[]⟩,.int .u64 0]) (bytes:=40) 0 0 .none V V V V V U87 (by kernel_rfl) V V V V V (by omega) (by omega) (fun a30 c30 h30=>?_);refine Za V V<|ZT<|Z5r 0 3 4 5 15 V V V V V<|Zm V V<|ZF V (Y92x2 V) ?_;refine ZF V (zW 1 V V V U9 V)<|ZF V (vL V U9)<|ZF V (yI V V (show IntKind.i64.wrap (((i+spanL wP (l.drop i):Nat):Int)+(((xP (c::r)).text.length:Nat):Int))=((i+spanL wP (l.drop i)+(xP (c::r)).text.length:Nat):Int) from by rw[i64_in _ (by omega) (by omega)];simp)) ?_;refine Za V V<|zU<|zM<|yC (ι:={j:(Nat×List Tok)×(Option Addr×Nat) // TkI l j.1.1 j.1.2∧j.1.2.length≤j.2.2}) ⟨((i+spanL wP (l.drop i)+(xP (c::r)).text.length,out++[⟨(xP (c::r)).kind,i+spanL wP (l.drop i),(xP (c::r)).text,(xP (c::r)).value⟩]),(some ⟨a30,0,none⟩,c30)),⟨?_,?_,?_⟩,?_⟩ ?_ ?_ (fun w h=>?_)
  ·show i+spanL wP (l.drop i)+(xP (c::r)).text.length≤l.length;omega
  ·rw[Ji];show out.length+1≤i+spanL wP (l.drop i)+(xP (c::r)).text.length;omega
  ·rw[he,uU hcr,Kb];show out++_=out++(_::pW _ (l.drop (i+spanL wP (l.drop i)+(xP (c::r)).text.length)));rw[← List.drop_drop,← List.drop_drop,hcr]
  ·rw[Ji];exact h30
  ·show l.length-(i+spanL wP (l.drop i)+(xP (c::r)).text.length)<l.length-i;omega
  ·exact .cons V<|.cons (by dsimp only;rw[Ji];rfl)<|.cons V<|.nil
  ·dsimp only;rw[Ji,toksC_one];exact Hp.drop h (Kf _) (Jr _)
end Go.Proofs.YtfpkpnkdnammnaaGreatDoor
