/- Characters, and the length of the part of a string that is of one kind. -/
import Derived.Test.YtfpkpnkdnammnaaGreatDoorSxM
import Derived.Test.YtfpkpnkdnammnaaGreatDoorTree
namespace Go.Proofs.YtfpkpnkdnammnaaGreatDoor
open Go.RowKit
theorem digit_any (r:Nat) (w_0:World):Calls Tryz.prog 96 #[.int .i32 r] w_0 fun e w'=>e=.returned (.bool (uY r))∧Ext w_0 w':=by
 refine zC (args:=[.int .i32 r]) Tryz.func96 V 9 V (Nat.le_of_ble_eq_true V)<|Z1 0 V<|zI (H':=Hp (fun _=>False) w_0 [] [] (fun _=>True)) (fun u hu=>?_) ?_
 ·subst hu;exact Hp.start0
 refine zY<|zX<|Za V V<|ZX<|zX<|Zm V V<|ZF V (uK V V)<|Zm V V<|zH 5 V (fun hb=>?_) (fun hb=>?_)
 ·replace hb:=of_decide_eq_true hb;refine ZG V V V (zU V)<|ZG V V V (yf_leq V V)<|ZF V (zT V V)<|Za V V<|ZT<|zO<|zK V V (fun w hw=>?_);exact⟨by congr 2;rw[Bool.eq_iff_iff];simp[uY];try omega,(HpG.keep hw).ext⟩
 ·replace hb:=of_decide_eq_false hb;refine ZP V<|ZP V<|ZF V (zM V V)<|Za V V<|ZT<|zO<|zK V V (fun w hw=>?_);exact⟨by congr 2;rw[Bool.eq_iff_iff];simp[uY];try omega,(HpG.keep hw).ext⟩
theorem letter_any (r:Nat) (w_0:World):Calls Tryz.prog 94 #[.int .i32 r] w_0 fun e w'=>e=.returned (.bool (rX r))∧Ext w_0 w':=by
 refine zC (args:=[.int .i32 r]) Tryz.func94 V 9 V (Nat.le_of_ble_eq_true V)<|Z1 0 V<|zI (H':=Hp (fun _=>False) w_0 [] [] (fun _=>True)) (fun u hu=>?_) ?_
 ·subst hu;exact Hp.start0
 refine zY<|zX<|Za V V<|ZX<|zX<|Zm V V<|ZF V (uK V V)<|Zm V V<|zH 5 V (fun hb=>?_) (fun hb=>?_)
 ·replace hb:=of_decide_eq_true hb;refine ZG V V V (zU V)<|ZG V V V (yf_leq V V)<|ZF V (zT V V)<|Za V V<|ZT<|zO<|zK V V (fun w hw=>?_);exact⟨by congr 2;rw[Bool.eq_iff_iff];simp[rX];try omega,(HpG.keep hw).ext⟩
 ·replace hb:=of_decide_eq_false hb;refine ZP V<|ZP V<|ZF V (zM V V)<|Za V V<|ZT<|zO<|zK V V (fun w hw=>?_);exact⟨by congr 2;rw[Bool.eq_iff_iff];simp[rX];try omega,(HpG.keep hw).ext⟩
theorem blank_any (r:Nat) (w_0:World):Calls Tryz.prog 82 #[.int .i32 r] w_0 fun e w'=>e=.returned (.bool (sG r))∧Ext w_0 w':=by
 refine zC (args:=[.int .i32 r]) Tryz.func82 V 17 V (Nat.le_of_ble_eq_true V)<|Z1 0 V<|zI (H':=Hp (fun _=>False) w_0 [] [] (fun _=>True)) (fun u hu=>?_) ?_
 ·subst hu;exact Hp.start0
 refine zY<|zX<|Za V V<|ZX<|zX<|Zm V V<|ZF V (yU V V)<|Zm V V<|zH 5 V (fun hb=>?_) (fun hb=>?_)
 ·replace hb:=eq_of_beq hb;refine ZP V<|ZP V<|ZF V (zT V V)<|Zm V V<|ZP V<|ZP V<|ZF V (zT V V)<|Zm V V<|ZP V<|ZP V<|ZF V (zT V V)<|Za V V<|ZT<|zO<|zK V V (fun w hw=>?_);exact⟨by congr 2;rw[Bool.eq_iff_iff];simp[sG];try omega,(HpG.keep hw).ext⟩
 ·replace hb:=yO hb;refine ZG V V V (zU V)<|ZG V V V (yU V V)<|ZF V (zM V V)<|Zm V V<|zH 9 V (fun hb=>?_) (fun hb=>?_)
  ·replace hb:=eq_of_beq hb;refine ZP V<|ZP V<|ZF V (zT V V)<|Zm V V<|ZP V<|ZP V<|ZF V (zT V V)<|Za V V<|ZT<|zO<|zK V V (fun w hw=>?_);exact⟨by congr 2;rw[Bool.eq_iff_iff];simp[sG];try omega,(HpG.keep hw).ext⟩
  ·replace hb:=yO hb;refine ZG V V V (zU V)<|ZG V V V (yU V V)<|ZF V (zM V V)<|Zm V V<|zH 13 V (fun hb=>?_) (fun hb=>?_)
   ·replace hb:=eq_of_beq hb;refine ZP V<|ZP V<|ZF V (zT V V)<|Za V V<|ZT<|zO<|zK V V (fun w hw=>?_);exact⟨by congr 2;rw[Bool.eq_iff_iff];simp[sG];try omega,(HpG.keep hw).ext⟩
   ·replace hb:=yO hb;refine ZG V V V (zU V)<|ZG V V V (yU V V)<|ZF V (zM V V)<|Za V V<|ZT<|zO<|zK V V (fun w hw=>?_);exact⟨by congr 2;rw[Bool.eq_iff_iff];simp[sG];try omega,(HpG.keep hw).ext⟩
theorem wordc_any (r:Nat) (w_0:World):Calls Tryz.prog 124 #[.int .i32 r] w_0 fun e w'=>e=.returned (.bool (tF r))∧Ext w_0 w':=by
 refine zC (args:=[.int .i32 r]) Tryz.func124 V 9 V (Nat.le_of_ble_eq_true V)<|Z1 0 V<|zI (H':=Hp (fun _=>False) w_0 [] [] (fun _=>True)) (fun u hu=>?_) ?_
 ·subst hu;exact Hp.start0
 refine zY<|zX<|Za V V<|ZX<|zX<|Zm V V<|yS .none V  (v:=.bool (rX r)) (by kernel_rfl) V (fun w hw=>letter_any r w) ?_;refine Zm V V<|zH 5 V (fun hb=>?_) (fun hb=>?_)
 ·refine ZP V<|ZP V<|ZF V (zT V V)<|Za V V<|ZT<|zO<|zK V V (fun w hw=>?_);exact⟨by congr 2;rw[Bool.eq_iff_iff];simp_all [tF],(HpG.keep hw).ext⟩
 ·refine ZG V V V (zU V)<|yS (.some V V) V  (v:=.bool (uY r)) (by kernel_rfl) V (fun w hw=>digit_any r w) ?_;refine ZF V (zM V V)<|Za V V<|ZT<|zO<|zK V V (fun w hw=>?_);exact⟨by congr 2;rw[Bool.eq_iff_iff];simp_all [tF],(HpG.keep hw).ext⟩
theorem wordd_any (r:Nat) (w_0:World):Calls Tryz.prog 95 #[.int .i32 r] w_0 fun e w'=>e=.returned (.bool (tF r))∧Ext w_0 w':=by
 refine zC (args:=[.int .i32 r]) Tryz.func95 V 9 V (Nat.le_of_ble_eq_true V)<|Z1 0 V<|zI (H':=Hp (fun _=>False) w_0 [] [] (fun _=>True)) (fun u hu=>?_) ?_
 ·subst hu;exact Hp.start0
 refine zY<|zX<|Za V V<|ZX<|zX<|Zm V V<|yS .none V  (v:=.bool (rX r)) (by kernel_rfl) V (fun w hw=>letter_any r w) ?_;refine Zm V V<|zH 5 V (fun hb=>?_) (fun hb=>?_)
 ·refine ZP V<|ZP V<|ZF V (zT V V)<|Za V V<|ZT<|zO<|zK V V (fun w hw=>?_);exact⟨by congr 2;rw[Bool.eq_iff_iff];simp_all [tF],(HpG.keep hw).ext⟩
 ·refine ZG V V V (zU V)<|yS (.some V V) V  (v:=.bool (uY r)) (by kernel_rfl) V (fun w hw=>digit_any r w) ?_;refine ZF V (zM V V)<|Za V V<|ZT<|zO<|zK V V (fun w hw=>?_);exact⟨by congr 2;rw[Bool.eq_iff_iff];simp_all [tF],(HpG.keep hw).ext⟩
abbrev rnV (r:Nat):Value:=.int .i32 r
theorem digit_fn:FnOk Tryz.prog (.func (.func 96) #[] #[]) rnV uY:=⟨_,rfl,(by kernel_rfl),fun r _ w=>digit_any r w⟩
theorem blank_fn:FnOk Tryz.prog (.func (.func 82) #[] #[]) rnV sG:=⟨_,rfl,(by kernel_rfl),fun r _ w=>blank_any r w⟩
theorem wordc_fn:FnOk Tryz.prog (.func (.func 124) #[] #[]) rnV tF:=⟨_,rfl,(by kernel_rfl),fun r _ w=>wordc_any r w⟩
theorem wordd_fn:FnOk Tryz.prog (.func (.func 95) #[] #[]) rnV tF:=⟨_,rfl,(by kernel_rfl),fun r _ w=>wordd_any r w⟩
/-- What is behind the first p bytes, all of one kind. -/
theorem spanL_step {q:Nat→Bool}{l:Bs}{p:Nat}{c:UInt8}(hc:l[p]? = some c) (hp:∀j d,j<p→l[j]? = some d→q d.toNat=true) (hq:q c.toNat=false):spanL (fun c=>q c.toNat) l=p:=by
 induction p generalizing l with
 | zero =>
  cases l with
  | nil=>cases hc
  | cons x l=>cases hc;simp[spanL,List.takeWhile,hq]
 | succ p ih =>
  cases l with
  | nil=>cases hc
  | cons x l =>
   have h0:=hp 0 x (by omega) rfl;have:=ih (l:=l) hc (fun j d hj hd=>hp (j+1) d (by omega) hd);simp only[spanL] at this ⊢;simp[List.takeWhile,h0,this]
theorem spanL_all {q:Nat→Bool}{l:Bs}(hp:∀(j:Nat) (d:UInt8),l[j]? = some d→q d.toNat=true):spanL (fun c=>q c.toNat) l=l.length:=by
 induction l with
 | nil=>rfl
 | cons x l ih =>
  have h0:=hp 0 x rfl;have:=ih (fun j d hd=>hp (j+1) d hd);simp only[spanL] at this ⊢;simp[List.takeWhile,h0,this]
/-- The bytes ahead of p are all of one kind; of what that tells the runes. -/
structure SpI (q:Nat→Bool) (l:Bs) (p:Nat):Prop where
 le:p≤l.length
 all:∀j d,j<p→l[j]? = some d→q d.toNat=true
set_option maxRecDepth 100000 in
theorem span_any (fv:Value) (q:Nat→Bool) (hf:FnOk Tryz.prog fv rnV q) (hq:∀r,128≤r→q r=false) (l:Bs) (w_0:World):Calls Tryz.prog 81 #[.string ⟨l.toArray⟩,fv] w_0 fun e w'=>e=.returned (.int .i64 (spanL (fun c=>q c.toNat) l))∧Ext w_0 w':=by
 refine zC (args:=[.string ⟨l.toArray⟩,fv]) Tryz.func81 V 20 V (Nat.le_of_ble_eq_true V)<|Z2 0 1 V V<|zI (H':=Hp (fun _=>False) w_0 [] [] (fun _=>True)) (fun u hu=>?_) ?_
 ·subst hu;exact Hp.start0
 refine zY<|zX<|Za V V<|ZX<|zY<|zX<|Zm V V<|wl_range .none V  V Tryz.underlying9 (fun bi=>?_);refine ZT<|zB<|xW (ι:={p:Nat // SpI q l p}) (fun p=>[(0,.string ⟨l.toArray⟩),(1,fv),(8,.pointer (some ⟨bi,0,none⟩))]) (fun p=>Hp (fun _=>False) w_0 [(bi,.stringIter ⟨l.toArray⟩ p.1)] [] (fun _=>True)) (fun p=>l.length-p.1) ⟨0,Nat.zero_le _,fun _ _ h=>absurd h (by omega)⟩ ?_ ?_ (fun p=>?_)
 ·exact .cons V<|.cons V<|.cons V<|.nil
 ·exact fun w h=>h
 obtain⟨p,hp,hall⟩:=p;dsimp only;refine zY<|zX<|wl_next 0 .none V  V V<|ZF V (yE V (nextV0 ⟨l.toArray⟩ p))<|ZX ?_;skip;refine zQ V (fun hlt=>?_) (fun hlt=>?_)
 ·have hlt:=of_decide_eq_true hlt;have hlt':p<l.length:=by simpa [ByteArray.size] using hlt
  obtain⟨c,hc⟩:∃c,l[p]? = some c:=⟨l[p],List.getElem?_eq_getElem hlt'⟩;refine zJ<|zR<|zB<|zY<|zX<|ZF V (yE V (nextV1 hlt))<|ZF V (yE V (nextV2 hlt))<|Za V V<|Za V V<|ZX<|Z7r 0 1 5 6 8 9 10 V V V V V V V<|Zm V V<|Zm V V<|wl_callQ .none V  hf V V (decode_le _ _)<|ZF V (xP V)<|ZT<|zQ V (fun hbad=>?_) (fun hbad=>?_)
  ·have hbad:q (Utf8.decode ⟨l.toArray⟩ p).1=false:=by simpa using hbad
   have hcq:q c.toNat=false:=by
    rcases Nat.lt_or_ge c.toNat 128 with h|h
    ·rw[decode_list hc h] at hbad;exact hbad
    ·exact hq _ h
   refine zY<|Z8r 0 1 5 6 8 9 10 16 V V V V V V V V<|Zm V V<|Za V V<|ZT<|zO<|zS<|zV<|zS<|zV<|zK V V (fun w hw=>?_);exact⟨by rw[spanL_step hc hall hcq],(HpG.keep hw).ext⟩
  ·have hgood:q (Utf8.decode ⟨l.toArray⟩ p).1=true:=by simpa using hbad
   have ha:c.toNat<128:=Nat.lt_of_not_le fun h=>by rw[hq _ (decode_big hc h)] at hgood;cases hgood
   have hcq:q c.toNat=true:=by rw[decode_list hc ha] at hgood;exact hgood
   have hnx:nextP ⟨l.toArray⟩ p=p+1:=by unfold nextP;rw[if_pos hlt,decode_list hc ha]
   refine zJ<|zG<|yH (ι:={p:Nat // SpI q l p}) ⟨p+1,by omega,fun j d hj hd=>?_⟩ (by show l.length-(p+1)<l.length-p;omega) (O3 V V V) (fun w h=>by rw[hnx] at h;exact h);rcases Nat.lt_or_ge j p with h|h
   ·exact hall j d h hd
   ·have:j=p:=by omega
    subst this;rw[hc] at hd;cases hd;exact hcq
 ·have hge:¬p<l.length:=fun h=>absurd hlt (by simp[ByteArray.size,h]);have hpe:p=l.length:=by omega
  refine yC<|zP<|zP<|yD<|zR<|zY<|zX<|Zm V V<|ZF V (wN V U9)<|Za V V<|ZT<|zO<|zK V V (fun w hw=>?_);exact⟨by rw[spanL_all (fun j d hd=>hall j d (by rw[hpe];exact (List.getElem?_eq_some_iff.1 hd).1) hd)],(HpG.keep hw).ext⟩
end Go.Proofs.YtfpkpnkdnammnaaGreatDoor
