/- The reference model's names. -/
import Derived.Test.YtfpkpnkdnammnaaGreatDoorMgI
import Derived.Test.YtfpkpnkdnammnaaGreatDoorMgw
namespace Go.Proofs.YtfpkpnkdnammnaaGreatDoor
open Go.RowKit
theorem rletter_any (r:Nat) (w_0:World):Calls Tryz.prog 35 #[.int .u8 r] w_0 fun e w'=>e=.returned (.bool (rX r))∧Ext w_0 w':=by
 refine zC (args:=[.int .u8 r]) Tryz.func35 V 9 V (Nat.le_of_ble_eq_true V)<|Z1 0 V<|zI (H':=Hp (fun _=>False) w_0 [] [] (fun _=>True)) (fun u hu=>?_) ?_
 ·subst hu;exact Hp.start0
 refine zY<|zX<|Za V V<|ZX<|zX<|Zm V V<|ZF V (uK V V)<|Zm V V<|zH 5 V (fun hb=>?_) (fun hb=>?_)
 ·replace hb:=of_decide_eq_true hb;refine ZG V V V (zU V)<|ZG V V V (yf_leq V V)<|ZF V (zT V V)<|Za V V<|ZT<|zO<|zK V V (fun w hw=>?_);exact⟨by congr 2;rw[Bool.eq_iff_iff];simp[rX];try omega,(HpG.keep hw).ext⟩
 ·replace hb:=of_decide_eq_false hb;refine ZP V<|ZP V<|ZF V (zM V V)<|Za V V<|ZT<|zO<|zK V V (fun w hw=>?_);exact⟨by congr 2;rw[Bool.eq_iff_iff];simp[rX];try omega,(HpG.keep hw).ext⟩
theorem rdigit_any (r:Nat) (w_0:World):Calls Tryz.prog 34 #[.int .u8 r] w_0 fun e w'=>e=.returned (.bool (uY r))∧Ext w_0 w':=by
 refine zC (args:=[.int .u8 r]) Tryz.func34 V 9 V (Nat.le_of_ble_eq_true V)<|Z1 0 V<|zI (H':=Hp (fun _=>False) w_0 [] [] (fun _=>True)) (fun u hu=>?_) ?_
 ·subst hu;exact Hp.start0
 refine zY<|zX<|Za V V<|ZX<|zX<|Zm V V<|ZF V (uK V V)<|Zm V V<|zH 5 V (fun hb=>?_) (fun hb=>?_)
 ·replace hb:=of_decide_eq_true hb;refine ZG V V V (zU V)<|ZG V V V (yf_leq V V)<|ZF V (zT V V)<|Za V V<|ZT<|zO<|zK V V (fun w hw=>?_);exact⟨by congr 2;rw[Bool.eq_iff_iff];simp[uY];try omega,(HpG.keep hw).ext⟩
 ·replace hb:=of_decide_eq_false hb;refine ZP V<|ZP V<|ZF V (zM V V)<|Za V V<|ZT<|zO<|zK V V (fun w hw=>?_);exact⟨by congr 2;rw[Bool.eq_iff_iff];simp[uY];try omega,(HpG.keep hw).ext⟩
set_option maxRecDepth 100000 in
theorem among_any (l:List Bs) (hl:l.length≤9223372036854775807) (s:Bs) (A:Option Addr) (cap:Nat) {F:Nat→Prop}(w_0:World) (h:RdF F A (xG l) w_0):Calls Tryz.prog 36 #[.string ⟨s.toArray⟩,.slice A l.length cap] w_0 fun e w'=>e=.returned (.bool (decide (s∈l)))∧Ext w_0 w':=by
 have hA:0<l.length→∃b off,A=some ⟨b,off,none⟩:=fun h0=>by
  obtain⟨b,off,e,_⟩:=h (by simpa using h0);exact⟨b,off,e⟩
 refine zC (args:=[.string ⟨s.toArray⟩,.slice A l.length cap]) Tryz.func36 V 18 V (Nat.le_of_ble_eq_true V)<|Z2 0 1 V V<|zI (H':=Hp (fun _=>False) w_0 [] [] (RdF F A (xG l))) (fun u hu=>?_) ?_
 ·subst hu;exact Hp.startT RdF.lies h
 refine zY<|zX<|Za V V<|ZX<|zY<|zX<|Za V V<|ZT<|zB<|xW (ι:={k:Nat // IxI l s k}) (fun k=>[(0,.string ⟨s.toArray⟩),(1,.slice A l.length cap),(5,.int .i64 k.1)]) (fun _=>Hp (fun _=>False) w_0 [] [] (RdF F A (xG l))) (fun k=>l.length-k.1) ⟨0,Nat.zero_le _,fun _ _ h=>absurd h (by omega)⟩ ?_ ?_ (fun k=>?_)
 ·exact .cons V<|.cons V<|.cons V<|.nil
 ·exact fun w h=>h
 obtain⟨k,hk,hno⟩:=k;dsimp only;refine zY<|zY<|zX<|Zm V V<|Zm V V<|ZF V (yL V U22)<|ZF V (xM V V)<|ZT<|zQ V (fun hc=>?_) (fun hc=>?_)
 ·replace hc:=of_decide_eq_true hc;obtain⟨b,off,rfl⟩:=hA (by omega);have hkl:k<l.length:=by omega
  obtain⟨x,hx⟩:∃x,l[k]? = some x:=⟨l[k],List.getElem?_eq_getElem hkl⟩;refine zJ<|zR<|zY<|zB<|zY<|Z4r 0 1 5 9 V V V V<|Zm V V<|Zm V V ?_;(refine ZF rfl (zL (es:=1) rfl rfl U22 (by kernel_rfl) rfl ?_ rfl) ?_;(· first|decide|omega|(simp;done)|(simp;omega));skip);refine ZF V (yP (v:=.string ⟨x.toArray⟩) V U9 V (fun w h=>RdF.part (HpG.x h) (by simpa using hkl) (by omega) (uS hx))) ?_;refine Zm V V<|ZF V (yI V V U9)<|ZT<|zQ V (fun he=>?_) (fun he=>?_)
  ·have he:=of_decide_eq_true he;subst he;refine zY<|Z5r 0 1 5 9 17 V V V V V<|Za V V<|ZT<|zO<|zS<|zV<|zV<|zS<|zV<|zK V V (fun w hw=>?_);exact⟨by rw[decide_eq_true (List.mem_of_getElem? hx)],(HpG.keep hw).ext⟩
  ·have he:=of_decide_eq_false he;refine zJ<|zG<|zR<|Z5r 0 1 5 9 17 V V V V V<|Zm V V ?_;(refine ZF rfl (yG rfl rfl (i64_in _ ?_ ?_)) ?_;(· omega);(· omega);skip);refine Za V V<|zN<|yH (ι:={k:Nat // IxI l s k}) ⟨k+1,by omega,fun j y hj hy=>?_⟩ (by show l.length-(k+1)<l.length-k;omega) (O3 V V V) (fun w h=>h);rcases Nat.lt_or_ge j k with h1|h1
   ·exact hno j y h1 hy
   ·have:j=k:=by omega
    subst this;rw[hx] at hy;cases hy;exact he
 ·replace hc:=of_decide_eq_false hc;have hke:k=l.length:=by omega
  refine yC<|zP<|zP<|yD<|zR<|zY<|Z4r 0 1 5 9 V V V V<|Za V V<|ZT<|zO<|zK V V (fun w hw=>?_);exact⟨by rw[decide_eq_false (fun e=>by obtain⟨j,hj,e⟩:=List.getElem_of_mem e;exact hno j _ (by omega) (List.getElem?_eq_getElem hj) e)],(HpG.keep hw).ext⟩
theorem rkeywords_any (w_0:World):Calls Tryz.prog 37 #[] w_0 fun e w'=>∃A:Option Addr,e=.returned (.slice A uZ.length 9)∧Ext w_0 w'∧RdF (fun k=>w_0.heap.size≤k) A (xG uZ) w':=by
 refine zC (args:=[]) Tryz.func37 V 2 V (Nat.le_of_ble_eq_true V)<|xL (.nil)<|zI (H':=Hp (fun _=>False) w_0 [] [] (fun _=>True)) (fun u hu=>?_) ?_
 ·subst hu;exact Hp.start0
 refine zY<|zX<|Za V V<|ZX<|zX<|zA .none V (sJ (z:=.string ⟨#[]⟩) V V V V U22 (by kernel_rfl) (by kernel_rfl) V V) (fun b1=>?_);refine Za V V<|ZT<|zO<|zK V V (fun w hw=>?_);exact⟨_,rfl,(HpG.keep hw).ext,HpG.rdF (j:=0) hw V (HpG.mineL hw (j:=0) V id)⟩
end Go.Proofs.YtfpkpnkdnammnaaGreatDoor
/- The reference model's levels of operators. -/
namespace Go.Proofs.YtfpkpnkdnammnaaGreatDoor
open Go.RowKit
def levsL:List (List Bs):=[[[124]],[[94]],[[38]],[[61,61],[33,61]],[[60],[60,61],[62],[62,61]],[[60,60],[62,62]],[[43],[45]],[[42],[47],[37]]]
theorem lev_at {s:Bs}{k:Nat}{x:List Bs}(hk:levsL[k]? = some x) (h:s∈x):uR s=some k:=by
 have h8:k<8:=(List.getElem?_eq_some_iff.1 hk).1;obtain rfl|rfl|rfl|rfl|rfl|rfl|rfl|rfl:k=0∨k=1∨k=2∨k=3∨k=4∨k=5∨k=6∨k=7:=by omega
 all_goals
  cases hk;simp only[List.mem_cons,List.not_mem_nil,or_false] at h
  (rcases h with rfl|rfl|rfl|rfl<;>rfl)
theorem lev_none {s:Bs}(h:∀(j:Nat) (x:List Bs),levsL[j]? = some x→s∉x):uR s=none:=by
 have h0:=h 0 _ rfl;have h1:=h 1 _ rfl;have h2:=h 2 _ rfl;have h3:=h 3 _ rfl;have h4:=h 4 _ rfl;have h5:=h 5 _ rfl;have h6:=h 6 _ rfl;have h7:=h 7 _ rfl;simp only[List.mem_cons,List.not_mem_nil,or_false,not_or] at h0 h1 h2 h3 h4 h5 h6 h7;simp only[uR,levT,vT,h0,h1,h2,h3,h4,h5,h6,h7,if_false]
def levC (av:List (Option Addr)):List Value:=List.zipWith (fun (a:Option Addr) (x:List Bs)=>Value.slice a x.length x.length) av levsL
/-- The rows of the levels. -/
def LevV (av:List (Option Addr)) (F:Nat→Prop) (u:World):Prop:=∀(i:Nat) (x:List Bs) (a:Option Addr),levsL[i]? = some x→av[i]? = some a→RdF F a (xG x) u
theorem LevV.lies {av:List (Option Addr)}:Lies fun F u=>LevV av F u :=
 ⟨fun hk h i x a h1 h2=>RdF.lies.foot hk (h i x a h1 h2),fun h i x a h1 h2=>RdF.lies.lt (h i x a h1 h2),fun hF h i x a h1 h2=>RdF.lies.mono hF (h i x a h1 h2)⟩
theorem rlevels_any (w_0:World):Calls Tryz.prog 147 #[] w_0 fun e w'=>∃(A:Nat) (av:List (Option Addr)),av.length=8∧e=.returned (.slice (some ⟨A,0,none⟩) 8 8)∧Ext w_0 w'∧RdF (fun k=>w_0.heap.size≤k) (some ⟨A,0,none⟩) (levC av) w'∧LevV av (fun k=>w_0.heap.size≤k) w':=by
 refine zC (args:=[]) Tryz.func147 V 10 V (Nat.le_of_ble_eq_true V)<|xL (.nil)<|zI (H':=Hp (fun _=>False) w_0 [] [] (fun _=>True)) (fun u hu=>?_) ?_
 ·subst hu;exact Hp.start0
 refine zY<|zX<|Za V V<|ZX<|zX<|zA .none V (xO (z:=.string ⟨#[]⟩) V V U22 (by kernel_rfl) (by kernel_rfl) V V) (fun b1=>?_);refine zA .none V (xO (z:=.string ⟨#[]⟩) V V U22 (by kernel_rfl) (by kernel_rfl) V V) (fun b2=>?_);refine zA .none V (xO (z:=.string ⟨#[]⟩) V V U22 (by kernel_rfl) (by kernel_rfl) V V) (fun b3=>?_);refine zA .none V (nf_bs2 (z:=.string ⟨#[]⟩) V V V V U22 (by kernel_rfl) (by kernel_rfl) V V V) (fun b4=>?_);refine zA .none V (sJ (z:=.string ⟨#[]⟩) V V V V U22 (by kernel_rfl) (by kernel_rfl) V V) (fun b5=>?_);refine zA .none V (nf_bs2 (z:=.string ⟨#[]⟩) V V V V U22 (by kernel_rfl) (by kernel_rfl) V V V) (fun b6=>?_);refine zA .none V (nf_bs2 (z:=.string ⟨#[]⟩) V V V V U22 (by kernel_rfl) (by kernel_rfl) V V V) (fun b7=>?_);refine zA .none V (sJ (z:=.string ⟨#[]⟩) V V V V U22 (by kernel_rfl) (by kernel_rfl) V V) (fun b8=>?_);refine zA .none V (sJ (z:=.slice none 0 0) V V V V Tryz.underlying178 (by kernel_rfl) (by kernel_rfl) V V) (fun b9=>?_);refine Za V V<|ZT<|zO<|zK V V (fun w hw=>?_);refine⟨_,[some ⟨b1,0,none⟩,some ⟨b2,0,none⟩,some ⟨b3,0,none⟩,some ⟨b4,0,none⟩,some ⟨b5,0,none⟩,some ⟨b6,0,none⟩,some ⟨b7,0,none⟩,some ⟨b8,0,none⟩],rfl,rfl,(HpG.keep hw).ext,HpG.rdF (j:=0) hw V (HpG.mineL hw (j:=0) V id),?_⟩;intro i x a hx ha;have h8:i<8:=(List.getElem?_eq_some_iff.1 hx).1;obtain rfl|rfl|rfl|rfl|rfl|rfl|rfl|rfl:i=0∨i=1∨i=2∨i=3∨i=4∨i=5∨i=6∨i=7:=by omega
 ·cases hx;cases ha;exact HpG.rdF (j:=8) hw V (HpG.mineL hw (j:=8) V id)
 ·cases hx;cases ha;exact HpG.rdF (j:=7) hw V (HpG.mineL hw (j:=7) V id)
 ·cases hx;cases ha;exact HpG.rdF (j:=6) hw V (HpG.mineL hw (j:=6) V id)
 ·cases hx;cases ha;exact HpG.rdF (j:=5) hw V (HpG.mineL hw (j:=5) V id)
 ·cases hx;cases ha;exact HpG.rdF (j:=4) hw V (HpG.mineL hw (j:=4) V id)
 ·cases hx;cases ha;exact HpG.rdF (j:=3) hw V (HpG.mineL hw (j:=3) V id)
 ·cases hx;cases ha;exact HpG.rdF (j:=2) hw V (HpG.mineL hw (j:=2) V id)
 ·cases hx;cases ha;exact HpG.rdF (j:=1) hw V (HpG.mineL hw (j:=1) V id)
theorem levC_at {av:List (Option Addr)}(hn:av.length=8) {k:Nat}{x:List Bs}(hx:levsL[k]? = some x):∃a,av[k]? = some a∧(levC av)[k]? = some (.slice a x.length x.length):=by
 have h8:k<8:=(List.getElem?_eq_some_iff.1 hx).1;have hk:k<av.length:=by omega
 refine⟨av[k],List.getElem?_eq_getElem hk,?_⟩;unfold levC;rw[List.getElem?_zipWith,List.getElem?_eq_getElem hk,hx]
end Go.Proofs.YtfpkpnkdnammnaaGreatDoor
