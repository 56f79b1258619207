/- The reference model's names. -/
import Derived.Test.YtfpkpnkdnammnaaGreatDoorMgI
import Derived.Test.YtfpkpnkdnammnaaGreatDoorMgw
namespace Go.Proofs.YtfpkpnkdnammnaaGreatDoor
open Go.RowKit
theorem rletter_any (r:Nat) (w_0:World):Calls Tryz.prog 35 #[.int .u8 r] w_0 fun e w'=>e=.returned (.bool (sL r))∧Ext w_0 w':=by
 refine yR (args:=[.int .u8 r]) Tryz.func35 V 9 V (Nat.le_of_ble_eq_true V)<|Z1 0 V<|yY (H':=Hp (fun _=>False) w_0 [] [] (fun _=>True)) (fun u hu=>?_) ?_
 ·subst hu;exact Hp.start0
 refine zY<|zX<|Za V V<|ZX<|zX<|Zm V V<|ZF V (tO V V)<|Zm V V<|zA 5 V (fun hb=>?_) (fun hb=>?_)
 ·replace hb:=of_decide_eq_true hb;refine ZG V V V (zP V)<|ZG V V V (yf_leq V V)<|ZF V (zO V V)<|Za V V<|ZT<|zI<|zD V V (fun w hw=>?_);exact⟨by congr 2;rw[Bool.eq_iff_iff];simp[sL];try omega,(HpG.keep hw).ext⟩
 ·replace hb:=of_decide_eq_false hb;refine ZP V<|ZP V<|ZF V (zK V V)<|Za V V<|ZT<|zI<|zD V V (fun w hw=>?_);exact⟨by congr 2;rw[Bool.eq_iff_iff];simp[sL];try omega,(HpG.keep hw).ext⟩
theorem rdigit_any (r:Nat) (w_0:World):Calls Tryz.prog 34 #[.int .u8 r] w_0 fun e w'=>e=.returned (.bool (tK r))∧Ext w_0 w':=by
 refine yR (args:=[.int .u8 r]) Tryz.func34 V 9 V (Nat.le_of_ble_eq_true V)<|Z1 0 V<|yY (H':=Hp (fun _=>False) w_0 [] [] (fun _=>True)) (fun u hu=>?_) ?_
 ·subst hu;exact Hp.start0
 refine zY<|zX<|Za V V<|ZX<|zX<|Zm V V<|ZF V (tO V V)<|Zm V V<|zA 5 V (fun hb=>?_) (fun hb=>?_)
 ·replace hb:=of_decide_eq_true hb;refine ZG V V V (zP V)<|ZG V V V (yf_leq V V)<|ZF V (zO V V)<|Za V V<|ZT<|zI<|zD V V (fun w hw=>?_);exact⟨by congr 2;rw[Bool.eq_iff_iff];simp[tK];try omega,(HpG.keep hw).ext⟩
 ·replace hb:=of_decide_eq_false hb;refine ZP V<|ZP V<|ZF V (zK V V)<|Za V V<|ZT<|zI<|zD V V (fun w hw=>?_);exact⟨by congr 2;rw[Bool.eq_iff_iff];simp[tK];try omega,(HpG.keep hw).ext⟩
set_option maxRecDepth 100000 in
theorem among_any (l:List Bs) (hl:l.length≤9223372036854775807) (s:Bs) (A:Option Addr) (cap:Nat) {F:Nat→Prop}(w_0:World) (h:RdF F A (xX l) w_0):Calls Tryz.prog 36 #[.string ⟨s.toArray⟩,.slice A l.length cap] w_0 fun e w'=>e=.returned (.bool (decide (s∈l)))∧Ext w_0 w':=by
 have hA:0<l.length→∃b off,A=some ⟨b,off,none⟩:=fun h0=>by
  obtain⟨b,off,e,_⟩:=h (by simpa using h0);exact⟨b,off,e⟩
 refine yR (args:=[.string ⟨s.toArray⟩,.slice A l.length cap]) Tryz.func36 V 18 V (Nat.le_of_ble_eq_true V)<|Z2 0 1 V V<|yY (H':=Hp (fun _=>False) w_0 [] [] (RdF F A (xX l))) (fun u hu=>?_) ?_
 ·subst hu;exact Hp.startT RdF.lies h
 refine zY<|zX<|Za V V<|ZX<|zY<|zX<|Za V V<|ZT<|yU<|xO (ι:={k:Nat // IxI l s k}) (fun k=>[(0,.string ⟨s.toArray⟩),(1,.slice A l.length cap),(5,.int .i64 k.1)]) (fun _=>Hp (fun _=>False) w_0 [] [] (RdF F A (xX l))) (fun k=>l.length-k.1) ⟨0,Nat.zero_le _,fun _ _ h=>absurd h (by omega)⟩ ?_ ?_ (fun k=>?_)
 ·exact .cons V<|.cons V<|.cons V<|.nil
 ·exact fun w h=>h
 obtain⟨k,hk,hno⟩:=k;dsimp only;refine zY<|zY<|zX<|Zm V V<|Zm V V<|ZF V (yL V U22)<|ZF V (xL V V)<|ZT<|zN V (fun hc=>?_) (fun hc=>?_)
 ·replace hc:=of_decide_eq_true hc;obtain⟨b,off,rfl⟩:=hA (by omega);have hkl:k<l.length:=by omega
  obtain⟨x,hx⟩:∃x,l[k]? = some x:=⟨l[k],List.getElem?_eq_getElem hkl⟩;refine yZ<|zM<|zY<|yU<|zY<|Z4r 0 1 5 9 V V V V<|Zm V V<|Zm V V ?_;(refine ZF rfl (zQ (es:=1) rfl rfl U22 (by kernel_rfl) rfl ?_ rfl) ?_;(· first|decide|omega|(simp;done)|(simp;omega));skip);refine ZF V (yO (v:=.string ⟨x.toArray⟩) V U9 V (fun w h=>RdF.part (HpG.x h) (by simpa using hkl) (by omega) (rL hx))) ?_;refine Zm V V<|ZF V (xM V V U9)<|ZT<|zN V (fun he=>?_) (fun he=>?_)
  ·have he:=of_decide_eq_true he;subst he;refine zY<|Z5r 0 1 5 9 17 V V V V V<|Za V V<|ZT<|zI<|zT<|zU<|zU<|zT<|zU<|zD V V (fun w hw=>?_);exact⟨by rw[decide_eq_true (List.mem_of_getElem? hx)],(HpG.keep hw).ext⟩
  ·have he:=of_decide_eq_false he;refine yZ<|zG<|zM<|Z5r 0 1 5 9 17 V V V V V<|Zm V V ?_;(refine ZF rfl (yA rfl rfl (i64_in _ ?_ ?_)) ?_;(· omega);(· omega);skip);refine Za V V<|zW<|xP (ι:={k:Nat // IxI l s k}) ⟨k+1,by omega,fun j y hj hy=>?_⟩ (by show l.length-(k+1)<l.length-k;omega) (O3 V V V) (fun w h=>h);rcases Nat.lt_or_ge j k with h1|h1
   ·exact hno j y h1 hy
   ·have:j=k:=by omega
    subst this;rw[hx] at hy;cases hy;exact he
 ·replace hc:=of_decide_eq_false hc;have hke:k=l.length:=by omega
  refine xU<|zJ<|zJ<|xV<|zM<|zY<|Z4r 0 1 5 9 V V V V<|Za V V<|ZT<|zI<|zD V V (fun w hw=>?_);exact⟨by rw[decide_eq_false (fun e=>by obtain⟨j,hj,e⟩:=List.getElem_of_mem e;exact hno j _ (by omega) (List.getElem?_eq_getElem hj) e)],(HpG.keep hw).ext⟩
theorem rkeywords_any (w_0:World):Calls Tryz.prog 37 #[] w_0 fun e w'=>∃A:Option Addr,e=.returned (.slice A vB.length 9)∧Ext w_0 w'∧RdF (fun k=>w_0.heap.size≤k) A (xX vB) w':=by
 refine yR (args:=[]) Tryz.func37 V 2 V (Nat.le_of_ble_eq_true V)<|xJ (.nil)<|yY (H':=Hp (fun _=>False) w_0 [] [] (fun _=>True)) (fun u hu=>?_) ?_
 ·subst hu;exact Hp.start0
 refine zY<|zX<|Za V V<|ZX<|zX<|zC .none V (wN (z:=.string ⟨#[]⟩) V V V V U22 (by kernel_rfl) (by kernel_rfl) V V) (fun b1=>?_);refine Za V V<|ZT<|zI<|zD V V (fun w hw=>?_);exact⟨_,rfl,(HpG.keep hw).ext,HpG.rdF (j:=0) hw V (HpG.mineL hw (j:=0) V id)⟩
theorem qY {α:Type}{p:α→Bool}{l:List α}{k:Nat}{y:α}(h:(l.take k).all p=true) (hy:l[k]? = some y) (hp:p y=true):(l.take (k+1)).all p=true:=by
 rw[List.take_add_one,hy,List.all_append,h];simp[hp]
theorem all_no {α:Type}{p:α→Bool}{l:List α}{k:Nat}{y:α}(hy:l[k]? = some y) (hp:p y=false):l.all p=false:=by
 rw[List.all_eq_false];exact⟨y,List.mem_of_getElem? hy,by simp[hp]⟩
set_option maxRecDepth 100000 in
theorem qO (s:Bs) (w_0:World):Calls Tryz.prog 46 #[.string ⟨s.toArray⟩] w_0 fun e w'=>e=.returned (.bool (yD s))∧Ext w_0 w':=by
 have hat:s≠[]→∃c r,s=c::r:=fun h=>by cases s with|nil=>exact absurd rfl h|cons c r=>exact⟨c,r,rfl⟩
 refine yR (args:=[.string ⟨s.toArray⟩]) Tryz.func46 V 43 V (Nat.le_of_ble_eq_true V)<|Z1 0 V<|yY (H':=Hp (fun _=>False) w_0 [] [] (fun _=>True)) (fun u hu=>?_) ?_
 ·subst hu;exact Hp.start0
 refine zY<|zX<|Za V V<|ZT<|wQ (ι:=Unit) (fun _=>[(0,.string ⟨s.toArray⟩),(3,.bool (decide (s∈vB)))]) (fun _=>Hp (fun _=>False) w_0 [] [] (fun _=>True)) ?_ (fun _=>?_)
 ·refine zX<|Zm V V<|sV (ι:=Option Addr) (C:=fun _=>True) (val:=fun A=>.slice A vB.length 9) (TT:=fun A F u=>RdF F A (xX vB) u) .none V  (by kernel_rfl) V (fun _ h=>h.elim) (fun _=>RdF.lies) (fun w hw=>(rkeywords_any w).mono fun e w' ⟨A,e1,e2,e3⟩=>⟨A,trivial,e1,e2,e3⟩) (fun A F _ hF=>?_);refine yM .none V  (v:=.bool (decide (s∈vB))) (by kernel_rfl) V (fun w hw=>among_any vB (by decide) _ _ _ w (HpG.x hw).1) ?_;refine Za V V<|zW<|yT (ι:=Unit) () (O2 V V) (fun w h=>Hp.weakX h fun _ _=>trivial)
 ·refine zY<|zY<|zX<|Zm V V<|ZF V (uC V U9)<|ZF V (xL V V)<|Zm V V<|zA 11 V (fun h3=>?_) (fun h3=>?_)
  ·replace h3:=of_decide_eq_true h3;refine ZP V<|ZP V<|ZP V<|ZF V (zO V V)<|Zm V V<|ZP V<|ZP V<|ZP V<|ZP V<|ZF V (zO V V)<|Zm V V<|ZP V<|ZF V (zO V V)<|ZT<|wG V<|zY<|Z3r 0 3 24 V V V<|Za V V<|ZT<|zI<|zU<|zD V V (fun w hw=>?_);exact⟨by cases s with|nil=>rfl|cons c r=>(simp at h3;omega),(HpG.keep hw).ext⟩
  ·replace h3:=of_decide_eq_false h3;skip;obtain⟨c,r,rfl⟩:=hat (fun e=>by subst e;simp at h3);refine ZG V V V (zP V)<|ZG V V V (uC V U9)<|ZG V V V (wF V V)<|ZF V (zK V V)<|Zm V V<|zA 16 V (fun h8=>?_) (fun h8=>?_)
   ·replace h8:=of_decide_eq_true h8;refine ZP V<|ZP V<|ZP V<|ZP V<|ZF V (zO V V)<|Zm V V<|ZP V<|ZF V (zO V V)<|ZT<|wG V<|zY<|Z3r 0 3 24 V V V<|Za V V<|ZT<|zI<|zU<|zD V V (fun w hw=>?_);exact⟨by rw[name_no (.inl (by omega))],(HpG.keep hw).ext⟩
   ·replace h8:=of_decide_eq_false h8;refine ZG V V V (zP V)<|ZG V V V (sH V V U9 V V)<|yM (.some V V) V  (v:=.bool (sL c.toNat)) (by kernel_rfl) V (fun w hw=>rletter_any _ w) ?_;refine ZG V V V (xI V)<|ZF V (zK V V)<|Zm V V<|zA 22 V (fun h14=>?_) (fun h14=>?_)
    ·refine ZP V<|ZF V (zO V V)<|ZT<|wG V<|zY<|Z3r 0 3 24 V V V<|Za V V<|ZT<|zI<|zU<|zD V V (fun w hw=>?_);exact⟨by rw[name_no (.inr (.inr (by simpa [pS] using h14)))],(HpG.keep hw).ext⟩
    ·refine ZG V V V (zP V)<|ZF V (zK V V)<|ZT<|zN V (fun h24=>?_) (fun h24=>?_)
     ·refine zY<|Z3r 0 3 24 V V V<|Za V V<|ZT<|zI<|zU<|zD V V (fun w hw=>?_);exact⟨by rw[name_no (.inr (.inl (of_decide_eq_true h24)))],(HpG.keep hw).ext⟩
     ·refine yZ<|zM<|zY<|zY<|Z3r 0 3 24 V V V<|Za V V<|ZT<|yU<|xO (ι:={k:Nat // k≤(c::r).length∧((c::r).take k).all tG=true}) (fun k=>[(0,.string ⟨(c::r).toArray⟩),(4,.int .i64 k.1)]) (fun _=>Hp (fun _=>False) w_0 [] [] (fun _=>True)) (fun k=>(c::r).length-k.1) ⟨0,Nat.zero_le _,rfl⟩ ?_ ?_ (fun k=>?_)
      ·exact .cons V<|.cons V<|.nil
      ·exact fun w h=>h
      obtain⟨k,hk,hall⟩:=k;dsimp only;refine zY<|zY<|zX<|Zm V V<|Zm V V<|ZF V (uC V U9)<|ZF V (xL V V)<|ZT<|zN V (fun hc=>?_) (fun hc=>?_)
      ·replace hc:=of_decide_eq_true hc;have hkl:k<(c::r).length:=by simp at *;omega
       obtain⟨y,hy⟩:∃y,(c::r)[k]? = some y:=⟨(c::r)[k],List.getElem?_eq_getElem hkl⟩;refine yZ<|zM<|zY<|yU<|zY<|Z3r 0 4 28 V V V<|Zm V V<|Zm V V<|ZF V (sH V V U9 V hy)<|yM .none V  (v:=.bool (sL y.toNat)) (by kernel_rfl) V (fun w hw=>rletter_any _ w) ?_;refine ZF V (xI V)<|Zm V V<|zA 36 V (fun h7=>?_) (fun h7=>?_)
       ·refine ZG V V V (zP V)<|ZG V V V (zP V)<|ZG V V V (sH V V U9 V hy)<|yM (.some V V) V  (v:=.bool (tK y.toNat)) (by kernel_rfl) V (fun w hw=>rdigit_any _ w) ?_;refine ZG V V V (xI V)<|ZF V (zO V V)<|ZT<|zN V (fun h42=>?_) (fun h42=>?_)
        ·refine zY<|Z4r 0 4 28 42 V V V V<|Za V V<|ZT<|zI<|zT<|zU<|zU<|zT<|zU<|zD V V (fun w hw=>?_)
         exact⟨by
          have hwn:tG y=false:=by
           show (sL y.toNat||tK y.toNat)=false;rw[show sL y.toNat=false by simpa using h7,show tK y.toNat=false by simpa using h42];rfl
          rw[name_yes (by omega) (of_decide_eq_false h24) (by simpa [pS] using h14),all_no hy hwn],(HpG.keep hw).ext⟩
        ·refine yZ<|zG<|zM<|Z4r 0 4 28 42 V V V V<|Zm V V ?_;(refine ZF rfl (yA rfl rfl (i64_in _ ?_ ?_)) ?_;(· omega);(· omega);skip);refine Za V V<|zW ?_
         have hwy:tG y=true:=by
          show (sL y.toNat||tK y.toNat)=true
          first|(rw[show sL y.toNat=true by simpa using h7];rfl)|(rw[show tK y.toNat=true by simpa using h42,Bool.or_true])
         refine xP (ι:={k:Nat // k≤(c::r).length∧((c::r).take k).all tG=true}) ⟨k+1,hkl,qY hall hy hwy⟩ (by show (c::r).length-(k+1)<(c::r).length-k;omega) (O2 V V) (fun w h=>h)
       ·refine ZP V<|ZP V<|ZP V<|ZP V<|ZP V<|ZF V (zK V V)<|ZT<|vS V<|yZ<|zG<|zM<|Z4r 0 4 28 42 V V V V<|Zm V V ?_;(refine ZF rfl (yA rfl rfl (i64_in _ ?_ ?_)) ?_;(· omega);(· omega);skip);refine Za V V<|zW ?_
        have hwy:tG y=true:=by
         show (sL y.toNat||tK y.toNat)=true
         first|(rw[show sL y.toNat=true by simpa using h7];rfl)|(rw[show tK y.toNat=true by simpa using h42,Bool.or_true])
        refine xP (ι:={k:Nat // k≤(c::r).length∧((c::r).take k).all tG=true}) ⟨k+1,hkl,qY hall hy hwy⟩ (by show (c::r).length-(k+1)<(c::r).length-k;omega) (O2 V V) (fun w h=>h)
      ·replace hc:=of_decide_eq_false hc;refine xU<|zJ<|zJ<|xV<|zM<|zY<|Z3r 0 4 28 V V V<|Za V V<|ZT<|zI<|zD V V (fun w hw=>?_)
       exact⟨by
        have hke:k=(c::r).length:=by simp at *;omega
        rw[hke,List.take_length] at hall
        rw[name_yes (by omega) (of_decide_eq_false h24) (by simpa [pS] using h14),hall],(HpG.keep hw).ext⟩
end Go.Proofs.YtfpkpnkdnammnaaGreatDoor
/- The reference model's levels of operators. -/
namespace Go.Proofs.YtfpkpnkdnammnaaGreatDoor
open Go.RowKit
def levsL:List (List Bs):=[[[124]],[[94]],[[38]],[[61,61],[33,61]],[[60],[60,61],[62],[62,61]],[[60,60],[62,62]],[[43],[45]],[[42],[47],[37]]]
theorem lev_at {s:Bs}{k:Nat}{x:List Bs}(hk:levsL[k]? = some x) (h:s∈x):vX s=some k:=by
 have h8:k<8:=(List.getElem?_eq_some_iff.1 hk).1;obtain rfl|rfl|rfl|rfl|rfl|rfl|rfl|rfl:k=0∨k=1∨k=2∨k=3∨k=4∨k=5∨k=6∨k=7:=by omega
 all_goals
  cases hk;simp only[List.mem_cons,List.not_mem_nil,or_false] at h
  (rcases h with rfl|rfl|rfl|rfl<;>rfl)
theorem lev_none {s:Bs}(h:∀(j:Nat) (x:List Bs),levsL[j]? = some x→s∉x):vX s=none:=by
 have h0:=h 0 _ rfl;have h1:=h 1 _ rfl;have h2:=h 2 _ rfl;have h3:=h 3 _ rfl;have h4:=h 4 _ rfl;have h5:=h 5 _ rfl;have h6:=h 6 _ rfl;have h7:=h 7 _ rfl;simp only[List.mem_cons,List.not_mem_nil,or_false,not_or] at h0 h1 h2 h3 h4 h5 h6 h7;simp only[vX,levT,vH,h0,h1,h2,h3,h4,h5,h6,h7,if_false]
/-- What rank answers. -/
def uG (s:Bs):Int:=match vX s with|some k=>k|none=>-1
def levC (av:List (Option Addr)):List Value:=List.zipWith (fun (a:Option Addr) (x:List Bs)=>Value.slice a x.length x.length) av levsL
/-- The rows of the levels. -/
def LevV (av:List (Option Addr)) (F:Nat→Prop) (u:World):Prop:=∀(i:Nat) (x:List Bs) (a:Option Addr),levsL[i]? = some x→av[i]? = some a→RdF F a (xX x) u
theorem LevV.lies {av:List (Option Addr)}:Lies fun F u=>LevV av F u :=
 ⟨fun hk h i x a h1 h2=>RdF.lies.foot hk (h i x a h1 h2),fun h i x a h1 h2=>RdF.lies.lt (h i x a h1 h2),fun hF h i x a h1 h2=>RdF.lies.mono hF (h i x a h1 h2)⟩
theorem rlevels_any (w_0:World):Calls Tryz.prog 147 #[] w_0 fun e w'=>∃(A:Nat) (av:List (Option Addr)),av.length=8∧e=.returned (.slice (some ⟨A,0,none⟩) 8 8)∧Ext w_0 w'∧RdF (fun k=>w_0.heap.size≤k) (some ⟨A,0,none⟩) (levC av) w'∧LevV av (fun k=>w_0.heap.size≤k) w':=by
 refine yR (args:=[]) Tryz.func147 V 10 V (Nat.le_of_ble_eq_true V)<|xJ (.nil)<|yY (H':=Hp (fun _=>False) w_0 [] [] (fun _=>True)) (fun u hu=>?_) ?_
 ·subst hu;exact Hp.start0
 refine zY<|zX<|Za V V<|ZX<|zX<|zC .none V (xZ (z:=.string ⟨#[]⟩) V V U22 (by kernel_rfl) (by kernel_rfl) V V) (fun b1=>?_);refine zC .none V (xZ (z:=.string ⟨#[]⟩) V V U22 (by kernel_rfl) (by kernel_rfl) V V) (fun b2=>?_);refine zC .none V (xZ (z:=.string ⟨#[]⟩) V V U22 (by kernel_rfl) (by kernel_rfl) V V) (fun b3=>?_);refine zC .none V (nf_bs2 (z:=.string ⟨#[]⟩) V V V V U22 (by kernel_rfl) (by kernel_rfl) V V V) (fun b4=>?_);refine zC .none V (wN (z:=.string ⟨#[]⟩) V V V V U22 (by kernel_rfl) (by kernel_rfl) V V) (fun b5=>?_);refine zC .none V (nf_bs2 (z:=.string ⟨#[]⟩) V V V V U22 (by kernel_rfl) (by kernel_rfl) V V V) (fun b6=>?_);refine zC .none V (nf_bs2 (z:=.string ⟨#[]⟩) V V V V U22 (by kernel_rfl) (by kernel_rfl) V V V) (fun b7=>?_);refine zC .none V (wN (z:=.string ⟨#[]⟩) V V V V U22 (by kernel_rfl) (by kernel_rfl) V V) (fun b8=>?_);refine zC .none V (wN (z:=.slice none 0 0) V V V V Tryz.underlying178 (by kernel_rfl) (by kernel_rfl) V V) (fun b9=>?_);refine Za V V<|ZT<|zI<|zD V V (fun w hw=>?_);refine⟨_,[some ⟨b1,0,none⟩,some ⟨b2,0,none⟩,some ⟨b3,0,none⟩,some ⟨b4,0,none⟩,some ⟨b5,0,none⟩,some ⟨b6,0,none⟩,some ⟨b7,0,none⟩,some ⟨b8,0,none⟩],rfl,rfl,(HpG.keep hw).ext,HpG.rdF (j:=0) hw V (HpG.mineL hw (j:=0) V id),?_⟩;intro i x a hx ha;have h8:i<8:=(List.getElem?_eq_some_iff.1 hx).1;obtain rfl|rfl|rfl|rfl|rfl|rfl|rfl|rfl:i=0∨i=1∨i=2∨i=3∨i=4∨i=5∨i=6∨i=7:=by omega
 ·cases hx;cases ha;exact HpG.rdF (j:=8) hw V (HpG.mineL hw (j:=8) V id)
 ·cases hx;cases ha;exact HpG.rdF (j:=7) hw V (HpG.mineL hw (j:=7) V id)
 ·cases hx;cases ha;exact HpG.rdF (j:=6) hw V (HpG.mineL hw (j:=6) V id)
 ·cases hx;cases ha;exact HpG.rdF (j:=5) hw V (HpG.mineL hw (j:=5) V id)
 ·cases hx;cases ha;exact HpG.rdF (j:=4) hw V (HpG.mineL hw (j:=4) V id)
 ·cases hx;cases ha;exact HpG.rdF (j:=3) hw V (HpG.mineL hw (j:=3) V id)
 ·cases hx;cases ha;exact HpG.rdF (j:=2) hw V (HpG.mineL hw (j:=2) V id)
 ·cases hx;cases ha;exact HpG.rdF (j:=1) hw V (HpG.mineL hw (j:=1) V id)
theorem levC_at {av:List (Option Addr)}(hn:av.length=8) {k:Nat}{x:List Bs}(hx:levsL[k]? = some x):∃a,av[k]? = some a∧(levC av)[k]? = some (.slice a x.length x.length):=by
 have h8:k<8:=(List.getElem?_eq_some_iff.1 hx).1;have hk:k<av.length:=by omega
 refine⟨av[k],List.getElem?_eq_getElem hk,?_⟩;unfold levC;rw[List.getElem?_zipWith,List.getElem?_eq_getElem hk,hx]
set_option maxRecDepth 100000 in
theorem rrank_any (s:Bs) (w_0:World):Calls Tryz.prog 122 #[.string ⟨s.toArray⟩] w_0 fun e w'=>e=.returned (.int .i64 (uG s))∧Ext w_0 w':=by
 refine yR (args:=[.string ⟨s.toArray⟩]) Tryz.func122 V 21 V (Nat.le_of_ble_eq_true V)<|Z1 0 V<|yY (H':=Hp (fun _=>False) w_0 [] [] (fun _=>True)) (fun u hu=>?_) ?_
 ·subst hu;exact Hp.start0
 refine zY<|zX<|Za V V<|ZX<|zX<|sV (ι:=Nat×{av:List (Option Addr) // av.length=8}) (C:=fun _=>True) (val:=fun A=>.slice (some ⟨A.1,0,none⟩) 8 8) (TT:=fun A F u=>RdF F (some ⟨A.1,0,none⟩) (levC A.2.1) u∧LevV A.2.1 F u) .none V  (by kernel_rfl) V (fun _ h=>h.elim) (fun _=>⟨fun hk ⟨a,b⟩=>⟨RdF.lies.foot hk a,LevV.lies.foot hk b⟩,fun ⟨a,b⟩=>⟨RdF.lies.lt a,LevV.lies.lt b⟩,fun hF ⟨a,b⟩=>⟨RdF.lies.mono hF a,LevV.lies.mono hF b⟩⟩) (fun w hw=>(rlevels_any w).mono fun e w' ⟨A,av,h1,e1,e2,e3,e4⟩=>⟨(A,⟨av,h1⟩),trivial,e1,e2,e3,e4⟩) (fun A F _ hF=>?_);obtain⟨A,av,has⟩:=A;dsimp only;refine Za V V<|ZX<|zY<|Z3r 0 2 3 V V V<|Za V V<|ZT<|yU<|xO (ι:={k:Nat // k≤8∧∀(j:Nat) (x:List Bs),j<k→levsL[j]? = some x→s∉x}) (fun k=>[(0,.string ⟨s.toArray⟩),(3,.slice (some ⟨A,0,none⟩) 8 8),(4,.int .i64 k.1)]) (fun _=>Hp (fun _=>False) w_0 [] [] (fun u=>RdF F (some ⟨A,0,none⟩) (levC av) u∧LevV av F u)) (fun k=>8-k.1) ⟨0,by omega,fun _ _ h=>absurd h (by omega)⟩ ?_ ?_ (fun k=>?_)
 ·exact .cons V<|.cons V<|.cons V<|.nil
 ·exact fun w h=>Hp.weakX h fun u hu=>hu.1
 obtain⟨k,hk,hno⟩:=k;dsimp only;refine zY<|zY<|zX<|Zm V V<|Zm V V<|ZF V (yL V Tryz.underlying178)<|ZF V (xL V V)<|ZT<|zN V (fun hc=>?_) (fun hc=>?_)
 ·replace hc:=of_decide_eq_true hc;have hkl:k<8:=by omega
  obtain⟨x,hx⟩:∃x,levsL[k]? = some x:=⟨levsL[k]'hkl,List.getElem?_eq_getElem hkl⟩;obtain⟨a,ha,hc⟩:=levC_at has hx;have hxl:x.length≤9223372036854775807:=(show ∀x∈levsL,x.length≤9223372036854775807 by decide) x (List.mem_of_getElem? hx);refine yZ<|zM<|zY<|yU<|zY<|Z4r 0 3 4 10 V V V V<|Zm V V<|Zm V V<|Zm V V ?_;(refine ZF rfl (zQ (es:=1) rfl rfl Tryz.underlying178 (by kernel_rfl) rfl ?_ rfl) ?_;(· first|decide|omega|(simp;done)|(simp;omega));skip);refine ZF V (yO (v:=.slice a x.length x.length) V U22 V (fun w h=>RdF.part (HpG.x h).1 (List.getElem?_eq_some_iff.1 hc).1 (by omega) hc)) ?_;refine yM .none V  (v:=.bool (decide (s∈x))) (by kernel_rfl) V (fun w hw=>among_any x hxl _ _ _ w ((HpG.x hw).2 k x a hx ha)) ?_;refine Za V V<|ZX<|Z5r 0 3 4 5 10 V V V V V<|Zm V V<|ZT<|zN V (fun he=>?_) (fun he=>?_)
  ·have he:=of_decide_eq_true he;refine zY<|zX<|Zm V V<|Za V V<|ZT<|zI<|zT<|zU<|zU<|zT<|zU<|zD V V (fun w hw=>?_);exact⟨by rw[uG,lev_at hx he],(HpG.keep hw).ext⟩
  ·have he:=of_decide_eq_false he;refine yZ<|zG<|zM<|zX<|Zm V V ?_;(refine ZF rfl (yA rfl rfl (i64_in _ ?_ ?_)) ?_;(· omega);(· omega);skip);refine Za V V<|zW<|xP (ι:={k:Nat // k≤8∧∀(j:Nat) (x:List Bs),j<k→levsL[j]? = some x→s∉x}) ⟨k+1,hkl,fun j y hj hy=>?_⟩ (by show 8-(k+1)<8-k;omega) (O3 V V V) (fun w h=>h);rcases Nat.lt_or_ge j k with h1|h1
   ·exact hno j y h1 hy
   ·have:j=k:=by omega
    subst this;rw[hx] at hy;cases hy;exact he
 ·replace hc:=of_decide_eq_false hc;have hke:k=8:=by omega
  refine xU<|zJ<|zJ<|xV<|zM<|zY<|Z4r 0 3 4 10 V V V V<|Za V V<|ZT<|zI<|zD V V (fun w hw=>?_);exact⟨by rw[uG,lev_none fun j x hj=>hno j x (by have:=(List.getElem?_eq_some_iff.1 hj).1;have:levsL.length=8:=rfl;omega) hj],(HpG.keep hw).ext⟩
end Go.Proofs.YtfpkpnkdnammnaaGreatDoor
/- The reference model's expr (well-formed expressions). -/
namespace Go.Proofs.YtfpkpnkdnammnaaGreatDoor
open Go.RowKit
/-- What the reference's expr answers at an expression. -/
def RRE (x:Ex):Prop:=∀F A cap w,xR F w x A cap→Calls Tryz.prog 80 #[.agg (xG x A cap).toArray] w fun e w'=>e=.returned (.bool (yE x))∧Ext w w'
theorem uT (s:Bs):decide (0≤uG s)=(vX s).isSome:=by
 unfold uG
 cases vX s with
 | none=>rfl
 | some k=>simp
set_option maxHeartbeats 2000000 in
set_option maxRecDepth 100000 in
theorem rexpr_step (k n:Nat) (s:Bs) (kids:List Ex) (IH:∀x∈kids,RRE x):RRE (.mk k n s kids):=by
 intro F A cap w_0 h;obtain⟨hle,kc,hk1,hk2⟩:=h;dsimp only[Ex.kids] at hk2 hle;rw[rightEx_eq];have hlt:=hle.lt
 have hA:0<kids.length→∃b off,A=some ⟨b,off,none⟩:=fun h0=>by
  obtain⟨b,off,e,_⟩:=hk1 (by rw[hk2.len];omega);exact⟨b,off,e⟩
 refine yR (args:=[.agg (exC k n s A kids.length cap).toArray]) Tryz.func80 V 107 V (Nat.le_of_ble_eq_true V)<|Z1 0 V<|yY (H':=Hp (fun _=>False) w_0 [] [] (fun u=>RdF F A kc u∧ExsV F u kids kc)) (fun u hu=>?_) ?_
 ·subst hu;exact Hp.startT (T:=fun F u=>RdF F A kc u∧ExsV F u kids kc) ⟨fun hk ⟨a,b⟩=>⟨RdF.lies.foot hk a,ExsV.lies.foot hk b⟩,fun ⟨a,b⟩=>⟨RdF.lies.lt a,ExsV.lies.lt b⟩,fun hF ⟨a,b⟩=>⟨RdF.lies.mono hF a,ExsV.lies.mono hF b⟩⟩ ⟨hk1,hk2⟩
 refine zY<|zX<|zC .none V (wL V V) (fun b1=>?_);refine Za V V<|ZX<|zX<|ZF V (Y57x2 V) ?_;refine ZF V (zV 0 V V V U9 V)<|yM .none V  (v:=.bool (yD s)) (by kernel_rfl) V (fun w hw=>qO s w) ?_;refine Za V V<|ZX<|Z4r 0 1 2 3 V V V V<|ZF V (Y57x3 V) ?_;refine ZF V (zV 0 V V V U55 V)<|ZF V (yL V U55)<|Za V V<|ZX<|Z5r 0 1 2 3 4 V V V V V<|Za V V<|ZT<|wQ (ι:={b:Bool // b=xE k s kids.length}) (fun b=>[(1,.pointer (some ⟨b1,0,none⟩)),(4,.int .i64 kids.length),(5,.bool b.1)]) (fun _=>Hp (fun _=>False) w_0 [(b1,bk 57 (exC k n s A kids.length cap))] [] (fun u=>RdF F A kc u∧ExsV F u kids kc)) ?_ (fun b=>?_)
 ·refine zY<|zX<|ZF V (Y57x0 V) ?_;refine ZF V (zV 0 V V V U3 V)<|ZT<|yU<|zY<|Z7r 0 1 2 3 4 5 15 V V V V V V V<|ZF V (yN V V)<|Za V V<|ZT<|zN V (fun h16=>?_) (fun h16=>?_)
  ·replace h16:=eq_of_beq h16;refine Z8r 0 1 2 3 4 5 15 16 V V V V V V V V<|ZF V (Y57x2 V) ?_;refine ZF V (zV 0 V V V U9 V)<|ZF V (xM V V U9)<|Zm V V<|zA 21 V (fun hg=>?_) (fun hg=>?_)
   ·refine ZG V V V (zP V)<|ZG V V V (yN V V)<|ZF V (zO V V)<|Za V V<|zW<|zG ?_
    refine yT (ι:={b:Bool // b=xE k s kids.length}) ⟨xE k s kids.length,rfl⟩ (.cons V<|.cons V<|.cons (by
     show some (Value.bool _)=some (Value.bool _);congr 2
     first
      | (rw[wU (by omega),Bool.eq_iff_iff];simp_all<;>omega)
      | (rw[wY (by omega),Bool.eq_iff_iff];simp_all<;>omega)
      | (rw[wV (by omega)];done)
      | (rw[wZ (by omega),Bool.eq_iff_iff];simp_all<;>omega)
      | (rw[xA (by omega),Bool.eq_iff_iff];simp_all [tT]<;>omega)
      | (rw[xB (by omega),Bool.eq_iff_iff];simp_all [← uT]<;>omega)
      | (rw[wT (by omega)];done))<|.nil) (fun w h=>Hp.drop h (by first|exact List.Sublist.refl _|exact List.sublist_cons_self _ _) (List.Sublist.refl _))
   ·refine ZP V<|ZP V<|ZF V (zK V V)<|Za V V<|zW<|zG ?_
    refine yT (ι:={b:Bool // b=xE k s kids.length}) ⟨xE k s kids.length,rfl⟩ (.cons V<|.cons V<|.cons (by
     show some (Value.bool _)=some (Value.bool _);congr 2
     first
      | (rw[wU (by omega),Bool.eq_iff_iff];simp_all<;>omega)
      | (rw[wY (by omega),Bool.eq_iff_iff];simp_all<;>omega)
      | (rw[wV (by omega)];done)
      | (rw[wZ (by omega),Bool.eq_iff_iff];simp_all<;>omega)
      | (rw[xA (by omega),Bool.eq_iff_iff];simp_all [tT]<;>omega)
      | (rw[xB (by omega),Bool.eq_iff_iff];simp_all [← uT]<;>omega)
      | (rw[wT (by omega)];done))<|.nil) (fun w h=>Hp.drop h (by first|exact List.Sublist.refl _|exact List.sublist_cons_self _ _) (List.Sublist.refl _))
  ·replace h16:=yI h16;refine zY<|Z8r 0 1 2 3 4 5 15 16 V V V V V V V V<|ZF V (yN V V)<|Za V V<|ZT<|zN V (fun h25=>?_) (fun h25=>?_)
   ·replace h25:=eq_of_beq h25;refine Z9r 0 1 2 3 4 5 15 16 25 V V V V V V V V V<|Zm V V<|Zm V V<|zA 28 V (fun hg=>?_) (fun hg=>?_)
    ·refine ZG V V V (zP V)<|ZG V V V (yN V V)<|ZF V (zO V V)<|Za V V<|zW<|zG ?_
     refine yT (ι:={b:Bool // b=xE k s kids.length}) ⟨xE k s kids.length,rfl⟩ (.cons V<|.cons V<|.cons (by
      show some (Value.bool _)=some (Value.bool _);congr 2
      first
       | (rw[wU (by omega),Bool.eq_iff_iff];simp_all<;>omega)
       | (rw[wY (by omega),Bool.eq_iff_iff];simp_all<;>omega)
       | (rw[wV (by omega)];done)
       | (rw[wZ (by omega),Bool.eq_iff_iff];simp_all<;>omega)
       | (rw[xA (by omega),Bool.eq_iff_iff];simp_all [tT]<;>omega)
       | (rw[xB (by omega),Bool.eq_iff_iff];simp_all [← uT]<;>omega)
       | (rw[wT (by omega)];done))<|.nil) (fun w h=>Hp.drop h (by first|exact List.Sublist.refl _|exact List.sublist_cons_self _ _) (List.Sublist.refl _))
    ·refine ZP V<|ZP V<|ZF V (zK V V)<|Za V V<|zW<|zG ?_
     refine yT (ι:={b:Bool // b=xE k s kids.length}) ⟨xE k s kids.length,rfl⟩ (.cons V<|.cons V<|.cons (by
      show some (Value.bool _)=some (Value.bool _);congr 2
      first
       | (rw[wU (by omega),Bool.eq_iff_iff];simp_all<;>omega)
       | (rw[wY (by omega),Bool.eq_iff_iff];simp_all<;>omega)
       | (rw[wV (by omega)];done)
       | (rw[wZ (by omega),Bool.eq_iff_iff];simp_all<;>omega)
       | (rw[xA (by omega),Bool.eq_iff_iff];simp_all [tT]<;>omega)
       | (rw[xB (by omega),Bool.eq_iff_iff];simp_all [← uT]<;>omega)
       | (rw[wT (by omega)];done))<|.nil) (fun w h=>Hp.drop h (by first|exact List.Sublist.refl _|exact List.sublist_cons_self _ _) (List.Sublist.refl _))
   ·replace h25:=yI h25;refine zY<|Z9r 0 1 2 3 4 5 15 16 25 V V V V V V V V V<|ZF V (yN V V)<|Za V V<|ZT<|zN V (fun h32=>?_) (fun h32=>?_)
    ·replace h32:=eq_of_beq h32;refine Z10r 0 1 2 3 4 5 15 16 25 32 V V V V V V V V V V<|Zm V V<|Za V V<|zW<|zG ?_
     refine yT (ι:={b:Bool // b=xE k s kids.length}) ⟨xE k s kids.length,rfl⟩ (.cons V<|.cons V<|.cons (by
      show some (Value.bool _)=some (Value.bool _);congr 2
      first
       | (rw[wU (by omega),Bool.eq_iff_iff];simp_all<;>omega)
       | (rw[wY (by omega),Bool.eq_iff_iff];simp_all<;>omega)
       | (rw[wV (by omega)];done)
       | (rw[wZ (by omega),Bool.eq_iff_iff];simp_all<;>omega)
       | (rw[xA (by omega),Bool.eq_iff_iff];simp_all [tT]<;>omega)
       | (rw[xB (by omega),Bool.eq_iff_iff];simp_all [← uT]<;>omega)
       | (rw[wT (by omega)];done))<|.nil) (fun w h=>Hp.drop h (by first|exact List.Sublist.refl _|exact List.sublist_cons_self _ _) (List.Sublist.refl _))
    ·replace h32:=yI h32;refine zY<|Z10r 0 1 2 3 4 5 15 16 25 32 V V V V V V V V V V<|ZF V (yN V V)<|Za V V<|ZT<|zN V (fun h35=>?_) (fun h35=>?_)
     ·replace h35:=eq_of_beq h35;refine Z11r 0 1 2 3 4 5 15 16 25 32 35 V V V V V V V V V V V<|ZF V (Y57x2 V) ?_;refine ZF V (zV 0 V V V U9 V)<|ZF V (xM V V U9)<|Zm V V<|zA 40 V (fun hg=>?_) (fun hg=>?_)
      ·refine ZG V V V (zP V)<|ZG V V V (yN V V)<|ZF V (zO V V)<|Za V V<|zW<|zG ?_
       refine yT (ι:={b:Bool // b=xE k s kids.length}) ⟨xE k s kids.length,rfl⟩ (.cons V<|.cons V<|.cons (by
        show some (Value.bool _)=some (Value.bool _);congr 2
        first
         | (rw[wU (by omega),Bool.eq_iff_iff];simp_all<;>omega)
         | (rw[wY (by omega),Bool.eq_iff_iff];simp_all<;>omega)
         | (rw[wV (by omega)];done)
         | (rw[wZ (by omega),Bool.eq_iff_iff];simp_all<;>omega)
         | (rw[xA (by omega),Bool.eq_iff_iff];simp_all [tT]<;>omega)
         | (rw[xB (by omega),Bool.eq_iff_iff];simp_all [← uT]<;>omega)
         | (rw[wT (by omega)];done))<|.nil) (fun w h=>Hp.drop h (by first|exact List.Sublist.refl _|exact List.sublist_cons_self _ _) (List.Sublist.refl _))
      ·refine ZP V<|ZP V<|ZF V (zK V V)<|Za V V<|zW<|zG ?_
       refine yT (ι:={b:Bool // b=xE k s kids.length}) ⟨xE k s kids.length,rfl⟩ (.cons V<|.cons V<|.cons (by
        show some (Value.bool _)=some (Value.bool _);congr 2
        first
         | (rw[wU (by omega),Bool.eq_iff_iff];simp_all<;>omega)
         | (rw[wY (by omega),Bool.eq_iff_iff];simp_all<;>omega)
         | (rw[wV (by omega)];done)
         | (rw[wZ (by omega),Bool.eq_iff_iff];simp_all<;>omega)
         | (rw[xA (by omega),Bool.eq_iff_iff];simp_all [tT]<;>omega)
         | (rw[xB (by omega),Bool.eq_iff_iff];simp_all [← uT]<;>omega)
         | (rw[wT (by omega)];done))<|.nil) (fun w h=>Hp.drop h (by first|exact List.Sublist.refl _|exact List.sublist_cons_self _ _) (List.Sublist.refl _))
     ·replace h35:=yI h35;refine zY<|Z11r 0 1 2 3 4 5 15 16 25 32 35 V V V V V V V V V V V<|ZF V (yN V V)<|Za V V<|ZT<|zN V (fun h44=>?_) (fun h44=>?_)
      ·replace h44:=eq_of_beq h44;refine Z12r 0 1 2 3 4 5 15 16 25 32 35 44 V V V V V V V V V V V V<|ZF V (Y57x2 V) ?_;refine ZF V (zV 0 V V V U9 V)<|ZF V (xM V V U9)<|Zm V V<|zA 49 V (fun hg=>?_) (fun hg=>?_)
       ·refine ZG V V V (zP V)<|ZG V V V (yN V V)<|ZF V (zO V V)<|Za V V<|zW<|zG ?_
        refine yT (ι:={b:Bool // b=xE k s kids.length}) ⟨xE k s kids.length,rfl⟩ (.cons V<|.cons V<|.cons (by
         show some (Value.bool _)=some (Value.bool _);congr 2
         first
          | (rw[wU (by omega),Bool.eq_iff_iff];simp_all<;>omega)
          | (rw[wY (by omega),Bool.eq_iff_iff];simp_all<;>omega)
          | (rw[wV (by omega)];done)
          | (rw[wZ (by omega),Bool.eq_iff_iff];simp_all<;>omega)
          | (rw[xA (by omega),Bool.eq_iff_iff];simp_all [tT]<;>omega)
          | (rw[xB (by omega),Bool.eq_iff_iff];simp_all [← uT]<;>omega)
          | (rw[wT (by omega)];done))<|.nil) (fun w h=>Hp.drop h (by first|exact List.Sublist.refl _|exact List.sublist_cons_self _ _) (List.Sublist.refl _))
       ·refine ZP V<|ZP V<|ZF V (zK V V)<|Za V V<|zW<|zG ?_
        refine yT (ι:={b:Bool // b=xE k s kids.length}) ⟨xE k s kids.length,rfl⟩ (.cons V<|.cons V<|.cons (by
         show some (Value.bool _)=some (Value.bool _);congr 2
         first
          | (rw[wU (by omega),Bool.eq_iff_iff];simp_all<;>omega)
          | (rw[wY (by omega),Bool.eq_iff_iff];simp_all<;>omega)
          | (rw[wV (by omega)];done)
          | (rw[wZ (by omega),Bool.eq_iff_iff];simp_all<;>omega)
          | (rw[xA (by omega),Bool.eq_iff_iff];simp_all [tT]<;>omega)
          | (rw[xB (by omega),Bool.eq_iff_iff];simp_all [← uT]<;>omega)
          | (rw[wT (by omega)];done))<|.nil) (fun w h=>Hp.drop h (by first|exact List.Sublist.refl _|exact List.sublist_cons_self _ _) (List.Sublist.refl _))
      ·replace h44:=yI h44;refine zY<|Z12r 0 1 2 3 4 5 15 16 25 32 35 44 V V V V V V V V V V V V<|ZF V (yN V V)<|Za V V<|ZT<|zN V (fun h53=>?_) (fun h53=>?_)
       ·replace h53:=eq_of_beq h53;refine Z13r 0 1 2 3 4 5 15 16 25 32 35 44 53 V V V V V V V V V V V V V<|ZF V (Y57x2 V) ?_;refine ZF V (zV 0 V V V U9 V)<|ZF V (xM V V U9)<|Zm V V<|zA 58 V (fun hg4=>?_) (fun hg4=>?_)
        ·refine ZP V<|ZP V<|ZP V<|ZF V (zO V V)<|Zm V V<|ZP V<|ZP V<|ZP V<|ZF V (zO V V)<|Zm V V<|ZG V V V (zP V)<|ZG V V V (yN V V)<|ZF V (zO V V)<|Za V V<|zW<|zG ?_
         refine yT (ι:={b:Bool // b=xE k s kids.length}) ⟨xE k s kids.length,rfl⟩ (.cons V<|.cons V<|.cons (by
          show some (Value.bool _)=some (Value.bool _);congr 2
          first
           | (rw[wU (by omega),Bool.eq_iff_iff];simp_all<;>omega)
           | (rw[wY (by omega),Bool.eq_iff_iff];simp_all<;>omega)
           | (rw[wV (by omega)];done)
           | (rw[wZ (by omega),Bool.eq_iff_iff];simp_all<;>omega)
           | (rw[xA (by omega),Bool.eq_iff_iff];simp_all [tT]<;>omega)
           | (rw[xB (by omega),Bool.eq_iff_iff];simp_all [← uT]<;>omega)
           | (rw[wT (by omega)];done))<|.nil) (fun w h=>Hp.drop h (by first|exact List.Sublist.refl _|exact List.sublist_cons_self _ _) (List.Sublist.refl _))
        ·refine ZG V V V (Y57x2 V) ?_;refine ZG V V V (zV 0 V V V U9 V)<|ZG V V V (xM V V U9)<|ZF V (zK V V)<|Zm V V<|zA 63 V (fun hg9=>?_) (fun hg9=>?_)
         ·refine ZP V<|ZP V<|ZP V<|ZF V (zO V V)<|Zm V V<|ZG V V V (zP V)<|ZG V V V (yN V V)<|ZF V (zO V V)<|Za V V<|zW<|zG ?_
          refine yT (ι:={b:Bool // b=xE k s kids.length}) ⟨xE k s kids.length,rfl⟩ (.cons V<|.cons V<|.cons (by
           show some (Value.bool _)=some (Value.bool _);congr 2
           first
            | (rw[wU (by omega),Bool.eq_iff_iff];simp_all<;>omega)
            | (rw[wY (by omega),Bool.eq_iff_iff];simp_all<;>omega)
            | (rw[wV (by omega)];done)
            | (rw[wZ (by omega),Bool.eq_iff_iff];simp_all<;>omega)
            | (rw[xA (by omega),Bool.eq_iff_iff];simp_all [tT]<;>omega)
            | (rw[xB (by omega),Bool.eq_iff_iff];simp_all [← uT]<;>omega)
            | (rw[wT (by omega)];done))<|.nil) (fun w h=>Hp.drop h (by first|exact List.Sublist.refl _|exact List.sublist_cons_self _ _) (List.Sublist.refl _))
         ·refine ZG V V V (Y57x2 V) ?_;refine ZG V V V (zV 0 V V V U9 V)<|ZG V V V (xM V V U9)<|ZF V (zK V V)<|Zm V V<|zA 68 V (fun hg=>?_) (fun hg=>?_)
          ·refine ZG V V V (zP V)<|ZG V V V (yN V V)<|ZF V (zO V V)<|Za V V<|zW<|zG ?_
           refine yT (ι:={b:Bool // b=xE k s kids.length}) ⟨xE k s kids.length,rfl⟩ (.cons V<|.cons V<|.cons (by
            show some (Value.bool _)=some (Value.bool _);congr 2
            first
             | (rw[wU (by omega),Bool.eq_iff_iff];simp_all<;>omega)
             | (rw[wY (by omega),Bool.eq_iff_iff];simp_all<;>omega)
             | (rw[wV (by omega)];done)
             | (rw[wZ (by omega),Bool.eq_iff_iff];simp_all<;>omega)
             | (rw[xA (by omega),Bool.eq_iff_iff];simp_all [tT]<;>omega)
             | (rw[xB (by omega),Bool.eq_iff_iff];simp_all [← uT]<;>omega)
             | (rw[wT (by omega)];done))<|.nil) (fun w h=>Hp.drop h (by first|exact List.Sublist.refl _|exact List.sublist_cons_self _ _) (List.Sublist.refl _))
          ·refine ZP V<|ZP V<|ZF V (zK V V)<|Za V V<|zW<|zG ?_
           refine yT (ι:={b:Bool // b=xE k s kids.length}) ⟨xE k s kids.length,rfl⟩ (.cons V<|.cons V<|.cons (by
            show some (Value.bool _)=some (Value.bool _);congr 2
            first
             | (rw[wU (by omega),Bool.eq_iff_iff];simp_all<;>omega)
             | (rw[wY (by omega),Bool.eq_iff_iff];simp_all<;>omega)
             | (rw[wV (by omega)];done)
             | (rw[wZ (by omega),Bool.eq_iff_iff];simp_all<;>omega)
             | (rw[xA (by omega),Bool.eq_iff_iff];simp_all [tT]<;>omega)
             | (rw[xB (by omega),Bool.eq_iff_iff];simp_all [← uT]<;>omega)
             | (rw[wT (by omega)];done))<|.nil) (fun w h=>Hp.drop h (by first|exact List.Sublist.refl _|exact List.sublist_cons_self _ _) (List.Sublist.refl _))
       ·replace h53:=yI h53;refine zY<|Z13r 0 1 2 3 4 5 15 16 25 32 35 44 53 V V V V V V V V V V V V V<|ZF V (yN V V)<|Za V V<|ZT<|zN V (fun h72=>?_) (fun h72=>?_)
        ·replace h72:=eq_of_beq h72;refine Z14r 0 1 2 3 4 5 15 16 25 32 35 44 53 72 V V V V V V V V V V V V V V<|ZF V (Y57x2 V) ?_;refine ZF V (zV 0 V V V U9 V)<|yM .none V  (v:=.int .i64 (uG s)) (by kernel_rfl) V (fun w hw=>rrank_any s w) ?_;refine ZF V (tO V V)<|Zm V V<|zA 78 V (fun hg=>?_) (fun hg=>?_)
         ·replace hg:=of_decide_eq_true hg;refine ZG V V V (zP V)<|ZG V V V (yN V V)<|ZF V (zO V V)<|Za V V<|zW<|zG ?_
          refine yT (ι:={b:Bool // b=xE k s kids.length}) ⟨xE k s kids.length,rfl⟩ (.cons V<|.cons V<|.cons (by
           show some (Value.bool _)=some (Value.bool _);congr 2
           first
            | (rw[wU (by omega),Bool.eq_iff_iff];simp_all<;>omega)
            | (rw[wY (by omega),Bool.eq_iff_iff];simp_all<;>omega)
            | (rw[wV (by omega)];done)
            | (rw[wZ (by omega),Bool.eq_iff_iff];simp_all<;>omega)
            | (rw[xA (by omega),Bool.eq_iff_iff];simp_all [tT]<;>omega)
            | (rw[xB (by omega),Bool.eq_iff_iff];simp_all [← uT]<;>omega)
            | (rw[wT (by omega)];done))<|.nil) (fun w h=>Hp.drop h (by first|exact List.Sublist.refl _|exact List.sublist_cons_self _ _) (List.Sublist.refl _))
         ·replace hg:=of_decide_eq_false hg;refine ZP V<|ZP V<|ZF V (zK V V)<|Za V V<|zW<|zG ?_
          refine yT (ι:={b:Bool // b=xE k s kids.length}) ⟨xE k s kids.length,rfl⟩ (.cons V<|.cons V<|.cons (by
           show some (Value.bool _)=some (Value.bool _);congr 2
           first
            | (rw[wU (by omega),Bool.eq_iff_iff];simp_all<;>omega)
            | (rw[wY (by omega),Bool.eq_iff_iff];simp_all<;>omega)
            | (rw[wV (by omega)];done)
            | (rw[wZ (by omega),Bool.eq_iff_iff];simp_all<;>omega)
            | (rw[xA (by omega),Bool.eq_iff_iff];simp_all [tT]<;>omega)
            | (rw[xB (by omega),Bool.eq_iff_iff];simp_all [← uT]<;>omega)
            | (rw[wT (by omega)];done))<|.nil) (fun w h=>Hp.drop h (by first|exact List.Sublist.refl _|exact List.sublist_cons_self _ _) (List.Sublist.refl _))
        ·replace h72:=yI h72;refine yZ<|zG ?_
         refine yT (ι:={b:Bool // b=xE k s kids.length}) ⟨xE k s kids.length,rfl⟩ (.cons V<|.cons V<|.cons (by
          show some (Value.bool _)=some (Value.bool _);congr 2
          first
           | (rw[wU (by omega),Bool.eq_iff_iff];simp_all<;>omega)
           | (rw[wY (by omega),Bool.eq_iff_iff];simp_all<;>omega)
           | (rw[wV (by omega)];done)
           | (rw[wZ (by omega),Bool.eq_iff_iff];simp_all<;>omega)
           | (rw[xA (by omega),Bool.eq_iff_iff];simp_all [tT]<;>omega)
           | (rw[xB (by omega),Bool.eq_iff_iff];simp_all [← uT]<;>omega)
           | (rw[wT (by omega)];done))<|.nil) (fun w h=>Hp.drop h (by first|exact List.Sublist.refl _|exact List.sublist_cons_self _ _) (List.Sublist.refl _))
 ·obtain⟨ok,hok⟩:=b;dsimp only;refine wQ (ι:={u:Unit // ok=true∧(decide (k=1)||decide (n=0))=true}) (fun _=>[(1,.pointer (some ⟨b1,0,none⟩)),(4,.int .i64 kids.length)]) (fun _=>Hp (fun _=>False) w_0 [(b1,bk 57 (exC k n s A kids.length cap))] [] (fun u=>RdF F A kc u∧ExsV F u kids kc)) ?_ (fun u=>?_)
  ·refine zY<|zX<|Zm V V<|ZF V (xI V)<|Zm V V<|zA 84 V (fun g2=>?_) (fun g2=>?_)
   ·refine ZP V<|ZP V<|ZP V<|ZP V<|yX V V V<|yX V V V<|yX V V V<|ZP V<|ZF V (zO V V)<|ZT<|wG V<|zY<|Z4r 1 4 5 93 V V V V<|Za V V<|ZT<|zI<|zU<|zD V V (fun w hw=>?_);exact⟨by rw[← hok,show ok=false by simpa using g2];rfl,(HpG.keep hw).ext⟩
   ·refine ZG V V V (Y57x0 V) ?_;refine ZG V V V (zV 0 V V V U3 V)<|ZG V V V (uZ V V)<|ZG V V V (zP V)<|zA 88 V (fun g6=>?_) (fun g6=>?_)
    ·replace g6:=vR g6;refine ZG V V V (zZ (off:=1) (sz:=0) V U57 (by kernel_rfl) V) ?_;refine ZG V V V (zV 0 V V V U50 V)<|ZG V V V (uZ V V)<|ZG V V V (zO V V)<|ZF V (zK V V)<|ZT<|zN V (fun h93=>?_) (fun h93=>?_)
     ·replace h93:=vR h93;refine zY<|Z4r 1 4 5 93 V V V V<|Za V V<|ZT<|zI<|zU<|zD V V (fun w hw=>?_);exact⟨by rw[decide_eq_false (show k≠1 by omega),decide_eq_false (show n≠0 by omega),Bool.or_false,Bool.and_false,Bool.false_and],(HpG.keep hw).ext⟩
     ·replace h93:=uW h93;refine yZ<|yT (ι:={u:Unit // ok=true∧(decide (k=1)||decide (n=0))=true}) ⟨(),by simpa using g2,by first|(rw[decide_eq_true (show n=0 by omega),Bool.or_true])|(rw[decide_eq_true (show k=1 by omega),Bool.true_or])⟩ (O2 rfl rfl) (fun w h=>h)
    ·replace g6:=uW g6;refine ZP rfl<|ZP rfl<|ZP rfl<|ZG rfl rfl rfl (zK rfl rfl)<|ZF rfl (zK rfl rfl)<|ZT<|vS rfl<|yZ<|yT (ι:={u:Unit // ok=true∧(decide (k=1)||decide (n=0))=true}) ⟨(),by simpa using g2,by first|(rw[decide_eq_true (show n=0 by omega),Bool.or_true])|(rw[decide_eq_true (show k=1 by omega),Bool.true_or])⟩ (O2 rfl rfl) (fun w h=>h)
  ·obtain⟨_,hgo,hgn⟩:=u;subst hgo;refine zY<|zY<|zX<|Za V V<|ZT<|yU<|xO (ι:={j:Nat // j≤kids.length∧(kids.take j).all yE=true}) (fun j=>[(1,.pointer (some ⟨b1,0,none⟩)),(4,.int .i64 kids.length),(6,.int .i64 j.1)]) (fun _=>Hp (fun _=>False) w_0 [(b1,bk 57 (exC k n s A kids.length cap))] [] (fun u=>RdF F A kc u∧ExsV F u kids kc)) (fun j=>kids.length-j.1) ⟨0,Nat.zero_le _,rfl⟩ ?_ ?_ (fun j=>?_)
   ·exact .cons V<|.cons V<|.cons V<|.nil
   ·exact fun w h=>h
   obtain⟨j,hj,hall⟩:=j;dsimp only;refine zY<|zY<|zX<|Zm V V<|Zm V V<|ZF V (xL V V)<|ZT<|zN V (fun hc=>?_) (fun hc=>?_)
   ·replace hc:=of_decide_eq_true hc;obtain⟨b,off,rfl⟩:=hA (by omega);have hjl:j<kids.length:=by omega
    obtain⟨x,hx⟩:∃x,kids[j]? = some x:=⟨kids[j],List.getElem?_eq_getElem hjl⟩;obtain⟨Ax,cx,hfix⟩:=hk2.fix hx;refine yZ<|zM<|zY<|yU<|zY<|Z4r 1 4 6 96 V V V V<|ZF V (Y57x3 V) ?_;refine ZF V (zV 0 V V V U55 V)<|Zm V V ?_;(refine ZF rfl (zQ (es:=4) rfl rfl U55 (by kernel_rfl) rfl ?_ rfl) ?_;(· first|decide|omega|(simp;done)|(simp;omega));skip)
    refine ZF V (yB (cs:=xG x Ax cx) V U57 V (by kernel_rfl) (fun w h i v hv=>by
    have h2:=(hfix F w (HpG.x h).2).2 i v hv
    exact RdF.part (HpG.x h).1 (List.getElem?_eq_some_iff.1 h2).1 (by omega) h2)) ?_
    refine yM .none V  (v:=.bool (yE x)) (by kernel_rfl) V (fun w hw=>IH x (List.mem_of_getElem? hx) F Ax cx w (hfix F w (HpG.x hw).2).1) ?_;refine Za V V<|ZX<|Z5r 1 4 6 7 96 V V V V V<|Zm V V<|ZF V (xI V)<|ZT<|zN V (fun h106=>?_) (fun h106=>?_)
    ·refine zY<|Z6r 1 4 6 7 96 106 V V V V V V<|Za V V<|ZT<|zI<|zT<|zU<|zU<|zT<|zU<|zD V V (fun w hw=>?_);exact⟨by rw[wC,all_no hx (by simpa using h106),Bool.and_false],(HpG.keep hw).ext⟩
    ·refine yZ<|zG<|zM<|Z6r 1 4 6 7 96 106 V V V V V V<|Zm V V ?_;(refine ZF rfl (yA rfl rfl (i64_in _ ?_ ?_)) ?_;(· omega);(· omega);skip);refine Za V V<|zW<|xP (ι:={j:Nat // j≤kids.length∧(kids.take j).all yE=true}) ⟨j+1,hjl,qY hall hx (by simpa using h106)⟩ (by show kids.length-(j+1)<kids.length-j;omega) (O3 V V V) (fun w h=>h)
   ·replace hc:=of_decide_eq_false hc;have hje:j=kids.length:=by omega
    refine xU<|zJ<|zJ<|xV<|zM<|zY<|Z4r 1 4 6 96 V V V V<|Za V V<|ZT<|zI<|zD V V (fun w hw=>?_)
    exact⟨by
     rw[hje,List.take_length] at hall
     rw[← hok,hgn,wC,hall];rfl,(HpG.keep hw).ext⟩
theorem rexpr_all:∀(N:Nat) (x:Ex),SizeOf.sizeOf x<N→RRE x
 | 0,_,h=>absurd h (by omega)
 | N+1,.mk k n s kids,h=>rexpr_step k n s kids fun x hx=>rexpr_all N x (by have:=tY (k:=k) (n:=n) (s:=s) hx;omega)
theorem rexpr_any (x:Ex):RRE x:=rexpr_all _ x (Nat.lt_succ_self _)
end Go.Proofs.YtfpkpnkdnammnaaGreatDoor
/- The reference model's stmts (well-formed statements). -/
namespace Go.Proofs.YtfpkpnkdnammnaaGreatDoor
open Go.RowKit
def mny (k:Nat):Nat:=if k=3 then 2 else 1
def nmOk (nd:Bool) (s:Bs):Bool:=if nd=true then yD s else decide (s=[])
theorem rightSt_eq' (x:St):wW x=(okSt x.kind x.name x.exprs.length x.body.length x.els.length&&rightExs x.exprs&&rightSts x.body&&rightSts x.els):=by
 cases x;simp only[wW,St.kind,St.name,St.exprs,St.body,St.els]
theorem okSt_eq2 (k:Nat) (s:Bs) (es b c:Nat):okSt k s es b c=(decide (1≤k)&&decide (k≤8)&&decide (es=mny k)&&nmOk (decide (k=1∨k=2)) s&&(decide (k=4∨k=5)||decide (b=0))&&(decide (k=4)||decide (c=0))):=by
 unfold okSt mny nmOk;simp only[decide_eq_true_eq]
theorem sS {l:List St}{i:Nat}{x:St}(hx:l[i]? = some x) (h:okSt x.kind x.name x.exprs.length x.body.length x.els.length=false∨rightExs x.exprs=false∨rightSts x.body=false∨rightSts x.els=false):rightSts l=false:=by
 rw[uN];refine all_no hx ?_;rw[rightSt_eq'];rcases h with h|h|h|h<;>rw[h]<;>simp
theorem rC {k:Nat}{s:Bs}{es b c:Nat}(h:(decide (es=mny k)&&nmOk (decide (k=1∨k=2)) s)=false):okSt k s es b c=false:=by
 rw[okSt_eq2,Bool.and_assoc (decide (1≤k)&&decide (k≤8)),h];simp only[Bool.and_false,Bool.false_and]
theorem okSt_bad2 {k:Nat}{s:Bs}{es b c:Nat}(h:((decide (k=4∨k=5)||decide (b=0))&&(decide (k=4)||decide (c=0)))=false):okSt k s es b c=false:=by
 rw[okSt_eq2,Bool.and_assoc,h,Bool.and_false]
def RRS (l:List St):Prop:=∀F A cap w,wI F w l A cap→Calls Tryz.prog 47 #[.slice A l.length cap] w fun e w'=>e=.returned (.bool (rightSts l))∧Ext w w'
set_option maxHeartbeats 4000000 in
set_option maxRecDepth 100000 in
theorem rstmts_step (a:List St) (IH:∀x∈a,RRS x.body∧RRS x.els):RRS a:=by
 intro F A c w_0 h;obtain⟨pa,ca,ra,va⟩:=h;have hla:=pa.lt
 have hA:0<a.length→∃b off,A=some ⟨b,off,none⟩:=fun h0=>by
  obtain⟨b,off,e,_⟩:=ra (by rw[va.len];omega);exact⟨b,off,e⟩
 refine yR (args:=[.slice A a.length c]) Tryz.func47 V 110 V (Nat.le_of_ble_eq_true V)<|Z1 0 V<|yY (H':=Hp (fun _=>False) w_0 [] [] (xF F w_0)) (fun u hu=>?_) ?_
 ·subst hu;exact Hp.startSame
 refine zY<|zX<|Za V V<|ZX<|zY<|zX<|Za V V<|ZT<|yU<|xO (ι:={i:Nat // i≤a.length∧(a.take i).all wW=true}) (fun i=>[(0,.slice A a.length c),(3,.int .i64 i.1)]) (fun _=>Hp (fun _=>False) w_0 [] [] (xF F w_0)) (fun i=>a.length-i.1) ⟨0,Nat.zero_le _,rfl⟩ ?_ ?_ (fun i=>?_)
 ·exact .cons V<|.cons V<|.nil
 ·exact fun w h=>h
 obtain⟨i,hi,hall⟩:=i;dsimp only;refine zY<|zY<|zX<|Zm V V<|Zm V V<|ZF V (yL V U58)<|ZF V (xL V V)<|ZT<|zN V (fun hc=>?_) (fun hc=>?_)
 ·replace hc:=of_decide_eq_true hc;have hil:i<a.length:=by omega
  obtain⟨g1,o1,rfl⟩:=hA (by omega);obtain⟨x,hx⟩:∃x,a[i]? = some x:=⟨a[i],List.getElem?_eq_getElem hil⟩;obtain⟨a1,hfix1⟩:=va.fix hx;have hk1:=(hfix1 F w_0 va).1;have hc1:=(hfix1 F w_0 va).2;have hkb:wI F w_0 x.body a1.A2 a1.c2:=⟨hk1.p2,hk1.h2⟩;have hkc:wI F w_0 x.els a1.A3 a1.c3:=⟨hk1.p3,hk1.h3⟩;have hI:=IH x (List.mem_of_getElem? hx);obtain⟨ce,re,ve⟩:=hk1.h1;have hle:=hk1.p1.lt;have hlb:=hk1.p2.lt;have hlc:=hk1.p3.lt
  have hE:0<x.exprs.length→∃b off,a1.A1=some ⟨b,off,none⟩:=fun h0=>by
   obtain⟨b,off,e,_⟩:=re (by rw[ve.len];omega);exact⟨b,off,e⟩
  generalize hA1:a1.A1=P1 at re hE;refine yZ<|zM<|zY<|yU<|zY<|Z3r 0 3 15 V V V<|Zm V V<|Zm V V ?_;(refine ZF rfl (zQ (es:=5) rfl rfl U58 (by kernel_rfl) rfl ?_ rfl) ?_;(· first|decide|omega|(simp;done)|(simp;omega));skip)
  refine ZF V (yB (cs:=stC x.kind x.name P1 x.exprs.length a1.c1 a1.A2 x.body.length a1.c2 a1.A3 x.els.length a1.c3) V U60 V (by kernel_rfl) (fun w h j v hv=>by
   rw[← hA1] at hv
   exact RdF.part ((HpG.x h).get RdF.lies ra) (List.getElem?_eq_some_iff.1 (hc1 j v hv)).1 (by omega) (hc1 j v hv))) ?_
  refine zC .none V (yJ (z:=.agg #[.int .i64 0,.string ⟨#[]⟩,.slice none 0 0,.slice none 0 0,.slice none 0 0]) (cs:=[.int .i64 0,.string ⟨#[]⟩,.slice none 0 0,.slice none 0 0,.slice none 0 0]) (by kernel_rfl) V) (fun b4=>?_);refine ZR 0 V V V V V (by kernel_rfl) ?_;refine ZX<|zY<|Z4r 0 3 4 15 V V V V<|ZF V (Y60x0 V) ?_;refine ZF V (zV 0 V V V U3 V)<|ZF V (xL V V)<|Zm V V<|zA 25 V (fun g5=>?_) (fun g5=>?_)
  ·replace g5:=of_decide_eq_true g5;refine ZP V<|ZP V<|ZP V<|ZF V (zO V V)<|ZT<|wG V<|zY<|Z5r 0 3 4 15 29 V V V V V<|Za V V<|ZT<|zI<|zU<|zT<|zU<|zU<|zT<|zU<|zD V V (fun w hw=>?_);exact⟨by rw[sS hx (.inl (by rw[okSt_eq2,decide_eq_false (show ¬1≤x.kind by omega)];simp only[Bool.false_and]))],(HpG.keep hw).ext⟩
  ·replace g5:=of_decide_eq_false g5;refine ZG V V V (Y60x0 V) ?_;refine ZG V V V (zV 0 V V V U3 V)<|ZG V V V (wF V V)<|ZF V (zK V V)<|ZT<|zN V (fun h29=>?_) (fun h29=>?_)
   ·replace h29:=of_decide_eq_true h29;refine zY<|Z5r 0 3 4 15 29 V V V V V<|Za V V<|ZT<|zI<|zU<|zT<|zU<|zU<|zT<|zU<|zD V V (fun w hw=>?_);exact⟨by rw[sS hx (.inl (by rw[okSt_eq2,decide_eq_false (show ¬x.kind≤8 by omega)];simp only[Bool.and_false,Bool.false_and]))],(HpG.keep hw).ext⟩
   ·replace h29:=of_decide_eq_false h29;refine yZ<|zM ?_;have hk18:1≤x.kind∧x.kind≤8:=⟨by omega,by omega⟩;clear g5 h29;refine wQ (ι:={b:Bool // b=decide (x.kind=1∨x.kind=2)}) (fun b=>[(0,.slice (some ⟨g1,o1,none⟩) a.length c),(3,.int .i64 i),(4,.pointer (some ⟨b4,0,none⟩)),(5,.bool b.1)]) (fun _=>Hp (fun _=>False) w_0 [(b4,bk 60 (stC x.kind x.name P1 x.exprs.length a1.c1 a1.A2 x.body.length a1.c2 a1.A3 x.els.length a1.c3))] [] (xF F w_0)) ?_ (fun b=>?_)
    ·refine Z5r 0 3 4 15 29 V V V V V<|ZF V (Y60x0 V) ?_;refine ZF V (zV 0 V V V U3 V)<|ZF V (yN V V)<|Zm V V<|zA 33 V (fun g7=>?_) (fun g7=>?_)
     ·replace g7:=eq_of_beq g7;refine ZP V<|ZP V<|ZP V<|ZF V (zO V V)<|Za V V<|zW ?_
      refine yT (ι:={b:Bool // b=decide (x.kind=1∨x.kind=2)}) ⟨decide (x.kind=1∨x.kind=2),rfl⟩ (.cons V<|.cons V<|.cons V<|.cons (by
       show some (Value.bool _)=some (Value.bool _);congr 2;rw[Bool.eq_iff_iff]
       simp<;>omega)<|.nil) (fun w h=>h)
     ·replace g7:=yI g7;refine ZG V V V (Y60x0 V) ?_;refine ZG V V V (zV 0 V V V U3 V)<|ZG V V V (yN V V)<|ZF V (zK V V)<|Za V V<|zW ?_
      refine yT (ι:={b:Bool // b=decide (x.kind=1∨x.kind=2)}) ⟨decide (x.kind=1∨x.kind=2),rfl⟩ (.cons V<|.cons V<|.cons V<|.cons (by
       show some (Value.bool _)=some (Value.bool _);congr 2;rw[Bool.eq_iff_iff]
       simp<;>omega)<|.nil) (fun w h=>h)
    ·obtain⟨nd,hnd⟩:=b;dsimp only;refine zY<|zX<|ZF V (Y60x1 V) ?_;refine ZF V (zV 0 V V V U9 V)<|yM .none V  (v:=.bool (yD x.name)) (by kernel_rfl) V (fun w hw=>qO x.name w) ?_;refine Za V V<|ZX<|Z5r 0 3 4 5 6 V V V V V<|Za V V<|ZT<|wQ (ι:=Unit) (fun _=>[(0,.slice (some ⟨g1,o1,none⟩) a.length c),(3,.int .i64 i),(4,.pointer (some ⟨b4,0,none⟩)),(5,.bool nd),(6,.bool (yD x.name)),(7,.int .i64 (mny x.kind:Nat))]) (fun _=>Hp (fun _=>False) w_0 [(b4,bk 60 (stC x.kind x.name P1 x.exprs.length a1.c1 a1.A2 x.body.length a1.c2 a1.A3 x.els.length a1.c3))] [] (xF F w_0)) ?_ (fun _=>?_)
     ·refine zY<|zX<|ZF V (Y60x0 V) ?_;refine ZF V (zV 0 V V V U3 V)<|ZF V (yN V V)<|ZT<|zN V (fun h43=>?_) (fun h43=>?_)
      ·replace h43:=eq_of_beq h43;refine Z7r 0 3 4 5 6 7 43 rfl rfl rfl rfl rfl rfl rfl<|Za rfl rfl<|zW<|yT (ι:=Unit) () (.cons rfl<|.cons rfl<|.cons rfl<|.cons rfl<|.cons rfl<|.cons (by first|(rw[show mny x.kind=2 from if_pos (by omega)];rfl)|(rw[show mny x.kind=1 from if_neg (by omega)];rfl))<|.nil) (fun w h=>h)
      ·replace h43:=yI h43;refine yZ<|yT (ι:=Unit) () (.cons rfl<|.cons rfl<|.cons rfl<|.cons rfl<|.cons rfl<|.cons (by first|(rw[show mny x.kind=2 from if_pos (by omega)];rfl)|(rw[show mny x.kind=1 from if_neg (by omega)];rfl))<|.nil) (fun w h=>h)
     ·have hmn:mny x.kind≤2:=by unfold mny;split<;>omega
      refine wQ (ι:={u:Unit // x.exprs.length=mny x.kind∧nmOk nd x.name=true}) (fun _=>[(0,.slice (some ⟨g1,o1,none⟩) a.length c),(3,.int .i64 i),(4,.pointer (some ⟨b4,0,none⟩)),(7,.int .i64 (mny x.kind:Nat))]) (fun _=>Hp (fun _=>False) w_0 [(b4,bk 60 (stC x.kind x.name P1 x.exprs.length a1.c1 a1.A2 x.body.length a1.c2 a1.A3 x.els.length a1.c3))] [] (xF F w_0)) ?_ (fun u=>?_)
      ·refine zY<|zX<|Zm V V<|Zm V V<|zA 45 V (fun gn=>?_) (fun gn=>?_)
       ·refine ZG V V V (zP V)<|ZG V V V (xI V)<|ZF V (zO V V)<|Zm V V<|zA 49 V (fun gm=>?_) (fun gm=>?_)
        ·refine ZP V<|ZP V<|ZP V<|yX V V V<|yX V V V<|yX V V V<|ZP V<|ZF V (zO V V)<|Zm V V<|ZP V<|ZP V<|ZP V<|ZP V<|ZP V<|ZF V (zO V V)<|ZT<|wG V<|zY<|Z7r 0 3 4 5 6 7 64 V V V V V V V<|Za V V<|ZT<|zI<|zU<|zT<|zU<|zU<|zT<|zU<|zD V V (fun w hw=>?_);exact⟨by rw[sS hx (.inl (rC (by rw[← hnd];clear hnd;cases nd<;>simp_all [nmOk]<;>omega)))],(HpG.keep hw).ext⟩
        ·refine ZG V V V (zP V)<|ZG V V V (xI V)<|ZG V V V (zP V)<|zA 52 V (fun go=>?_) (fun go=>?_)
         ·refine ZG V V V (Y60x1 V) ?_;refine ZG V V V (zV 0 V V V U9 V)<|ZG V V V (sZ V V U9)<|ZG V V V (zO V V)<|ZF V (zK V V)<|Zm V V<|zA 58 V (fun gp=>?_) (fun gp=>?_)
          ·refine ZP V<|ZP V<|ZP V<|ZP V<|ZP V<|ZF V (zO V V)<|ZT<|wG V<|zY<|Z7r 0 3 4 5 6 7 64 V V V V V V V<|Za V V<|ZT<|zI<|zU<|zT<|zU<|zU<|zT<|zU<|zD V V (fun w hw=>?_);exact⟨by rw[sS hx (.inl (rC (by rw[← hnd];clear hnd;cases nd<;>simp_all [nmOk]<;>omega)))],(HpG.keep hw).ext⟩
          ·refine ZG V V V (Y60x2 V) ?_;refine ZG V V V (zV 0 V V V U55 V)<|ZG V V V (yL V U55)<|ZG V V V (zP V)<|ZG V V V (uZ V V)<|ZF V (zK V V)<|ZT<|zN V (fun h64=>?_) (fun h64=>?_)
           ·replace h64:=vR h64;refine zY<|Z7r 0 3 4 5 6 7 64 V V V V V V V<|Za V V<|ZT<|zI<|zU<|zT<|zU<|zU<|zT<|zU<|zD V V (fun w hw=>?_);exact⟨by rw[sS hx (.inl (rC (by rw[← hnd];clear hnd;cases nd<;>simp_all [nmOk]<;>omega)))],(HpG.keep hw).ext⟩
           ·replace h64:=uW h64;refine yZ<|yT (ι:={u:Unit // x.exprs.length=mny x.kind∧nmOk nd x.name=true}) ⟨(),by simp_all<;>omega,by clear hnd;cases nd<;>simp_all [nmOk]⟩ (O4 V V V V) (fun w h=>h)
         ·refine ZP V<|ZP V<|ZP V<|ZG V V V (zK V V)<|ZF V (zK V V)<|Zm V V<|ZG V V V (Y60x2 V) ?_;refine ZG V V V (zV 0 V V V U55 V)<|ZG V V V (yL V U55)<|ZG V V V (zP V)<|ZG V V V (uZ V V)<|ZF V (zK V V)<|ZT<|zN V (fun h64=>?_) (fun h64=>?_)
          ·replace h64:=vR h64;refine zY<|Z7r 0 3 4 5 6 7 64 V V V V V V V<|Za V V<|ZT<|zI<|zU<|zT<|zU<|zU<|zT<|zU<|zD V V (fun w hw=>?_);exact⟨by rw[sS hx (.inl (rC (by rw[← hnd];clear hnd;cases nd<;>simp_all [nmOk]<;>omega)))],(HpG.keep hw).ext⟩
          ·replace h64:=uW h64;refine yZ<|yT (ι:={u:Unit // x.exprs.length=mny x.kind∧nmOk nd x.name=true}) ⟨(),by simp_all<;>omega,by clear hnd;cases nd<;>simp_all [nmOk]⟩ (O4 V V V V) (fun w h=>h)
       ·refine ZP V<|ZP V<|ZF V (zK V V)<|Zm V V<|ZG V V V (zP V)<|ZG V V V (xI V)<|ZG V V V (zP V)<|zA 52 V (fun go=>?_) (fun go=>?_)
        ·refine ZG V V V (Y60x1 V) ?_;refine ZG V V V (zV 0 V V V U9 V)<|ZG V V V (sZ V V U9)<|ZG V V V (zO V V)<|ZF V (zK V V)<|Zm V V<|zA 58 V (fun gp=>?_) (fun gp=>?_)
         ·refine ZP V<|ZP V<|ZP V<|ZP V<|ZP V<|ZF V (zO V V)<|ZT<|wG V<|zY<|Z7r 0 3 4 5 6 7 64 V V V V V V V<|Za V V<|ZT<|zI<|zU<|zT<|zU<|zU<|zT<|zU<|zD V V (fun w hw=>?_);exact⟨by rw[sS hx (.inl (rC (by rw[← hnd];clear hnd;cases nd<;>simp_all [nmOk]<;>omega)))],(HpG.keep hw).ext⟩
         ·refine ZG V V V (Y60x2 V) ?_;refine ZG V V V (zV 0 V V V U55 V)<|ZG V V V (yL V U55)<|ZG V V V (zP V)<|ZG V V V (uZ V V)<|ZF V (zK V V)<|ZT<|zN V (fun h64=>?_) (fun h64=>?_)
          ·replace h64:=vR h64;refine zY<|Z7r 0 3 4 5 6 7 64 V V V V V V V<|Za V V<|ZT<|zI<|zU<|zT<|zU<|zU<|zT<|zU<|zD V V (fun w hw=>?_);exact⟨by rw[sS hx (.inl (rC (by rw[← hnd];clear hnd;cases nd<;>simp_all [nmOk]<;>omega)))],(HpG.keep hw).ext⟩
          ·replace h64:=uW h64;refine yZ<|yT (ι:={u:Unit // x.exprs.length=mny x.kind∧nmOk nd x.name=true}) ⟨(),by simp_all<;>omega,by clear hnd;cases nd<;>simp_all [nmOk]⟩ (O4 V V V V) (fun w h=>h)
        ·refine ZP V<|ZP V<|ZP V<|ZG V V V (zK V V)<|ZF V (zK V V)<|Zm V V<|ZG V V V (Y60x2 V) ?_;refine ZG V V V (zV 0 V V V U55 V)<|ZG V V V (yL V U55)<|ZG V V V (zP V)<|ZG V V V (uZ V V)<|ZF V (zK V V)<|ZT<|zN V (fun h64=>?_) (fun h64=>?_)
         ·replace h64:=vR h64;refine zY<|Z7r 0 3 4 5 6 7 64 V V V V V V V<|Za V V<|ZT<|zI<|zU<|zT<|zU<|zU<|zT<|zU<|zD V V (fun w hw=>?_);exact⟨by rw[sS hx (.inl (rC (by rw[← hnd];clear hnd;cases nd<;>simp_all [nmOk]<;>omega)))],(HpG.keep hw).ext⟩
         ·replace h64:=uW h64;refine yZ<|yT (ι:={u:Unit // x.exprs.length=mny x.kind∧nmOk nd x.name=true}) ⟨(),by simp_all<;>omega,by clear hnd;cases nd<;>simp_all [nmOk]⟩ (O4 V V V V) (fun w h=>h)
      ·obtain⟨_,hes,hnm⟩:=u;refine wQ (ι:={u:Unit // ((decide (x.kind=4∨x.kind=5)||decide (x.body.length=0))&&(decide (x.kind=4)||decide (x.els.length=0)))=true}) (fun _=>[(0,.slice (some ⟨g1,o1,none⟩) a.length c),(3,.int .i64 i),(4,.pointer (some ⟨b4,0,none⟩)),(7,.int .i64 (mny x.kind:Nat))]) (fun _=>Hp (fun _=>False) w_0 [(b4,bk 60 (stC x.kind x.name P1 x.exprs.length a1.c1 a1.A2 x.body.length a1.c2 a1.A3 x.els.length a1.c3))] [] (xF F w_0)) ?_ (fun u=>?_)
       ·refine zY<|zX<|ZF V (Y60x0 V) ?_;refine ZF V (zV 0 V V V U3 V)<|ZF V (uZ V V)<|Zm V V<|zA 68 V (fun g4=>?_) (fun g4=>?_)
        ·replace g4:=vR g4;refine ZG V V V (Y60x4 V) ?_;refine ZG V V V (zV 0 V V V U58 V)<|ZG V V V (yL V U58)<|ZG V V V (wF V V)<|ZG V V V (zP V)<|zA 73 V (fun g9=>?_) (fun g9=>?_)
         ·replace g9:=of_decide_eq_true g9;refine ZP V<|ZP V<|ZP V<|ZP V<|yX V V V<|yX V V V<|yX V V V<|yX V V V<|ZP V<|ZG V V V (zO V V)<|ZF V (zO V V)<|ZT<|wG V<|zY<|Z5r 0 3 4 7 84 V V V V V<|Za V V<|ZT<|zI<|zU<|zT<|zU<|zU<|zT<|zU<|zD V V (fun w hw=>?_);exact⟨by rw[sS hx (.inl (okSt_bad2 (by rw[Bool.and_eq_false_iff];simp only[Bool.or_eq_false_iff,decide_eq_false_iff_not];omega)))],(HpG.keep hw).ext⟩
         ·replace g9:=of_decide_eq_false g9;refine ZG V V V (Y60x0 V) ?_;refine ZG V V V (zV 0 V V V U3 V)<|ZG V V V (uZ V V)<|ZG V V V (zP V)<|zA 77 V (fun g13=>?_) (fun g13=>?_)
          ·replace g13:=vR g13;refine ZG V V V (Y60x3 V) ?_;refine ZG V V V (zV 0 V V V U58 V)<|ZG V V V (yL V U58)<|ZG V V V (wF V V)<|ZG V V V (zO V V)<|ZG V V V (zK V V)<|ZF V (zO V V)<|ZT<|zN V (fun h84=>?_) (fun h84=>?_)
           ·replace h84:=of_decide_eq_true h84;refine zY<|Z5r 0 3 4 7 84 V V V V V<|Za V V<|ZT<|zI<|zU<|zT<|zU<|zU<|zT<|zU<|zD V V (fun w hw=>?_);exact⟨by rw[sS hx (.inl (okSt_bad2 (by rw[Bool.and_eq_false_iff];simp only[Bool.or_eq_false_iff,decide_eq_false_iff_not];omega)))],(HpG.keep hw).ext⟩
           ·replace h84:=of_decide_eq_false h84;refine yZ ?_
            refine yT (ι:={u:Unit // ((decide (x.kind=4∨x.kind=5)||decide (x.body.length=0))&&(decide (x.kind=4)||decide (x.els.length=0)))=true}) ⟨(),by
             simp only[Bool.and_eq_true,Bool.or_eq_true,decide_eq_true_eq]
             omega⟩ (O4 rfl rfl rfl rfl) (fun w h=>h)
          ·replace g13:=uW g13;refine ZP V<|ZP V<|ZP V<|ZP V<|ZG V V V (zK V V)<|ZG V V V (zK V V)<|ZF V (zO V V)<|ZT<|vS V<|yZ ?_
           refine yT (ι:={u:Unit // ((decide (x.kind=4∨x.kind=5)||decide (x.body.length=0))&&(decide (x.kind=4)||decide (x.els.length=0)))=true}) ⟨(),by
            simp only[Bool.and_eq_true,Bool.or_eq_true,decide_eq_true_eq]
            omega⟩ (O4 rfl rfl rfl rfl) (fun w h=>h)
        ·replace g4:=uW g4;refine ZP V<|ZP V<|ZP V<|ZP V<|ZP V<|yX V V V<|yX V V V<|yX V V V<|yX V V V<|yX V V V<|yX V V V<|yX V V V<|yX V V V<|yX V V V<|ZP V<|ZF V (zK V V)<|ZT<|vS V<|yZ ?_
         refine yT (ι:={u:Unit // ((decide (x.kind=4∨x.kind=5)||decide (x.body.length=0))&&(decide (x.kind=4)||decide (x.els.length=0)))=true}) ⟨(),by
          simp only[Bool.and_eq_true,Bool.or_eq_true,decide_eq_true_eq]
          omega⟩ (O4 rfl rfl rfl rfl) (fun w h=>h)
       ·obtain⟨_,hbe⟩:=u
        have hok:okSt x.kind x.name x.exprs.length x.body.length x.els.length=true:=by
         rw[okSt_eq2,← hnd,Bool.and_assoc,hbe,hnm,decide_eq_true hes,decide_eq_true hk18.1,decide_eq_true hk18.2];rfl
        refine zY<|zY<|zX<|Za V V<|ZT<|yU<|xO (ι:={j:Nat // j≤x.exprs.length∧(x.exprs.take j).all yE=true}) (fun j=>[(0,.slice (some ⟨g1,o1,none⟩) a.length c),(3,.int .i64 i),(4,.pointer (some ⟨b4,0,none⟩)),(7,.int .i64 (mny x.kind:Nat)),(8,.int .i64 j.1)]) (fun _=>Hp (fun _=>False) w_0 [(b4,bk 60 (stC x.kind x.name P1 x.exprs.length a1.c1 a1.A2 x.body.length a1.c2 a1.A3 x.els.length a1.c3))] [] (xF F w_0)) (fun j=>x.exprs.length-j.1) ⟨0,Nat.zero_le _,rfl⟩ ?_ ?_ (fun j=>?_)
        ·exact .cons V<|.cons V<|.cons V<|.cons V<|.cons V<|.nil
        ·exact fun w h=>h
        obtain⟨j,hj,hallE⟩:=j;dsimp only;refine zY<|zY<|zX<|Zm V V<|Zm V V<|ZF V (xL V V)<|ZT<|zN V (fun hc=>?_) (fun hc=>?_)
        ·replace hc:=of_decide_eq_true hc;obtain⟨q,r,rfl⟩:=hE (by omega);have hjl:j<x.exprs.length:=by omega
         obtain⟨y,hy⟩:∃y,x.exprs[j]? = some y:=⟨x.exprs[j],List.getElem?_eq_getElem hjl⟩;obtain⟨Ay,cy,hfy⟩:=ve.fix hy;have hky:=(hfy F w_0 ve).1;have hcy:=(hfy F w_0 ve).2;refine yZ<|zM<|zY<|yU<|zY<|Z6r 0 3 4 7 8 87 V V V V V V<|ZF V (Y60x2 V) ?_;refine ZF V (zV 0 V V V U55 V)<|Zm V V ?_;(refine ZF rfl (zQ (es:=4) rfl rfl U55 (by kernel_rfl) rfl ?_ rfl) ?_;(· first|decide|omega|(simp;done)|(simp;omega));skip);refine ZF V (yB (cs:=xG y Ay cy) V U57 V (by kernel_rfl) (fun w h i v hv=>RdF.part ((HpG.x h).get RdF.lies re) (List.getElem?_eq_some_iff.1 (hcy i v hv)).1 (by omega) (hcy i v hv))) ?_;refine yM .none V  (v:=.bool (yE y)) (by kernel_rfl) V (fun w hw=>rexpr_any y F Ay cy w ((HpG.x hw).get xR.lies hky)) ?_;refine Za V V<|ZX<|Z7r 0 3 4 7 8 9 87 V V V V V V V<|Zm V V<|ZF V (xI V)<|ZT<|zN V (fun h97=>?_) (fun h97=>?_)
         ·refine zY<|Z8r 0 3 4 7 8 9 87 97 V V V V V V V V<|Za V V<|ZT<|zI<|zT<|zU<|zU<|zT<|zU<|zT<|zU<|zU<|zT<|zU<|zD V V (fun w hw=>?_);exact⟨by rw[sS hx (.inr (.inl (by rw[wC,all_no hy (by simpa using h97)])))],(HpG.keep hw).ext⟩
         ·refine yZ<|zG<|zM<|Z8r 0 3 4 7 8 9 87 97 V V V V V V V V<|Zm V V ?_;(refine ZF rfl (yA rfl rfl (i64_in _ ?_ ?_)) ?_;(· omega);(· omega);skip);refine Za V V<|zW<|xP (ι:={j:Nat // j≤x.exprs.length∧(x.exprs.take j).all yE=true}) ⟨j+1,hjl,qY hallE hy (by simpa using h97)⟩ (by show x.exprs.length-(j+1)<x.exprs.length-j;omega) (O5 V V V V V) (fun w h=>h)
        ·replace hc:=of_decide_eq_false hc;have hje:j=x.exprs.length:=by omega
         refine xU<|zJ<|zJ<|xV<|zM<|zY<|Z6r 0 3 4 7 8 87 V V V V V V<|ZF V (Y60x3 V) ?_;refine ZF V (zV 0 V V V U58 V)<|yM .none V  (v:=.bool (rightSts x.body)) (by kernel_rfl) V (fun w hw=>hI.1 F a1.A2 a1.c2 w ((HpG.x hw).get wI.lies hkb)) ?_;refine Za V V<|ZX<|Z7r 0 3 4 7 8 10 87 V V V V V V V<|ZF V (Y60x4 V) ?_;refine ZF V (zV 0 V V V U58 V)<|yM .none V  (v:=.bool (rightSts x.els)) (by kernel_rfl) V (fun w hw=>hI.2 F a1.A3 a1.c3 w ((HpG.x hw).get wI.lies hkc)) ?_;refine Za V V<|ZX<|Z8r 0 3 4 7 8 10 11 87 V V V V V V V V<|Zm V V<|ZF V (xI V)<|Zm V V<|zA 106 V (fun g24=>?_) (fun g24=>?_)
         ·refine ZP V<|ZP V<|ZF V (zO V V)<|ZT<|wG V<|zY<|Z9r 0 3 4 7 8 10 11 87 109 V V V V V V V V V<|Za V V<|ZT<|zI<|zT<|zU<|zU<|zT<|zU<|zD V V (fun w hw=>?_);exact⟨by rw[sS hx (.inr (.inr (.inl (by simpa using g24))))],(HpG.keep hw).ext⟩
         ·refine ZG V V V (zP V)<|ZG V V V (xI V)<|ZF V (zK V V)<|ZT<|zN V (fun h109=>?_) (fun h109=>?_)
          ·refine zY<|Z9r 0 3 4 7 8 10 11 87 109 V V V V V V V V V<|Za V V<|ZT<|zI<|zT<|zU<|zU<|zT<|zU<|zD V V (fun w hw=>?_);exact⟨by rw[sS hx (.inr (.inr (.inr (by simpa using h109))))],(HpG.keep hw).ext⟩
          ·refine yZ<|zG<|zM<|Z9r 0 3 4 7 8 10 11 87 109 V V V V V V V V V<|Zm V V ?_;(refine ZF rfl (yA rfl rfl (i64_in _ ?_ ?_)) ?_;(· omega);(· omega);skip);refine Za V V<|zW ?_
           have hxr:wW x=true:=by
            rw[hje,List.take_length] at hallE;rw[rightSt_eq',hok,wC,hallE,show rightSts x.body=true by simpa using g24,show rightSts x.els=true by simpa using h109];rfl
           refine xP (ι:={i:Nat // i≤a.length∧(a.take i).all wW=true}) ⟨i+1,hil,qY hall hx hxr⟩ (by show a.length-(i+1)<a.length-i;omega) (O2 V V) (fun w h=>Hp.drop h (List.sublist_cons_self _ _) (List.Sublist.refl _))
 ·replace hc:=of_decide_eq_false hc;have hie:i=a.length:=by omega
  refine xU<|zJ<|zJ<|xV<|zM<|zY<|Z3r 0 3 15 V V V<|Za V V<|ZT<|zI<|zD V V (fun w hw=>?_);exact⟨by rw[hie,List.take_length] at hall;rw[uN,hall],(HpG.keep hw).ext⟩
theorem rstmts_all:∀(N:Nat) (x:St),SizeOf.sizeOf x<N→RRS x.body∧RRS x.els
 | 0,_,h=>absurd h (by omega)
 | N+1,.mk k s es b c,h=>⟨rstmts_step b fun x hx=>rstmts_all N x (by have:=vL (k:=k) (s:=s) (es:=es) (c:=c) (.inl hx);omega),rstmts_step c fun x hx=>rstmts_all N x (by have:=vL (k:=k) (s:=s) (es:=es) (b:=b) (.inr hx);omega)⟩
theorem rstmts_any (a:List St):RRS a:=rstmts_step a fun x _=>rstmts_all _ x (Nat.lt_succ_self _)
end Go.Proofs.YtfpkpnkdnammnaaGreatDoor
/- The reference model's Right. -/
namespace Go.Proofs.YtfpkpnkdnammnaaGreatDoor
open Go.RowKit
theorem rightFn_no {l:List Fn}{i:Nat}{x:Fn}(hx:l[i]? = some x) (h:yD x.name=false∨rightSts x.body=false∨x.params.all yD=false):vY l=false:=by
 refine all_no hx ?_;unfold vF;rcases h with h|h|h<;>rw[h]<;>simp
set_option maxHeartbeats 4000000 in
set_option maxRecDepth 100000 in
theorem rright_any (a:List Fn) (F:Nat→Prop) (A:Option Addr) (c:Nat) (w_0:World) (ha:PgK F w_0 a A c):Calls Tryz.prog 24 #[.agg [Value.slice A a.length c].toArray] w_0 fun e w'=>e=.returned (.bool (vY a))∧Ext w_0 w':=by
 obtain⟨pa,ca,ra,va⟩:=ha;have hla:=pa.lt
 have hA:0<a.length→∃b off,A=some ⟨b,off,none⟩:=fun h0=>by
  obtain⟨b,off,e,_⟩:=ra (by rw[va.len];omega);exact⟨b,off,e⟩
 refine yR (args:=[Value.agg [Value.slice A a.length c].toArray]) Tryz.func24 V 48 V (Nat.le_of_ble_eq_true V)<|Z1 0 V<|yY (H':=Hp (fun _=>False) w_0 [] [] (xF F w_0)) (fun u hu=>?_) ?_
 ·subst hu;exact Hp.startSame
 refine zY<|zX<|zC .none V (wL V V) (fun b1=>?_);refine Za V V<|ZX<|zY<|zX<|Za V V<|ZT<|yU<|xO (ι:={i:Nat // i≤a.length∧(a.take i).all vF=true}) (fun i=>[(1,.pointer (some ⟨b1,0,none⟩)),(3,.int .i64 i.1)]) (fun _=>Hp (fun _=>False) w_0 [(b1,bk 32 [.slice A a.length c])] [] (xF F w_0)) (fun i=>a.length-i.1) ⟨0,Nat.zero_le _,rfl⟩ ?_ ?_ (fun i=>?_)
 ·exact .cons V<|.cons V<|.nil
 ·exact fun w h=>h
 obtain⟨i,hi,hall⟩:=i;dsimp only;refine zY<|zY<|zX<|Zm V V<|ZF V (Y32x0 V) ?_;refine ZF V (zV 0 V V V U30 V)<|ZF V (yL V U30)<|ZF V (xL V V)<|ZT<|zN V (fun hc=>?_) (fun hc=>?_)
 ·replace hc:=of_decide_eq_true hc;have hil:i<a.length:=by omega
  obtain⟨g1,o1,rfl⟩:=hA (by omega);obtain⟨x,hx⟩:∃x,a[i]? = some x:=⟨a[i],List.getElem?_eq_getElem hil⟩;obtain⟨a1,hfix1⟩:=va.fix hx;have hk1:=(hfix1 F w_0 va).1;have hc1:=(hfix1 F w_0 va).2;have hkb:wI F w_0 x.body a1.A2 a1.c2:=⟨hk1.p2,hk1.h2⟩;have hp1:=hk1.h1;have hpl1:=hk1.p1.lt
  have hP1:0<x.params.length→∃b off,a1.A1=some ⟨b,off,none⟩:=fun h0=>by
   obtain⟨b,off,e,_⟩:=hp1 (by rw[strs_len];omega);exact⟨b,off,e⟩
  generalize hA1:a1.A1=P1 at hp1 hP1;refine yZ<|zM<|zY<|yU<|zY<|Z3r 1 3 13 V V V<|ZF V (Y32x0 V) ?_;refine ZF V (zV 0 V V V U30 V)<|Zm V V ?_;(refine ZF rfl (zQ (es:=3) rfl rfl U30 (by kernel_rfl) rfl ?_ rfl) ?_;(· first|decide|omega|(simp;done)|(simp;omega));skip)
  refine ZF V (yB (cs:=fnC x.name P1 x.params.length a1.c1 a1.A2 x.body.length a1.c2) V U62 V (by kernel_rfl) (fun w h j v hv=>by
   rw[← hA1] at hv
   exact RdF.part ((HpG.x h).get RdF.lies ra) (List.getElem?_eq_some_iff.1 (hc1 j v hv)).1 (by omega) (hc1 j v hv))) ?_
  refine zC .none V (yJ (z:=.agg #[.string ⟨#[]⟩,.slice none 0 0,.slice none 0 0]) (cs:=[.string ⟨#[]⟩,.slice none 0 0,.slice none 0 0]) (by kernel_rfl) V) (fun b4=>?_);refine ZR 0 V V V V V (by kernel_rfl) ?_;refine ZX<|Z4r 1 3 4 13 V V V V<|ZF V (Y62x0 V) ?_;refine ZF V (zV 0 V V V U9 V)<|yM .none V  (v:=.bool (yD x.name)) (by kernel_rfl) V (fun w hw=>qO x.name w) ?_;refine Za V V<|ZX<|Z5r 1 3 4 5 13 V V V V V<|ZF V (Y62x2 V) ?_;refine ZF V (zV 0 V V V U58 V)<|yM .none V  (v:=.bool (rightSts x.body)) (by kernel_rfl) V (fun w hw=>rstmts_any x.body F a1.A2 a1.c2 w ((HpG.x hw).get wI.lies hkb)) ?_;refine Za V V<|ZX<|zY<|Z6r 1 3 4 5 6 13 V V V V V V<|Zm V V<|ZF V (xI V)<|Zm V V<|zA 29 V (fun g7=>?_) (fun g7=>?_)
  ·refine ZP V<|ZP V<|ZF V (zO V V)<|ZT<|wG V<|zY<|Z7r 1 3 4 5 6 13 32 V V V V V V V<|Za V V<|ZT<|zI<|zU<|zT<|zU<|zU<|zT<|zU<|zD V V (fun w hw=>?_);exact⟨by rw[rightFn_no hx (.inl (by simpa using g7))],(HpG.keep hw).ext⟩
  ·refine ZG V V V (zP V)<|ZG V V V (xI V)<|ZF V (zK V V)<|ZT<|zN V (fun h32=>?_) (fun h32=>?_)
   ·refine zY<|Z7r 1 3 4 5 6 13 32 V V V V V V V<|Za V V<|ZT<|zI<|zU<|zT<|zU<|zU<|zT<|zU<|zD V V (fun w hw=>?_);exact⟨by rw[rightFn_no hx (.inr (.inl (by simpa using h32)))],(HpG.keep hw).ext⟩
   ·refine yZ<|zM<|zY<|Z7r 1 3 4 5 6 13 32 V V V V V V V<|Za V V<|ZT<|yU<|xO (ι:={k:Nat // k≤x.params.length∧(x.params.take k).all yD=true}) (fun k=>[(1,.pointer (some ⟨b1,0,none⟩)),(3,.int .i64 i),(4,.pointer (some ⟨b4,0,none⟩)),(7,.int .i64 k.1)]) (fun _=>Hp (fun _=>False) w_0 [(b4,bk 62 (fnC x.name P1 x.params.length a1.c1 a1.A2 x.body.length a1.c2)),(b1,bk 32 [.slice (some ⟨g1,o1,none⟩) a.length c])] [] (xF F w_0)) (fun k=>x.params.length-k.1) ⟨0,Nat.zero_le _,rfl⟩ ?_ ?_ (fun k=>?_)
    ·exact .cons V<|.cons V<|.cons V<|.cons V<|.nil
    ·exact fun w h=>h
    obtain⟨k,hk,hpk⟩:=k;dsimp only;refine zY<|zY<|zX<|Zm V V<|ZF V (Y62x1 V) ?_;refine ZF V (zV 0 V V V U22 V)<|ZF V (yL V U22)<|ZF V (xL V V)<|ZT<|zN V (fun hc=>?_) (fun hc=>?_)
    ·replace hc:=of_decide_eq_true hc;have hkl:k<x.params.length:=by omega
     obtain⟨q1,r1,rfl⟩:=hP1 (by omega);obtain⟨s,hs⟩:∃s,x.params[k]? = some s:=⟨x.params[k],List.getElem?_eq_getElem hkl⟩;refine yZ<|zM<|zY<|yU<|zY<|Z5r 1 3 4 7 37 V V V V V<|ZF V (Y62x1 V) ?_;refine ZF V (zV 0 V V V U22 V)<|Zm V V ?_;(refine ZF rfl (zQ (es:=1) rfl rfl U22 (by kernel_rfl) rfl ?_ rfl) ?_;(· first|decide|omega|(simp;done)|(simp;omega));skip);refine ZF V (yO (v:=.string ⟨s.toArray⟩) V U9 V (fun w h=>RdF.part ((HpG.x h).get RdF.lies hp1) (by rw[strs_len];exact hkl) (by omega) (rL hs))) ?_;refine yM .none V  (v:=.bool (yD s)) (by kernel_rfl) V (fun w hw=>qO s w) ?_;refine Za V V<|ZX<|Z6r 1 3 4 7 8 37 V V V V V V<|Zm V V<|ZF V (xI V)<|ZT<|zN V (fun h47=>?_) (fun h47=>?_)
     ·refine zY<|Z7r 1 3 4 7 8 37 47 V V V V V V V<|Za V V<|ZT<|zI<|zT<|zU<|zU<|zT<|zT<|zU<|zU<|zT<|zU<|zD V V (fun w hw=>?_);exact⟨by rw[rightFn_no hx (.inr (.inr (all_no hs (by simpa using h47))))],(HpG.keep hw).ext⟩
     ·refine yZ<|zG<|zM<|Z7r 1 3 4 7 8 37 47 V V V V V V V<|Zm V V ?_;(refine ZF rfl (yA rfl rfl (i64_in _ ?_ ?_)) ?_;(· omega);(· omega);skip);refine Za V V<|zW<|xP (ι:={k:Nat // k≤x.params.length∧(x.params.take k).all yD=true}) ⟨k+1,hkl,qY hpk hs (by simpa using h47)⟩ (by show x.params.length-(k+1)<x.params.length-k;omega) (O4 V V V V) (fun w h=>h)
    ·replace hc:=of_decide_eq_false hc;have hke:k=x.params.length:=by omega
     refine xU<|zJ<|zJ<|xV<|zG<|zM<|Z5r 1 3 4 7 37 V V V V V<|Zm V V ?_;(refine ZF rfl (yA rfl rfl (i64_in _ ?_ ?_)) ?_;(· omega);(· omega);skip);refine Za V V<|zW ?_
     have hxr:vF x=true:=by
      rw[hke,List.take_length] at hpk;unfold vF;rw[hpk,show yD x.name=true by simpa using g7,show rightSts x.body=true by simpa using h32];rfl
     refine xP (ι:={i:Nat // i≤a.length∧(a.take i).all vF=true}) ⟨i+1,hil,qY hall hx hxr⟩ (by show a.length-(i+1)<a.length-i;omega) (O2 V V) (fun w h=>Hp.drop h (List.sublist_cons_self _ _) (List.Sublist.refl _))
 ·replace hc:=of_decide_eq_false hc;have hie:i=a.length:=by omega
  refine xU<|zJ<|zJ<|xV<|zM<|zY<|Z3r 1 3 13 V V V<|Za V V<|ZT<|zI<|zD V V (fun w hw=>?_);exact⟨by rw[hie,List.take_length] at hall;rw[vY,hall],(HpG.keep hw).ext⟩
end Go.Proofs.YtfpkpnkdnammnaaGreatDoor
