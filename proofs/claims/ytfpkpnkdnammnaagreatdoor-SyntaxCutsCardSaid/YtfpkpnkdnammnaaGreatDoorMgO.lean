import Derived.Test.YtfpkpnkdnammnaaGreatDoorMgI
import Derived.Test.YtfpkpnkdnammnaaGreatDoorMgw
set_option maxRecDepth 100000
set_option maxHeartbeats 4000000
namespace Go.Proofs.YtfpkpnkdnammnaaGreatDoor
open Go.RowKit
theorem pR (r:Nat) (w_0:World):Calls Tryz.prog 35 #[.int .u8 r] w_0 fun e w'=>e=.returned (.bool (sP r))∧Ext w_0 w':=by
 refine yV (args:=[.int .u8 r]) Tryz.func35 V 9 V (Jn V)<|Z1 0 V<|zD (H':=Hp (fun _=>False) w_0 [] [] (fun _=>True)) (fun u hu=>?_) ?_
 ·subst hu;exact Hp.start0
 refine zY<|zX<|Za V V<|ZX<|zX<|Zm V V<|ZF V (tO V V)<|Zm V V<|zH 5 V (fun hb=>?_) (fun hb=>?_)
 ·replace hb:=Jo hb;refine ZG V V V (zO V)<|ZG V V V (yf_leq V V)<|ZF V (zP V V)<|Za V V<|ZT<|zK<|zI V V (fun w hw=>?_);exact⟨by congr 2;rw[Jl];simp[sP];try omega,(Jq hw).ext⟩
 ·replace hb:=Jp hb;refine ZP V<|ZP V<|ZF V (zL V V)<|Za V V<|ZT<|zK<|zI V V (fun w hw=>?_);exact⟨by congr 2;rw[Jl];simp[sP];try omega,(Jq hw).ext⟩
theorem rdigit_any (r:Nat) (w_0:World):Calls Tryz.prog 34 #[.int .u8 r] w_0 fun e w'=>e=.returned (.bool (vB r))∧Ext w_0 w':=by
 refine yV (args:=[.int .u8 r]) Tryz.func34 V 9 V (Jn V)<|Z1 0 V<|zD (H':=Hp (fun _=>False) w_0 [] [] (fun _=>True)) (fun u hu=>?_) ?_
 ·subst hu;exact Hp.start0
 refine zY<|zX<|Za V V<|ZX<|zX<|Zm V V<|ZF V (tO V V)<|Zm V V<|zH 5 V (fun hb=>?_) (fun hb=>?_)
 ·replace hb:=Jo hb;refine ZG V V V (zO V)<|ZG V V V (yf_leq V V)<|ZF V (zP V V)<|Za V V<|ZT<|zK<|zI V V (fun w hw=>?_);exact⟨by congr 2;rw[Jl];simp[vB];try omega,(Jq hw).ext⟩
 ·replace hb:=Jp hb;refine ZP V<|ZP V<|ZF V (zL V V)<|Za V V<|ZT<|zK<|zI V V (fun w hw=>?_);exact⟨by congr 2;rw[Jl];simp[vB];try omega,(Jq hw).ext⟩
theorem among_any (l:List Bs) (hl:l.length≤9223372036854775807) (s:Bs) (A:Option Addr) (cap:Nat) {F:Nat→Prop}(w_0:World) (h:RdF F A (xX l) w_0):Calls Tryz.prog 36 #[.string ⟨s.toArray⟩,.slice A l.length cap] w_0 fun e w'=>e=.returned (.bool (decide (s∈l)))∧Ext w_0 w':=by
 have hA:0<l.length→∃b off,A=some ⟨b,off,none⟩:=fun h0=>by
  obtain⟨b,off,e,_⟩:=h (by simpa using h0);exact⟨b,off,e⟩
 refine yV (args:=[.string ⟨s.toArray⟩,.slice A l.length cap]) Tryz.func36 V 18 V (Jn V)<|Z2 0 1 V V<|zD (H':=Hp (fun _=>False) w_0 [] [] (RdF F A (xX l))) (fun u hu=>?_) ?_
 ·subst hu;exact Hp.startT RdF.lies h
 refine zY<|zX<|Za V V<|ZX<|zY<|zX<|Za V V<|ZT<|yY<|xV (ι:={k:Nat // IxI l s k}) (fun k=>[(0,.string ⟨s.toArray⟩),(1,.slice A l.length cap),(5,.int .i64 k.1)]) (fun _=>Hp (fun _=>False) w_0 [] [] (RdF F A (xX l))) (fun k=>l.length-k.1) ⟨0,Kl _,fun _ _ h=>absurd h (by omega)⟩ ?_ ?_ (fun k=>?_)
 ·exact .cons V<|.cons V<|.cons V<|.nil
 ·exact fun w h=>h
 obtain⟨k,hk,hno⟩:=k;dsimp only;refine zY<|zY<|zX<|Zm V V<|Zm V V<|ZF V (yM V U22)<|ZF V (xS V V)<|ZT<|zT V (fun hc=>?_) (fun hc=>?_)
 ·replace hc:=Jo hc;obtain⟨b,off,rfl⟩:=hA (by omega);have hkl:k<l.length:=by omega
  obtain⟨x,hx⟩:∃x,l[k]? = some x:=⟨l[k],Jt hkl⟩;refine zG<|zQ<|zY<|yY<|zY<|Z4r 0 1 5 9 rfl rfl rfl rfl<|Zm rfl rfl<|Zm rfl rfl<|ZF rfl (zJ (es:=1) rfl rfl U22 (by kernel_rfl) rfl (by first|decide|omega|(simp;done)|(simp;omega)) rfl) ?_;refine ZF V (yO (v:=.string ⟨x.toArray⟩) V U9 V (fun w h=>RdF.part (HpG.x h) (by simpa using hkl) (by omega) (rU hx))) ?_;refine Zm V V<|ZF V (xU V V U9)<|ZT<|zT V (fun he=>?_) (fun he=>?_)
  ·have he:=Jo he;subst he;refine zY<|Z5r 0 1 5 9 17 V V V V V<|Za V V<|ZT<|zK<|zR<|zV<|zV<|zR<|zV<|zI V V (fun w hw=>?_);exact⟨by rw[Kv (Ju hx)],(Jq hw).ext⟩
  ·have he:=Jp he;refine zG<|zM<|zQ<|Z5r 0 1 5 9 17 V V V V V<|Zm V V<|ZF V (yI V V (i64_in _ (by omega) (by omega))) ?_;refine Za V V<|zU<|yC (ι:={k:Nat // IxI l s k}) ⟨k+1,by omega,fun j y hj hy=>?_⟩ (by show l.length-(k+1)<l.length-k;omega) (O3 V V V) (fun w h=>h);rcases Nat.lt_or_ge j k with h1|h1
   ·exact hno j y h1 hy
   ·have:j=k:=by omega
    subst this;rw[hx] at hy;cases hy;exact he
 ·replace hc:=Jp hc;have hke:k=l.length:=by omega
  refine xY<|zN<|zN<|xZ<|zQ<|zY<|Z4r 0 1 5 9 V V V V<|Za V V<|ZT<|zK<|zI V V (fun w hw=>?_);exact⟨by rw[Kw (fun e=>by obtain⟨j,hj,e⟩:=List.getElem_of_mem e;exact hno j _ (by omega) (Jt hj) e)],(Jq hw).ext⟩
theorem rkeywords_any (w_0:World):Calls Tryz.prog 37 #[] w_0 fun e w'=>∃A:Option Addr,e=.returned (.slice A vN.length 9)∧Ext w_0 w'∧RdF (fun k=>w_0.heap.size≤k) A (xX vN) w':=by
 refine yV (args:=[]) Tryz.func37 V 2 V (Jn V)<|wY (.nil)<|zD (H':=Hp (fun _=>False) w_0 [] [] (fun _=>True)) (fun u hu=>?_) ?_
 ·subst hu;exact Hp.start0
 refine zY<|zX<|Za V V<|ZX<|zX<|zC .none V (wM (z:=Ja) V V V V U22 (by kernel_rfl) (by kernel_rfl) V V) (fun b1=>?_);refine Za V V<|ZT<|zK<|zI V V (fun w hw=>?_);exact⟨_,rfl,(Jq hw).ext,HpG.rdF (j:=0) hw V (HpG.mineL hw (j:=0) V id)⟩
theorem pY {α:Type}{p:α→Bool}{l:List α}{k:Nat}{y:α}(h:(l.take k).all p=true) (hy:l[k]? = some y) (hp:p y=true):(l.take (k+1)).all p=true:=by
 rw[List.take_add_one,hy,List.all_append,h];simp[hp]
theorem all_no {α:Type}{p:α→Bool}{l:List α}{k:Nat}{y:α}(hy:l[k]? = some y) (hp:p y=false):l.all p=false:=by
 rw[List.all_eq_false];exact⟨y,Ju hy,by simp[hp]⟩
theorem pQ (s:Bs) (w_0:World):Calls Tryz.prog 46 #[.string ⟨s.toArray⟩] w_0 fun e w'=>e=.returned (.bool (yG s))∧Ext w_0 w':=by
 have hat:s≠[]→∃c r,s=c::r:=fun h=>by cases s with|nil=>exact absurd rfl h|cons c r=>exact⟨c,r,rfl⟩
 refine yV (args:=[.string ⟨s.toArray⟩]) Tryz.func46 V 43 V (Jn V)<|Z1 0 V<|zD (H':=Hp (fun _=>False) w_0 [] [] (fun _=>True)) (fun u hu=>?_) ?_
 ·subst hu;exact Hp.start0
 refine zY<|zX<|Za V V<|ZT<|xA (ι:=Unit) (fun _=>[(0,.string ⟨s.toArray⟩),(3,.bool (decide (s∈vN)))]) (fun _=>Hp (fun _=>False) w_0 [] [] (fun _=>True)) ?_ (fun _=>?_)
 ·refine zX<|Zm V V<|sU (ι:=Option Addr) (C:=fun _=>True) (val:=fun A=>.slice A vN.length 9) (TT:=fun A F u=>RdF F A (xX vN) u) .none V  (by kernel_rfl) V (fun _ h=>h.elim) (fun _=>RdF.lies) (fun w hw=>(rkeywords_any w).mono fun e w' ⟨A,e1,e2,e3⟩=>⟨A,trivial,e1,e2,e3⟩) (fun A F _ hF=>?_);refine yT .none V  (v:=.bool (decide (s∈vN))) (by kernel_rfl) V (fun w hw=>among_any vN (by decide) _ _ _ w (HpG.x hw).1) ?_;refine Za V V<|zU<|zA (ι:=Unit) () (O2 V V) (fun w h=>Hp.weakX h fun _ _=>trivial)
 ·refine zY<|zY<|zX<|Zm V V<|ZF V (vL V U9)<|ZF V (xS V V)<|Zm V V<|zH 11 V (fun h3=>?_) (fun h3=>?_)
  ·replace h3:=Jo h3;refine ZP V<|ZP V<|ZP V<|ZF V (zP V V)<|Zm V V<|ZP V<|ZP V<|ZP V<|ZP V<|ZF V (zP V V)<|Zm V V<|ZP V<|ZF V (zP V V)<|ZT<|uT V<|zY<|Z3r 0 3 24 V V V<|Za V V<|ZT<|zK<|zV<|zI V V (fun w hw=>?_);exact⟨by cases s with|nil=>rfl|cons c r=>(simp at h3;omega),(Jq hw).ext⟩
  ·replace h3:=Jp h3;skip;obtain⟨c,r,rfl⟩:=hat (fun e=>by subst e;simp at h3);refine ZG V V V (zO V)<|ZG V V V (vL V U9)<|ZG V V V (wO V V)<|ZF V (zL V V)<|Zm V V<|zH 16 V (fun h8=>?_) (fun h8=>?_)
   ·replace h8:=Jo h8;refine ZP V<|ZP V<|ZP V<|ZP V<|ZF V (zP V V)<|Zm V V<|ZP V<|ZF V (zP V V)<|ZT<|uT V<|zY<|Z3r 0 3 24 V V V<|Za V V<|ZT<|zK<|zV<|zI V V (fun w hw=>?_);exact⟨by rw[name_no (.inl (by omega))],(Jq hw).ext⟩
   ·replace h8:=Jp h8;refine ZG V V V (zO V)<|ZG V V V (vJ V V U9 V V)<|yT (.some V V) V  (v:=.bool (sP c.toNat)) (by kernel_rfl) V (fun w hw=>pR _ w) ?_;refine ZG V V V (xJ V)<|ZF V (zL V V)<|Zm V V<|zH 22 V (fun h14=>?_) (fun h14=>?_)
    ·refine ZP V<|ZF V (zP V V)<|ZT<|uT V<|zY<|Z3r 0 3 24 V V V<|Za V V<|ZT<|zK<|zV<|zI V V (fun w hw=>?_);exact⟨by rw[name_no (.inr (.inr (by simpa [qN] using h14)))],(Jq hw).ext⟩
    ·refine ZG V V V (zO V)<|ZF V (zL V V)<|ZT<|zT V (fun h24=>?_) (fun h24=>?_)
     ·refine zY<|Z3r 0 3 24 V V V<|Za V V<|ZT<|zK<|zV<|zI V V (fun w hw=>?_);exact⟨by rw[name_no (.inr (.inl (Jo h24)))],(Jq hw).ext⟩
     ·refine zG<|zQ<|zY<|zY<|Z3r 0 3 24 V V V<|Za V V<|ZT<|yY<|xV (ι:={k:Nat // k≤(c::r).length∧((c::r).take k).all vH=true}) (fun k=>[(0,.string ⟨(c::r).toArray⟩),(4,.int .i64 k.1)]) (fun _=>Hp (fun _=>False) w_0 [] [] (fun _=>True)) (fun k=>(c::r).length-k.1) ⟨0,Kl _,rfl⟩ ?_ ?_ (fun k=>?_)
      ·exact .cons V<|.cons V<|.nil
      ·exact fun w h=>h
      obtain⟨k,hk,hall⟩:=k;dsimp only;refine zY<|zY<|zX<|Zm V V<|Zm V V<|ZF V (vL V U9)<|ZF V (xS V V)<|ZT<|zT V (fun hc=>?_) (fun hc=>?_)
      ·replace hc:=Jo hc;have hkl:k<(c::r).length:=by simp at *;omega
       obtain⟨y,hy⟩:∃y,(c::r)[k]? = some y:=⟨(c::r)[k],Jt hkl⟩;refine zG<|zQ<|zY<|yY<|zY<|Z3r 0 4 28 V V V<|Zm V V<|Zm V V<|ZF V (vJ V V U9 V hy)<|yT .none V  (v:=.bool (sP y.toNat)) (by kernel_rfl) V (fun w hw=>pR _ w) ?_;refine ZF V (xJ V)<|Zm V V<|zH 36 V (fun h7=>?_) (fun h7=>?_)
       ·refine ZG V V V (zO V)<|ZG V V V (zO V)<|ZG V V V (vJ V V U9 V hy)<|yT (.some V V) V  (v:=.bool (vB y.toNat)) (by kernel_rfl) V (fun w hw=>rdigit_any _ w) ?_;refine ZG V V V (xJ V)<|ZF V (zP V V)<|ZT<|zT V (fun h42=>?_) (fun h42=>?_)
        ·refine zY<|Z4r 0 4 28 42 V V V V<|Za V V<|ZT<|zK<|zR<|zV<|zV<|zR<|zV<|zI V V (fun w hw=>?_)
         exact⟨by
          have hwn:vH y=false:=by
           show (sP y.toNat||vB y.toNat)=false;rw[show sP y.toNat=false by simpa using h7,show vB y.toNat=false by simpa using h42];rfl
          rw[name_yes (by omega) (Jp h24) (by simpa [qN] using h14),all_no hy hwn],(Jq hw).ext⟩
        ·refine zG<|zM<|zQ<|Z4r 0 4 28 42 V V V V<|Zm V V<|ZF V (yI V V (i64_in _ (by omega) (by omega))) ?_;refine Za V V<|zU ?_
         have hwy:vH y=true:=by
          show (sP y.toNat||vB y.toNat)=true
          first|(rw[show sP y.toNat=true by simpa using h7];rfl)|(rw[show vB y.toNat=true by simpa using h42,Bool.or_true])
         refine yC (ι:={k:Nat // k≤(c::r).length∧((c::r).take k).all vH=true}) ⟨k+1,hkl,pY hall hy hwy⟩ (by show (c::r).length-(k+1)<(c::r).length-k;omega) (O2 V V) (fun w h=>h)
       ·refine ZP V<|ZP V<|ZP V<|ZP V<|ZP V<|ZF V (zL V V)<|ZT<|vU V<|zG<|zM<|zQ<|Z4r 0 4 28 42 V V V V<|Zm V V<|ZF V (yI V V (i64_in _ (by omega) (by omega))) ?_;refine Za V V<|zU ?_
        have hwy:vH y=true:=by
         show (sP y.toNat||vB y.toNat)=true
         first|(rw[show sP y.toNat=true by simpa using h7];rfl)|(rw[show vB y.toNat=true by simpa using h42,Bool.or_true])
        refine yC (ι:={k:Nat // k≤(c::r).length∧((c::r).take k).all vH=true}) ⟨k+1,hkl,pY hall hy hwy⟩ (by show (c::r).length-(k+1)<(c::r).length-k;omega) (O2 V V) (fun w h=>h)
      ·replace hc:=Jp hc;refine xY<|zN<|zN<|xZ<|zQ<|zY<|Z3r 0 4 28 V V V<|Za V V<|ZT<|zK<|zI V V (fun w hw=>?_)
       exact⟨by
        have hke:k=(c::r).length:=by simp at *;omega
        rw[hke,Kh] at hall
        rw[name_yes (by omega) (Jp h24) (by simpa [qN] using h14),hall],(Jq hw).ext⟩
end Go.Proofs.YtfpkpnkdnammnaaGreatDoor
namespace Go.Proofs.YtfpkpnkdnammnaaGreatDoor
open Go.RowKit
def levsL:List (List Bs):=[[[124]],[[94]],[[38]],[[61,61],[33,61]],[[60],[60,61],[62],[62,61]],[[60,60],[62,62]],[[43],[45]],[[42],[47],[37]]]
theorem lev_at {s:Bs}{k:Nat}{x:List Bs}(hk:levsL[k]? = some x) (h:s∈x):wA s=some k:=by
 have h8:k<8:=(Jm.1 hk).1;obtain rfl|rfl|rfl|rfl|rfl|rfl|rfl|rfl:k=0∨k=1∨k=2∨k=3∨k=4∨k=5∨k=6∨k=7:=by omega
 all_goals
  cases hk;simp only[List.mem_cons,List.not_mem_nil,or_false] at h
  (rcases h with rfl|rfl|rfl|rfl<;>rfl)
theorem lev_none {s:Bs}(h:∀(j:Nat) (x:List Bs),levsL[j]? = some x→s∉x):wA s=none:=by
 have h0:=h 0 _ rfl;have h1:=h 1 _ rfl;have h2:=h 2 _ rfl;have h3:=h 3 _ rfl;have h4:=h 4 _ rfl;have h5:=h 5 _ rfl;have h6:=h 6 _ rfl;have h7:=h 7 _ rfl;simp only[List.mem_cons,List.not_mem_nil,or_false,not_or] at h0 h1 h2 h3 h4 h5 h6 h7;simp only[wA,levT,vC,h0,h1,h2,h3,h4,h5,h6,h7,if_false]
def vZ (s:Bs):Int:=match wA s with|some k=>k|none=>-1
def levC (av:List (Option Addr)):List Value:=List.zipWith (fun (a:Option Addr) (x:List Bs)=>Value.slice a x.length x.length) av levsL
def LevV (av:List (Option Addr)) (F:Nat→Prop) (u:World):Prop:=∀(i:Nat) (x:List Bs) (a:Option Addr),levsL[i]? = some x→av[i]? = some a→RdF F a (xX x) u
theorem LevV.lies {av:List (Option Addr)}:Lies fun F u=>LevV av F u :=
 ⟨fun hk h i x a h1 h2=>RdF.lies.foot hk (h i x a h1 h2),fun h i x a h1 h2=>RdF.lies.lt (h i x a h1 h2),fun hF h i x a h1 h2=>RdF.lies.mono hF (h i x a h1 h2)⟩
theorem rlevels_any (w_0:World):Calls Tryz.prog 147 #[] w_0 fun e w'=>∃(A:Nat) (av:List (Option Addr)),av.length=8∧e=.returned (.slice (some ⟨A,0,none⟩) 8 8)∧Ext w_0 w'∧RdF (fun k=>w_0.heap.size≤k) (some ⟨A,0,none⟩) (levC av) w'∧LevV av (fun k=>w_0.heap.size≤k) w':=by
 refine yV (args:=[]) Tryz.func147 V 10 V (Jn V)<|wY (.nil)<|zD (H':=Hp (fun _=>False) w_0 [] [] (fun _=>True)) (fun u hu=>?_) ?_
 ·subst hu;exact Hp.start0
 refine zY<|zX<|Za V V<|ZX<|zX<|zC .none V (xR (z:=Ja) V V U22 (by kernel_rfl) (by kernel_rfl) V V) (fun b1=>?_);refine zC .none V (xR (z:=Ja) V V U22 (by kernel_rfl) (by kernel_rfl) V V) (fun b2=>?_);refine zC .none V (xR (z:=Ja) V V U22 (by kernel_rfl) (by kernel_rfl) V V) (fun b3=>?_);refine zC .none V (nf_bs2 (z:=Ja) V V V V U22 (by kernel_rfl) (by kernel_rfl) V V V) (fun b4=>?_);refine zC .none V (wM (z:=Ja) V V V V U22 (by kernel_rfl) (by kernel_rfl) V V) (fun b5=>?_);refine zC .none V (nf_bs2 (z:=Ja) V V V V U22 (by kernel_rfl) (by kernel_rfl) V V V) (fun b6=>?_);refine zC .none V (nf_bs2 (z:=Ja) V V V V U22 (by kernel_rfl) (by kernel_rfl) V V V) (fun b7=>?_);refine zC .none V (wM (z:=Ja) V V V V U22 (by kernel_rfl) (by kernel_rfl) V V) (fun b8=>?_);refine zC .none V (wM (z:=.slice none 0 0) V V V V U178 (by kernel_rfl) (by kernel_rfl) V V) (fun b9=>?_);refine Za V V<|ZT<|zK<|zI V V (fun w hw=>?_);refine⟨_,[some ⟨b1,0,none⟩,some ⟨b2,0,none⟩,some ⟨b3,0,none⟩,some ⟨b4,0,none⟩,some ⟨b5,0,none⟩,some ⟨b6,0,none⟩,some ⟨b7,0,none⟩,some ⟨b8,0,none⟩],rfl,rfl,(Jq hw).ext,HpG.rdF (j:=0) hw V (HpG.mineL hw (j:=0) V id),?_⟩;intro i x a hx ha;have h8:i<8:=(Jm.1 hx).1;obtain rfl|rfl|rfl|rfl|rfl|rfl|rfl|rfl:i=0∨i=1∨i=2∨i=3∨i=4∨i=5∨i=6∨i=7:=by omega
 ·cases hx;cases ha;exact HpG.rdF (j:=8) hw V (HpG.mineL hw (j:=8) V id)
 ·cases hx;cases ha;exact HpG.rdF (j:=7) hw V (HpG.mineL hw (j:=7) V id)
 ·cases hx;cases ha;exact HpG.rdF (j:=6) hw V (HpG.mineL hw (j:=6) V id)
 ·cases hx;cases ha;exact HpG.rdF (j:=5) hw V (HpG.mineL hw (j:=5) V id)
 ·cases hx;cases ha;exact HpG.rdF (j:=4) hw V (HpG.mineL hw (j:=4) V id)
 ·cases hx;cases ha;exact HpG.rdF (j:=3) hw V (HpG.mineL hw (j:=3) V id)
 ·cases hx;cases ha;exact HpG.rdF (j:=2) hw V (HpG.mineL hw (j:=2) V id)
 ·cases hx;cases ha;exact HpG.rdF (j:=1) hw V (HpG.mineL hw (j:=1) V id)
theorem levC_at {av:List (Option Addr)}(hn:av.length=8) {k:Nat}{x:List Bs}(hx:levsL[k]? = some x):∃a,av[k]? = some a∧(levC av)[k]? = some (.slice a x.length x.length):=by
 have h8:k<8:=(Jm.1 hx).1;have hk:k<av.length:=by omega
 refine⟨av[k],Jt hk,?_⟩;unfold levC;rw[List.getElem?_zipWith,Jt hk,hx]
theorem rrank_any (s:Bs) (w_0:World):Calls Tryz.prog 122 #[.string ⟨s.toArray⟩] w_0 fun e w'=>e=.returned (.int .i64 (vZ s))∧Ext w_0 w':=by
 refine yV (args:=[.string ⟨s.toArray⟩]) Tryz.func122 V 21 V (Jn V)<|Z1 0 V<|zD (H':=Hp (fun _=>False) w_0 [] [] (fun _=>True)) (fun u hu=>?_) ?_
 ·subst hu;exact Hp.start0
 refine zY<|zX<|Za V V<|ZX<|zX<|sU (ι:=Nat×{av:List (Option Addr) // av.length=8}) (C:=fun _=>True) (val:=fun A=>.slice (some ⟨A.1,0,none⟩) 8 8) (TT:=fun A F u=>RdF F (some ⟨A.1,0,none⟩) (levC A.2.1) u∧LevV A.2.1 F u) .none V  (by kernel_rfl) V (fun _ h=>h.elim) (fun _=>⟨fun hk ⟨a,b⟩=>⟨RdF.lies.foot hk a,LevV.lies.foot hk b⟩,fun ⟨a,b⟩=>⟨RdF.lies.lt a,LevV.lies.lt b⟩,fun hF ⟨a,b⟩=>⟨RdF.lies.mono hF a,LevV.lies.mono hF b⟩⟩) (fun w hw=>(rlevels_any w).mono fun e w' ⟨A,av,h1,e1,e2,e3,e4⟩=>⟨(A,⟨av,h1⟩),trivial,e1,e2,e3,e4⟩) (fun A F _ hF=>?_);obtain⟨A,av,has⟩:=A;dsimp only;refine Za V V<|ZX<|zY<|Z3r 0 2 3 V V V<|Za V V<|ZT<|yY<|xV (ι:={k:Nat // k≤8∧∀(j:Nat) (x:List Bs),j<k→levsL[j]? = some x→s∉x}) (fun k=>[(0,.string ⟨s.toArray⟩),(3,.slice (some ⟨A,0,none⟩) 8 8),(4,.int .i64 k.1)]) (fun _=>Hp (fun _=>False) w_0 [] [] (fun u=>RdF F (some ⟨A,0,none⟩) (levC av) u∧LevV av F u)) (fun k=>8-k.1) ⟨0,by omega,fun _ _ h=>absurd h (by omega)⟩ ?_ ?_ (fun k=>?_)
 ·exact .cons V<|.cons V<|.cons V<|.nil
 ·exact fun w h=>Hp.weakX h fun u hu=>hu.1
 obtain⟨k,hk,hno⟩:=k;dsimp only;refine zY<|zY<|zX<|Zm V V<|Zm V V<|ZF V (yM V U178)<|ZF V (xS V V)<|ZT<|zT V (fun hc=>?_) (fun hc=>?_)
 ·replace hc:=Jo hc;have hkl:k<8:=by omega
  obtain⟨x,hx⟩:∃x,levsL[k]? = some x:=⟨levsL[k]'hkl,Jt hkl⟩;obtain⟨a,ha,hc⟩:=levC_at has hx;have hxl:x.length≤9223372036854775807:=(show ∀x∈levsL,x.length≤9223372036854775807 by decide) x (Ju hx);refine zG<|zQ<|zY<|yY<|zY<|Z4r 0 3 4 10 rfl rfl rfl rfl<|Zm rfl rfl<|Zm rfl rfl<|Zm rfl rfl<|ZF rfl (zJ (es:=1) rfl rfl U178 (by kernel_rfl) rfl (by first|decide|omega|(simp;done)|(simp;omega)) rfl) ?_;refine ZF V (yO (v:=.slice a x.length x.length) V U22 V (fun w h=>RdF.part (HpG.x h).1 (Jm.1 hc).1 (by omega) hc)) ?_;refine yT .none V  (v:=.bool (decide (s∈x))) (by kernel_rfl) V (fun w hw=>among_any x hxl _ _ _ w ((HpG.x hw).2 k x a hx ha)) ?_;refine Za V V<|ZX<|Z5r 0 3 4 5 10 V V V V V<|Zm V V<|ZT<|zT V (fun he=>?_) (fun he=>?_)
  ·have he:=Jo he;refine zY<|zX<|Zm V V<|Za V V<|ZT<|zK<|zR<|zV<|zV<|zR<|zV<|zI V V (fun w hw=>?_);exact⟨by rw[vZ,lev_at hx he],(Jq hw).ext⟩
  ·have he:=Jp he;refine zG<|zM<|zQ<|zX<|Zm V V<|ZF V (yI V V (i64_in _ (by omega) (by omega))) ?_;refine Za V V<|zU<|yC (ι:={k:Nat // k≤8∧∀(j:Nat) (x:List Bs),j<k→levsL[j]? = some x→s∉x}) ⟨k+1,hkl,fun j y hj hy=>?_⟩ (by show 8-(k+1)<8-k;omega) (O3 V V V) (fun w h=>h);rcases Nat.lt_or_ge j k with h1|h1
   ·exact hno j y h1 hy
   ·have:j=k:=by omega
    subst this;rw[hx] at hy;cases hy;exact he
 ·replace hc:=Jp hc;have hke:k=8:=by omega
  refine xY<|zN<|zN<|xZ<|zQ<|zY<|Z4r 0 3 4 10 V V V V<|Za V V<|ZT<|zK<|zI V V (fun w hw=>?_);exact⟨by rw[vZ,lev_none fun j x hj=>hno j x (by have:=(Jm.1 hj).1;have:levsL.length=8:=rfl;omega) hj],(Jq hw).ext⟩
end Go.Proofs.YtfpkpnkdnammnaaGreatDoor
namespace Go.Proofs.YtfpkpnkdnammnaaGreatDoor
open Go.RowKit
def RRE (x:Ex):Prop:=∀F A cap w,xT F w x A cap→Calls Tryz.prog 80 #[.agg (xL x A cap).toArray] w fun e w'=>e=.returned (.bool (yJ x))∧Ext w w'
theorem uI (s:Bs):decide (0≤vZ s)=(wA s).isSome:=by
 unfold vZ
 cases wA s with
 | none=>rfl
 | some k=>simp
theorem rexpr_step (k n:Nat) (s:Bs) (kids:List Ex) (IH:∀x∈kids,RRE x):RRE (.mk k n s kids):=by
 intro F A cap w_0 h;obtain⟨hle,kc,hk1,hk2⟩:=h;dsimp only[Ex.kids] at hk2 hle;rw[rightEx_eq];have hlt:=hle.lt
 have hA:0<kids.length→∃b off,A=some ⟨b,off,none⟩:=fun h0=>by
  obtain⟨b,off,e,_⟩:=hk1 (by rw[hk2.len];omega);exact⟨b,off,e⟩
 refine yV (args:=[.agg (exC k n s A kids.length cap).toArray]) Tryz.func80 V 107 V (Jn V)<|Z1 0 V<|zD (H':=Hp (fun _=>False) w_0 [] [] (fun u=>RdF F A kc u∧ExsV F u kids kc)) (fun u hu=>?_) ?_
 ·subst hu;exact Hp.startT (T:=fun F u=>RdF F A kc u∧ExsV F u kids kc) ⟨fun hk ⟨a,b⟩=>⟨RdF.lies.foot hk a,ExsV.lies.foot hk b⟩,fun ⟨a,b⟩=>⟨RdF.lies.lt a,ExsV.lies.lt b⟩,fun hF ⟨a,b⟩=>⟨RdF.lies.mono hF a,ExsV.lies.mono hF b⟩⟩ ⟨hk1,hk2⟩
 refine zY<|zX<|zC .none V (vY V V) (fun b1=>?_);refine Za V V<|ZX<|zX<|ZF V (Y57x2 V) ?_;refine ZF V (zW 0 V V V U9 V)<|yT .none V  (v:=.bool (yG s)) (by kernel_rfl) V (fun w hw=>pQ s w) ?_;refine Za V V<|ZX<|Z4r 0 1 2 3 V V V V<|ZF V (Y57x3 V) ?_;refine ZF V (zW 0 V V V U55 V)<|ZF V (yM V U55)<|Za V V<|ZX<|Z5r 0 1 2 3 4 V V V V V<|Za V V<|ZT<|xA (ι:={b:Bool // b=xK k s kids.length}) (fun b=>[(1,.pointer (some ⟨b1,0,none⟩)),(4,.int .i64 kids.length),(5,.bool b.1)]) (fun _=>Hp (fun _=>False) w_0 [(b1,bk 57 (exC k n s A kids.length cap))] [] (fun u=>RdF F A kc u∧ExsV F u kids kc)) ?_ (fun b=>?_)
 ·refine zY<|zX<|ZF V (Y57x0 V) ?_;refine ZF V (zW 0 V V V U3 V)<|ZT<|yY<|zY<|Z7r 0 1 2 3 4 5 15 V V V V V V V<|ZF V (yS V V)<|Za V V<|ZT<|zT V (fun h16=>?_) (fun h16=>?_)
  ·replace h16:=Jw h16;refine Z8r 0 1 2 3 4 5 15 16 V V V V V V V V<|ZF V (Y57x2 V) ?_;refine ZF V (zW 0 V V V U9 V)<|ZF V (xU V V U9)<|Zm V V<|zH 21 V (fun hg=>?_) (fun hg=>?_)
   ·refine ZG V V V (zO V)<|ZG V V V (yS V V)<|ZF V (zP V V)<|Za V V<|zU<|zM ?_
    refine zA (ι:={b:Bool // b=xK k s kids.length}) ⟨xK k s kids.length,rfl⟩ (.cons V<|.cons V<|.cons (by
     show some (Value.bool _)=some (Value.bool _);congr 2
     first
      | (rw[wW (by omega),Jl];simp_all<;>omega)
      | (rw[wZ (by omega),Jl];simp_all<;>omega)
      | (rw[wX (by omega)];done)
      | (rw[xB (by omega),Jl];simp_all<;>omega)
      | (rw[xC (by omega),Jl];simp_all [tU]<;>omega)
      | (rw[xD (by omega),Jl];simp_all [← uI]<;>omega)
      | (rw[wV (by omega)];done))<|.nil) (fun w h=>Hp.drop h (by first|exact Jr _|exact Js _ _) (Jr _))
   ·refine ZP V<|ZP V<|ZF V (zL V V)<|Za V V<|zU<|zM ?_
    refine zA (ι:={b:Bool // b=xK k s kids.length}) ⟨xK k s kids.length,rfl⟩ (.cons V<|.cons V<|.cons (by
     show some (Value.bool _)=some (Value.bool _);congr 2
     first
      | (rw[wW (by omega),Jl];simp_all<;>omega)
      | (rw[wZ (by omega),Jl];simp_all<;>omega)
      | (rw[wX (by omega)];done)
      | (rw[xB (by omega),Jl];simp_all<;>omega)
      | (rw[xC (by omega),Jl];simp_all [tU]<;>omega)
      | (rw[xD (by omega),Jl];simp_all [← uI]<;>omega)
      | (rw[wV (by omega)];done))<|.nil) (fun w h=>Hp.drop h (by first|exact Jr _|exact Js _ _) (Jr _))
  ·replace h16:=yP h16;refine zY<|Z8r 0 1 2 3 4 5 15 16 V V V V V V V V<|ZF V (yS V V)<|Za V V<|ZT<|zT V (fun h25=>?_) (fun h25=>?_)
   ·replace h25:=Jw h25;refine Z9r 0 1 2 3 4 5 15 16 25 V V V V V V V V V<|Zm V V<|Zm V V<|zH 28 V (fun hg=>?_) (fun hg=>?_)
    ·refine ZG V V V (zO V)<|ZG V V V (yS V V)<|ZF V (zP V V)<|Za V V<|zU<|zM ?_
     refine zA (ι:={b:Bool // b=xK k s kids.length}) ⟨xK k s kids.length,rfl⟩ (.cons V<|.cons V<|.cons (by
      show some (Value.bool _)=some (Value.bool _);congr 2
      first
       | (rw[wW (by omega),Jl];simp_all<;>omega)
       | (rw[wZ (by omega),Jl];simp_all<;>omega)
       | (rw[wX (by omega)];done)
       | (rw[xB (by omega),Jl];simp_all<;>omega)
       | (rw[xC (by omega),Jl];simp_all [tU]<;>omega)
       | (rw[xD (by omega),Jl];simp_all [← uI]<;>omega)
       | (rw[wV (by omega)];done))<|.nil) (fun w h=>Hp.drop h (by first|exact Jr _|exact Js _ _) (Jr _))
    ·refine ZP V<|ZP V<|ZF V (zL V V)<|Za V V<|zU<|zM ?_
     refine zA (ι:={b:Bool // b=xK k s kids.length}) ⟨xK k s kids.length,rfl⟩ (.cons V<|.cons V<|.cons (by
      show some (Value.bool _)=some (Value.bool _);congr 2
      first
       | (rw[wW (by omega),Jl];simp_all<;>omega)
       | (rw[wZ (by omega),Jl];simp_all<;>omega)
       | (rw[wX (by omega)];done)
       | (rw[xB (by omega),Jl];simp_all<;>omega)
       | (rw[xC (by omega),Jl];simp_all [tU]<;>omega)
       | (rw[xD (by omega),Jl];simp_all [← uI]<;>omega)
       | (rw[wV (by omega)];done))<|.nil) (fun w h=>Hp.drop h (by first|exact Jr _|exact Js _ _) (Jr _))
   ·replace h25:=yP h25;refine zY<|Z9r 0 1 2 3 4 5 15 16 25 V V V V V V V V V<|ZF V (yS V V)<|Za V V<|ZT<|zT V (fun h32=>?_) (fun h32=>?_)
    ·replace h32:=Jw h32;refine Z10r 0 1 2 3 4 5 15 16 25 32 V V V V V V V V V V<|Zm V V<|Za V V<|zU<|zM ?_
     refine zA (ι:={b:Bool // b=xK k s kids.length}) ⟨xK k s kids.length,rfl⟩ (.cons V<|.cons V<|.cons (by
      show some (Value.bool _)=some (Value.bool _);congr 2
      first
       | (rw[wW (by omega),Jl];simp_all<;>omega)
       | (rw[wZ (by omega),Jl];simp_all<;>omega)
       | (rw[wX (by omega)];done)
       | (rw[xB (by omega),Jl];simp_all<;>omega)
       | (rw[xC (by omega),Jl];simp_all [tU]<;>omega)
       | (rw[xD (by omega),Jl];simp_all [← uI]<;>omega)
       | (rw[wV (by omega)];done))<|.nil) (fun w h=>Hp.drop h (by first|exact Jr _|exact Js _ _) (Jr _))
    ·replace h32:=yP h32;refine zY<|Z10r 0 1 2 3 4 5 15 16 25 32 V V V V V V V V V V<|ZF V (yS V V)<|Za V V<|ZT<|zT V (fun h35=>?_) (fun h35=>?_)
     ·replace h35:=Jw h35;refine Z11r 0 1 2 3 4 5 15 16 25 32 35 V V V V V V V V V V V<|ZF V (Y57x2 V) ?_;refine ZF V (zW 0 V V V U9 V)<|ZF V (xU V V U9)<|Zm V V<|zH 40 V (fun hg=>?_) (fun hg=>?_)
      ·refine ZG V V V (zO V)<|ZG V V V (yS V V)<|ZF V (zP V V)<|Za V V<|zU<|zM ?_
       refine zA (ι:={b:Bool // b=xK k s kids.length}) ⟨xK k s kids.length,rfl⟩ (.cons V<|.cons V<|.cons (by
        show some (Value.bool _)=some (Value.bool _);congr 2
        first
         | (rw[wW (by omega),Jl];simp_all<;>omega)
         | (rw[wZ (by omega),Jl];simp_all<;>omega)
         | (rw[wX (by omega)];done)
         | (rw[xB (by omega),Jl];simp_all<;>omega)
         | (rw[xC (by omega),Jl];simp_all [tU]<;>omega)
         | (rw[xD (by omega),Jl];simp_all [← uI]<;>omega)
         | (rw[wV (by omega)];done))<|.nil) (fun w h=>Hp.drop h (by first|exact Jr _|exact Js _ _) (Jr _))
      ·refine ZP V<|ZP V<|ZF V (zL V V)<|Za V V<|zU<|zM ?_
       refine zA (ι:={b:Bool // b=xK k s kids.length}) ⟨xK k s kids.length,rfl⟩ (.cons V<|.cons V<|.cons (by
        show some (Value.bool _)=some (Value.bool _);congr 2
        first
         | (rw[wW (by omega),Jl];simp_all<;>omega)
         | (rw[wZ (by omega),Jl];simp_all<;>omega)
         | (rw[wX (by omega)];done)
         | (rw[xB (by omega),Jl];simp_all<;>omega)
         | (rw[xC (by omega),Jl];simp_all [tU]<;>omega)
         | (rw[xD (by omega),Jl];simp_all [← uI]<;>omega)
         | (rw[wV (by omega)];done))<|.nil) (fun w h=>Hp.drop h (by first|exact Jr _|exact Js _ _) (Jr _))
     ·replace h35:=yP h35;refine zY<|Z11r 0 1 2 3 4 5 15 16 25 32 35 V V V V V V V V V V V<|ZF V (yS V V)<|Za V V<|ZT<|zT V (fun h44=>?_) (fun h44=>?_)
      ·replace h44:=Jw h44;refine Z12r 0 1 2 3 4 5 15 16 25 32 35 44 V V V V V V V V V V V V<|ZF V (Y57x2 V) ?_;refine ZF V (zW 0 V V V U9 V)<|ZF V (xU V V U9)<|Zm V V<|zH 49 V (fun hg=>?_) (fun hg=>?_)
       ·refine ZG V V V (zO V)<|ZG V V V (yS V V)<|ZF V (zP V V)<|Za V V<|zU<|zM ?_
        refine zA (ι:={b:Bool // b=xK k s kids.length}) ⟨xK k s kids.length,rfl⟩ (.cons V<|.cons V<|.cons (by
         show some (Value.bool _)=some (Value.bool _);congr 2
         first
          | (rw[wW (by omega),Jl];simp_all<;>omega)
          | (rw[wZ (by omega),Jl];simp_all<;>omega)
          | (rw[wX (by omega)];done)
          | (rw[xB (by omega),Jl];simp_all<;>omega)
          | (rw[xC (by omega),Jl];simp_all [tU]<;>omega)
          | (rw[xD (by omega),Jl];simp_all [← uI]<;>omega)
          | (rw[wV (by omega)];done))<|.nil) (fun w h=>Hp.drop h (by first|exact Jr _|exact Js _ _) (Jr _))
       ·refine ZP V<|ZP V<|ZF V (zL V V)<|Za V V<|zU<|zM ?_
        refine zA (ι:={b:Bool // b=xK k s kids.length}) ⟨xK k s kids.length,rfl⟩ (.cons V<|.cons V<|.cons (by
         show some (Value.bool _)=some (Value.bool _);congr 2
         first
          | (rw[wW (by omega),Jl];simp_all<;>omega)
          | (rw[wZ (by omega),Jl];simp_all<;>omega)
          | (rw[wX (by omega)];done)
          | (rw[xB (by omega),Jl];simp_all<;>omega)
          | (rw[xC (by omega),Jl];simp_all [tU]<;>omega)
          | (rw[xD (by omega),Jl];simp_all [← uI]<;>omega)
          | (rw[wV (by omega)];done))<|.nil) (fun w h=>Hp.drop h (by first|exact Jr _|exact Js _ _) (Jr _))
      ·replace h44:=yP h44;refine zY<|Z12r 0 1 2 3 4 5 15 16 25 32 35 44 V V V V V V V V V V V V<|ZF V (yS V V)<|Za V V<|ZT<|zT V (fun h53=>?_) (fun h53=>?_)
       ·replace h53:=Jw h53;refine Z13r 0 1 2 3 4 5 15 16 25 32 35 44 53 V V V V V V V V V V V V V<|ZF V (Y57x2 V) ?_;refine ZF V (zW 0 V V V U9 V)<|ZF V (xU V V U9)<|Zm V V<|zH 58 V (fun hg4=>?_) (fun hg4=>?_)
        ·refine ZP V<|ZP V<|ZP V<|ZF V (zP V V)<|Zm V V<|ZP V<|ZP V<|ZP V<|ZF V (zP V V)<|Zm V V<|ZG V V V (zO V)<|ZG V V V (yS V V)<|ZF V (zP V V)<|Za V V<|zU<|zM ?_
         refine zA (ι:={b:Bool // b=xK k s kids.length}) ⟨xK k s kids.length,rfl⟩ (.cons V<|.cons V<|.cons (by
          show some (Value.bool _)=some (Value.bool _);congr 2
          first
           | (rw[wW (by omega),Jl];simp_all<;>omega)
           | (rw[wZ (by omega),Jl];simp_all<;>omega)
           | (rw[wX (by omega)];done)
           | (rw[xB (by omega),Jl];simp_all<;>omega)
           | (rw[xC (by omega),Jl];simp_all [tU]<;>omega)
           | (rw[xD (by omega),Jl];simp_all [← uI]<;>omega)
           | (rw[wV (by omega)];done))<|.nil) (fun w h=>Hp.drop h (by first|exact Jr _|exact Js _ _) (Jr _))
        ·refine ZG V V V (Y57x2 V) ?_;refine ZG V V V (zW 0 V V V U9 V)<|ZG V V V (xU V V U9)<|ZF V (zL V V)<|Zm V V<|zH 63 V (fun hg9=>?_) (fun hg9=>?_)
         ·refine ZP V<|ZP V<|ZP V<|ZF V (zP V V)<|Zm V V<|ZG V V V (zO V)<|ZG V V V (yS V V)<|ZF V (zP V V)<|Za V V<|zU<|zM ?_
          refine zA (ι:={b:Bool // b=xK k s kids.length}) ⟨xK k s kids.length,rfl⟩ (.cons V<|.cons V<|.cons (by
           show some (Value.bool _)=some (Value.bool _);congr 2
           first
            | (rw[wW (by omega),Jl];simp_all<;>omega)
            | (rw[wZ (by omega),Jl];simp_all<;>omega)
            | (rw[wX (by omega)];done)
            | (rw[xB (by omega),Jl];simp_all<;>omega)
            | (rw[xC (by omega),Jl];simp_all [tU]<;>omega)
            | (rw[xD (by omega),Jl];simp_all [← uI]<;>omega)
            | (rw[wV (by omega)];done))<|.nil) (fun w h=>Hp.drop h (by first|exact Jr _|exact Js _ _) (Jr _))
         ·refine ZG V V V (Y57x2 V) ?_;refine ZG V V V (zW 0 V V V U9 V)<|ZG V V V (xU V V U9)<|ZF V (zL V V)<|Zm V V<|zH 68 V (fun hg=>?_) (fun hg=>?_)
          ·refine ZG V V V (zO V)<|ZG V V V (yS V V)<|ZF V (zP V V)<|Za V V<|zU<|zM ?_
           refine zA (ι:={b:Bool // b=xK k s kids.length}) ⟨xK k s kids.length,rfl⟩ (.cons V<|.cons V<|.cons (by
            show some (Value.bool _)=some (Value.bool _);congr 2
            first
             | (rw[wW (by omega),Jl];simp_all<;>omega)
             | (rw[wZ (by omega),Jl];simp_all<;>omega)
             | (rw[wX (by omega)];done)
             | (rw[xB (by omega),Jl];simp_all<;>omega)
             | (rw[xC (by omega),Jl];simp_all [tU]<;>omega)
             | (rw[xD (by omega),Jl];simp_all [← uI]<;>omega)
             | (rw[wV (by omega)];done))<|.nil) (fun w h=>Hp.drop h (by first|exact Jr _|exact Js _ _) (Jr _))
          ·refine ZP V<|ZP V<|ZF V (zL V V)<|Za V V<|zU<|zM ?_
           refine zA (ι:={b:Bool // b=xK k s kids.length}) ⟨xK k s kids.length,rfl⟩ (.cons V<|.cons V<|.cons (by
            show some (Value.bool _)=some (Value.bool _);congr 2
            first
             | (rw[wW (by omega),Jl];simp_all<;>omega)
             | (rw[wZ (by omega),Jl];simp_all<;>omega)
             | (rw[wX (by omega)];done)
             | (rw[xB (by omega),Jl];simp_all<;>omega)
             | (rw[xC (by omega),Jl];simp_all [tU]<;>omega)
             | (rw[xD (by omega),Jl];simp_all [← uI]<;>omega)
             | (rw[wV (by omega)];done))<|.nil) (fun w h=>Hp.drop h (by first|exact Jr _|exact Js _ _) (Jr _))
       ·replace h53:=yP h53;refine zY<|Z13r 0 1 2 3 4 5 15 16 25 32 35 44 53 V V V V V V V V V V V V V<|ZF V (yS V V)<|Za V V<|ZT<|zT V (fun h72=>?_) (fun h72=>?_)
        ·replace h72:=Jw h72;refine Z14r 0 1 2 3 4 5 15 16 25 32 35 44 53 72 V V V V V V V V V V V V V V<|ZF V (Y57x2 V) ?_;refine ZF V (zW 0 V V V U9 V)<|yT .none V  (v:=.int .i64 (vZ s)) (by kernel_rfl) V (fun w hw=>rrank_any s w) ?_;refine ZF V (tO V V)<|Zm V V<|zH 78 V (fun hg=>?_) (fun hg=>?_)
         ·replace hg:=Jo hg;refine ZG V V V (zO V)<|ZG V V V (yS V V)<|ZF V (zP V V)<|Za V V<|zU<|zM ?_
          refine zA (ι:={b:Bool // b=xK k s kids.length}) ⟨xK k s kids.length,rfl⟩ (.cons V<|.cons V<|.cons (by
           show some (Value.bool _)=some (Value.bool _);congr 2
           first
            | (rw[wW (by omega),Jl];simp_all<;>omega)
            | (rw[wZ (by omega),Jl];simp_all<;>omega)
            | (rw[wX (by omega)];done)
            | (rw[xB (by omega),Jl];simp_all<;>omega)
            | (rw[xC (by omega),Jl];simp_all [tU]<;>omega)
            | (rw[xD (by omega),Jl];simp_all [← uI]<;>omega)
            | (rw[wV (by omega)];done))<|.nil) (fun w h=>Hp.drop h (by first|exact Jr _|exact Js _ _) (Jr _))
         ·replace hg:=Jp hg;refine ZP V<|ZP V<|ZF V (zL V V)<|Za V V<|zU<|zM ?_
          refine zA (ι:={b:Bool // b=xK k s kids.length}) ⟨xK k s kids.length,rfl⟩ (.cons V<|.cons V<|.cons (by
           show some (Value.bool _)=some (Value.bool _);congr 2
           first
            | (rw[wW (by omega),Jl];simp_all<;>omega)
            | (rw[wZ (by omega),Jl];simp_all<;>omega)
            | (rw[wX (by omega)];done)
            | (rw[xB (by omega),Jl];simp_all<;>omega)
            | (rw[xC (by omega),Jl];simp_all [tU]<;>omega)
            | (rw[xD (by omega),Jl];simp_all [← uI]<;>omega)
            | (rw[wV (by omega)];done))<|.nil) (fun w h=>Hp.drop h (by first|exact Jr _|exact Js _ _) (Jr _))
        ·replace h72:=yP h72;refine zG<|zM ?_
         refine zA (ι:={b:Bool // b=xK k s kids.length}) ⟨xK k s kids.length,rfl⟩ (.cons V<|.cons V<|.cons (by
          show some (Value.bool _)=some (Value.bool _);congr 2
          first
           | (rw[wW (by omega),Jl];simp_all<;>omega)
           | (rw[wZ (by omega),Jl];simp_all<;>omega)
           | (rw[wX (by omega)];done)
           | (rw[xB (by omega),Jl];simp_all<;>omega)
           | (rw[xC (by omega),Jl];simp_all [tU]<;>omega)
           | (rw[xD (by omega),Jl];simp_all [← uI]<;>omega)
           | (rw[wV (by omega)];done))<|.nil) (fun w h=>Hp.drop h (by first|exact Jr _|exact Js _ _) (Jr _))
 ·obtain⟨ok,hok⟩:=b;dsimp only;refine xA (ι:={u:Unit // ok=true∧(decide (k=1)||decide (n=0))=true}) (fun _=>[(1,.pointer (some ⟨b1,0,none⟩)),(4,.int .i64 kids.length)]) (fun _=>Hp (fun _=>False) w_0 [(b1,bk 57 (exC k n s A kids.length cap))] [] (fun u=>RdF F A kc u∧ExsV F u kids kc)) ?_ (fun u=>?_)
  ·refine zY<|zX<|Zm V V<|ZF V (xJ V)<|Zm V V<|zH 84 V (fun g2=>?_) (fun g2=>?_)
   ·refine ZP V<|ZP V<|ZP V<|ZP V<|yZ V V V<|yZ V V V<|yZ V V V<|ZP V<|ZF V (zP V V)<|ZT<|uT V<|zY<|Z4r 1 4 5 93 V V V V<|Za V V<|ZT<|zK<|zV<|zI V V (fun w hw=>?_);exact⟨by rw[← hok,show ok=false by simpa using g2];rfl,(Jq hw).ext⟩
   ·refine ZG V V V (Y57x0 V) ?_;refine ZG V V V (zW 0 V V V U3 V)<|ZG V V V (sW V V)<|ZG V V V (zO V)<|zH 88 V (fun g6=>?_) (fun g6=>?_)
    ·replace g6:=tQ g6;refine ZG V V V (Y57x1 V) ?_;refine ZG V V V (zW 0 V V V U50 V)<|ZG V V V (sW V V)<|ZG V V V (zP V V)<|ZF V (zL V V)<|ZT<|zT V (fun h93=>?_) (fun h93=>?_)
     ·replace h93:=tQ h93;refine zY<|Z4r 1 4 5 93 V V V V<|Za V V<|ZT<|zK<|zV<|zI V V (fun w hw=>?_);exact⟨by rw[Kw (show k≠1 by omega),Kw (show n≠0 by omega),Bool.or_false,Bool.and_false,Bool.false_and],(Jq hw).ext⟩
     ·replace h93:=rO h93;refine zG<|zA (ι:={u:Unit // ok=true∧(decide (k=1)||decide (n=0))=true}) ⟨(),by simpa using g2,by first|(rw[Kv (show n=0 by omega),Bool.or_true])|(rw[Kv (show k=1 by omega),Bool.true_or])⟩ (O2 rfl rfl) (fun w h=>h)
    ·replace g6:=rO g6;refine ZP rfl<|ZP rfl<|ZP rfl<|ZG rfl rfl rfl (zL rfl rfl)<|ZF rfl (zL rfl rfl)<|ZT<|vU rfl<|zG<|zA (ι:={u:Unit // ok=true∧(decide (k=1)||decide (n=0))=true}) ⟨(),by simpa using g2,by first|(rw[Kv (show n=0 by omega),Bool.or_true])|(rw[Kv (show k=1 by omega),Bool.true_or])⟩ (O2 rfl rfl) (fun w h=>h)
  ·obtain⟨_,hgo,hgn⟩:=u;subst hgo;refine zY<|zY<|zX<|Za V V<|ZT<|yY<|xV (ι:={j:Nat // j≤kids.length∧(kids.take j).all yJ=true}) (fun j=>[(1,.pointer (some ⟨b1,0,none⟩)),(4,.int .i64 kids.length),(6,.int .i64 j.1)]) (fun _=>Hp (fun _=>False) w_0 [(b1,bk 57 (exC k n s A kids.length cap))] [] (fun u=>RdF F A kc u∧ExsV F u kids kc)) (fun j=>kids.length-j.1) ⟨0,Kl _,rfl⟩ ?_ ?_ (fun j=>?_)
   ·exact .cons V<|.cons V<|.cons V<|.nil
   ·exact fun w h=>h
   obtain⟨j,hj,hall⟩:=j;dsimp only;refine zY<|zY<|zX<|Zm V V<|Zm V V<|ZF V (xS V V)<|ZT<|zT V (fun hc=>?_) (fun hc=>?_)
   ·replace hc:=Jo hc;obtain⟨b,off,rfl⟩:=hA (by omega);have hjl:j<kids.length:=by omega
    obtain⟨x,hx⟩:∃x,kids[j]? = some x:=⟨kids[j],Jt hjl⟩;obtain⟨Ax,cx,hfix⟩:=hk2.fix hx;refine zG<|zQ<|zY<|yY<|zY<|Z4r 1 4 6 96 V V V V<|ZF V (Y57x3 V) ?_;refine ZF rfl (zW 0 rfl rfl rfl U55 rfl)<|Zm rfl rfl<|ZF rfl (zJ (es:=4) rfl rfl U55 (by kernel_rfl) rfl (by first|decide|omega|(simp;done)|(simp;omega)) rfl) ?_
    refine ZF V (yD (cs:=xL x Ax cx) V U57 V (by kernel_rfl) (fun w h i v hv=>by
    have h2:=(hfix F w (HpG.x h).2).2 i v hv
    exact RdF.part (HpG.x h).1 (Jm.1 h2).1 (by omega) h2)) ?_
    refine yT .none V  (v:=.bool (yJ x)) (by kernel_rfl) V (fun w hw=>IH x (Ju hx) F Ax cx w (hfix F w (HpG.x hw).2).1) ?_;refine Za V V<|ZX<|Z5r 1 4 6 7 96 V V V V V<|Zm V V<|ZF V (xJ V)<|ZT<|zT V (fun h106=>?_) (fun h106=>?_)
    ·refine zY<|Z6r 1 4 6 7 96 106 V V V V V V<|Za V V<|ZT<|zK<|zR<|zV<|zV<|zR<|zV<|zI V V (fun w hw=>?_);exact⟨by rw[wK,all_no hx (by simpa using h106),Bool.and_false],(Jq hw).ext⟩
    ·refine zG<|zM<|zQ<|Z6r 1 4 6 7 96 106 V V V V V V<|Zm V V<|ZF V (yI V V (i64_in _ (by omega) (by omega))) ?_;refine Za V V<|zU<|yC (ι:={j:Nat // j≤kids.length∧(kids.take j).all yJ=true}) ⟨j+1,hjl,pY hall hx (by simpa using h106)⟩ (by show kids.length-(j+1)<kids.length-j;omega) (O3 V V V) (fun w h=>h)
   ·replace hc:=Jp hc;have hje:j=kids.length:=by omega
    refine xY<|zN<|zN<|xZ<|zQ<|zY<|Z4r 1 4 6 96 V V V V<|Za V V<|ZT<|zK<|zI V V (fun w hw=>?_)
    exact⟨by
     rw[hje,Kh] at hall
     rw[← hok,hgn,wK,hall];rfl,(Jq hw).ext⟩
theorem rexpr_all:∀(N:Nat) (x:Ex),SizeOf.sizeOf x<N→RRE x
 | 0,_,h=>absurd h (by omega)
 | N+1,.mk k n s kids,h=>rexpr_step k n s kids fun x hx=>rexpr_all N x (by have:=tM (k:=k) (n:=n) (s:=s) hx;omega)
theorem rexpr_any (x:Ex):RRE x:=rexpr_all _ x (Nat.lt_succ_self _)
end Go.Proofs.YtfpkpnkdnammnaaGreatDoor
namespace Go.Proofs.YtfpkpnkdnammnaaGreatDoor
open Go.RowKit
def mny (k:Nat):Nat:=if k=3 then 2 else 1
def nmOk (nd:Bool) (s:Bs):Bool:=if nd=true then yG s else decide (s=[])
theorem rightSt_eq' (x:St):xH x=(pA x.kind x.name x.exprs.length x.body.length x.els.length&&rightExs x.exprs&&rightSts x.body&&rightSts x.els):=by
 cases x;simp only[xH,St.kind,St.name,St.exprs,St.body,St.els]
theorem okSt_eq2 (k:Nat) (s:Bs) (es b c:Nat):pA k s es b c=(decide (1≤k)&&decide (k≤8)&&decide (es=mny k)&&nmOk (decide (k=1∨k=2)) s&&(decide (k=4∨k=5)||decide (b=0))&&(decide (k=4)||decide (c=0))):=by
 unfold pA mny nmOk;simp only[Kn]
theorem rV {l:List St}{i:Nat}{x:St}(hx:l[i]? = some x) (h:pA x.kind x.name x.exprs.length x.body.length x.els.length=false∨rightExs x.exprs=false∨rightSts x.body=false∨rightSts x.els=false):rightSts l=false:=by
 rw[uQ];refine all_no hx ?_;rw[rightSt_eq'];rcases h with h|h|h|h<;>rw[h]<;>simp
theorem qF {k:Nat}{s:Bs}{es b c:Nat}(h:(decide (es=mny k)&&nmOk (decide (k=1∨k=2)) s)=false):pA k s es b c=false:=by
 rw[okSt_eq2,Bool.and_assoc (decide (1≤k)&&decide (k≤8)),h];simp only[Bool.and_false,Bool.false_and]
theorem okSt_bad2 {k:Nat}{s:Bs}{es b c:Nat}(h:((decide (k=4∨k=5)||decide (b=0))&&(decide (k=4)||decide (c=0)))=false):pA k s es b c=false:=by
 rw[okSt_eq2,Bool.and_assoc,h,Bool.and_false]
def RRS (l:List St):Prop:=∀F A cap w,wQ F w l A cap→Calls Tryz.prog 47 #[.slice A l.length cap] w fun e w'=>e=.returned (.bool (rightSts l))∧Ext w w'
theorem rstmts_step (a:List St) (IH:∀x∈a,RRS x.body∧RRS x.els):RRS a:=by
 intro F A c w_0 h;obtain⟨pa,ca,ra,va⟩:=h;have hla:=pa.lt
 have hA:0<a.length→∃b off,A=some ⟨b,off,none⟩:=fun h0=>by
  obtain⟨b,off,e,_⟩:=ra (by rw[va.len];omega);exact⟨b,off,e⟩
 refine yV (args:=[.slice A a.length c]) Tryz.func47 V 110 V (Jn V)<|Z1 0 V<|zD (H':=Hp (fun _=>False) w_0 [] [] (wN F w_0)) (fun u hu=>?_) ?_
 ·subst hu;exact Hp.startSame
 refine zY<|zX<|Za V V<|ZX<|zY<|zX<|Za V V<|ZT<|yY<|xV (ι:={i:Nat // i≤a.length∧(a.take i).all xH=true}) (fun i=>[(0,.slice A a.length c),(3,.int .i64 i.1)]) (fun _=>Hp (fun _=>False) w_0 [] [] (wN F w_0)) (fun i=>a.length-i.1) ⟨0,Kl _,rfl⟩ ?_ ?_ (fun i=>?_)
 ·exact .cons V<|.cons V<|.nil
 ·exact fun w h=>h
 obtain⟨i,hi,hall⟩:=i;dsimp only;refine zY<|zY<|zX<|Zm V V<|Zm V V<|ZF V (yM V U58)<|ZF V (xS V V)<|ZT<|zT V (fun hc=>?_) (fun hc=>?_)
 ·replace hc:=Jo hc;have hil:i<a.length:=by omega
  obtain⟨g1,o1,rfl⟩:=hA (by omega);obtain⟨x,hx⟩:∃x,a[i]? = some x:=⟨a[i],Jt hil⟩;obtain⟨a1,hfix1⟩:=va.fix hx;have hk1:=(hfix1 F w_0 va).1;have hc1:=(hfix1 F w_0 va).2;have hkb:wQ F w_0 x.body a1.A2 a1.c2:=⟨hk1.p2,hk1.h2⟩;have hkc:wQ F w_0 x.els a1.A3 a1.c3:=⟨hk1.p3,hk1.h3⟩;have hI:=IH x (Ju hx);obtain⟨ce,re,ve⟩:=hk1.h1;have hle:=hk1.p1.lt;have hlb:=hk1.p2.lt;have hlc:=hk1.p3.lt
  have hE:0<x.exprs.length→∃b off,a1.A1=some ⟨b,off,none⟩:=fun h0=>by
   obtain⟨b,off,e,_⟩:=re (by rw[ve.len];omega);exact⟨b,off,e⟩
  generalize hA1:a1.A1=P1 at re hE;refine zG<|zQ<|zY<|yY<|zY<|Z3r 0 3 15 rfl rfl rfl<|Zm rfl rfl<|Zm rfl rfl<|ZF rfl (zJ (es:=5) rfl rfl U58 (by kernel_rfl) rfl (by first|decide|omega|(simp;done)|(simp;omega)) rfl) ?_
  refine ZF V (yD (cs:=stC x.kind x.name P1 x.exprs.length a1.c1 a1.A2 x.body.length a1.c2 a1.A3 x.els.length a1.c3) V U60 V (by kernel_rfl) (fun w h j v hv=>by
   rw[← hA1] at hv
   exact RdF.part ((HpG.x h).get RdF.lies ra) (Jm.1 (hc1 j v hv)).1 (by omega) (hc1 j v hv))) ?_
  refine zC .none V (yK (z:=.agg #[.int .i64 0,.string ⟨#[]⟩,.slice none 0 0,.slice none 0 0,.slice none 0 0]) (cs:=Jf) (by kernel_rfl) V) (fun b4=>?_);refine ZR 0 V V V V V (by kernel_rfl) ?_;refine ZX<|zY<|Z4r 0 3 4 15 V V V V<|ZF V (Y60x0 V) ?_;refine ZF V (zW 0 V V V U3 V)<|ZF V (xS V V)<|Zm V V<|zH 25 V (fun g5=>?_) (fun g5=>?_)
  ·replace g5:=Jo g5;refine ZP V<|ZP V<|ZP V<|ZF V (zP V V)<|ZT<|uT V<|zY<|Z5r 0 3 4 15 29 V V V V V<|Za V V<|ZT<|zK<|zV<|zR<|zV<|zV<|zR<|zV<|zI V V (fun w hw=>?_);exact⟨by rw[rV hx (.inl (by rw[okSt_eq2,Kw (show ¬1≤x.kind by omega)];simp only[Bool.false_and]))],(Jq hw).ext⟩
  ·replace g5:=Jp g5;refine ZG V V V (Y60x0 V) ?_;refine ZG V V V (zW 0 V V V U3 V)<|ZG V V V (wO V V)<|ZF V (zL V V)<|ZT<|zT V (fun h29=>?_) (fun h29=>?_)
   ·replace h29:=Jo h29;refine zY<|Z5r 0 3 4 15 29 V V V V V<|Za V V<|ZT<|zK<|zV<|zR<|zV<|zV<|zR<|zV<|zI V V (fun w hw=>?_);exact⟨by rw[rV hx (.inl (by rw[okSt_eq2,Kw (show ¬x.kind≤8 by omega)];simp only[Bool.and_false,Bool.false_and]))],(Jq hw).ext⟩
   ·replace h29:=Jp h29;refine zG<|zQ ?_;have hk18:1≤x.kind∧x.kind≤8:=⟨by omega,by omega⟩;clear g5 h29;refine xA (ι:={b:Bool // b=decide (x.kind=1∨x.kind=2)}) (fun b=>[(0,.slice (some ⟨g1,o1,none⟩) a.length c),(3,.int .i64 i),(4,.pointer (some ⟨b4,0,none⟩)),(5,.bool b.1)]) (fun _=>Hp (fun _=>False) w_0 [(b4,bk 60 (stC x.kind x.name P1 x.exprs.length a1.c1 a1.A2 x.body.length a1.c2 a1.A3 x.els.length a1.c3))] [] (wN F w_0)) ?_ (fun b=>?_)
    ·refine Z5r 0 3 4 15 29 V V V V V<|ZF V (Y60x0 V) ?_;refine ZF V (zW 0 V V V U3 V)<|ZF V (yS V V)<|Zm V V<|zH 33 V (fun g7=>?_) (fun g7=>?_)
     ·replace g7:=Jw g7;refine ZP V<|ZP V<|ZP V<|ZF V (zP V V)<|Za V V<|zU ?_
      refine zA (ι:={b:Bool // b=decide (x.kind=1∨x.kind=2)}) ⟨decide (x.kind=1∨x.kind=2),rfl⟩ (.cons V<|.cons V<|.cons V<|.cons (by
       show some (Value.bool _)=some (Value.bool _);congr 2;rw[Jl]
       simp<;>omega)<|.nil) (fun w h=>h)
     ·replace g7:=yP g7;refine ZG V V V (Y60x0 V) ?_;refine ZG V V V (zW 0 V V V U3 V)<|ZG V V V (yS V V)<|ZF V (zL V V)<|Za V V<|zU ?_
      refine zA (ι:={b:Bool // b=decide (x.kind=1∨x.kind=2)}) ⟨decide (x.kind=1∨x.kind=2),rfl⟩ (.cons V<|.cons V<|.cons V<|.cons (by
       show some (Value.bool _)=some (Value.bool _);congr 2;rw[Jl]
       simp<;>omega)<|.nil) (fun w h=>h)
    ·obtain⟨nd,hnd⟩:=b;dsimp only;refine zY<|zX<|ZF V (Y60x1 V) ?_;refine ZF V (zW 0 V V V U9 V)<|yT .none V  (v:=.bool (yG x.name)) (by kernel_rfl) V (fun w hw=>pQ x.name w) ?_;refine Za V V<|ZX<|Z5r 0 3 4 5 6 V V V V V<|Za V V<|ZT<|xA (ι:=Unit) (fun _=>[(0,.slice (some ⟨g1,o1,none⟩) a.length c),(3,.int .i64 i),(4,.pointer (some ⟨b4,0,none⟩)),(5,.bool nd),(6,.bool (yG x.name)),(7,.int .i64 (mny x.kind:Nat))]) (fun _=>Hp (fun _=>False) w_0 [(b4,bk 60 (stC x.kind x.name P1 x.exprs.length a1.c1 a1.A2 x.body.length a1.c2 a1.A3 x.els.length a1.c3))] [] (wN F w_0)) ?_ (fun _=>?_)
     ·refine zY<|zX<|ZF V (Y60x0 V) ?_;refine ZF V (zW 0 V V V U3 V)<|ZF V (yS V V)<|ZT<|zT V (fun h43=>?_) (fun h43=>?_)
      ·replace h43:=Jw h43;refine Z7r 0 3 4 5 6 7 43 rfl rfl rfl rfl rfl rfl rfl<|Za rfl rfl<|zU<|zA (ι:=Unit) () (.cons rfl<|.cons rfl<|.cons rfl<|.cons rfl<|.cons rfl<|.cons (by first|(rw[show mny x.kind=2 from Kp (by omega)];rfl)|(rw[show mny x.kind=1 from Ko (by omega)];rfl))<|.nil) (fun w h=>h)
      ·replace h43:=yP h43;refine zG<|zA (ι:=Unit) () (.cons rfl<|.cons rfl<|.cons rfl<|.cons rfl<|.cons rfl<|.cons (by first|(rw[show mny x.kind=2 from Kp (by omega)];rfl)|(rw[show mny x.kind=1 from Ko (by omega)];rfl))<|.nil) (fun w h=>h)
     ·have hmn:mny x.kind≤2:=by unfold mny;split<;>omega
      refine xA (ι:={u:Unit // x.exprs.length=mny x.kind∧nmOk nd x.name=true}) (fun _=>[(0,.slice (some ⟨g1,o1,none⟩) a.length c),(3,.int .i64 i),(4,.pointer (some ⟨b4,0,none⟩)),(7,.int .i64 (mny x.kind:Nat))]) (fun _=>Hp (fun _=>False) w_0 [(b4,bk 60 (stC x.kind x.name P1 x.exprs.length a1.c1 a1.A2 x.body.length a1.c2 a1.A3 x.els.length a1.c3))] [] (wN F w_0)) ?_ (fun u=>?_)
      ·refine zY<|zX<|Zm V V<|Zm V V<|zH 45 V (fun gn=>?_) (fun gn=>?_)
       ·refine ZG V V V (zO V)<|ZG V V V (xJ V)<|ZF V (zP V V)<|Zm V V<|zH 49 V (fun gm=>?_) (fun gm=>?_)
        ·refine ZP V<|ZP V<|ZP V<|yZ V V V<|yZ V V V<|yZ V V V<|ZP V<|ZF V (zP V V)<|Zm V V<|ZP V<|ZP V<|ZP V<|ZP V<|ZP V<|ZF V (zP V V)<|ZT<|uT V<|zY<|Z7r 0 3 4 5 6 7 64 V V V V V V V<|Za V V<|ZT<|zK<|zV<|zR<|zV<|zV<|zR<|zV<|zI V V (fun w hw=>?_);exact⟨by rw[rV hx (.inl (qF (by rw[← hnd];clear hnd;cases nd<;>simp_all [nmOk]<;>omega)))],(Jq hw).ext⟩
        ·refine ZG V V V (zO V)<|ZG V V V (xJ V)<|ZG V V V (zO V)<|zH 52 V (fun go=>?_) (fun go=>?_)
         ·refine ZG V V V (Y60x1 V) ?_;refine ZG V V V (zW 0 V V V U9 V)<|ZG V V V (yf_strs_neq V V U9)<|ZG V V V (zP V V)<|ZF V (zL V V)<|Zm V V<|zH 58 V (fun gp=>?_) (fun gp=>?_)
          ·refine ZP V<|ZP V<|ZP V<|ZP V<|ZP V<|ZF V (zP V V)<|ZT<|uT V<|zY<|Z7r 0 3 4 5 6 7 64 V V V V V V V<|Za V V<|ZT<|zK<|zV<|zR<|zV<|zV<|zR<|zV<|zI V V (fun w hw=>?_);exact⟨by rw[rV hx (.inl (qF (by rw[← hnd];clear hnd;cases nd<;>simp_all [nmOk]<;>omega)))],(Jq hw).ext⟩
          ·refine ZG V V V (Y60x2 V) ?_;refine ZG V V V (zW 0 V V V U55 V)<|ZG V V V (yM V U55)<|ZG V V V (zO V)<|ZG V V V (sW V V)<|ZF V (zL V V)<|ZT<|zT V (fun h64=>?_) (fun h64=>?_)
           ·replace h64:=tQ h64;refine zY<|Z7r 0 3 4 5 6 7 64 V V V V V V V<|Za V V<|ZT<|zK<|zV<|zR<|zV<|zV<|zR<|zV<|zI V V (fun w hw=>?_);exact⟨by rw[rV hx (.inl (qF (by rw[← hnd];clear hnd;cases nd<;>simp_all [nmOk]<;>omega)))],(Jq hw).ext⟩
           ·replace h64:=rO h64;refine zG<|zA (ι:={u:Unit // x.exprs.length=mny x.kind∧nmOk nd x.name=true}) ⟨(),by simp_all<;>omega,by clear hnd;cases nd<;>simp_all [nmOk]⟩ (O4 V V V V) (fun w h=>h)
         ·refine ZP V<|ZP V<|ZP V<|ZG V V V (zL V V)<|ZF V (zL V V)<|Zm V V<|ZG V V V (Y60x2 V) ?_;refine ZG V V V (zW 0 V V V U55 V)<|ZG V V V (yM V U55)<|ZG V V V (zO V)<|ZG V V V (sW V V)<|ZF V (zL V V)<|ZT<|zT V (fun h64=>?_) (fun h64=>?_)
          ·replace h64:=tQ h64;refine zY<|Z7r 0 3 4 5 6 7 64 V V V V V V V<|Za V V<|ZT<|zK<|zV<|zR<|zV<|zV<|zR<|zV<|zI V V (fun w hw=>?_);exact⟨by rw[rV hx (.inl (qF (by rw[← hnd];clear hnd;cases nd<;>simp_all [nmOk]<;>omega)))],(Jq hw).ext⟩
          ·replace h64:=rO h64;refine zG<|zA (ι:={u:Unit // x.exprs.length=mny x.kind∧nmOk nd x.name=true}) ⟨(),by simp_all<;>omega,by clear hnd;cases nd<;>simp_all [nmOk]⟩ (O4 V V V V) (fun w h=>h)
       ·refine ZP V<|ZP V<|ZF V (zL V V)<|Zm V V<|ZG V V V (zO V)<|ZG V V V (xJ V)<|ZG V V V (zO V)<|zH 52 V (fun go=>?_) (fun go=>?_)
        ·refine ZG V V V (Y60x1 V) ?_;refine ZG V V V (zW 0 V V V U9 V)<|ZG V V V (yf_strs_neq V V U9)<|ZG V V V (zP V V)<|ZF V (zL V V)<|Zm V V<|zH 58 V (fun gp=>?_) (fun gp=>?_)
         ·refine ZP V<|ZP V<|ZP V<|ZP V<|ZP V<|ZF V (zP V V)<|ZT<|uT V<|zY<|Z7r 0 3 4 5 6 7 64 V V V V V V V<|Za V V<|ZT<|zK<|zV<|zR<|zV<|zV<|zR<|zV<|zI V V (fun w hw=>?_);exact⟨by rw[rV hx (.inl (qF (by rw[← hnd];clear hnd;cases nd<;>simp_all [nmOk]<;>omega)))],(Jq hw).ext⟩
         ·refine ZG V V V (Y60x2 V) ?_;refine ZG V V V (zW 0 V V V U55 V)<|ZG V V V (yM V U55)<|ZG V V V (zO V)<|ZG V V V (sW V V)<|ZF V (zL V V)<|ZT<|zT V (fun h64=>?_) (fun h64=>?_)
          ·replace h64:=tQ h64;refine zY<|Z7r 0 3 4 5 6 7 64 V V V V V V V<|Za V V<|ZT<|zK<|zV<|zR<|zV<|zV<|zR<|zV<|zI V V (fun w hw=>?_);exact⟨by rw[rV hx (.inl (qF (by rw[← hnd];clear hnd;cases nd<;>simp_all [nmOk]<;>omega)))],(Jq hw).ext⟩
          ·replace h64:=rO h64;refine zG<|zA (ι:={u:Unit // x.exprs.length=mny x.kind∧nmOk nd x.name=true}) ⟨(),by simp_all<;>omega,by clear hnd;cases nd<;>simp_all [nmOk]⟩ (O4 V V V V) (fun w h=>h)
        ·refine ZP V<|ZP V<|ZP V<|ZG V V V (zL V V)<|ZF V (zL V V)<|Zm V V<|ZG V V V (Y60x2 V) ?_;refine ZG V V V (zW 0 V V V U55 V)<|ZG V V V (yM V U55)<|ZG V V V (zO V)<|ZG V V V (sW V V)<|ZF V (zL V V)<|ZT<|zT V (fun h64=>?_) (fun h64=>?_)
         ·replace h64:=tQ h64;refine zY<|Z7r 0 3 4 5 6 7 64 V V V V V V V<|Za V V<|ZT<|zK<|zV<|zR<|zV<|zV<|zR<|zV<|zI V V (fun w hw=>?_);exact⟨by rw[rV hx (.inl (qF (by rw[← hnd];clear hnd;cases nd<;>simp_all [nmOk]<;>omega)))],(Jq hw).ext⟩
         ·replace h64:=rO h64;refine zG<|zA (ι:={u:Unit // x.exprs.length=mny x.kind∧nmOk nd x.name=true}) ⟨(),by simp_all<;>omega,by clear hnd;cases nd<;>simp_all [nmOk]⟩ (O4 V V V V) (fun w h=>h)
      ·obtain⟨_,hes,hnm⟩:=u;refine xA (ι:={u:Unit // ((decide (x.kind=4∨x.kind=5)||decide (x.body.length=0))&&(decide (x.kind=4)||decide (x.els.length=0)))=true}) (fun _=>[(0,.slice (some ⟨g1,o1,none⟩) a.length c),(3,.int .i64 i),(4,.pointer (some ⟨b4,0,none⟩)),(7,.int .i64 (mny x.kind:Nat))]) (fun _=>Hp (fun _=>False) w_0 [(b4,bk 60 (stC x.kind x.name P1 x.exprs.length a1.c1 a1.A2 x.body.length a1.c2 a1.A3 x.els.length a1.c3))] [] (wN F w_0)) ?_ (fun u=>?_)
       ·refine zY<|zX<|ZF V (Y60x0 V) ?_;refine ZF V (zW 0 V V V U3 V)<|ZF V (sW V V)<|Zm V V<|zH 68 V (fun g4=>?_) (fun g4=>?_)
        ·replace g4:=tQ g4;refine ZG V V V (Y60x4 V) ?_;refine ZG V V V (zW 0 V V V U58 V)<|ZG V V V (yM V U58)<|ZG V V V (wO V V)<|ZG V V V (zO V)<|zH 73 V (fun g9=>?_) (fun g9=>?_)
         ·replace g9:=Jo g9;refine ZP V<|ZP V<|ZP V<|ZP V<|yZ V V V<|yZ V V V<|yZ V V V<|yZ V V V<|ZP V<|ZG V V V (zP V V)<|ZF V (zP V V)<|ZT<|uT V<|zY<|Z5r 0 3 4 7 84 V V V V V<|Za V V<|ZT<|zK<|zV<|zR<|zV<|zV<|zR<|zV<|zI V V (fun w hw=>?_);exact⟨by rw[rV hx (.inl (okSt_bad2 (by rw[Bool.and_eq_false_iff];simp only[Bool.or_eq_false_iff,decide_eq_false_iff_not];omega)))],(Jq hw).ext⟩
         ·replace g9:=Jp g9;refine ZG V V V (Y60x0 V) ?_;refine ZG V V V (zW 0 V V V U3 V)<|ZG V V V (sW V V)<|ZG V V V (zO V)<|zH 77 V (fun g13=>?_) (fun g13=>?_)
          ·replace g13:=tQ g13;refine ZG V V V (Y60x3 V) ?_;refine ZG V V V (zW 0 V V V U58 V)<|ZG V V V (yM V U58)<|ZG V V V (wO V V)<|ZG V V V (zP V V)<|ZG V V V (zL V V)<|ZF V (zP V V)<|ZT<|zT V (fun h84=>?_) (fun h84=>?_)
           ·replace h84:=Jo h84;refine zY<|Z5r 0 3 4 7 84 V V V V V<|Za V V<|ZT<|zK<|zV<|zR<|zV<|zV<|zR<|zV<|zI V V (fun w hw=>?_);exact⟨by rw[rV hx (.inl (okSt_bad2 (by rw[Bool.and_eq_false_iff];simp only[Bool.or_eq_false_iff,decide_eq_false_iff_not];omega)))],(Jq hw).ext⟩
           ·replace h84:=Jp h84;refine zG ?_
            refine zA (ι:={u:Unit // ((decide (x.kind=4∨x.kind=5)||decide (x.body.length=0))&&(decide (x.kind=4)||decide (x.els.length=0)))=true}) ⟨(),by
             simp only[Kj,Bool.or_eq_true,Kn]
             omega⟩ (O4 rfl rfl rfl rfl) (fun w h=>h)
          ·replace g13:=rO g13;refine ZP V<|ZP V<|ZP V<|ZP V<|ZG V V V (zL V V)<|ZG V V V (zL V V)<|ZF V (zP V V)<|ZT<|vU V<|zG ?_
           refine zA (ι:={u:Unit // ((decide (x.kind=4∨x.kind=5)||decide (x.body.length=0))&&(decide (x.kind=4)||decide (x.els.length=0)))=true}) ⟨(),by
            simp only[Kj,Bool.or_eq_true,Kn]
            omega⟩ (O4 rfl rfl rfl rfl) (fun w h=>h)
        ·replace g4:=rO g4;refine ZP V<|ZP V<|ZP V<|ZP V<|ZP V<|yZ V V V<|yZ V V V<|yZ V V V<|yZ V V V<|yZ V V V<|yZ V V V<|yZ V V V<|yZ V V V<|yZ V V V<|ZP V<|ZF V (zL V V)<|ZT<|vU V<|zG ?_
         refine zA (ι:={u:Unit // ((decide (x.kind=4∨x.kind=5)||decide (x.body.length=0))&&(decide (x.kind=4)||decide (x.els.length=0)))=true}) ⟨(),by
          simp only[Kj,Bool.or_eq_true,Kn]
          omega⟩ (O4 rfl rfl rfl rfl) (fun w h=>h)
       ·obtain⟨_,hbe⟩:=u
        have hok:pA x.kind x.name x.exprs.length x.body.length x.els.length=true:=by
         rw[okSt_eq2,← hnd,Bool.and_assoc,hbe,hnm,Kv hes,Kv hk18.1,Kv hk18.2];rfl
        refine zY<|zY<|zX<|Za V V<|ZT<|yY<|xV (ι:={j:Nat // j≤x.exprs.length∧(x.exprs.take j).all yJ=true}) (fun j=>[(0,.slice (some ⟨g1,o1,none⟩) a.length c),(3,.int .i64 i),(4,.pointer (some ⟨b4,0,none⟩)),(7,.int .i64 (mny x.kind:Nat)),(8,.int .i64 j.1)]) (fun _=>Hp (fun _=>False) w_0 [(b4,bk 60 (stC x.kind x.name P1 x.exprs.length a1.c1 a1.A2 x.body.length a1.c2 a1.A3 x.els.length a1.c3))] [] (wN F w_0)) (fun j=>x.exprs.length-j.1) ⟨0,Kl _,rfl⟩ ?_ ?_ (fun j=>?_)
        ·exact .cons V<|.cons V<|.cons V<|.cons V<|.cons V<|.nil
        ·exact fun w h=>h
        obtain⟨j,hj,hallE⟩:=j;dsimp only;refine zY<|zY<|zX<|Zm V V<|Zm V V<|ZF V (xS V V)<|ZT<|zT V (fun hc=>?_) (fun hc=>?_)
        ·replace hc:=Jo hc;obtain⟨q,r,rfl⟩:=hE (by omega);have hjl:j<x.exprs.length:=by omega
         obtain⟨y,hy⟩:∃y,x.exprs[j]? = some y:=⟨x.exprs[j],Jt hjl⟩;obtain⟨Ay,cy,hfy⟩:=ve.fix hy;have hky:=(hfy F w_0 ve).1;have hcy:=(hfy F w_0 ve).2;refine zG<|zQ<|zY<|yY<|zY<|Z6r 0 3 4 7 8 87 V V V V V V<|ZF V (Y60x2 V) ?_;refine ZF rfl (zW 0 rfl rfl rfl U55 rfl)<|Zm rfl rfl<|ZF rfl (zJ (es:=4) rfl rfl U55 (by kernel_rfl) rfl (by first|decide|omega|(simp;done)|(simp;omega)) rfl) ?_;refine ZF V (yD (cs:=xL y Ay cy) V U57 V (by kernel_rfl) (fun w h i v hv=>RdF.part ((HpG.x h).get RdF.lies re) (Jm.1 (hcy i v hv)).1 (by omega) (hcy i v hv))) ?_;refine yT .none V  (v:=.bool (yJ y)) (by kernel_rfl) V (fun w hw=>rexpr_any y F Ay cy w ((HpG.x hw).get xT.lies hky)) ?_;refine Za V V<|ZX<|Z7r 0 3 4 7 8 9 87 V V V V V V V<|Zm V V<|ZF V (xJ V)<|ZT<|zT V (fun h97=>?_) (fun h97=>?_)
         ·refine zY<|Z8r 0 3 4 7 8 9 87 97 V V V V V V V V<|Za V V<|ZT<|zK<|zR<|zV<|zV<|zR<|zV<|zR<|zV<|zV<|zR<|zV<|zI V V (fun w hw=>?_);exact⟨by rw[rV hx (.inr (.inl (by rw[wK,all_no hy (by simpa using h97)])))],(Jq hw).ext⟩
         ·refine zG<|zM<|zQ<|Z8r 0 3 4 7 8 9 87 97 V V V V V V V V<|Zm V V<|ZF V (yI V V (i64_in _ (by omega) (by omega))) ?_;refine Za V V<|zU<|yC (ι:={j:Nat // j≤x.exprs.length∧(x.exprs.take j).all yJ=true}) ⟨j+1,hjl,pY hallE hy (by simpa using h97)⟩ (by show x.exprs.length-(j+1)<x.exprs.length-j;omega) (O5 V V V V V) (fun w h=>h)
        ·replace hc:=Jp hc;have hje:j=x.exprs.length:=by omega
         refine xY<|zN<|zN<|xZ<|zQ<|zY<|Z6r 0 3 4 7 8 87 V V V V V V<|ZF V (Y60x3 V) ?_;refine ZF V (zW 0 V V V U58 V)<|yT .none V  (v:=.bool (rightSts x.body)) (by kernel_rfl) V (fun w hw=>hI.1 F a1.A2 a1.c2 w ((HpG.x hw).get wQ.lies hkb)) ?_;refine Za V V<|ZX<|Z7r 0 3 4 7 8 10 87 V V V V V V V<|ZF V (Y60x4 V) ?_;refine ZF V (zW 0 V V V U58 V)<|yT .none V  (v:=.bool (rightSts x.els)) (by kernel_rfl) V (fun w hw=>hI.2 F a1.A3 a1.c3 w ((HpG.x hw).get wQ.lies hkc)) ?_;refine Za V V<|ZX<|Z8r 0 3 4 7 8 10 11 87 V V V V V V V V<|Zm V V<|ZF V (xJ V)<|Zm V V<|zH 106 V (fun g24=>?_) (fun g24=>?_)
         ·refine ZP V<|ZP V<|ZF V (zP V V)<|ZT<|uT V<|zY<|Z9r 0 3 4 7 8 10 11 87 109 V V V V V V V V V<|Za V V<|ZT<|zK<|zR<|zV<|zV<|zR<|zV<|zI V V (fun w hw=>?_);exact⟨by rw[rV hx (.inr (.inr (.inl (by simpa using g24))))],(Jq hw).ext⟩
         ·refine ZG V V V (zO V)<|ZG V V V (xJ V)<|ZF V (zL V V)<|ZT<|zT V (fun h109=>?_) (fun h109=>?_)
          ·refine zY<|Z9r 0 3 4 7 8 10 11 87 109 V V V V V V V V V<|Za V V<|ZT<|zK<|zR<|zV<|zV<|zR<|zV<|zI V V (fun w hw=>?_);exact⟨by rw[rV hx (.inr (.inr (.inr (by simpa using h109))))],(Jq hw).ext⟩
          ·refine zG<|zM<|zQ<|Z9r 0 3 4 7 8 10 11 87 109 V V V V V V V V V<|Zm V V<|ZF V (yI V V (i64_in _ (by omega) (by omega))) ?_;refine Za V V<|zU ?_
           have hxr:xH x=true:=by
            rw[hje,Kh] at hallE;rw[rightSt_eq',hok,wK,hallE,show rightSts x.body=true by simpa using g24,show rightSts x.els=true by simpa using h109];rfl
           refine yC (ι:={i:Nat // i≤a.length∧(a.take i).all xH=true}) ⟨i+1,hil,pY hall hx hxr⟩ (by show a.length-(i+1)<a.length-i;omega) (O2 V V) (fun w h=>Hp.drop h (Js _ _) (Jr _))
 ·replace hc:=Jp hc;have hie:i=a.length:=by omega
  refine xY<|zN<|zN<|xZ<|zQ<|zY<|Z3r 0 3 15 V V V<|Za V V<|ZT<|zK<|zI V V (fun w hw=>?_);exact⟨by rw[hie,Kh] at hall;rw[uQ,hall],(Jq hw).ext⟩
theorem rstmts_all:∀(N:Nat) (x:St),SizeOf.sizeOf x<N→RRS x.body∧RRS x.els
 | 0,_,h=>absurd h (by omega)
 | N+1,.mk k s es b c,h=>⟨rstmts_step b fun x hx=>rstmts_all N x (by have:=vF (k:=k) (s:=s) (es:=es) (c:=c) (.inl hx);omega),rstmts_step c fun x hx=>rstmts_all N x (by have:=vF (k:=k) (s:=s) (es:=es) (b:=b) (.inr hx);omega)⟩
theorem rstmts_any (a:List St):RRS a:=rstmts_step a fun x _=>rstmts_all _ x (Nat.lt_succ_self _)
end Go.Proofs.YtfpkpnkdnammnaaGreatDoor
namespace Go.Proofs.YtfpkpnkdnammnaaGreatDoor
open Go.RowKit
theorem rightFn_no {l:List Fn}{i:Nat}{x:Fn}(hx:l[i]? = some x) (h:yG x.name=false∨rightSts x.body=false∨x.params.all yG=false):wD l=false:=by
 refine all_no hx ?_;unfold vO;rcases h with h|h|h<;>rw[h]<;>simp
theorem rright_any (a:List Fn) (F:Nat→Prop) (A:Option Addr) (c:Nat) (w_0:World) (ha:PgK F w_0 a A c):Calls Tryz.prog 24 #[.agg [Value.slice A a.length c].toArray] w_0 fun e w'=>e=.returned (.bool (wD a))∧Ext w_0 w':=by
 obtain⟨pa,ca,ra,va⟩:=ha;have hla:=pa.lt
 have hA:0<a.length→∃b off,A=some ⟨b,off,none⟩:=fun h0=>by
  obtain⟨b,off,e,_⟩:=ra (by rw[va.len];omega);exact⟨b,off,e⟩
 refine yV (args:=[Value.agg [Value.slice A a.length c].toArray]) Tryz.func24 V 48 V (Jn V)<|Z1 0 V<|zD (H':=Hp (fun _=>False) w_0 [] [] (wN F w_0)) (fun u hu=>?_) ?_
 ·subst hu;exact Hp.startSame
 refine zY<|zX<|zC .none V (vY V V) (fun b1=>?_);refine Za V V<|ZX<|zY<|zX<|Za V V<|ZT<|yY<|xV (ι:={i:Nat // i≤a.length∧(a.take i).all vO=true}) (fun i=>[(1,.pointer (some ⟨b1,0,none⟩)),(3,.int .i64 i.1)]) (fun _=>Hp (fun _=>False) w_0 [(b1,bk 32 [.slice A a.length c])] [] (wN F w_0)) (fun i=>a.length-i.1) ⟨0,Kl _,rfl⟩ ?_ ?_ (fun i=>?_)
 ·exact .cons V<|.cons V<|.nil
 ·exact fun w h=>h
 obtain⟨i,hi,hall⟩:=i;dsimp only;refine zY<|zY<|zX<|Zm V V<|ZF V (Y32x0 V) ?_;refine ZF V (zW 0 V V V U30 V)<|ZF V (yM V U30)<|ZF V (xS V V)<|ZT<|zT V (fun hc=>?_) (fun hc=>?_)
 ·replace hc:=Jo hc;have hil:i<a.length:=by omega
  obtain⟨g1,o1,rfl⟩:=hA (by omega);obtain⟨x,hx⟩:∃x,a[i]? = some x:=⟨a[i],Jt hil⟩;obtain⟨a1,hfix1⟩:=va.fix hx;have hk1:=(hfix1 F w_0 va).1;have hc1:=(hfix1 F w_0 va).2;have hkb:wQ F w_0 x.body a1.A2 a1.c2:=⟨hk1.p2,hk1.h2⟩;have hp1:=hk1.h1;have hpl1:=hk1.p1.lt
  have hP1:0<x.params.length→∃b off,a1.A1=some ⟨b,off,none⟩:=fun h0=>by
   obtain⟨b,off,e,_⟩:=hp1 (by rw[strs_len];omega);exact⟨b,off,e⟩
  generalize hA1:a1.A1=P1 at hp1 hP1;refine zG<|zQ<|zY<|yY<|zY<|Z3r 1 3 13 V V V<|ZF V (Y32x0 V) ?_;refine ZF rfl (zW 0 rfl rfl rfl U30 rfl)<|Zm rfl rfl<|ZF rfl (zJ (es:=3) rfl rfl U30 (by kernel_rfl) rfl (by first|decide|omega|(simp;done)|(simp;omega)) rfl) ?_
  refine ZF V (yD (cs:=fnC x.name P1 x.params.length a1.c1 a1.A2 x.body.length a1.c2) V U62 V (by kernel_rfl) (fun w h j v hv=>by
   rw[← hA1] at hv
   exact RdF.part ((HpG.x h).get RdF.lies ra) (Jm.1 (hc1 j v hv)).1 (by omega) (hc1 j v hv))) ?_
  refine zC .none V (yK (z:=.agg #[.string ⟨#[]⟩,.slice none 0 0,.slice none 0 0]) (cs:=Jg) (by kernel_rfl) V) (fun b4=>?_);refine ZR 0 V V V V V (by kernel_rfl) ?_;refine ZX<|Z4r 1 3 4 13 V V V V<|ZF V (Y62x0 V) ?_;refine ZF V (zW 0 V V V U9 V)<|yT .none V  (v:=.bool (yG x.name)) (by kernel_rfl) V (fun w hw=>pQ x.name w) ?_;refine Za V V<|ZX<|Z5r 1 3 4 5 13 V V V V V<|ZF V (Y62x2 V) ?_;refine ZF V (zW 0 V V V U58 V)<|yT .none V  (v:=.bool (rightSts x.body)) (by kernel_rfl) V (fun w hw=>rstmts_any x.body F a1.A2 a1.c2 w ((HpG.x hw).get wQ.lies hkb)) ?_;refine Za V V<|ZX<|zY<|Z6r 1 3 4 5 6 13 V V V V V V<|Zm V V<|ZF V (xJ V)<|Zm V V<|zH 29 V (fun g7=>?_) (fun g7=>?_)
  ·refine ZP V<|ZP V<|ZF V (zP V V)<|ZT<|uT V<|zY<|Z7r 1 3 4 5 6 13 32 V V V V V V V<|Za V V<|ZT<|zK<|zV<|zR<|zV<|zV<|zR<|zV<|zI V V (fun w hw=>?_);exact⟨by rw[rightFn_no hx (.inl (by simpa using g7))],(Jq hw).ext⟩
  ·refine ZG V V V (zO V)<|ZG V V V (xJ V)<|ZF V (zL V V)<|ZT<|zT V (fun h32=>?_) (fun h32=>?_)
   ·refine zY<|Z7r 1 3 4 5 6 13 32 V V V V V V V<|Za V V<|ZT<|zK<|zV<|zR<|zV<|zV<|zR<|zV<|zI V V (fun w hw=>?_);exact⟨by rw[rightFn_no hx (.inr (.inl (by simpa using h32)))],(Jq hw).ext⟩
   ·refine zG<|zQ<|zY<|Z7r 1 3 4 5 6 13 32 V V V V V V V<|Za V V<|ZT<|yY<|xV (ι:={k:Nat // k≤x.params.length∧(x.params.take k).all yG=true}) (fun k=>[(1,.pointer (some ⟨b1,0,none⟩)),(3,.int .i64 i),(4,.pointer (some ⟨b4,0,none⟩)),(7,.int .i64 k.1)]) (fun _=>Hp (fun _=>False) w_0 [(b4,bk 62 (fnC x.name P1 x.params.length a1.c1 a1.A2 x.body.length a1.c2)),(b1,bk 32 [.slice (some ⟨g1,o1,none⟩) a.length c])] [] (wN F w_0)) (fun k=>x.params.length-k.1) ⟨0,Kl _,rfl⟩ ?_ ?_ (fun k=>?_)
    ·exact .cons V<|.cons V<|.cons V<|.cons V<|.nil
    ·exact fun w h=>h
    obtain⟨k,hk,hpk⟩:=k;dsimp only;refine zY<|zY<|zX<|Zm V V<|ZF V (Y62x1 V) ?_;refine ZF V (zW 0 V V V U22 V)<|ZF V (yM V U22)<|ZF V (xS V V)<|ZT<|zT V (fun hc=>?_) (fun hc=>?_)
    ·replace hc:=Jo hc;have hkl:k<x.params.length:=by omega
     obtain⟨q1,r1,rfl⟩:=hP1 (by omega);obtain⟨s,hs⟩:∃s,x.params[k]? = some s:=⟨x.params[k],Jt hkl⟩;refine zG<|zQ<|zY<|yY<|zY<|Z5r 1 3 4 7 37 V V V V V<|ZF V (Y62x1 V) ?_;refine ZF rfl (zW 0 rfl rfl rfl U22 rfl)<|Zm rfl rfl<|ZF rfl (zJ (es:=1) rfl rfl U22 (by kernel_rfl) rfl (by first|decide|omega|(simp;done)|(simp;omega)) rfl) ?_;refine ZF V (yO (v:=.string ⟨s.toArray⟩) V U9 V (fun w h=>RdF.part ((HpG.x h).get RdF.lies hp1) (by rw[strs_len];exact hkl) (by omega) (rU hs))) ?_;refine yT .none V  (v:=.bool (yG s)) (by kernel_rfl) V (fun w hw=>pQ s w) ?_;refine Za V V<|ZX<|Z6r 1 3 4 7 8 37 V V V V V V<|Zm V V<|ZF V (xJ V)<|ZT<|zT V (fun h47=>?_) (fun h47=>?_)
     ·refine zY<|Z7r 1 3 4 7 8 37 47 V V V V V V V<|Za V V<|ZT<|zK<|zR<|zV<|zV<|zR<|zR<|zV<|zV<|zR<|zV<|zI V V (fun w hw=>?_);exact⟨by rw[rightFn_no hx (.inr (.inr (all_no hs (by simpa using h47))))],(Jq hw).ext⟩
     ·refine zG<|zM<|zQ<|Z7r 1 3 4 7 8 37 47 V V V V V V V<|Zm V V<|ZF V (yI V V (i64_in _ (by omega) (by omega))) ?_;refine Za V V<|zU<|yC (ι:={k:Nat // k≤x.params.length∧(x.params.take k).all yG=true}) ⟨k+1,hkl,pY hpk hs (by simpa using h47)⟩ (by show x.params.length-(k+1)<x.params.length-k;omega) (O4 V V V V) (fun w h=>h)
    ·replace hc:=Jp hc;have hke:k=x.params.length:=by omega
     refine xY<|zN<|zN<|xZ<|zM<|zQ<|Z5r 1 3 4 7 37 V V V V V<|Zm V V<|ZF V (yI V V (i64_in _ (by omega) (by omega))) ?_;refine Za V V<|zU ?_
     have hxr:vO x=true:=by
      rw[hke,Kh] at hpk;unfold vO;rw[hpk,show yG x.name=true by simpa using g7,show rightSts x.body=true by simpa using h32];rfl
     refine yC (ι:={i:Nat // i≤a.length∧(a.take i).all vO=true}) ⟨i+1,hil,pY hall hx hxr⟩ (by show a.length-(i+1)<a.length-i;omega) (O2 V V) (fun w h=>Hp.drop h (Js _ _) (Jr _))
 ·replace hc:=Jp hc;have hie:i=a.length:=by omega
  refine xY<|zN<|zN<|xZ<|zQ<|zY<|Z3r 1 3 13 V V V<|Za V V<|ZT<|zK<|zI V V (fun w hw=>?_);exact⟨by rw[hie,Kh] at hall;rw[wD,hall],(Jq hw).ext⟩
end Go.Proofs.YtfpkpnkdnammnaaGreatDoor
