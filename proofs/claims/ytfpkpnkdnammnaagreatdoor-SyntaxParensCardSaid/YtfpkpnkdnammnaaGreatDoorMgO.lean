/- The reference model's names. -/
import Derived.Test.YtfpkpnkdnammnaaGreatDoorMgI
import Derived.Test.YtfpkpnkdnammnaaGreatDoorMgw
namespace Go.Proofs.YtfpkpnkdnammnaaGreatDoor
open Go.RowKit
set_option maxRecDepth 100000 in
theorem among_any (l:List Bs) (hl:l.length≤9223372036854775807) (s:Bs) (A:Option Addr) (cap:Nat) {F:Nat→Prop}(w_0:World) (h:RdF F A (yA l) w_0):Calls Tryz.prog 36 #[.string ⟨s.toArray⟩,.slice A l.length cap] w_0 fun e w'=>e=.returned (.bool (decide (s∈l)))∧Ext w_0 w':=by
 have hA:0<l.length→∃b off,A=some ⟨b,off,none⟩:=fun h0=>by
  obtain⟨b,off,e,_⟩:=h (by simpa using h0);exact⟨b,off,e⟩
 refine yV (args:=[.string ⟨s.toArray⟩,.slice A l.length cap]) Tryz.func36 V 18 V (Nat.le_of_ble_eq_true V)<|Z2 0 1 V V<|zF (H':=Hp (fun _=>False) w_0 [] [] (RdF F A (yA l))) (fun u hu=>?_) ?_
 ·subst hu;exact Hp.startT RdF.lies h
 refine zY<|zX<|Za V V<|ZX<|zY<|zX<|Za V V<|ZT<|yU<|xQ (ι:={k:Nat // IxI l s k}) (fun k=>[(0,.string ⟨s.toArray⟩),(1,.slice A l.length cap),(5,.int .i64 k.1)]) (fun _=>Hp (fun _=>False) w_0 [] [] (RdF F A (yA l))) (fun k=>l.length-k.1) ⟨0,Nat.zero_le _,fun _ _ h=>absurd h (by omega)⟩ ?_ ?_ (fun k=>?_)
 ·exact .cons V<|.cons V<|.cons V<|.nil
 ·exact fun w h=>h
 obtain⟨k,hk,hno⟩:=k;dsimp only;refine zY<|zY<|zX<|Zm V V<|Zm V V<|ZF V (yM V U22)<|ZF V (xP V V)<|ZT<|zP V (fun hc=>?_) (fun hc=>?_)
 ·replace hc:=of_decide_eq_true hc;obtain⟨b,off,rfl⟩:=hA (by omega);have hkl:k<l.length:=by omega
  obtain⟨x,hx⟩:∃x,l[k]? = some x:=⟨l[k],List.getElem?_eq_getElem hkl⟩;refine zD<|zQ<|zY<|yU<|zY<|Z4r 0 1 5 9 V V V V<|Zm V V<|Zm V V ?_;(refine ZF rfl (zR (es:=1) rfl rfl U22 (by kernel_rfl) rfl ?_ rfl) ?_;(· first|decide|omega|(simp;done)|(simp;omega));skip);refine ZF V (yQ (v:=.string ⟨x.toArray⟩) V U9 V (fun w h=>RdF.part (HpG.x h) (by simpa using hkl) (by omega) (sJ hx))) ?_;refine Zm V V<|ZF V (xF V V U9)<|ZT<|zP V (fun he=>?_) (fun he=>?_)
  ·have he:=of_decide_eq_true he;subst he;refine zY<|Z5r 0 1 5 9 17 V V V V V<|Za V V<|ZT<|zL<|zO<|zU<|zU<|zO<|zU<|zH V V (fun w hw=>?_);exact⟨by rw[decide_eq_true (List.mem_of_getElem? hx)],(HpG.keep hw).ext⟩
  ·have he:=of_decide_eq_false he;refine zD<|zI<|zQ<|Z5r 0 1 5 9 17 V V V V V<|Zm V V ?_;(refine ZF rfl (yD rfl rfl (i64_in _ ?_ ?_)) ?_;(· omega);(· omega);skip);refine Za V V<|zV<|xT (ι:={k:Nat // IxI l s k}) ⟨k+1,by omega,fun j y hj hy=>?_⟩ (by show l.length-(k+1)<l.length-k;omega) (O3 V V V) (fun w h=>h);rcases Nat.lt_or_ge j k with h1|h1
   ·exact hno j y h1 hy
   ·have:j=k:=by omega
    subst this;rw[hx] at hy;cases hy;exact he
 ·replace hc:=of_decide_eq_false hc;have hke:k=l.length:=by omega
  refine xV<|zM<|zM<|xW<|zQ<|zY<|Z4r 0 1 5 9 V V V V<|Za V V<|ZT<|zL<|zH V V (fun w hw=>?_);exact⟨by rw[decide_eq_false (fun e=>by obtain⟨j,hj,e⟩:=List.getElem_of_mem e;exact hno j _ (by omega) (List.getElem?_eq_getElem hj) e)],(HpG.keep hw).ext⟩
end Go.Proofs.YtfpkpnkdnammnaaGreatDoor
/- The reference model's levels of operators. -/
namespace Go.Proofs.YtfpkpnkdnammnaaGreatDoor
open Go.RowKit
def levsL:List (List Bs):=[[[124]],[[94]],[[38]],[[61,61],[33,61]],[[60],[60,61],[62],[62,61]],[[60,60],[62,62]],[[43],[45]],[[42],[47],[37]]]
theorem lev_at {s:Bs}{k:Nat}{x:List Bs}(hk:levsL[k]? = some x) (h:s∈x):wL s=some k:=by
 have h8:k<8:=(List.getElem?_eq_some_iff.1 hk).1;obtain rfl|rfl|rfl|rfl|rfl|rfl|rfl|rfl:k=0∨k=1∨k=2∨k=3∨k=4∨k=5∨k=6∨k=7:=by omega
 all_goals
  cases hk;simp only[List.mem_cons,List.not_mem_nil,or_false] at h
  (rcases h with rfl|rfl|rfl|rfl<;>rfl)
theorem lev_none {s:Bs}(h:∀(j:Nat) (x:List Bs),levsL[j]? = some x→s∉x):wL s=none:=by
 have h0:=h 0 _ rfl;have h1:=h 1 _ rfl;have h2:=h 2 _ rfl;have h3:=h 3 _ rfl;have h4:=h 4 _ rfl;have h5:=h 5 _ rfl;have h6:=h 6 _ rfl;have h7:=h 7 _ rfl;simp only[List.mem_cons,List.not_mem_nil,or_false,not_or] at h0 h1 h2 h3 h4 h5 h6 h7;simp only[wL,levT,vV,h0,h1,h2,h3,h4,h5,h6,h7,if_false]
/-- What rank answers. -/
def wG (s:Bs):Int:=match wL s with|some k=>k|none=>-1
def levC (av:List (Option Addr)):List Value:=List.zipWith (fun (a:Option Addr) (x:List Bs)=>Value.slice a x.length x.length) av levsL
/-- The rows of the levels. -/
def LevV (av:List (Option Addr)) (F:Nat→Prop) (u:World):Prop:=∀(i:Nat) (x:List Bs) (a:Option Addr),levsL[i]? = some x→av[i]? = some a→RdF F a (yA x) u
theorem LevV.lies {av:List (Option Addr)}:Lies fun F u=>LevV av F u :=
 ⟨fun hk h i x a h1 h2=>RdF.lies.foot hk (h i x a h1 h2),fun h i x a h1 h2=>RdF.lies.lt (h i x a h1 h2),fun hF h i x a h1 h2=>RdF.lies.mono hF (h i x a h1 h2)⟩
theorem rlevels_any (w_0:World):Calls Tryz.prog 147 #[] w_0 fun e w'=>∃(A:Nat) (av:List (Option Addr)),av.length=8∧e=.returned (.slice (some ⟨A,0,none⟩) 8 8)∧Ext w_0 w'∧RdF (fun k=>w_0.heap.size≤k) (some ⟨A,0,none⟩) (levC av) w'∧LevV av (fun k=>w_0.heap.size≤k) w':=by
 refine yV (args:=[]) Tryz.func147 V 10 V (Nat.le_of_ble_eq_true V)<|xH (.nil)<|zF (H':=Hp (fun _=>False) w_0 [] [] (fun _=>True)) (fun u hu=>?_) ?_
 ·subst hu;exact Hp.start0
 refine zY<|zX<|Za V V<|ZX<|zX<|zG .none V (xX (z:=.string ⟨#[]⟩) V V U22 (by kernel_rfl) (by kernel_rfl) V V) (fun b1=>?_);refine zG .none V (xX (z:=.string ⟨#[]⟩) V V U22 (by kernel_rfl) (by kernel_rfl) V V) (fun b2=>?_);refine zG .none V (xX (z:=.string ⟨#[]⟩) V V U22 (by kernel_rfl) (by kernel_rfl) V V) (fun b3=>?_);refine zG .none V (nf_bs2 (z:=.string ⟨#[]⟩) V V V V U22 (by kernel_rfl) (by kernel_rfl) V V V) (fun b4=>?_);refine zG .none V (wZ (z:=.string ⟨#[]⟩) V V V V U22 (by kernel_rfl) (by kernel_rfl) V V) (fun b5=>?_);refine zG .none V (nf_bs2 (z:=.string ⟨#[]⟩) V V V V U22 (by kernel_rfl) (by kernel_rfl) V V V) (fun b6=>?_);refine zG .none V (nf_bs2 (z:=.string ⟨#[]⟩) V V V V U22 (by kernel_rfl) (by kernel_rfl) V V V) (fun b7=>?_);refine zG .none V (wZ (z:=.string ⟨#[]⟩) V V V V U22 (by kernel_rfl) (by kernel_rfl) V V) (fun b8=>?_);refine zG .none V (wZ (z:=.slice none 0 0) V V V V U178 (by kernel_rfl) (by kernel_rfl) V V) (fun b9=>?_);refine Za V V<|ZT<|zL<|zH V V (fun w hw=>?_);refine⟨_,[some ⟨b1,0,none⟩,some ⟨b2,0,none⟩,some ⟨b3,0,none⟩,some ⟨b4,0,none⟩,some ⟨b5,0,none⟩,some ⟨b6,0,none⟩,some ⟨b7,0,none⟩,some ⟨b8,0,none⟩],rfl,rfl,(HpG.keep hw).ext,HpG.rdF (j:=0) hw V (HpG.mineL hw (j:=0) V id),?_⟩;intro i x a hx ha;have h8:i<8:=(List.getElem?_eq_some_iff.1 hx).1;obtain rfl|rfl|rfl|rfl|rfl|rfl|rfl|rfl:i=0∨i=1∨i=2∨i=3∨i=4∨i=5∨i=6∨i=7:=by omega
 ·cases hx;cases ha;exact HpG.rdF (j:=8) hw V (HpG.mineL hw (j:=8) V id)
 ·cases hx;cases ha;exact HpG.rdF (j:=7) hw V (HpG.mineL hw (j:=7) V id)
 ·cases hx;cases ha;exact HpG.rdF (j:=6) hw V (HpG.mineL hw (j:=6) V id)
 ·cases hx;cases ha;exact HpG.rdF (j:=5) hw V (HpG.mineL hw (j:=5) V id)
 ·cases hx;cases ha;exact HpG.rdF (j:=4) hw V (HpG.mineL hw (j:=4) V id)
 ·cases hx;cases ha;exact HpG.rdF (j:=3) hw V (HpG.mineL hw (j:=3) V id)
 ·cases hx;cases ha;exact HpG.rdF (j:=2) hw V (HpG.mineL hw (j:=2) V id)
 ·cases hx;cases ha;exact HpG.rdF (j:=1) hw V (HpG.mineL hw (j:=1) V id)
theorem levC_at {av:List (Option Addr)}(hn:av.length=8) {k:Nat}{x:List Bs}(hx:levsL[k]? = some x):∃a,av[k]? = some a∧(levC av)[k]? = some (.slice a x.length x.length):=by
 have h8:k<8:=(List.getElem?_eq_some_iff.1 hx).1;have hk:k<av.length:=by omega
 refine⟨av[k],List.getElem?_eq_getElem hk,?_⟩;unfold levC;rw[List.getElem?_zipWith,List.getElem?_eq_getElem hk,hx]
set_option maxRecDepth 100000 in
theorem rrank_any (s:Bs) (w_0:World):Calls Tryz.prog 122 #[.string ⟨s.toArray⟩] w_0 fun e w'=>e=.returned (.int .i64 (wG s))∧Ext w_0 w':=by
 refine yV (args:=[.string ⟨s.toArray⟩]) Tryz.func122 V 21 V (Nat.le_of_ble_eq_true V)<|Z1 0 V<|zF (H':=Hp (fun _=>False) w_0 [] [] (fun _=>True)) (fun u hu=>?_) ?_
 ·subst hu;exact Hp.start0
 refine zY<|zX<|Za V V<|ZX<|zX<|sR (ι:=Nat×{av:List (Option Addr) // av.length=8}) (C:=fun _=>True) (val:=fun A=>.slice (some ⟨A.1,0,none⟩) 8 8) (TT:=fun A F u=>RdF F (some ⟨A.1,0,none⟩) (levC A.2.1) u∧LevV A.2.1 F u) .none V  (by kernel_rfl) V (fun _ h=>h.elim) (fun _=>⟨fun hk ⟨a,b⟩=>⟨RdF.lies.foot hk a,LevV.lies.foot hk b⟩,fun ⟨a,b⟩=>⟨RdF.lies.lt a,LevV.lies.lt b⟩,fun hF ⟨a,b⟩=>⟨RdF.lies.mono hF a,LevV.lies.mono hF b⟩⟩) (fun w hw=>(rlevels_any w).mono fun e w' ⟨A,av,h1,e1,e2,e3,e4⟩=>⟨(A,⟨av,h1⟩),trivial,e1,e2,e3,e4⟩) (fun A F _ hF=>?_);obtain⟨A,av,has⟩:=A;dsimp only;refine Za V V<|ZX<|zY<|Z3r 0 2 3 V V V<|Za V V<|ZT<|yU<|xQ (ι:={k:Nat // k≤8∧∀(j:Nat) (x:List Bs),j<k→levsL[j]? = some x→s∉x}) (fun k=>[(0,.string ⟨s.toArray⟩),(3,.slice (some ⟨A,0,none⟩) 8 8),(4,.int .i64 k.1)]) (fun _=>Hp (fun _=>False) w_0 [] [] (fun u=>RdF F (some ⟨A,0,none⟩) (levC av) u∧LevV av F u)) (fun k=>8-k.1) ⟨0,by omega,fun _ _ h=>absurd h (by omega)⟩ ?_ ?_ (fun k=>?_)
 ·exact .cons V<|.cons V<|.cons V<|.nil
 ·exact fun w h=>Hp.weakX h fun u hu=>hu.1
 obtain⟨k,hk,hno⟩:=k;dsimp only;refine zY<|zY<|zX<|Zm V V<|Zm V V<|ZF V (yM V U178)<|ZF V (xP V V)<|ZT<|zP V (fun hc=>?_) (fun hc=>?_)
 ·replace hc:=of_decide_eq_true hc;have hkl:k<8:=by omega
  obtain⟨x,hx⟩:∃x,levsL[k]? = some x:=⟨levsL[k]'hkl,List.getElem?_eq_getElem hkl⟩;obtain⟨a,ha,hc⟩:=levC_at has hx;have hxl:x.length≤9223372036854775807:=(show ∀x∈levsL,x.length≤9223372036854775807 by decide) x (List.mem_of_getElem? hx);refine zD<|zQ<|zY<|yU<|zY<|Z4r 0 3 4 10 V V V V<|Zm V V<|Zm V V<|Zm V V ?_;(refine ZF rfl (zR (es:=1) rfl rfl U178 (by kernel_rfl) rfl ?_ rfl) ?_;(· first|decide|omega|(simp;done)|(simp;omega));skip);refine ZF V (yQ (v:=.slice a x.length x.length) V U22 V (fun w h=>RdF.part (HpG.x h).1 (List.getElem?_eq_some_iff.1 hc).1 (by omega) hc)) ?_;refine yP .none V  (v:=.bool (decide (s∈x))) (by kernel_rfl) V (fun w hw=>among_any x hxl _ _ _ w ((HpG.x hw).2 k x a hx ha)) ?_;refine Za V V<|ZX<|Z5r 0 3 4 5 10 V V V V V<|Zm V V<|ZT<|zP V (fun he=>?_) (fun he=>?_)
  ·have he:=of_decide_eq_true he;refine zY<|zX<|Zm V V<|Za V V<|ZT<|zL<|zO<|zU<|zU<|zO<|zU<|zH V V (fun w hw=>?_);exact⟨by rw[wG,lev_at hx he],(HpG.keep hw).ext⟩
  ·have he:=of_decide_eq_false he;refine zD<|zI<|zQ<|zX<|Zm V V ?_;(refine ZF rfl (yD rfl rfl (i64_in _ ?_ ?_)) ?_;(· omega);(· omega);skip);refine Za V V<|zV<|xT (ι:={k:Nat // k≤8∧∀(j:Nat) (x:List Bs),j<k→levsL[j]? = some x→s∉x}) ⟨k+1,hkl,fun j y hj hy=>?_⟩ (by show 8-(k+1)<8-k;omega) (O3 V V V) (fun w h=>h);rcases Nat.lt_or_ge j k with h1|h1
   ·exact hno j y h1 hy
   ·have:j=k:=by omega
    subst this;rw[hx] at hy;cases hy;exact he
 ·replace hc:=of_decide_eq_false hc;have hke:k=8:=by omega
  refine xV<|zM<|zM<|xW<|zQ<|zY<|Z4r 0 3 4 10 V V V V<|Za V V<|ZT<|zL<|zH V V (fun w hw=>?_);exact⟨by rw[wG,lev_none fun j x hj=>hno j x (by have:=(List.getElem?_eq_some_iff.1 hj).1;have:levsL.length=8:=rfl;omega) hj],(HpG.keep hw).ext⟩
end Go.Proofs.YtfpkpnkdnammnaaGreatDoor
/- The reference model's expr (well-formed expressions). -/
namespace Go.Proofs.YtfpkpnkdnammnaaGreatDoor
open Go.RowKit
end Go.Proofs.YtfpkpnkdnammnaaGreatDoor
/- The reference model's stmts (well-formed statements). -/
namespace Go.Proofs.YtfpkpnkdnammnaaGreatDoor
open Go.RowKit
theorem rightSt_eq' (x:St):xG x=(okSt x.kind x.name x.exprs.length x.body.length x.els.length&&rightExs x.exprs&&rightSts x.body&&rightSts x.els):=by
 cases x;simp only[xG,St.kind,St.name,St.exprs,St.body,St.els]
end Go.Proofs.YtfpkpnkdnammnaaGreatDoor
/- The reference model's Right. -/
namespace Go.Proofs.YtfpkpnkdnammnaaGreatDoor
open Go.RowKit
end Go.Proofs.YtfpkpnkdnammnaaGreatDoor
