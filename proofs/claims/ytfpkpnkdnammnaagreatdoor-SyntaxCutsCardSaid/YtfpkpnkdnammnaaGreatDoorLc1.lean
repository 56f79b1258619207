import Derived.Test.YtfpkpnkdnammnaaGreatDoorMgl
import Derived.Test.YtfpkpnkdnammnaaGreatDoorMgd
import Derived.Test.YtfpkpnkdnammnaaGreatDoorMgt
import Derived.Test.YtfpkpnkdnammnaaGreatDoorMgx
namespace Go.Proofs.YtfpkpnkdnammnaaGreatDoor
open Go.RowKit
theorem parse_r {fs:List Fn}{off err:Nat}{s:Bs}(h:qT 100000 s=some (fs,off,err)) (hl:s.length≤1000000000000) {w:World}(hv:pX w):Calls Tryz.prog 25 #[.string ⟨s.toArray⟩] w fun e w'=>∃i:Option Addr×Nat,e=.returned (.tuple #[.agg #[.slice i.1 fs.length i.2],.int .i64 off,.int .i64 err])∧Ext w w'∧PgK (fun _=>True) w' fs i.1 i.2 :=
 (qG s (by omega) 100000 (by decide) _ h w hv).mono fun _ _ ⟨A,cap,e1,e2,e3⟩=>⟨(A,cap),e1,e2,PgK.lies.mono (fun _ _=>trivial) e3⟩
set_option maxHeartbeats 4000000 in
set_option maxRecDepth 100000 in
theorem cuts_law (l:List Int) (lA:Option Addr) (lc:Nat) (hl:l.length≤9223372036854775807) (a:Int) {F:Nat→Prop}(w_0:World) (hv:pX w_0) (hT:TbN w_0) (hL:RdF F lA (qC l) w_0) :
  Calls Tryz.prog 11 #[.slice lA l.length lc,.int .i64 a] w_0 fun e w'=>e=.returned (.bool true)∧Ext w_0 w':=by
 have hml:∀f∈wI l,Sml f:=fun f hf=>(made_sml l f hf).1;have hm4:(wI l).length≤4:=(madeL_len l).2;have hpl:=print_zz hml hm4;obtain⟨T,htT⟩:∃T,rJ (xE (wI l))=T:=⟨_,rfl⟩
 have hsN:spN (T.map (·.text))≤6500000000:=by
  have:=rtok_spN _ 0 (xE (wI l)) rfl;rw[← htT];exact Kx this (by omega)
 have hTn:0<T.length∧T.length≤1600000001:=by
  obtain⟨m,h1,h2,_⟩:=rtokL_pos (xE (wI l));rw[htT] at h1;omega
 obtain⟨k,hk,hkl⟩:∃k:Nat,a%(T.length:Int)=k∧k<T.length:=by
  have h1:=Int.emod_nonneg a (show (T.length:Int)≠0 by omega);have h2:=Int.emod_lt_of_pos a (show (0:Int)<T.length by omega);exact⟨(a%(T.length:Int)).toNat,by omega,by omega⟩
 obtain⟨hsl,fs,off,err,hpar,hno,hyes⟩:=cuts_plain l htT hkl;obtain⟨sa,hsa⟩:∃sa,spF 0 ((T.take k).map (·.text)) 0=sa:=⟨_,rfl⟩;rw[hsa] at hsl hpar hyes;have hbl:=brT_le T;refine yV (args:=[.slice lA l.length lc,.int .i64 a]) Tryz.func11 V 81 V (Jn V)<|Z2 0 1 V V<|zD (H':=Hp (fun _=>False) w_0 [] [] (fun _=>True)) (fun u hu=>?_) ?_
 ·subst hu;exact Hp.start0
 refine zY<|zX<|Za V V<|ZX<|zX<|yT .none V  (v:=.bool true) (by kernel_rfl) V (fun w hw=>sanity_any w (hv.ext (Jq hw).ext) (hT.ext (Jq hw).ext)) ?_;refine Za V V<|ZX<|Z4r 0 1 4 5 V V V V<|Zm V V<|wl_callZ .none V  (by kernel_rfl) V (fun w hw=>made_z hl hL (Jq hw).ext) (fun ⟨Ap,cp⟩ v1 hp1 hw1=>?_);refine yT .none V  (v:=.string ⟨(xE (wI l)).toArray⟩) (by kernel_rfl) V (fun w hw=>rprint_sml hml hm4 _ Ap cp w ((HpG.x hw).get PgK.lies hp1)) ?_;refine wl_callZ .none V  (by kernel_rfl) V (fun w hw=>(rtokens_any (xE (wI l)) (by omega) w).mono (fun e w' (h:∃g cap,_)=>show ∃i:Nat×Nat,e=.returned (.slice (some ⟨i.1,0,none⟩) T.length i.2)∧Ext w w'∧(T.length≤i.2∧RdF (fun _=>True) (some ⟨i.1,0,none⟩) (wE T) w') from let ⟨g,cap,e1,e2,e3,e4⟩:=h;⟨(g,cap),by rw[← htT];exact e1,e3,by rw[← htT];exact e2,by rw[← htT];exact RdF.lies.mono (fun _ _=>trivial) e4⟩)) (fun ⟨g,cap⟩ v2 ⟨hcap,ht2⟩ hw2=>?_);have htake:∀j,RdF (fun _=>True) (some ⟨g,0,none⟩) (wE (T.take j)) v2:=fun j=>by rw[rtoksC_take];exact RdF.takeY ht2 _
 refine Za V V<|ZX<|Z5r 0 1 4 5 6 V V V V V<|Zm V V<|Zm V V<|ZF V (yM V U27) ?_
 refine yT .none V  (v:=.int .i64 k) (by kernel_rfl) V (fun w hw=>by
  have h9:=rmod_any a T.length (by omega) (by omega) w;rw[hk] at h9
  exact h9) ?_
 refine Za V V<|ZX<|Z6r 0 1 4 5 6 7 V V V V V V<|Zm V V<|Zm V V<|ZF V (yf_sliceHi (size:=5) V V U27 (by kernel_rfl) V (by (show k≤cap;omega))) ?_
 refine yT .none V  (v:=.string ⟨sa.toArray⟩) (by kernel_rfl) V (fun w hw=>by
  have h9:=spaced_any (T.take k) 0 (by decide) (by decide) (some ⟨g,0,none⟩) cap (Kx (spN_take _ _) (by omega)) w ((HpG.x hw).get RdF.lies (htake k));rw[hsa,Ki,Nat.min_eq_left (by omega)] at h9
  exact h9) ?_
 refine Za V V<|ZX<|Z7r 0 1 4 5 6 7 8 V V V V V V V<|Za V V<|ZX<|zX<|Za V V<|ZX<|zY<|zX<|Za V V<|ZT<|yY<|xV (ι:={j:Nat×Int×Bool // j.1≤k∧brT (0,false) (T.take j.1)=(j.2.1,j.2.2)}) (fun j=>[(5,.bool true),(6,.slice (some ⟨g,0,none⟩) T.length cap),(7,.int .i64 k),(8,.string ⟨sa.toArray⟩),(9,.int .i64 j.1.2.1),(10,.bool j.1.2.2),(11,.int .i64 j.1.1)]) (fun _=>Hp (fun _=>False) w_0 [] [] (wN (fun _=>True) v2)) (fun j=>k-j.1.1) ⟨(0,0,false),Kl _,by rw[List.take_zero];rfl⟩ ?_ ?_ (fun j=>?_)
 ·exact .cons V<|.cons V<|.cons V<|.cons V<|.cons V<|.cons V<|.cons V<|.nil
 ·exact fun w h=>h
 obtain⟨⟨q,o,bb⟩,hi,hbr⟩:=j;dsimp only at hi hbr ⊢;have hbd:=hbl q (by omega);rw[hbr] at hbd;dsimp only at hbd;refine zY<|zY<|zX<|Zm V V<|Zm V V<|ZF V (xS V V)<|ZT<|zT V (fun h30=>?_) (fun h30=>?_)
 ·replace h30:=Jo h30;skip;have hil:q<k:=by omega
  have hqT:q<T.length:=by omega
  obtain⟨tx,htx⟩:∃tx,(vK T q).text=tx:=⟨_,rfl⟩;have htc:=rtok_text hqT;rw[htx] at htc;have hbs:=brT_snoc (0,false) T hqT;rw[hbr,htx] at hbs;refine zG<|zQ<|zY<|yY<|zY<|Z8r 5 6 7 8 9 10 11 30 rfl rfl rfl rfl rfl rfl rfl rfl<|Zm rfl rfl<|Zm rfl rfl<|ZF rfl (zJ (es:=5) rfl rfl U27 (by kernel_rfl) rfl (by first|decide|omega|(simp;done)|(simp;omega)) rfl) ?_;refine ZF V (zZ (off:=1) (sz:=0) V U52 (by kernel_rfl) V) ?_;refine ZF V (yO (v:=.string ⟨tx.toArray⟩) V U9 V (fun u h=>RdF.part ((HpG.x h).get RdF.lies ht2) (Jm.1 htc).1 (by omega) htc)) ?_;refine ZT<|yY<|zY<|Z9r 5 6 7 8 9 10 11 30 37 V V V V V V V V V<|ZF V (xU V V U9)<|Za V V<|ZT<|zT V (fun h38=>?_) (fun h38=>?_)
  ·have h38':tx=kFn:=Jo h38;refine Z10r 5 6 7 8 9 10 11 30 37 38 V V V V V V V V V V<|Za V V<|zU<|zM<|zM<|zQ<|zX<|Zm V V<|ZF V (yI V V (i64_in _ (by omega) (by omega))) ?_;refine Za V V<|zU<|yC (ι:={j:Nat×Int×Bool // j.1≤k∧brT (0,false) (T.take j.1)=(j.2.1,j.2.2)}) ⟨(q+1,o,true),by show q+1≤k;omega,hbs.trans (by unfold brS;rw[Kp h38'])⟩ (by show k-(q+1)<k-q;omega) (O7 V V V V V V V) (fun w h=>h)
  ·have h38':¬tx=kFn:=Jp h38;refine zY<|Z10r 5 6 7 8 9 10 11 30 37 38 V V V V V V V V V V<|ZF V (xU V V U9)<|Za V V<|ZT<|zT V (fun h40=>?_) (fun h40=>?_)
   ·have h40':tx=[123]:=Jo h40;refine Z11r 5 6 7 8 9 10 11 30 37 38 40 V V V V V V V V V V V<|Zm V V<|ZF V (yI V V (i64_in _ (by omega) (by omega))) ?_;refine Za V V<|zU<|zM<|zM<|zQ<|Z11r 5 6 7 8 9 10 11 30 37 38 40 V V V V V V V V V V V<|Zm V V<|ZF V (yI V V (i64_in _ (by omega) (by omega))) ?_;refine Za V V<|zU<|yC (ι:={j:Nat×Int×Bool // j.1≤k∧brT (0,false) (T.take j.1)=(j.2.1,j.2.2)}) ⟨(q+1,o+1,bb),by show q+1≤k;omega,hbs.trans (by unfold brS;rw[Ko h38',Kp h40'])⟩ (by show k-(q+1)<k-q;omega) (O7 V V V V V V V) (fun w h=>h)
   ·have h40':¬tx=[123]:=Jp h40;refine zY<|Z11r 5 6 7 8 9 10 11 30 37 38 40 V V V V V V V V V V V<|ZF V (xU V V U9)<|Za V V<|ZT<|zT V (fun h44=>?_) (fun h44=>?_)
    ·have h44':tx=[125]:=Jo h44;refine zY<|Z12r 5 6 7 8 9 10 11 30 37 38 40 44 V V V V V V V V V V V V<|Zm V V<|ZF V (wG V V (i64_in _ (by omega) (by omega))) ?_;refine Za V V<|ZT<|Z12r 5 6 7 8 9 10 11 30 37 38 40 44 V V V V V V V V V V V V<|Zm V V<|Zm V V<|zH 49 V (fun g17=>?_) (fun g17=>?_)
     ·refine ZG V V V (zO V)<|ZG V V V (wO V V)<|ZF V (zP V V)<|Za V V<|zU<|zM<|zM<|zQ<|Z12r 5 6 7 8 9 10 11 30 37 38 40 44 V V V V V V V V V V V V<|Zm V V<|ZF V (yI V V (i64_in _ (by omega) (by omega))) ?_;refine Za V V<|zU<|yC (ι:={j:Nat×Int×Bool // j.1≤k∧brT (0,false) (T.take j.1)=(j.2.1,j.2.2)}) ⟨(q+1,o-1,decide (0<o-1)),by show q+1≤k;omega,hbs.trans (by subst g17;unfold brS;rw[Ko h38',Ko h40',Kp h44'];rfl)⟩ (by show k-(q+1)<k-q;omega) (O7 V V V V V V V) (fun w h=>h)
     ·refine ZP V<|ZP V<|ZF V (zL V V)<|Za V V<|zU<|zM<|zM<|zQ<|Z12r 5 6 7 8 9 10 11 30 37 38 40 44 V V V V V V V V V V V V<|Zm V V<|ZF V (yI V V (i64_in _ (by omega) (by omega))) ?_;refine Za V V<|zU<|yC (ι:={j:Nat×Int×Bool // j.1≤k∧brT (0,false) (T.take j.1)=(j.2.1,j.2.2)}) ⟨(q+1,o-1,false),by show q+1≤k;omega,hbs.trans (by subst g17;unfold brS;rw[Ko h38',Ko h40',Kp h44'];rfl)⟩ (by show k-(q+1)<k-q;omega) (O7 V V V V V V V) (fun w h=>h)
    ·have h44':¬tx=[125]:=Jp h44;refine zG<|zM<|zM<|zQ<|Z12r 5 6 7 8 9 10 11 30 37 38 40 44 V V V V V V V V V V V V<|Zm V V<|ZF V (yI V V (i64_in _ (by omega) (by omega))) ?_;refine Za V V<|zU<|yC (ι:={j:Nat×Int×Bool // j.1≤k∧brT (0,false) (T.take j.1)=(j.2.1,j.2.2)}) ⟨(q+1,o,bb),by show q+1≤k;omega,hbs.trans (by unfold brS;rw[Ko h38',Ko h40',Ko h44'])⟩ (by show k-(q+1)<k-q;omega) (O7 V V V V V V V) (fun w h=>h)
 ·replace h30:=Jp h30;skip;obtain rfl:q=k:=by omega
  refine xY<|zN<|zN<|xZ<|zQ<|zY<|Z8r 5 6 7 8 9 10 11 30 V V V V V V V V<|Zm V V<|wl_callZ .none V  (by kernel_rfl) V (fun w hw=>parse_r hpar (by omega) (hv.ext (Jq hw).ext)) (fun ⟨Aq,cq⟩ v3 hq3 hw3=>?_);refine Zm V V<|ZF V (xN V V)<|ZF V (xN V V)<|ZF V (xN V V)<|zC .none V (yK (z:=Jb) (cs:=Jh) (by kernel_rfl) V) (fun b12=>?_);refine ZR 0 V V V V V (by kernel_rfl) ?_;refine Za V V<|Za V V<|ZX<|zY<|Z10r 5 6 7 8 9 10 11 13 14 30 V V V V V V V V V V<|Zm V V<|ZF V (xJ V)<|ZT<|zT V (fun h60=>?_) (fun h60=>?_)
  ·obtain⟨rfl,rfl⟩:=hno (by rw[hbr];simpa using h60);refine zY<|Z11r 5 6 7 8 9 10 11 13 14 30 60 V V V V V V V V V V V<|Zm V V<|Zm V V<|zH 62 V (fun g2=>?_) (fun g2=>?_)
   ·refine ZG V V V (zO V)<|ZG V V V (yS V V)<|ZF V (zP V V)<|Zm V V<|zH 66 V (fun g6=>?_) (fun g6=>?_)
    ·replace g6:=Jw g6;refine ZG V V V (zO V)<|ZG V V V (yS V V)<|ZF V (zP V V)<|Za V V<|ZT<|zK<|zV<|zI V V (fun w hw=>?_);exact⟨rfl,(Jq hw).ext⟩
    ·replace g6:=yP g6;exact absurd V g6
   ·cases g2
  ·obtain⟨rfl,rfl⟩:=hyes (by rw[hbr];simpa using h60);refine zG<|zQ<|zY<|Z11r 5 6 7 8 9 10 11 13 14 30 60 V V V V V V V V V V V<|Zm V V<|Zm V V<|zH 71 V (fun u2=>?_) (fun u2=>?_)
   ·refine ZG V V V (zO V)<|ZG V V V (yS V V)<|ZF V (zP V V)<|Zm V V<|zH 75 V (fun u6=>?_) (fun u6=>?_)
    ·replace u6:=Jw u6;refine ZG V V V (zO V)<|ZG V V V (zO V)<|ZG V V V (vL V U9)<|ZG V V V (yS V V)<|ZF V (zP V V)<|Za V V<|ZT<|zK<|zI V V (fun w hw=>?_);exact⟨by simp,(Jq hw).ext⟩
    ·replace u6:=yP u6;exact absurd V u6
   ·cases u2
end Go.Proofs.YtfpkpnkdnammnaaGreatDoor
