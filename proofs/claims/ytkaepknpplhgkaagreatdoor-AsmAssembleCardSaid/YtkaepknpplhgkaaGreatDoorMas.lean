import Derived.Test.YtkaepknpplhgkaaGreatDoorMar
import Derived.Test.YtkaepknpplhgkaaGreatDoorMai
import Derived.Test.YtkaepknpplhgkaaGreatDoorMao
set_option maxRecDepth 100000
set_option maxHeartbeats 2000000
namespace Go.Proofs.YtkaepknpplhgkaaGreatDoor
open Go.RowKit
def qaL:List Bs:=[[97,100,100],[115,117,98],[97,110,100],[111,114],[120,111,114],[115,104,108],[115,104,114],[115,97,114],[109,117,108],[100,105,118,117],[115,108,116,117],[115,108,116]]
def qbL:List Bs:=[[97,100,100,105],[97,110,100,105],[111,114,105],[120,111,114,105],[115,104,108,105],[115,104,114,105],[115,97,114,105],[108,100,119],[108,100,98],[115,116,119],[115,116,98],[106,97,108,114]]
def qcL:List Bs:=[[98,101,113],[98,110,101],[98,108,116,117],[98,103,101,117],[98,108,116],[98,103,101]]
def qdL:List Bs:=[[115,121,115],[98,114,101,97,107],[104,97,108,116],[114,101,116,116],[115,121,110,99],[103,101,116,99],[115,101,116,99]]
def qw1L:Nat→List Bs
 | 0=>List.replicate 64 []
 | k+1=>((qw1L k).set (1+k) (qaL.getD k [])).set (16+k) (qbL.getD k [])
def qw2L:Nat→List Bs
 | 0=>qw1L 12
 | k+1=>(qw2L k).set (32+k) (qcL.getD k [])
def qw3L:Nat→List Bs
 | 0=>qw2L 6
 | k+1=>(qw3L k).set (48+k) (qdL.getD k [])
def qnL:List Bs:=((qw3L 7).set 40 [106,97,108]).set 41 [108,117,105]
theorem qw1L_len:∀k,(qw1L k).length=64
 | 0=>rfl
 | k+1=>by rw[qw1L,List.length_set,List.length_set];exact qw1L_len k
theorem qw2L_len:∀k,(qw2L k).length=64
 | 0=>qw1L_len 12
 | k+1=>by rw[qw2L,List.length_set];exact qw2L_len k
theorem qw3L_len:∀k,(qw3L k).length=64
 | 0=>qw2L_len 6
 | k+1=>by rw[qw3L,List.length_set];exact qw3L_len k
theorem qnL_is:qnL=(List.range 64).map pK:=by kernel_rfl
theorem qnL_at {z:Nat}(h:z<64):qnL[z]? = some (pK z):=by rw[qnL_is,List.getElem?_map,List.getElem?_range h];rfl
abbrev strC (l:List Bs):List Value:=l.map fun x=>.string ⟨x.toArray⟩
theorem nY (l:List Bs) (i:Nat) (x:Bs):(strC l).set i (.string ⟨x.toArray⟩)=strC (l.set i x):=by unfold strC;rw[List.map_set]
theorem strC_one (l:List Bs):((strC l).all fun x=>x.oneCell')=true:=by
 unfold strC;rw[List.all_map];exact List.all_eq_true.2 fun _ _=>rfl
abbrev arQ (l:List Bs):Obj:=bk 156 (strC l)
theorem at_len {l:List Bs}{k:Nat}(h:k<l.length):l[k]? = some (l.getD k []):=by rw[Ku,Kn h];rfl
def qqH (w_0:World) (b12 b11 b10 b9 b1 b0:Nat) (l:List Bs):World→Prop:=Jy w_0 [(b12,uV qdL),(b11,uV qcL),(b10,uV qbL),(b9,uV qaL),(b1,arQ l),(b0,arQ (List.replicate 64 []))] [] (fun _=>True)
theorem rqnames_any (w_0:World):Calls Tryz.prog 88 #[] w_0 fun e w'=>e=.returned (.agg (strC qnL).toArray)∧Ext w_0 w':=by
 refine zN (args:=[]) Tryz.func88 M 56 M (Kh M)<|yJ (.nil)<|Z0<|zX<|zZ<|Zt (z:=.agg (Array.replicate 64 (.string ⟨#[]⟩))) (cs:=Jv) M fun b0=>ZX<|zZ<|Zt (z:=.agg (Array.replicate 64 (.string ⟨#[]⟩))) (cs:=Jv) M (fun b1=>?_)
 refine ZX<|zZ<|zA .none M (tX (z:=Jg) M M M M U59 (by kernel_rfl) (by kernel_rfl) M M) fun b9=>Za M M<|ZX<|Z3r 0 1 2 M<|zA .none M (tX (z:=Jg) M M M M U59 (by kernel_rfl) (by kernel_rfl) M M) fun b10=>Za M M<|ZX<|Z4r 0 1 2 3 M<|zA .none M (tX (z:=Jg) M M M M U59 (by kernel_rfl) (by kernel_rfl) M M) fun b11=>Za M M<|ZX<|Z5r 0 1 2 3 4 M<|zA .none M (tX (z:=Jg) M M M M U59 (by kernel_rfl) (by kernel_rfl) M M) fun b12=>Za M M<|ZX<|zX<|Z6 0 1 2 3 4 5 M<|zG (H':=qqH w_0 b12 b11 b10 b9 b1 b0 (qw1L 0)) Jz<|zZ<|Za M M<|ZT<|zJ<|yF (ι:={k:Nat // k≤12}) (fun k=>[(0,Jx b0),(1,Jx b1),(2,.slice (some ⟨b9,0,none⟩) 12 12),(3,.slice (some ⟨b10,0,none⟩) 12 12),(4,.slice (some ⟨b11,0,none⟩) 6 6),(5,.slice (some ⟨b12,0,none⟩) 7 7),(6,.int .i64 (k.1:Nat))]) (fun k=>qqH w_0 b12 b11 b10 b9 b1 b0 (qw1L k.1)) (fun k=>12-k.1) ⟨0,Ad _⟩ (O7 M) Jz (fun k=>?_);obtain⟨k,hk⟩:=k;dsimp only;have hql:=qw1L_len k;refine zX<|zX<|zZ<|Zm M M<|ZF M (yR M M)<|ZT<|zT M (fun h14=>?_) (fun h14=>?_)
 ·replace h14:=Ki h14;have hk:k<12:=by omega
  have ha:=at_len (l:=qaL) (k:=k) hk;have hb:=at_len (l:=qbL) (k:=k) hk;refine zR<|zV<|zX<|zJ<|zX<|Z8r 0 1 2 3 4 5 6 14 M<|Zm M M<|ZF M (zF M M (show IntKind.i64.wrap (1+((k:Nat):Int))=((1+k:Nat):Int) from i64_in ((1+k:Nat):Int) (by omega) (by omega)))<|Zm M M<|Zm M M<|ZF M (Zi (j:=k) (es:=1) (g:=b9) (o:=0) (len:=12) (cap:=12) M M Tryz.underlying59 M (by omega) M) ?_;refine ZF M (zL M U9 M (fun w hw=>HpG.cell (k:=3) (cs:=strC qaL) hw M (sK ha))) ?_;refine ZF M (Zj (j:=1+k) (es:=1) (len:=64) M M Tryz.underlying156 M (by omega) M) ?_;refine yP .none (wA 4 M M M M ?_ (by kernel_rfl)) (fun _=>?_);rw[Ak,hql];rw[Nat.blt_eq];omega;refine ZT<|Z8 0 1 2 3 4 5 6 14 M ?_
  refine zG (H':=qqH w_0 b12 b11 b10 b9 b1 b0 ((qw1L k).set (1+k) (qaL.getD k []))) (fun w h=>by
   have e:=nY (qw1L k) (0+(1+k)*1) (qaL.getD k []);rw[show 0+(1+k)*1=1+k by omega] at e;unfold qqH arQ;rw[← e];rw[show 0+(1+k)*1=1+k by omega] at h
   exact h) ?_
  refine zZ<|Zm M M<|ZF M (zF M M (show IntKind.i64.wrap (16+((k:Nat):Int))=((16+k:Nat):Int) from i64_in ((16+k:Nat):Int) (by omega) (by omega)))<|Zm M M<|Zm M M<|ZF M (Zi (j:=k) (es:=1) (g:=b10) (o:=0) (len:=12) (cap:=12) M M Tryz.underlying59 M (by omega) M) ?_;refine ZF M (zL M U9 M (fun w hw=>HpG.cell (k:=2) (cs:=strC qbL) hw M (sK hb))) ?_;refine ZF M (Zj (j:=16+k) (es:=1) (len:=64) M M Tryz.underlying156 M (by omega) M) ?_;refine yP .none (wA 4 M M M M ?_ (by kernel_rfl)) (fun _=>?_);rw[Ak,List.length_set,hql];rw[Nat.blt_eq];omega;refine zS<|zH<|zV<|Z8 0 1 2 3 4 5 6 14 M ?_
  refine zG (H':=qqH w_0 b12 b11 b10 b9 b1 b0 (qw1L (k+1))) (fun w h=>by
   have e:=nY ((qw1L k).set (1+k) (qaL.getD k [])) (0+(16+k)*1) (qbL.getD k []);rw[show 0+(16+k)*1=16+k by omega] at e;unfold qqH arQ;rw[qw1L,← e];rw[show 0+(16+k)*1=16+k by omega] at h
   exact h) ?_
  refine zZ<|Zm M M<|ZF M (zF M M (show IntKind.i64.wrap (((k:Nat):Int)+1)=((k+1:Nat):Int) from i64_in ((k+1:Nat):Int) (by omega) (by omega)))<|Za M M<|zS ?_;exact yV (ι:={k:Nat // k≤12}) ⟨k+1,by omega⟩ (by show 12-(k+1)<12-k;omega) (O7 M) Jz
 replace h14:=Kj h14;obtain rfl:k=12:=by omega
 refine yM<|zP<|zP<|yN<|zV<|zX<|zX<|Z8r 0 1 2 3 4 5 6 14 M<|Za M M<|ZT<|zJ<|yF (ι:={k:Nat // k≤6}) (fun k=>[(0,Jx b0),(1,Jx b1),(4,.slice (some ⟨b11,0,none⟩) 6 6),(5,.slice (some ⟨b12,0,none⟩) 7 7),(7,.int .i64 (k.1:Nat))]) (fun k=>qqH w_0 b12 b11 b10 b9 b1 b0 (qw2L k.1)) (fun k=>6-k.1) ⟨0,Ad _⟩ (O5 M) Jz (fun k=>?_);obtain⟨k,hk⟩:=k;dsimp only;have hql:=qw2L_len k;refine zX<|zX<|zZ<|Zm M M<|ZF M (yR M M)<|ZT<|zT M (fun h32=>?_) (fun h32=>?_)
 ·replace h32:=Ki h32;have hk:k<6:=by omega
  have ha:=at_len (l:=qcL) (k:=k) hk;refine zR<|zV<|zX<|zJ<|Z6r 0 1 4 5 7 32 M<|Zm M M<|ZF M (zF M M (show IntKind.i64.wrap (32+((k:Nat):Int))=((32+k:Nat):Int) from i64_in ((32+k:Nat):Int) (by omega) (by omega)))<|Zm M M<|Zm M M<|ZF M (Zi (j:=k) (es:=1) (g:=b11) (o:=0) (len:=6) (cap:=6) M M Tryz.underlying59 M (by omega) M) ?_;refine ZF M (zL M U9 M (fun w hw=>HpG.cell (k:=1) (cs:=strC qcL) hw M (sK ha))) ?_;refine ZF M (Zj (j:=32+k) (es:=1) (len:=64) M M Tryz.underlying156 M (by omega) M) ?_;refine yP .none (wA 4 M M M M ?_ (by kernel_rfl)) (fun _=>?_);rw[Ak,hql];rw[Nat.blt_eq];omega;refine zS<|zH<|zV<|Z6 0 1 4 5 7 32 M ?_
  refine zG (H':=qqH w_0 b12 b11 b10 b9 b1 b0 (qw2L (k+1))) (fun w h=>by
   have e:=nY (qw2L k) (0+(32+k)*1) (qcL.getD k []);rw[show 0+(32+k)*1=32+k by omega] at e;unfold qqH arQ;rw[qw2L,← e];rw[show 0+(32+k)*1=32+k by omega] at h
   exact h) ?_
  refine zZ<|Zm M M<|ZF M (zF M M (show IntKind.i64.wrap (((k:Nat):Int)+1)=((k+1:Nat):Int) from i64_in ((k+1:Nat):Int) (by omega) (by omega)))<|Za M M<|zS ?_;exact yV (ι:={k:Nat // k≤6}) ⟨k+1,by omega⟩ (by show 6-(k+1)<6-k;omega) (O5 M) Jz
 replace h32:=Kj h32;obtain rfl:k=6:=by omega
 refine yM<|zP<|zP<|yN<|zV<|zX<|zX<|Z6r 0 1 4 5 7 32 M<|Za M M<|ZT<|zJ<|yF (ι:={k:Nat // k≤7}) (fun k=>[(0,Jx b0),(1,Jx b1),(5,.slice (some ⟨b12,0,none⟩) 7 7),(8,.int .i64 (k.1:Nat))]) (fun k=>qqH w_0 b12 b11 b10 b9 b1 b0 (qw3L k.1)) (fun k=>7-k.1) ⟨0,Ad _⟩ (O4 M) Jz (fun k=>?_);obtain⟨k,hk⟩:=k;dsimp only;have hql:=qw3L_len k;refine zX<|zX<|zZ<|Zm M M<|ZF M (yR M M)<|ZT<|zT M (fun h43=>?_) (fun h43=>?_)
 ·replace h43:=Ki h43;have hk:k<7:=by omega
  have ha:=at_len (l:=qdL) (k:=k) hk;refine zR<|zV<|zX<|zJ<|Z5r 0 1 5 8 43 M<|Zm M M<|ZF M (zF M M (show IntKind.i64.wrap (48+((k:Nat):Int))=((48+k:Nat):Int) from i64_in ((48+k:Nat):Int) (by omega) (by omega)))<|Zm M M<|Zm M M<|ZF M (Zi (j:=k) (es:=1) (g:=b12) (o:=0) (len:=7) (cap:=7) M M Tryz.underlying59 M (by omega) M) ?_;refine ZF M (zL M U9 M (fun w hw=>HpG.cell (k:=0) (cs:=strC qdL) hw M (sK ha))) ?_;refine ZF M (Zj (j:=48+k) (es:=1) (len:=64) M M Tryz.underlying156 M (by omega) M) ?_;refine yP .none (wA 4 M M M M ?_ (by kernel_rfl)) (fun _=>?_);rw[Ak,hql];rw[Nat.blt_eq];omega;refine zS<|zH<|zV<|Z5 0 1 5 8 43 M ?_
  refine zG (H':=qqH w_0 b12 b11 b10 b9 b1 b0 (qw3L (k+1))) (fun w h=>by
   have e:=nY (qw3L k) (0+(48+k)*1) (qdL.getD k []);rw[show 0+(48+k)*1=48+k by omega] at e;unfold qqH arQ;rw[qw3L,← e];rw[show 0+(48+k)*1=48+k by omega] at h
   exact h) ?_
  refine zZ<|Zm M M<|ZF M (zF M M (show IntKind.i64.wrap (((k:Nat):Int)+1)=((k+1:Nat):Int) from i64_in ((k+1:Nat):Int) (by omega) (by omega)))<|Za M M<|zS ?_;exact yV (ι:={k:Nat // k≤7}) ⟨k+1,by omega⟩ (by show 7-(k+1)<7-k;omega) (O4 M) Jz
 replace h43:=Kj h43;obtain rfl:k=7:=by omega
 refine yM<|zP<|zP<|yN<|zV<|zX<|Z5r 0 1 5 8 43 rfl<|ZF rfl (Zj (j:=40) (es:=1) rfl rfl Tryz.underlying156 rfl (by first|omega|simp<;>omega) rfl) ?_;refine yP .none (wA 4 M M M M ?_ (by kernel_rfl)) (fun _=>?_);rw[Ak,qw3L_len];rfl;refine ZX<|Z5r 0 1 5 8 43 rfl<|ZF rfl (Zj (j:=41) (es:=1) rfl rfl Tryz.underlying156 rfl (by first|omega|simp<;>omega) rfl) ?_;refine yP .none (wA 4 M M M M ?_ (by kernel_rfl)) (fun _=>?_);rw[List.length_set,Ak,qw3L_len];rfl;refine ZX<|Z5 0 1 5 8 43 M ?_
 refine zG (H':=qqH w_0 b12 b11 b10 b9 b1 b0 qnL) (fun w h=>by
  unfold qqH arQ qnL;rw[← nY,← nY]
  exact h) ?_
 refine zZ<|tU .none M  (yf_loadAllL 4 M M Tryz.underlying156 M ?_) ?_
 ·show some 64=some (strC qnL).length;rw[Ak];rfl
 refine yP .none (vG 5 M M M ?_ M (by kernel_rfl)) (fun _=>?_);exact strC_one qnL;refine ZT<|zK<|yS M M 5 M Tryz.underlying156 M (by kernel_rfl) fun w hw=>⟨rfl,(Kk hw).ext⟩
end Go.Proofs.YtkaepknpplhgkaaGreatDoor
namespace Go.Proofs.YtkaepknpplhgkaaGreatDoor
open Go.RowKit
def knR (o:Nat):Bool:=decide (1≤o∧o≤12)||decide (16≤o∧o≤27)||decide (32≤o∧o≤37)||decide (o=40∨o=41)||decide (48≤o∧o≤54)
theorem kn_rng {o:Nat}(h:(wV ((o:Nat):Int)).known=true):(1≤o∧o≤12)∨(16≤o∧o≤27)∨(32≤o∧o≤37)∨(o=40∨o=41)∨(48≤o∧o≤54):=by
 have ho:o<64:=by
  refine Classical.byContradiction fun hh=>?_;rw[pY (by omega)] at h;cases h
 have h1:(List.range 64).all (fun o=>!(wV ((o:Nat):Int)).known||knR o)=true:=by kernel_rfl
 have:=uF h1 o ho;rw[h] at this;unfold knR at this;simp only[Bool.not_true,Bool.false_or,Bool.or_eq_true,Af] at this;omega
theorem shq_ifs (o:Nat):rS o=if o≤12 then [114,114,114] else if 23≤o∧o≤26 then [114,109] else if o<40 then [114,114,118] else if o=48 then [118] else if o=52 then [114] else if 49≤o∧o≤51 then [] else [114,118]:=rfl
theorem e_str {x y:Bs}(h:x=y):Ending.returned (.string ⟨x.toArray⟩)=Ending.returned (.string ⟨y.toArray⟩):=by rw[h]
theorem rshape_any (o:Nat) (hk:(wV ((o:Nat):Int)).known=true) (w_0:World):Calls Tryz.prog 89 #[.int .i64 o] w_0 fun e w'=>e=.returned (.string ⟨(rS o).toArray⟩)∧Ext w_0 w':=by
 have hr:=kn_rng hk;have hs:=shq_ifs o;refine zN (args:=[.int .i64 o]) Tryz.func89 M 45 M (Kh M)<|Z1 0 M<|Z0<|zX<|zZ<|Za M M<|ZX<|zJ<|zB (ι:={z:Bool // z=true↔(1≤o∧o≤12)}) (fun z=>[(0,.int .i64 (o:Nat)),(3,.bool z.1)]) (fun _=>Jy w_0 [] [] (fun _=>True)) ?_ (fun z=>?_)
 ·refine zZ<|Zm M M<|ZF M (yC M M)<|Zm M M<|zQ 6 M (fun hb=>?_) (fun hb=>?_)
  ·replace hb:=Ki hb;refine Zv M<|ZG M M M (xE M M)<|Zh M<|Za M M<|zS ?_;exact zU (ι:={z:Bool // z=true↔(1≤o∧o≤12)}) ⟨decide ((o:Int)≤12),by rw[decide_eq_true_iff];omega⟩ (O2 M) Jz
  replace hb:=Kj hb;refine ZP M<|ZP M<|Zf M<|Za M M<|zS ?_;exact zU (ι:={z:Bool // z=true↔(1≤o∧o≤12)}) ⟨false,by simp;omega⟩ (O2 M) Jz
 obtain⟨z,hz1⟩:=z;dsimp only;refine zT M (fun h3=>?_) (fun h3=>?_)
 ·refine zX<|zZ<|Za M M<|ZT<|zK<|zM<|zW<|yY M M fun w hw=>⟨e_str (by rw[hs,Ah (hz1.1 h3).2]),hw.ext0⟩
 skip;have h3':¬(1≤o∧o≤12):=fun h=>by rw[hz1.2 h] at h3;cases h3
 refine zB (ι:={z:Bool // z=true↔(23≤o∧o≤26)}) (fun z=>[(0,.int .i64 (o:Nat)),(10,.bool z.1)]) (fun _=>Jy w_0 [] [] (fun _=>True)) ?_ (fun z=>?_)
 ·refine zZ<|Zm M M<|ZF M (yC M M)<|Zm M M<|zQ 13 M (fun hb=>?_) (fun hb=>?_)
  ·replace hb:=Ki hb;refine Zv M<|ZG M M M (xE M M)<|Zh M<|Za M M<|zS ?_;exact zU (ι:={z:Bool // z=true↔(23≤o∧o≤26)}) ⟨decide ((o:Int)≤26),by rw[decide_eq_true_iff];omega⟩ (O2 M) Jz
  replace hb:=Kj hb;refine ZP M<|ZP M<|Zf M<|Za M M<|zS ?_;exact zU (ι:={z:Bool // z=true↔(23≤o∧o≤26)}) ⟨false,by simp;omega⟩ (O2 M) Jz
 obtain⟨z,hz3⟩:=z;dsimp only;refine zT M (fun h10=>?_) (fun h10=>?_)
 ·refine zX<|zZ<|Za M M<|ZT<|zK<|zM<|zW<|yY M M fun w hw=>⟨e_str (by rw[hs,Ag (by have:=hz3.1 h10;omega),Ah (hz3.1 h10)]),hw.ext0⟩
 skip;have h10':¬(23≤o∧o≤26):=fun h=>by rw[hz3.2 h] at h10;cases h10
 refine zB (ι:={z:Bool // z=true↔((16≤o∧o≤27)∨(32≤o∧o≤37))}) (fun z=>[(0,.int .i64 (o:Nat)),(17,.bool z.1)]) (fun _=>Jy w_0 [] [] (fun _=>True)) ?_ (fun z=>?_)
 ·refine zZ<|Zm M M<|ZF M (yC M M)<|Zm M M<|zQ 20 M (fun hb=>?_) (fun hb=>?_)
  ·replace hb:=Ki hb;refine Zv M<|ZG M M M (xE M M)<|Zh M<|Zm M M<|zQ 24 M (fun hb=>?_) (fun hb=>?_)
   ·replace hb:=Ki hb;refine ZP M<|ZP M<|ZP M<|zE M M M<|zE M M M<|ZP M<|Zh M<|Za M M<|zS ?_
    first|exact zU (ι:={z:Bool // z=true↔((16≤o∧o≤27)∨(32≤o∧o≤37))}) ⟨true,by simp;omega⟩ (O2 rfl) Jz|exact zU (ι:={z:Bool // z=true↔((16≤o∧o≤27)∨(32≤o∧o≤37))}) ⟨false,by simp;omega⟩ (O2 rfl) Jz|exact zU (ι:={z:Bool // z=true↔((16≤o∧o≤27)∨(32≤o∧o≤37))}) ⟨decide ((o:Int)≤37),by rw[decide_eq_true_iff];omega⟩ (O2 rfl) Jz
   replace hb:=Kj hb;refine Zv M<|ZG M M M (yC M M)<|Zv M<|zQ 27 M (fun hb=>?_) (fun hb=>?_)
   ·replace hb:=Ki hb;refine Zv M<|ZG M M M (xE M M)<|ZG M M M (yA M M)<|Zf M<|Za M M<|zS ?_
    first|exact zU (ι:={z:Bool // z=true↔((16≤o∧o≤27)∨(32≤o∧o≤37))}) ⟨true,by simp;omega⟩ (O2 rfl) Jz|exact zU (ι:={z:Bool // z=true↔((16≤o∧o≤27)∨(32≤o∧o≤37))}) ⟨false,by simp;omega⟩ (O2 rfl) Jz|exact zU (ι:={z:Bool // z=true↔((16≤o∧o≤27)∨(32≤o∧o≤37))}) ⟨decide ((o:Int)≤37),by rw[decide_eq_true_iff];omega⟩ (O2 rfl) Jz
   replace hb:=Kj hb;refine ZP M<|ZP M<|ZG M M M (yD M M)<|Zf M<|Za M M<|zS ?_
   first|exact zU (ι:={z:Bool // z=true↔((16≤o∧o≤27)∨(32≤o∧o≤37))}) ⟨true,by simp;omega⟩ (O2 rfl) Jz|exact zU (ι:={z:Bool // z=true↔((16≤o∧o≤27)∨(32≤o∧o≤37))}) ⟨false,by simp;omega⟩ (O2 rfl) Jz|exact zU (ι:={z:Bool // z=true↔((16≤o∧o≤27)∨(32≤o∧o≤37))}) ⟨decide ((o:Int)≤37),by rw[decide_eq_true_iff];omega⟩ (O2 rfl) Jz
  replace hb:=Kj hb;refine ZP M<|ZP M<|Zf M<|Zm M M<|Zv M<|ZG M M M (yC M M)<|Zv M<|zQ 27 M (fun hb=>?_) (fun hb=>?_)
  ·replace hb:=Ki hb;refine Zv M<|ZG M M M (xE M M)<|ZG M M M (yA M M)<|Zf M<|Za M M<|zS ?_
   first|exact zU (ι:={z:Bool // z=true↔((16≤o∧o≤27)∨(32≤o∧o≤37))}) ⟨true,by simp;omega⟩ (O2 rfl) Jz|exact zU (ι:={z:Bool // z=true↔((16≤o∧o≤27)∨(32≤o∧o≤37))}) ⟨false,by simp;omega⟩ (O2 rfl) Jz|exact zU (ι:={z:Bool // z=true↔((16≤o∧o≤27)∨(32≤o∧o≤37))}) ⟨decide ((o:Int)≤37),by rw[decide_eq_true_iff];omega⟩ (O2 rfl) Jz
  replace hb:=Kj hb;refine ZP M<|ZP M<|ZG M M M (yD M M)<|Zf M<|Za M M<|zS ?_
  first|exact zU (ι:={z:Bool // z=true↔((16≤o∧o≤27)∨(32≤o∧o≤37))}) ⟨true,by simp;omega⟩ (O2 rfl) Jz|exact zU (ι:={z:Bool // z=true↔((16≤o∧o≤27)∨(32≤o∧o≤37))}) ⟨false,by simp;omega⟩ (O2 rfl) Jz|exact zU (ι:={z:Bool // z=true↔((16≤o∧o≤27)∨(32≤o∧o≤37))}) ⟨decide ((o:Int)≤37),by rw[decide_eq_true_iff];omega⟩ (O2 rfl) Jz
 obtain⟨z,hz5⟩:=z;dsimp only;refine zT M (fun h17=>?_) (fun h17=>?_)
 ·refine zX<|zZ<|Za M M<|ZT<|zK<|zM<|zW<|yY M M fun w hw=>⟨e_str (by rw[hs,Ag (by have:=hz5.1 h17;omega),Ag h10',Ah (by have:=hz5.1 h17;omega)]),hw.ext0⟩
 skip;have h17':¬((16≤o∧o≤27)∨(32≤o∧o≤37)):=fun h=>by rw[hz5.2 h] at h17;cases h17
 refine zX<|zZ<|Zm M M<|Ze M<|Za M M<|ZT<|zT M (fun h32=>?_) (fun h32=>?_)
 ·replace h32:=Kq h32;refine zX<|Z3r 0 17 32 M<|Za M M<|ZT<|zK<|zM<|zW<|yY M M fun w hw=>⟨e_str (by rw[hs,Ag (by omega),Ag (by omega),Ag (by omega),Ag (by omega),Ah (by omega)]),hw.ext0⟩
 replace h32:=yT h32;refine zX<|Z3r 0 17 32 M<|Zm M M<|Ze M<|Za M M<|ZT<|zT M (fun h35=>?_) (fun h35=>?_)
 ·replace h35:=Kq h35;refine zX<|Z4r 0 17 32 35 M<|Za M M<|ZT<|zK<|zM<|zW<|yY M M fun w hw=>⟨e_str (by rw[hs,Ag (by omega),Ag (by omega),Ag (by omega),Ah (by omega)]),hw.ext0⟩
 replace h35:=yT h35;refine zB (ι:={z:Bool // z=true↔(49≤o∧o≤51)}) (fun z=>[(0,.int .i64 (o:Nat)),(38,.bool z.1)]) (fun _=>Jy w_0 [] [] (fun _=>True)) ?_ (fun z=>?_)
 ·refine Z4r 0 17 32 35 M<|Zm M M<|ZF M (yC M M)<|Zm M M<|zQ 41 M (fun hb=>?_) (fun hb=>?_)
  ·replace hb:=Ki hb;refine Zv M<|ZG M M M (xE M M)<|Zh M<|Za M M<|zS ?_;exact zU (ι:={z:Bool // z=true↔(49≤o∧o≤51)}) ⟨decide ((o:Int)≤51),by rw[decide_eq_true_iff];omega⟩ (O2 M) Jz
  replace hb:=Kj hb;refine ZP M<|ZP M<|Zf M<|Za M M<|zS ?_;exact zU (ι:={z:Bool // z=true↔(49≤o∧o≤51)}) ⟨false,by simp;omega⟩ (O2 M) Jz
 obtain⟨z,hz11⟩:=z;dsimp only;refine zT M (fun h38=>?_) (fun h38=>?_)
 ·refine zX<|zZ<|Za M M<|ZT<|zK<|zM<|zW<|yY M M fun w hw=>⟨e_str (by rw[hs,Ag (by omega),Ag (by omega),Ag (by omega),Ag (by omega),Ag (by omega),Ah (hz11.1 h38)]),hw.ext0⟩
 skip;have h38':¬(49≤o∧o≤51):=fun h=>by rw[hz11.2 h] at h38;cases h38
 refine zR<|zH<|zV<|zX<|zZ<|Za M M<|ZU M M fun w hw=>⟨e_str (by rw[hs,Ag (by omega),Ag (by omega),Ag (by omega),Ag (by omega),Ag (by omega),Ag h38']),hw.ext0⟩
end Go.Proofs.YtkaepknpplhgkaaGreatDoor
