import Derived.Test.YtkaepknpplhgkaaGreatDoorMar
import Derived.Test.YtkaepknpplhgkaaGreatDoorMai
import Derived.Test.YtkaepknpplhgkaaGreatDoorMao
set_option maxRecDepth 100000
set_option maxHeartbeats 4000000
namespace Go.Proofs.YtkaepknpplhgkaaGreatDoor
open Go.RowKit
def qaL:List Bs:=[[97,100,100],[115,117,98],[97,110,100],[111,114],[120,111,114],[115,104,108],[115,104,114],[115,97,114],[109,117,108],[100,105,118,117],[115,108,116,117],[115,108,116]]
def qbL:List Bs:=[[97,100,100,105],[97,110,100,105],[111,114,105],[120,111,114,105],[115,104,108,105],[115,104,114,105],[115,97,114,105],[108,100,119],[108,100,98],[115,116,119],[115,116,98],[106,97,108,114]]
def qcL:List Bs:=[[98,101,113],[98,110,101],[98,108,116,117],[98,103,101,117],[98,108,116],[98,103,101]]
def qdL:List Bs:=[[115,121,115],[98,114,101,97,107],[104,97,108,116],[114,101,116,116],[115,121,110,99],[103,101,116,99],[115,101,116,99]]
def qw1L:Nat→List Bs
 | 0=>List.replicate 64 []
 | k+1=>((qw1L k).set (1+k) (qaL.getD k [])).set (16+k) (qbL.getD k [])
def qw2L:Nat→List Bs
 | 0=>qw1L 12
 | k+1=>(qw2L k).set (32+k) (qcL.getD k [])
def qw3L:Nat→List Bs
 | 0=>qw2L 6
 | k+1=>(qw3L k).set (48+k) (qdL.getD k [])
def qnL:List Bs:=((qw3L 7).set 40 [106,97,108]).set 41 [108,117,105]
theorem qw1L_len:∀k,(qw1L k).length=64
 | 0=>rfl
 | k+1=>by rw[qw1L,List.length_set,List.length_set];exact qw1L_len k
theorem qw2L_len:∀k,(qw2L k).length=64
 | 0=>qw1L_len 12
 | k+1=>by rw[qw2L,List.length_set];exact qw2L_len k
theorem qw3L_len:∀k,(qw3L k).length=64
 | 0=>qw2L_len 6
 | k+1=>by rw[qw3L,List.length_set];exact qw3L_len k
theorem qnL_is:qnL=(List.range 64).map wX:=by kernel_rfl
theorem qnL_at {z:Nat}(h:z<64):qnL[z]? = some (wX z):=by rw[qnL_is,List.getElem?_map,List.getElem?_range h];rfl
abbrev strC (l:List Bs):List Value:=l.map fun x=>.string ⟨x.toArray⟩
theorem qN (l:List Bs) (i:Nat) (x:Bs):(strC l).set i (.string ⟨x.toArray⟩)=strC (l.set i x):=by unfold strC;rw[List.map_set]
theorem strC_one (l:List Bs):((strC l).all fun x=>x.oneCell')=true:=by
 unfold strC;rw[List.all_map];exact List.all_eq_true.2 fun _ _=>rfl
abbrev arQ (l:List Bs):Obj:=bk 156 (strC l)
theorem at_len {l:List Bs}{k:Nat}(h:k<l.length):l[k]? = some (l.getD k []):=by rw[Km,Kf h];rfl
def qqH (w_0:World) (b12 b11 b10 b9 b1 b0:Nat) (l:List Bs):World→Prop:=Hp (fun _=>False) w_0 [(b12,vN qdL),(b11,vN qcL),(b10,vN qbL),(b9,vN qaL),(b1,arQ l),(b0,arQ (List.replicate 64 []))] [] (fun _=>True)
theorem rqnames_any (w_0:World):Calls Tryz.prog 88 #[] w_0 fun e w'=>e=.returned (.agg (strC qnL).toArray)∧Ext w_0 w':=by
 refine zM (args:=[]) Tryz.func88 M 56 M (Jy M)<|yH (.nil)<|zU (H':=Hp (fun _=>False) w_0 [] [] (fun _=>True)) (fun u hu=>?_) ?_
 ·subst hu;exact Hp.start0
 refine zX<|zZ<|zG .none M (yT (z:=.agg #[.string ⟨#[]⟩,.string ⟨#[]⟩,.string ⟨#[]⟩,.string ⟨#[]⟩,.string ⟨#[]⟩,.string ⟨#[]⟩,.string ⟨#[]⟩,.string ⟨#[]⟩,.string ⟨#[]⟩,.string ⟨#[]⟩,.string ⟨#[]⟩,.string ⟨#[]⟩,.string ⟨#[]⟩,.string ⟨#[]⟩,.string ⟨#[]⟩,.string ⟨#[]⟩,.string ⟨#[]⟩,.string ⟨#[]⟩,.string ⟨#[]⟩,.string ⟨#[]⟩,.string ⟨#[]⟩,.string ⟨#[]⟩,.string ⟨#[]⟩,.string ⟨#[]⟩,.string ⟨#[]⟩,.string ⟨#[]⟩,.string ⟨#[]⟩,.string ⟨#[]⟩,.string ⟨#[]⟩,.string ⟨#[]⟩,.string ⟨#[]⟩,.string ⟨#[]⟩,.string ⟨#[]⟩,.string ⟨#[]⟩,.string ⟨#[]⟩,.string ⟨#[]⟩,.string ⟨#[]⟩,.string ⟨#[]⟩,.string ⟨#[]⟩,.string ⟨#[]⟩,.string ⟨#[]⟩,.string ⟨#[]⟩,.string ⟨#[]⟩,.string ⟨#[]⟩,.string ⟨#[]⟩,.string ⟨#[]⟩,.string ⟨#[]⟩,.string ⟨#[]⟩,.string ⟨#[]⟩,.string ⟨#[]⟩,.string ⟨#[]⟩,.string ⟨#[]⟩,.string ⟨#[]⟩,.string ⟨#[]⟩,.string ⟨#[]⟩,.string ⟨#[]⟩,.string ⟨#[]⟩,.string ⟨#[]⟩,.string ⟨#[]⟩,.string ⟨#[]⟩,.string ⟨#[]⟩,.string ⟨#[]⟩,.string ⟨#[]⟩,.string ⟨#[]⟩]) (cs:=Js) (by kernel_rfl) M) (fun b0=>?_);refine ZX<|zZ<|zG .none M (yT (z:=.agg #[.string ⟨#[]⟩,.string ⟨#[]⟩,.string ⟨#[]⟩,.string ⟨#[]⟩,.string ⟨#[]⟩,.string ⟨#[]⟩,.string ⟨#[]⟩,.string ⟨#[]⟩,.string ⟨#[]⟩,.string ⟨#[]⟩,.string ⟨#[]⟩,.string ⟨#[]⟩,.string ⟨#[]⟩,.string ⟨#[]⟩,.string ⟨#[]⟩,.string ⟨#[]⟩,.string ⟨#[]⟩,.string ⟨#[]⟩,.string ⟨#[]⟩,.string ⟨#[]⟩,.string ⟨#[]⟩,.string ⟨#[]⟩,.string ⟨#[]⟩,.string ⟨#[]⟩,.string ⟨#[]⟩,.string ⟨#[]⟩,.string ⟨#[]⟩,.string ⟨#[]⟩,.string ⟨#[]⟩,.string ⟨#[]⟩,.string ⟨#[]⟩,.string ⟨#[]⟩,.string ⟨#[]⟩,.string ⟨#[]⟩,.string ⟨#[]⟩,.string ⟨#[]⟩,.string ⟨#[]⟩,.string ⟨#[]⟩,.string ⟨#[]⟩,.string ⟨#[]⟩,.string ⟨#[]⟩,.string ⟨#[]⟩,.string ⟨#[]⟩,.string ⟨#[]⟩,.string ⟨#[]⟩,.string ⟨#[]⟩,.string ⟨#[]⟩,.string ⟨#[]⟩,.string ⟨#[]⟩,.string ⟨#[]⟩,.string ⟨#[]⟩,.string ⟨#[]⟩,.string ⟨#[]⟩,.string ⟨#[]⟩,.string ⟨#[]⟩,.string ⟨#[]⟩,.string ⟨#[]⟩,.string ⟨#[]⟩,.string ⟨#[]⟩,.string ⟨#[]⟩,.string ⟨#[]⟩,.string ⟨#[]⟩,.string ⟨#[]⟩,.string ⟨#[]⟩]) (cs:=Js) (by kernel_rfl) M) (fun b1=>?_)
 refine ZX<|zZ<|zG .none M (tQ (z:=Jg) M M M M Tryz.underlying59 (by kernel_rfl) (by kernel_rfl) M M) (fun b9=>?_);refine Za M M<|ZX<|Z3r 0 1 2 M M M<|zG .none M (tQ (z:=Jg) M M M M Tryz.underlying59 (by kernel_rfl) (by kernel_rfl) M M) (fun b10=>?_);refine Za M M<|ZX<|Z4r 0 1 2 3 M M M M<|zG .none M (tQ (z:=Jg) M M M M Tryz.underlying59 (by kernel_rfl) (by kernel_rfl) M M) (fun b11=>?_);refine Za M M<|ZX<|Z5r 0 1 2 3 4 M M M M M<|zG .none M (tQ (z:=Jg) M M M M Tryz.underlying59 (by kernel_rfl) (by kernel_rfl) M M) (fun b12=>?_);refine Za M M<|ZX<|zX<|Z6 0 1 2 3 4 5 M M M M M M<|zU (H':=qqH w_0 b12 b11 b10 b9 b1 b0 (qw1L 0)) (fun w h=>h) ?_;refine zZ<|Za M M<|ZT<|yZ<|xQ (ι:={k:Nat // k≤12}) (fun k=>[(0,.pointer (some ⟨b0,0,none⟩)),(1,.pointer (some ⟨b1,0,none⟩)),(2,.slice (some ⟨b9,0,none⟩) 12 12),(3,.slice (some ⟨b10,0,none⟩) 12 12),(4,.slice (some ⟨b11,0,none⟩) 6 6),(5,.slice (some ⟨b12,0,none⟩) 7 7),(6,.int .i64 (k.1:Nat))]) (fun k=>qqH w_0 b12 b11 b10 b9 b1 b0 (qw1L k.1)) (fun k=>12-k.1) ⟨0,Kv _⟩ (O7 M M M M M M M) (fun w h=>h) (fun k=>?_);obtain⟨k,hk⟩:=k;dsimp only;have hql:=qw1L_len k;refine zX<|zX<|zZ<|Zm M M<|ZF M (xT M M)<|ZT<|zT M (fun h14=>?_) (fun h14=>?_)
 ·replace h14:=Jz h14;have hk:k<12:=by omega
  have ha:=at_len (l:=qaL) (k:=k) hk;have hb:=at_len (l:=qbL) (k:=k) hk;refine zH<|zR<|zX<|yZ<|zX<|Z8r 0 1 2 3 4 5 6 14 M M M M M M M M<|Zm M M<|ZF M (yP M M (show IntKind.i64.wrap (1+((k:Nat):Int))=((1+k:Nat):Int) from i64_in ((1+k:Nat):Int) (by omega) (by omega))) ?_;refine Zm M M<|Zm M M<|ZF M (zC (j:=k) (es:=1) (g:=b9) (o:=0) (len:=12) (cap:=12) M M Tryz.underlying59 (by kernel_rfl) M (by omega) M) ?_;refine ZF M (zD M Tryz.underlying9 M (fun w hw=>HpG.cell (k:=3) (cs:=strC qaL) hw M (sW ha))) ?_;refine ZF M (yB (j:=1+k) (es:=1) (len:=64) M M Tryz.underlying156 (by kernel_rfl) M (by omega) M) ?_;refine yO .none (wS 4 M M M M ?_ (by kernel_rfl)) (fun _=>?_)
  ·rw[Ab,hql];rw[Nat.blt_eq];omega
  refine ZT<|Z8 0 1 2 3 4 5 6 14 M M M M M M M M ?_
  refine zU (H':=qqH w_0 b12 b11 b10 b9 b1 b0 ((qw1L k).set (1+k) (qaL.getD k []))) (fun w h=>by
   have e:=qN (qw1L k) (0+(1+k)*1) (qaL.getD k []);rw[show 0+(1+k)*1=1+k by omega] at e;unfold qqH arQ;rw[← e];rw[show 0+(1+k)*1=1+k by omega] at h
   exact h) ?_
  refine zZ<|Zm M M<|ZF M (yP M M (show IntKind.i64.wrap (16+((k:Nat):Int))=((16+k:Nat):Int) from i64_in ((16+k:Nat):Int) (by omega) (by omega))) ?_;refine Zm M M<|Zm M M<|ZF M (zC (j:=k) (es:=1) (g:=b10) (o:=0) (len:=12) (cap:=12) M M Tryz.underlying59 (by kernel_rfl) M (by omega) M) ?_;refine ZF M (zD M Tryz.underlying9 M (fun w hw=>HpG.cell (k:=2) (cs:=strC qbL) hw M (sW hb))) ?_;refine ZF M (yB (j:=16+k) (es:=1) (len:=64) M M Tryz.underlying156 (by kernel_rfl) M (by omega) M) ?_;refine yO .none (wS 4 M M M M ?_ (by kernel_rfl)) (fun _=>?_)
  ·rw[Ab,List.length_set,hql];rw[Nat.blt_eq];omega
  refine zK<|zA<|zR<|Z8 0 1 2 3 4 5 6 14 M M M M M M M M ?_
  refine zU (H':=qqH w_0 b12 b11 b10 b9 b1 b0 (qw1L (k+1))) (fun w h=>by
   have e:=qN ((qw1L k).set (1+k) (qaL.getD k [])) (0+(16+k)*1) (qbL.getD k []);rw[show 0+(16+k)*1=16+k by omega] at e;unfold qqH arQ;rw[qw1L,← e];rw[show 0+(16+k)*1=16+k by omega] at h
   exact h) ?_
  refine zZ<|Zm M M<|ZF M (yP M M (show IntKind.i64.wrap (((k:Nat):Int)+1)=((k+1:Nat):Int) from i64_in ((k+1:Nat):Int) (by omega) (by omega))) ?_;exact Za M M<|zK<|yM (ι:={k:Nat // k≤12}) ⟨k+1,by omega⟩ (by show 12-(k+1)<12-k;omega) (O7 M M M M M M M) (fun w h=>h)
 ·replace h14:=Ka h14;obtain rfl:k=12:=by omega
  refine xV<|zI<|zI<|xW<|zR<|zX<|zX<|Z8r 0 1 2 3 4 5 6 14 M M M M M M M M<|Za M M<|ZT<|yZ<|xQ (ι:={k:Nat // k≤6}) (fun k=>[(0,.pointer (some ⟨b0,0,none⟩)),(1,.pointer (some ⟨b1,0,none⟩)),(4,.slice (some ⟨b11,0,none⟩) 6 6),(5,.slice (some ⟨b12,0,none⟩) 7 7),(7,.int .i64 (k.1:Nat))]) (fun k=>qqH w_0 b12 b11 b10 b9 b1 b0 (qw2L k.1)) (fun k=>6-k.1) ⟨0,Kv _⟩ (O5 M M M M M) (fun w h=>h) (fun k=>?_);obtain⟨k,hk⟩:=k;dsimp only;have hql:=qw2L_len k;refine zX<|zX<|zZ<|Zm M M<|ZF M (xT M M)<|ZT<|zT M (fun h32=>?_) (fun h32=>?_)
  ·replace h32:=Jz h32;have hk:k<6:=by omega
   have ha:=at_len (l:=qcL) (k:=k) hk;refine zH<|zR<|zX<|yZ<|Z6r 0 1 4 5 7 32 M M M M M M<|Zm M M<|ZF M (yP M M (show IntKind.i64.wrap (32+((k:Nat):Int))=((32+k:Nat):Int) from i64_in ((32+k:Nat):Int) (by omega) (by omega))) ?_;refine Zm M M<|Zm M M<|ZF M (zC (j:=k) (es:=1) (g:=b11) (o:=0) (len:=6) (cap:=6) M M Tryz.underlying59 (by kernel_rfl) M (by omega) M) ?_;refine ZF M (zD M Tryz.underlying9 M (fun w hw=>HpG.cell (k:=1) (cs:=strC qcL) hw M (sW ha))) ?_;refine ZF M (yB (j:=32+k) (es:=1) (len:=64) M M Tryz.underlying156 (by kernel_rfl) M (by omega) M) ?_;refine yO .none (wS 4 M M M M ?_ (by kernel_rfl)) (fun _=>?_)
   ·rw[Ab,hql];rw[Nat.blt_eq];omega
   refine zK<|zA<|zR<|Z6 0 1 4 5 7 32 M M M M M M ?_
   refine zU (H':=qqH w_0 b12 b11 b10 b9 b1 b0 (qw2L (k+1))) (fun w h=>by
    have e:=qN (qw2L k) (0+(32+k)*1) (qcL.getD k []);rw[show 0+(32+k)*1=32+k by omega] at e;unfold qqH arQ;rw[qw2L,← e];rw[show 0+(32+k)*1=32+k by omega] at h
    exact h) ?_
   refine zZ<|Zm M M<|ZF M (yP M M (show IntKind.i64.wrap (((k:Nat):Int)+1)=((k+1:Nat):Int) from i64_in ((k+1:Nat):Int) (by omega) (by omega))) ?_;exact Za M M<|zK<|yM (ι:={k:Nat // k≤6}) ⟨k+1,by omega⟩ (by show 6-(k+1)<6-k;omega) (O5 M M M M M) (fun w h=>h)
  ·replace h32:=Ka h32;obtain rfl:k=6:=by omega
   refine xV<|zI<|zI<|xW<|zR<|zX<|zX<|Z6r 0 1 4 5 7 32 M M M M M M<|Za M M<|ZT<|yZ<|xQ (ι:={k:Nat // k≤7}) (fun k=>[(0,.pointer (some ⟨b0,0,none⟩)),(1,.pointer (some ⟨b1,0,none⟩)),(5,.slice (some ⟨b12,0,none⟩) 7 7),(8,.int .i64 (k.1:Nat))]) (fun k=>qqH w_0 b12 b11 b10 b9 b1 b0 (qw3L k.1)) (fun k=>7-k.1) ⟨0,Kv _⟩ (O4 M M M M) (fun w h=>h) (fun k=>?_);obtain⟨k,hk⟩:=k;dsimp only;have hql:=qw3L_len k;refine zX<|zX<|zZ<|Zm M M<|ZF M (xT M M)<|ZT<|zT M (fun h43=>?_) (fun h43=>?_)
   ·replace h43:=Jz h43;have hk:k<7:=by omega
    have ha:=at_len (l:=qdL) (k:=k) hk;refine zH<|zR<|zX<|yZ<|Z5r 0 1 5 8 43 M M M M M<|Zm M M<|ZF M (yP M M (show IntKind.i64.wrap (48+((k:Nat):Int))=((48+k:Nat):Int) from i64_in ((48+k:Nat):Int) (by omega) (by omega))) ?_;refine Zm M M<|Zm M M<|ZF M (zC (j:=k) (es:=1) (g:=b12) (o:=0) (len:=7) (cap:=7) M M Tryz.underlying59 (by kernel_rfl) M (by omega) M) ?_;refine ZF M (zD M Tryz.underlying9 M (fun w hw=>HpG.cell (k:=0) (cs:=strC qdL) hw M (sW ha))) ?_;refine ZF M (yB (j:=48+k) (es:=1) (len:=64) M M Tryz.underlying156 (by kernel_rfl) M (by omega) M) ?_;refine yO .none (wS 4 M M M M ?_ (by kernel_rfl)) (fun _=>?_)
    ·rw[Ab,hql];rw[Nat.blt_eq];omega
    refine zK<|zA<|zR<|Z5 0 1 5 8 43 M M M M M ?_
    refine zU (H':=qqH w_0 b12 b11 b10 b9 b1 b0 (qw3L (k+1))) (fun w h=>by
     have e:=qN (qw3L k) (0+(48+k)*1) (qdL.getD k []);rw[show 0+(48+k)*1=48+k by omega] at e;unfold qqH arQ;rw[qw3L,← e];rw[show 0+(48+k)*1=48+k by omega] at h
     exact h) ?_
    refine zZ<|Zm M M<|ZF M (yP M M (show IntKind.i64.wrap (((k:Nat):Int)+1)=((k+1:Nat):Int) from i64_in ((k+1:Nat):Int) (by omega) (by omega))) ?_;exact Za M M<|zK<|yM (ι:={k:Nat // k≤7}) ⟨k+1,by omega⟩ (by show 7-(k+1)<7-k;omega) (O4 M M M M) (fun w h=>h)
   ·replace h43:=Ka h43;obtain rfl:k=7:=by omega
    refine xV<|zI<|zI<|xW<|zR<|zX<|Z5r 0 1 5 8 43 rfl rfl rfl rfl rfl<|ZF rfl (yB (j:=40) (es:=1) rfl rfl Tryz.underlying156 (by kernel_rfl) rfl (by first|decide|omega|(simp;done)|(simp;omega)) rfl) ?_;refine yO .none (wS 4 M M M M ?_ (by kernel_rfl)) (fun _=>?_)
    ·rw[Ab,qw3L_len];rfl
    refine ZX<|Z5r 0 1 5 8 43 rfl rfl rfl rfl rfl<|ZF rfl (yB (j:=41) (es:=1) rfl rfl Tryz.underlying156 (by kernel_rfl) rfl (by first|decide|omega|(simp;done)|(simp;omega)) rfl) ?_;refine yO .none (wS 4 M M M M ?_ (by kernel_rfl)) (fun _=>?_)
    ·rw[List.length_set,Ab,qw3L_len];rfl
    refine ZX<|Z5 0 1 5 8 43 M M M M M ?_
    refine zU (H':=qqH w_0 b12 b11 b10 b9 b1 b0 qnL) (fun w h=>by
     unfold qqH arQ qnL;rw[← qN,← qN]
     exact h) ?_
    refine zZ<|sY .none M  (yS 4 M M Tryz.underlying156 M ?_) ?_
    ·show some 64=some (strC qnL).length;rw[Ab];rfl
    refine yO .none (qZ 5 M M M ?_ M (by kernel_rfl)) (fun _=>?_)
    ·exact strC_one qnL
    refine ZT<|zS<|xO M M 5 M Tryz.underlying156 M (by kernel_rfl) (fun w hw=>?_);exact⟨rfl,(Kb hw).ext⟩
end Go.Proofs.YtkaepknpplhgkaaGreatDoor
namespace Go.Proofs.YtkaepknpplhgkaaGreatDoor
open Go.RowKit
def knR (o:Nat):Bool:=decide (1≤o∧o≤12)||decide (16≤o∧o≤27)||decide (32≤o∧o≤37)||decide (o=40∨o=41)||decide (48≤o∧o≤54)
theorem kn_rng {o:Nat}(h:(xN ((o:Nat):Int)).known=true):(1≤o∧o≤12)∨(16≤o∧o≤27)∨(32≤o∧o≤37)∨(o=40∨o=41)∨(48≤o∧o≤54):=by
 have ho:o<64:=by
  refine Classical.byContradiction fun hh=>?_;rw[rU (by omega)] at h;cases h
 have h1:(List.range 64).all (fun o=>!(xN ((o:Nat):Int)).known||knR o)=true:=by kernel_rfl
 have:=tC h1 o ho;rw[h] at this;unfold knR at this;simp only[Bool.not_true,Bool.false_or,Bool.or_eq_true,Kx] at this;omega
theorem shq_ifs (o:Nat):wY o=if o≤12 then [114,114,114] else if 23≤o∧o≤26 then [114,109] else if o<40 then [114,114,118] else if o=48 then [118] else if o=52 then [114] else if 49≤o∧o≤51 then [] else [114,118]:=rfl
theorem rN {x y:Bs}(h:x=y):Ending.returned (.string ⟨x.toArray⟩)=Ending.returned (.string ⟨y.toArray⟩):=by rw[h]
theorem rshape_any (o:Nat) (hk:(xN ((o:Nat):Int)).known=true) (w_0:World):Calls Tryz.prog 89 #[.int .i64 o] w_0 fun e w'=>e=.returned (.string ⟨(wY o).toArray⟩)∧Ext w_0 w':=by
 have hr:=kn_rng hk;have hs:=shq_ifs o;refine zM (args:=[.int .i64 o]) Tryz.func89 M 45 M (Jy M)<|Z1 0 M<|zU (H':=Hp (fun _=>False) w_0 [] [] (fun _=>True)) (fun u hu=>?_) ?_
 ·subst hu;exact Hp.start0
 refine zX<|zZ<|Za M M<|ZX<|yZ<|yE (ι:={z:Bool // z=true↔(1≤o∧o≤12)}) (fun z=>[(0,.int .i64 (o:Nat)),(3,.bool z.1)]) (fun _=>Hp (fun _=>False) w_0 [] [] (fun _=>True)) ?_ (fun z=>?_)
 ·refine zZ<|Zm M M<|ZF M (xJ M M)<|Zm M M<|zF 6 M (fun hb=>?_) (fun hb=>?_)
  ·replace hb:=Jz hb;exact ZG M M M (zJ M)<|ZG M M M (wQ M M)<|ZF M (zL M M)<|Za M M<|zK<|zP (ι:={z:Bool // z=true↔(1≤o∧o≤12)}) ⟨decide ((o:Int)≤12),by rw[decide_eq_true_iff];omega⟩ (O2 M M) (fun w h=>h)
  ·replace hb:=Ka hb;exact ZP M<|ZP M<|ZF M (zN M M)<|Za M M<|zK<|zP (ι:={z:Bool // z=true↔(1≤o∧o≤12)}) ⟨false,by simp;omega⟩ (O2 M M) (fun w h=>h)
 ·obtain⟨z,hz1⟩:=z;dsimp only;refine zT M (fun h3=>?_) (fun h3=>?_)
  ·refine zX<|zZ<|Za M M<|ZT<|zS<|yY<|zO<|zQ M M (fun w hw=>?_);exact⟨rN (by rw[hs,Kz (hz1.1 h3).2]),hw.ext0⟩
  ·have h3':¬(1≤o∧o≤12):=fun h=>by rw[hz1.2 h] at h3;cases h3
   refine yE (ι:={z:Bool // z=true↔(23≤o∧o≤26)}) (fun z=>[(0,.int .i64 (o:Nat)),(10,.bool z.1)]) (fun _=>Hp (fun _=>False) w_0 [] [] (fun _=>True)) ?_ (fun z=>?_)
   ·refine zZ<|Zm M M<|ZF M (xJ M M)<|Zm M M<|zF 13 M (fun hb=>?_) (fun hb=>?_)
    ·replace hb:=Jz hb;exact ZG M M M (zJ M)<|ZG M M M (wQ M M)<|ZF M (zL M M)<|Za M M<|zK<|zP (ι:={z:Bool // z=true↔(23≤o∧o≤26)}) ⟨decide ((o:Int)≤26),by rw[decide_eq_true_iff];omega⟩ (O2 M M) (fun w h=>h)
    ·replace hb:=Ka hb;exact ZP M<|ZP M<|ZF M (zN M M)<|Za M M<|zK<|zP (ι:={z:Bool // z=true↔(23≤o∧o≤26)}) ⟨false,by simp;omega⟩ (O2 M M) (fun w h=>h)
   ·obtain⟨z,hz3⟩:=z;dsimp only;refine zT M (fun h10=>?_) (fun h10=>?_)
    ·refine zX<|zZ<|Za M M<|ZT<|zS<|yY<|zO<|zQ M M (fun w hw=>?_);exact⟨rN (by rw[hs,Ky (by have:=hz3.1 h10;omega),Kz (hz3.1 h10)]),hw.ext0⟩
    ·have h10':¬(23≤o∧o≤26):=fun h=>by rw[hz3.2 h] at h10;cases h10
     refine yE (ι:={z:Bool // z=true↔((16≤o∧o≤27)∨(32≤o∧o≤37))}) (fun z=>[(0,.int .i64 (o:Nat)),(17,.bool z.1)]) (fun _=>Hp (fun _=>False) w_0 [] [] (fun _=>True)) ?_ (fun z=>?_)
     ·refine zZ<|Zm M M<|ZF M (xJ M M)<|Zm M M<|zF 20 M (fun hb=>?_) (fun hb=>?_)
      ·replace hb:=Jz hb;refine ZG M M M (zJ M)<|ZG M M M (wQ M M)<|ZF M (zL M M)<|Zm M M<|zF 24 M (fun hb=>?_) (fun hb=>?_)
       ·replace hb:=Jz hb;refine ZP M<|ZP M<|ZP M<|xM M M M<|xM M M M<|ZP M<|ZF M (zL M M)<|Za M M<|zK ?_
        first|exact zP (ι:={z:Bool // z=true↔((16≤o∧o≤27)∨(32≤o∧o≤37))}) ⟨true,by simp;omega⟩ (O2 rfl rfl) (fun w h=>h)|exact zP (ι:={z:Bool // z=true↔((16≤o∧o≤27)∨(32≤o∧o≤37))}) ⟨false,by simp;omega⟩ (O2 rfl rfl) (fun w h=>h)|exact zP (ι:={z:Bool // z=true↔((16≤o∧o≤27)∨(32≤o∧o≤37))}) ⟨decide ((o:Int)≤37),by rw[decide_eq_true_iff];omega⟩ (O2 rfl rfl) (fun w h=>h)
       ·replace hb:=Ka hb;refine ZG M M M (zJ M)<|ZG M M M (xJ M M)<|ZG M M M (zJ M)<|zF 27 M (fun hb=>?_) (fun hb=>?_)
        ·replace hb:=Jz hb;refine ZG M M M (zJ M)<|ZG M M M (wQ M M)<|ZG M M M (zL M M)<|ZF M (zN M M)<|Za M M<|zK ?_
         first|exact zP (ι:={z:Bool // z=true↔((16≤o∧o≤27)∨(32≤o∧o≤37))}) ⟨true,by simp;omega⟩ (O2 rfl rfl) (fun w h=>h)|exact zP (ι:={z:Bool // z=true↔((16≤o∧o≤27)∨(32≤o∧o≤37))}) ⟨false,by simp;omega⟩ (O2 rfl rfl) (fun w h=>h)|exact zP (ι:={z:Bool // z=true↔((16≤o∧o≤27)∨(32≤o∧o≤37))}) ⟨decide ((o:Int)≤37),by rw[decide_eq_true_iff];omega⟩ (O2 rfl rfl) (fun w h=>h)
        ·replace hb:=Ka hb;refine ZP M<|ZP M<|ZG M M M (zN M M)<|ZF M (zN M M)<|Za M M<|zK ?_
         first|exact zP (ι:={z:Bool // z=true↔((16≤o∧o≤27)∨(32≤o∧o≤37))}) ⟨true,by simp;omega⟩ (O2 rfl rfl) (fun w h=>h)|exact zP (ι:={z:Bool // z=true↔((16≤o∧o≤27)∨(32≤o∧o≤37))}) ⟨false,by simp;omega⟩ (O2 rfl rfl) (fun w h=>h)|exact zP (ι:={z:Bool // z=true↔((16≤o∧o≤27)∨(32≤o∧o≤37))}) ⟨decide ((o:Int)≤37),by rw[decide_eq_true_iff];omega⟩ (O2 rfl rfl) (fun w h=>h)
      ·replace hb:=Ka hb;refine ZP M<|ZP M<|ZF M (zN M M)<|Zm M M<|ZG M M M (zJ M)<|ZG M M M (xJ M M)<|ZG M M M (zJ M)<|zF 27 M (fun hb=>?_) (fun hb=>?_)
       ·replace hb:=Jz hb;refine ZG M M M (zJ M)<|ZG M M M (wQ M M)<|ZG M M M (zL M M)<|ZF M (zN M M)<|Za M M<|zK ?_
        first|exact zP (ι:={z:Bool // z=true↔((16≤o∧o≤27)∨(32≤o∧o≤37))}) ⟨true,by simp;omega⟩ (O2 rfl rfl) (fun w h=>h)|exact zP (ι:={z:Bool // z=true↔((16≤o∧o≤27)∨(32≤o∧o≤37))}) ⟨false,by simp;omega⟩ (O2 rfl rfl) (fun w h=>h)|exact zP (ι:={z:Bool // z=true↔((16≤o∧o≤27)∨(32≤o∧o≤37))}) ⟨decide ((o:Int)≤37),by rw[decide_eq_true_iff];omega⟩ (O2 rfl rfl) (fun w h=>h)
       ·replace hb:=Ka hb;refine ZP M<|ZP M<|ZG M M M (zN M M)<|ZF M (zN M M)<|Za M M<|zK ?_
        first|exact zP (ι:={z:Bool // z=true↔((16≤o∧o≤27)∨(32≤o∧o≤37))}) ⟨true,by simp;omega⟩ (O2 rfl rfl) (fun w h=>h)|exact zP (ι:={z:Bool // z=true↔((16≤o∧o≤27)∨(32≤o∧o≤37))}) ⟨false,by simp;omega⟩ (O2 rfl rfl) (fun w h=>h)|exact zP (ι:={z:Bool // z=true↔((16≤o∧o≤27)∨(32≤o∧o≤37))}) ⟨decide ((o:Int)≤37),by rw[decide_eq_true_iff];omega⟩ (O2 rfl rfl) (fun w h=>h)
     ·obtain⟨z,hz5⟩:=z;dsimp only;refine zT M (fun h17=>?_) (fun h17=>?_)
      ·refine zX<|zZ<|Za M M<|ZT<|zS<|yY<|zO<|zQ M M (fun w hw=>?_);exact⟨rN (by rw[hs,Ky (by have:=hz5.1 h17;omega),Ky h10',Kz (by have:=hz5.1 h17;omega)]),hw.ext0⟩
      ·have h17':¬((16≤o∧o≤27)∨(32≤o∧o≤37)):=fun h=>by rw[hz5.2 h] at h17;cases h17
       refine zX<|zZ<|Zm M M<|ZF M (yR M M)<|Za M M<|ZT<|zT M (fun h32=>?_) (fun h32=>?_)
       ·replace h32:=Ki h32;refine zX<|Z3r 0 17 32 M M M<|Za M M<|ZT<|zS<|yY<|zO<|zQ M M (fun w hw=>?_);exact⟨rN (by rw[hs,Ky (by omega),Ky (by omega),Ky (by omega),Ky (by omega),Kz (by omega)]),hw.ext0⟩
       ·replace h32:=yL h32;refine zX<|Z3r 0 17 32 M M M<|Zm M M<|ZF M (yR M M)<|Za M M<|ZT<|zT M (fun h35=>?_) (fun h35=>?_)
        ·replace h35:=Ki h35;refine zX<|Z4r 0 17 32 35 M M M M<|Za M M<|ZT<|zS<|yY<|zO<|zQ M M (fun w hw=>?_);exact⟨rN (by rw[hs,Ky (by omega),Ky (by omega),Ky (by omega),Kz (by omega)]),hw.ext0⟩
        ·replace h35:=yL h35;refine yE (ι:={z:Bool // z=true↔(49≤o∧o≤51)}) (fun z=>[(0,.int .i64 (o:Nat)),(38,.bool z.1)]) (fun _=>Hp (fun _=>False) w_0 [] [] (fun _=>True)) ?_ (fun z=>?_)
         ·refine Z4r 0 17 32 35 M M M M<|Zm M M<|ZF M (xJ M M)<|Zm M M<|zF 41 M (fun hb=>?_) (fun hb=>?_)
          ·replace hb:=Jz hb;exact ZG M M M (zJ M)<|ZG M M M (wQ M M)<|ZF M (zL M M)<|Za M M<|zK<|zP (ι:={z:Bool // z=true↔(49≤o∧o≤51)}) ⟨decide ((o:Int)≤51),by rw[decide_eq_true_iff];omega⟩ (O2 M M) (fun w h=>h)
          ·replace hb:=Ka hb;exact ZP M<|ZP M<|ZF M (zN M M)<|Za M M<|zK<|zP (ι:={z:Bool // z=true↔(49≤o∧o≤51)}) ⟨false,by simp;omega⟩ (O2 M M) (fun w h=>h)
         ·obtain⟨z,hz11⟩:=z;dsimp only;refine zT M (fun h38=>?_) (fun h38=>?_)
          ·refine zX<|zZ<|Za M M<|ZT<|zS<|yY<|zO<|zQ M M (fun w hw=>?_);exact⟨rN (by rw[hs,Ky (by omega),Ky (by omega),Ky (by omega),Ky (by omega),Ky (by omega),Kz (hz11.1 h38)]),hw.ext0⟩
          ·have h38':¬(49≤o∧o≤51):=fun h=>by rw[hz11.2 h] at h38;cases h38
           refine zH<|zA<|zR<|zX<|zZ<|Za M M<|ZT<|zS<|zQ M M (fun w hw=>?_);exact⟨rN (by rw[hs,Ky (by omega),Ky (by omega),Ky (by omega),Ky (by omega),Ky (by omega),Ky h38']),hw.ext0⟩
theorem lq_n {i:QI}(a:Nat) (h:wY i.op.toNat=[]):lnQ i a=wX i.op.toNat:=by unfold lnQ;rw[Kz h]
theorem lq_rrr {i:QI}(a:Nat) (h:wY i.op.toNat=[114,114,114]) (hn:i.op≠52∧i.op≠54):lnQ i a=((((((wX i.op.toNat++[32])++rgB i.d)++[44,32])++rgB i.a)++[44,32])++rgB i.b):=by
 unfold lnQ;rw[Ky (by rw[h];decide),h];simp[uT,qJ,joB,sB hn]
theorem lq_rrv {i:QI}(a:Nat) (h:wY i.op.toNat=[114,114,118]) (hn:i.op≠52∧i.op≠54):lnQ i a=((((((wX i.op.toNat++[32])++rgB i.d)++[44,32])++rgB i.a)++[44,32])++tP i a):=by
 unfold lnQ;rw[Ky (by rw[h];decide),h];simp[uT,qJ,joB,sB hn]
theorem lq_rm {i:QI}(a:Nat) (h:wY i.op.toNat=[114,109]) (hn:i.op≠52∧i.op≠54):lnQ i a=((((((wX i.op.toNat++[32])++rgB i.d)++[44,32,91])++rgB i.a)++rL i.imm)++[93]):=by
 unfold lnQ;rw[Ky (by rw[h];decide),h];simp[uT,qJ,joB,sB hn]
theorem lq_r {i:QI}(a:Nat) (h:wY i.op.toNat=[114]) (hn:i.op=52∨i.op=54):lnQ i a=((wX i.op.toNat++[32])++rgB i.a):=by
 unfold lnQ;rw[Ky (by rw[h];decide),h];simp[uT,qJ,joB,regsQ_a hn]
theorem lq_v {i:QI}(a:Nat) (h:wY i.op.toNat=[118]):lnQ i a=((wX i.op.toNat++[32])++tP i a):=by
 unfold lnQ;rw[Ky (by rw[h];decide),h];simp[uT,qJ,joB]
theorem lq_av {i:QI}(a:Nat) (h:wY i.op.toNat=[114,118]) (hn:i.op=52∨i.op=54):lnQ i a=((((wX i.op.toNat++[32])++rgB i.a)++[44,32])++tP i a):=by
 unfold lnQ;rw[Ky (by rw[h];decide),h];simp[uT,qJ,joB,regsQ_a hn]
theorem lq_dv {i:QI}(a:Nat) (h:wY i.op.toNat=[114,118]) (hn:i.op≠52∧i.op≠54):lnQ i a=((((wX i.op.toNat++[32])++rgB i.d)++[44,32])++tP i a):=by
 unfold lnQ;rw[Ky (by rw[h];decide),h];simp[uT,qJ,joB,sB hn]
end Go.Proofs.YtkaepknpplhgkaaGreatDoor
namespace Go.Proofs.YtkaepknpplhgkaaGreatDoor
open Go.RowKit
theorem rlineQ_any (i:QI) (hi:i.imm<4294967296) (a:Nat) (ha:a<4294967296) (w_0:World):Calls Tryz.prog 34 #[.agg (qiC i).toArray,.int .u32 a] w_0 fun e w'=>e=.returned (.string ⟨(lnQV i a).toArray⟩)∧Ext w_0 w':=by
 unfold lnQV
 cases hv:wH i with
 | false =>
  refine zM (args:=[.agg (qiC i).toArray,.int .u32 a]) Tryz.func34 M 155 M (Jy M)<|Z2 0 1 M M<|zU (H':=Hp (fun _=>False) w_0 [] [] (fun _=>True)) (fun u hu=>?_) ?_
  ·subst hu;exact Hp.start0
  refine zX<|zZ<|zG .none M (yG M M) (fun b2=>?_);refine Za M M<|ZX<|zX<|zZ<|ZF M (yS 0 M M Tryz.underlying74 M (by kernel_rfl)) ?_;refine zE .none M  (v:=.bool false) (by kernel_rfl) M (fun w hw=>(rvalidQ_any i hi w).mono fun e w' ⟨h1,h2⟩=>⟨by rw[h1,hv],h2⟩) ?_;refine ZF M (xD M)<|ZT<|zT M (fun hc=>?_) (fun hc=>?_)
  ·refine zX<|Z5r 0 1 2 4 9 M M M M M<|Za M M<|ZT<|zS<|zO<|zQ M M (fun w hw=>?_);exact⟨rfl,hw.ext0⟩
  ·cases hc
 | true =>
  rw[Kz rfl];have hvq:=vQ_of hi hv;obtain⟨⟨ho0,ho1⟩,⟨hd0,hd1⟩,⟨ha0,ha1⟩,hb0,hb1⟩:=vq_rng hvq;have hve:=rW i;rw[hv] at hve
  have hkn:(xN i.op).known=true:=by
   have hve:=hve.symm;simp only[Kt] at hve;exact hve.1.1.1.1
  obtain⟨o,hoe⟩:∃o:Nat,i.op=o:=⟨i.op.toNat,by omega⟩;have hot:i.op.toNat=o:=by omega
  rw[hoe] at hkn;have hr:=kn_rng hkn;have hnl:=qnmL_len o;have hdl:(rgB i.d).length≤3:=rgB_len (by omega);have hal:(rgB i.a).length≤3:=rgB_len (by omega);have hbl:(rgB i.b).length≤3:=rgB_len (by omega);have hol:(rL i.imm).length≤11:=offB_len hi;have hsl:(sR i.imm).length≤11:=sgnB_len7 hi;have hml:(Lib.decDigits i.imm).length≤10:=dec32 hi;obtain⟨tg,htg⟩:∃t,t=(a+4*i.imm)%4294967296:=⟨_,rfl⟩;have htl:tg<4294967296:=by omega
  have hgl:(Lib.decDigits tg).length≤10:=dec32 htl;have himB:tP i a=if sP i.op=true then Lib.decDigits tg else if (17≤i.op∧i.op≤19)∨41≤i.op then Lib.decDigits i.imm else sR i.imm:=by rw[htg];rfl
  have hsh:wY i.op.toNat=wY o:=by rw[hot]
  obtain⟨S,hS⟩:∃S,S=wY o:=⟨_,rfl⟩;have hs:=shq_ifs o;have hfo:(qiC i)[0]? = some (.int .i64 (o:Nat)):=by rw[← hoe];rfl
  have hwq:=fun w=>rshape_any o hkn w;rw[← hS] at hwq hsh;rw[← hS] at hs;have h52:¬(i.op=52∨i.op=54)→i.op≠52∧i.op≠54:=fun h=>⟨fun e=>h (.inl e),fun e=>h (.inr e)⟩;rw[hoe] at h52;refine zM (args:=[.agg (qiC i).toArray,.int .u32 a]) Tryz.func34 M 155 M (Jy M)<|Z2 0 1 M M<|zU (H':=Hp (fun _=>False) w_0 [] [] (fun _=>True)) (fun u hu=>?_) ?_
  ·subst hu;exact Hp.start0
  refine zX<|zZ<|zG .none M (yG M M) (fun b2=>?_);refine Za M M<|ZX<|zX<|zZ<|ZF M (yS 0 M M Tryz.underlying74 M (by kernel_rfl)) ?_;refine zE .none M  (v:=.bool true) (by kernel_rfl) M (fun w hw=>(rvalidQ_any i hi w).mono fun e w' ⟨h1,h2⟩=>⟨by rw[h1,hv],h2⟩) ?_;refine ZF M (xD M)<|ZT<|zT M (fun hc=>?_) (fun hc=>?_)
  ·cases hc
  ·refine zH<|zR<|zX<|Z5 0 1 2 4 9 M M M M M<|wc_drawN [0,1,2,3,4] (Blk b2 (qiO i)) (by kernel_rfl) (by kernel_rfl) Blk.stab (fun w h=>HpG.blk h (k:=0) M) (fun n0 hn0=>?_);refine wC M<|vV .none M  (v:=.agg (strC qnL).toArray) (by kernel_rfl) M (fun _ _ h hx=>Blk.onE h hx) (fun w hw=>rqnames_any w) ?_;refine Zd M M M (zY (off:=0) (sz:=0) M Tryz.underlying74 (by kernel_rfl) M) ?_;refine Zd M M M (zD (v:=.int .i64 (o:Nat)) M Tryz.underlying3 M (fun w hw=>Blk.cell hw hfo)) ?_;refine Zd M M M (yf_indexA (len:=64) (j:=o) (cs:=(strC qnL).toArray) (v:=.string ⟨(wX o).toArray⟩) M M Tryz.underlying156 Tryz.underlying9 M (by kernel_rfl) M (by omega) (by rw[List.getElem?_toArray];unfold strC;rw[List.getElem?_map,qnL_at (by omega)];rfl)) ?_;refine Zd M M M (wF M)<|wd_endH<|zR<|zX<|Z6r 0 1 2 4 5 9 M M M M M M<|ZF M (zY (off:=4) (sz:=0) M Tryz.underlying74 (by kernel_rfl) M) ?_;refine ZF M (zW 0 M M M Tryz.underlying22 M)<|zE .none M  (v:=.string ⟨(sR i.imm).toArray⟩) (by kernel_rfl) M (fun w hw=>signed_any i.imm hi false w) ?_;refine Za M M<|ZT<|yE (ι:={s:Bs // s=if (17≤i.op∧i.op≤19)∨41≤i.op then Lib.decDigits i.imm else sR i.imm}) (fun s=>[(1,.int .u32 a),(2,.pointer (some ⟨b2,0,none⟩)),(5,.string ⟨(wX o).toArray⟩),(6,.string ⟨s.1.toArray⟩)]) (fun _=>Hp (fun _=>False) w_0 [(b2,qiO i)] [] (fun _=>True)) ?_ (fun s=>?_)
   ·refine yE (ι:={z:Bool // z=true↔((17≤o∧o≤19)∨41≤o)}) (fun z=>[(1,.int .u32 a),(2,.pointer (some ⟨b2,0,none⟩)),(5,.string ⟨(wX o).toArray⟩),(6,.string ⟨(sR i.imm).toArray⟩),(39,.bool z.1)]) (fun _=>Hp (fun _=>False) w_0 [(b2,qiO i)] [] (fun _=>True)) ?_ (fun z=>?_)
    ·refine Z7r 0 1 2 4 5 6 9 M M M M M M M<|ZF M (zY (off:=0) (sz:=0) M Tryz.underlying74 (by kernel_rfl) M) ?_;refine ZF M (zD (v:=.int .i64 (o:Nat)) M Tryz.underlying3 M (fun w hw=>HpG.cell (k:=0) hw M hfo)) ?_;refine ZF M (yR M M)<|Zm M M<|zF 20 M (fun hb=>?_) (fun hb=>?_)
     ·replace hb:=Ki hb;refine ZP M<|ZP M<|ZP M<|ZF M (zL M M)<|Zm M M<|ZP M<|ZP M<|ZP M<|ZF M (zL M M)<|Zm M M<|ZP M<|ZP M<|ZP M<|ZF M (zL M M)<|Zm M M<|ZP M<|ZP M<|ZP M<|ZF M (zL M M)<|zK ?_
      first|exact zP (ι:={z:Bool // z=true↔((17≤o∧o≤19)∨41≤o)}) ⟨true,by simp;omega⟩ (O5 rfl rfl rfl rfl rfl) (fun w h=>h)|exact zP (ι:={z:Bool // z=true↔((17≤o∧o≤19)∨41≤o)}) ⟨decide ((48:Int)≤((o:Nat):Int)),by rw[decide_eq_true_iff];omega⟩ (O5 rfl rfl rfl rfl rfl) (fun w h=>h)
     ·replace hb:=yL hb;refine ZG M M M (zY (off:=0) (sz:=0) M Tryz.underlying74 (by kernel_rfl) M) ?_;refine ZG M M M (zD (v:=.int .i64 (o:Nat)) M Tryz.underlying3 M (fun w hw=>HpG.cell (k:=0) hw M hfo)) ?_;refine ZG M M M (yR M M)<|ZF M (zN M M)<|Zm M M<|zF 25 M (fun hb=>?_) (fun hb=>?_)
      ·replace hb:=Ki hb;refine ZP M<|ZP M<|ZP M<|ZF M (zL M M)<|Zm M M<|ZP M<|ZP M<|ZP M<|ZF M (zL M M)<|Zm M M<|ZP M<|ZP M<|ZP M<|ZF M (zL M M)<|zK ?_
       first|exact zP (ι:={z:Bool // z=true↔((17≤o∧o≤19)∨41≤o)}) ⟨true,by simp;omega⟩ (O5 rfl rfl rfl rfl rfl) (fun w h=>h)|exact zP (ι:={z:Bool // z=true↔((17≤o∧o≤19)∨41≤o)}) ⟨decide ((48:Int)≤((o:Nat):Int)),by rw[decide_eq_true_iff];omega⟩ (O5 rfl rfl rfl rfl rfl) (fun w h=>h)
      ·replace hb:=yL hb;refine ZG M M M (zY (off:=0) (sz:=0) M Tryz.underlying74 (by kernel_rfl) M) ?_;refine ZG M M M (zD (v:=.int .i64 (o:Nat)) M Tryz.underlying3 M (fun w hw=>HpG.cell (k:=0) hw M hfo)) ?_;refine ZG M M M (yR M M)<|ZF M (zN M M)<|Zm M M<|zF 30 M (fun hb=>?_) (fun hb=>?_)
       ·replace hb:=Ki hb;refine ZP M<|ZP M<|ZP M<|ZF M (zL M M)<|Zm M M<|ZP M<|ZP M<|ZP M<|ZF M (zL M M)<|zK ?_
        first|exact zP (ι:={z:Bool // z=true↔((17≤o∧o≤19)∨41≤o)}) ⟨true,by simp;omega⟩ (O5 rfl rfl rfl rfl rfl) (fun w h=>h)|exact zP (ι:={z:Bool // z=true↔((17≤o∧o≤19)∨41≤o)}) ⟨decide ((48:Int)≤((o:Nat):Int)),by rw[decide_eq_true_iff];omega⟩ (O5 rfl rfl rfl rfl rfl) (fun w h=>h)
       ·replace hb:=yL hb;refine ZG M M M (zY (off:=0) (sz:=0) M Tryz.underlying74 (by kernel_rfl) M) ?_;refine ZG M M M (zD (v:=.int .i64 (o:Nat)) M Tryz.underlying3 M (fun w hw=>HpG.cell (k:=0) hw M hfo)) ?_;refine ZG M M M (yR M M)<|ZF M (zN M M)<|Zm M M<|zF 35 M (fun hb=>?_) (fun hb=>?_)
        ·replace hb:=Ki hb;refine ZP M<|ZP M<|ZP M<|ZF M (zL M M)<|zK ?_
         first|exact zP (ι:={z:Bool // z=true↔((17≤o∧o≤19)∨41≤o)}) ⟨true,by simp;omega⟩ (O5 rfl rfl rfl rfl rfl) (fun w h=>h)|exact zP (ι:={z:Bool // z=true↔((17≤o∧o≤19)∨41≤o)}) ⟨decide ((48:Int)≤((o:Nat):Int)),by rw[decide_eq_true_iff];omega⟩ (O5 rfl rfl rfl rfl rfl) (fun w h=>h)
        ·replace hb:=yL hb;refine ZG M M M (zY (off:=0) (sz:=0) M Tryz.underlying74 (by kernel_rfl) M) ?_;refine ZG M M M (zD (v:=.int .i64 (o:Nat)) M Tryz.underlying3 M (fun w hw=>HpG.cell (k:=0) hw M hfo)) ?_;refine ZG M M M (xJ M M)<|ZF M (zN M M)<|zK ?_
         first|exact zP (ι:={z:Bool // z=true↔((17≤o∧o≤19)∨41≤o)}) ⟨true,by simp;omega⟩ (O5 rfl rfl rfl rfl rfl) (fun w h=>h)|exact zP (ι:={z:Bool // z=true↔((17≤o∧o≤19)∨41≤o)}) ⟨decide ((48:Int)≤((o:Nat):Int)),by rw[decide_eq_true_iff];omega⟩ (O5 rfl rfl rfl rfl rfl) (fun w h=>h)
    ·obtain⟨z,hz5⟩:=z;dsimp only;refine zT M (fun h39=>?_) (fun h39=>?_)
     ·refine zZ<|ZF M (zY (off:=4) (sz:=0) M Tryz.underlying74 (by kernel_rfl) M) ?_;refine ZF M (zW 0 M M M Tryz.underlying22 M)<|zE .none M  (v:=.string ⟨(Lib.decDigits i.imm).toArray⟩) (by kernel_rfl) M (fun w hw=>tF i.imm hi w) ?_;exact Za M M<|zK<|zP (ι:={s:Bs // s=if (17≤i.op∧i.op≤19)∨41≤i.op then Lib.decDigits i.imm else sR i.imm}) ⟨Lib.decDigits i.imm,by rw[Kz (by have:=hz5.1 h39;omega)]⟩ (O4 M M M M) (fun w h=>h)
     ·exact zH<|zP (ι:={s:Bs // s=if (17≤i.op∧i.op≤19)∨41≤i.op then Lib.decDigits i.imm else sR i.imm}) ⟨sR i.imm,by rw[Ky (fun h=>by rw[hz5.2 (by omega)] at h39;cases h39)]⟩ (O4 M M M M) (fun w h=>h)
   ·obtain⟨im,him⟩:=s;dsimp only;refine yE (ι:={s:Bs // s=tP i a}) (fun s=>[(2,.pointer (some ⟨b2,0,none⟩)),(5,.string ⟨(wX o).toArray⟩),(6,.string ⟨s.1.toArray⟩)]) (fun _=>Hp (fun _=>False) w_0 [(b2,qiO i)] [] (fun _=>True)) ?_ (fun s=>?_)
    ·refine yE (ι:={z:Bool // z=true↔((32≤o∧o≤37)∨o=40)}) (fun z=>[(1,.int .u32 a),(2,.pointer (some ⟨b2,0,none⟩)),(5,.string ⟨(wX o).toArray⟩),(6,.string ⟨im.toArray⟩),(55,.bool z.1)]) (fun _=>Hp (fun _=>False) w_0 [(b2,qiO i)] [] (fun _=>True)) ?_ (fun z=>?_)
     ·refine zZ<|ZF M (zY (off:=0) (sz:=0) M Tryz.underlying74 (by kernel_rfl) M) ?_;refine ZF M (zD (v:=.int .i64 (o:Nat)) M Tryz.underlying3 M (fun w hw=>HpG.cell (k:=0) hw M hfo)) ?_;refine ZF M (yR M M)<|Zm M M<|zF 46 M (fun hb=>?_) (fun hb=>?_)
      ·replace hb:=Ki hb;refine ZP M<|ZP M<|ZP M<|ZP M<|xM M M M<|xM M M M<|xM M M M<|ZP M<|ZF M (zL M M)<|zK ?_
       first|exact zP (ι:={z:Bool // z=true↔((32≤o∧o≤37)∨o=40)}) ⟨true,by simp;omega⟩ (O5 rfl rfl rfl rfl rfl) (fun w h=>h)|exact zP (ι:={z:Bool // z=true↔((32≤o∧o≤37)∨o=40)}) ⟨false,by simp;omega⟩ (O5 rfl rfl rfl rfl rfl) (fun w h=>h)|exact zP (ι:={z:Bool // z=true↔((32≤o∧o≤37)∨o=40)}) ⟨decide (((o:Nat):Int)≤37),by rw[decide_eq_true_iff];omega⟩ (O5 rfl rfl rfl rfl rfl) (fun w h=>h)
      ·replace hb:=yL hb;refine ZG M M M (zY (off:=0) (sz:=0) M Tryz.underlying74 (by kernel_rfl) M) ?_;refine ZG M M M (zD (v:=.int .i64 (o:Nat)) M Tryz.underlying3 M (fun w hw=>HpG.cell (k:=0) hw M hfo)) ?_;refine ZG M M M (xJ M M)<|ZG M M M (zJ M)<|zF 50 M (fun hb=>?_) (fun hb=>?_)
       ·replace hb:=Jz hb;refine ZG M M M (zY (off:=0) (sz:=0) M Tryz.underlying74 (by kernel_rfl) M) ?_;refine ZG M M M (zD (v:=.int .i64 (o:Nat)) M Tryz.underlying3 M (fun w hw=>HpG.cell (k:=0) hw M hfo)) ?_;refine ZG M M M (wQ M M)<|ZG M M M (zL M M)<|ZF M (zN M M)<|zK ?_
        first|exact zP (ι:={z:Bool // z=true↔((32≤o∧o≤37)∨o=40)}) ⟨true,by simp;omega⟩ (O5 rfl rfl rfl rfl rfl) (fun w h=>h)|exact zP (ι:={z:Bool // z=true↔((32≤o∧o≤37)∨o=40)}) ⟨false,by simp;omega⟩ (O5 rfl rfl rfl rfl rfl) (fun w h=>h)|exact zP (ι:={z:Bool // z=true↔((32≤o∧o≤37)∨o=40)}) ⟨decide (((o:Nat):Int)≤37),by rw[decide_eq_true_iff];omega⟩ (O5 rfl rfl rfl rfl rfl) (fun w h=>h)
       ·replace hb:=Ka hb;refine ZP M<|ZP M<|ZP M<|ZG M M M (zN M M)<|ZF M (zN M M)<|zK ?_
        first|exact zP (ι:={z:Bool // z=true↔((32≤o∧o≤37)∨o=40)}) ⟨true,by simp;omega⟩ (O5 rfl rfl rfl rfl rfl) (fun w h=>h)|exact zP (ι:={z:Bool // z=true↔((32≤o∧o≤37)∨o=40)}) ⟨false,by simp;omega⟩ (O5 rfl rfl rfl rfl rfl) (fun w h=>h)|exact zP (ι:={z:Bool // z=true↔((32≤o∧o≤37)∨o=40)}) ⟨decide (((o:Nat):Int)≤37),by rw[decide_eq_true_iff];omega⟩ (O5 rfl rfl rfl rfl rfl) (fun w h=>h)
     ·obtain⟨z,hz7⟩:=z;dsimp only;refine zT M (fun h55=>?_) (fun h55=>?_)
      ·refine zZ<|Zm M M<|ZF M (zY (off:=4) (sz:=0) M Tryz.underlying74 (by kernel_rfl) M) ?_;refine ZF M (zW 0 M M M Tryz.underlying22 M)<|ZF M (qV M M M)<|ZF M (yP M M (show IntKind.u32.wrap ((a:Int)+IntKind.u32.wrap (4*(i.imm:Int)))=((tg:Nat):Int) by rw[u32w,u32w,htg];omega)) ?_;refine zE .none M  (v:=.string ⟨(Lib.decDigits tg).toArray⟩) (by kernel_rfl) M (fun w hw=>tF tg htl w) ?_;refine Za M M<|zK ?_
       exact zP (ι:={s:Bs // s=tP i a}) ⟨Lib.decDigits tg,by
        have hj:sP i.op=true:=by
         have:=hz7.1 h55;unfold sP;rw[Bool.or_eq_true,decide_eq_true_iff,decide_eq_true_iff];omega
        rw[himB,Kz hj]⟩ (O3 rfl rfl rfl) (fun w h=>h)
      ·refine zH ?_
       exact zP (ι:={s:Bs // s=tP i a}) ⟨im,by
        have hj:¬sP i.op=true:=by
         unfold sP;rw[Bool.or_eq_true,decide_eq_true_iff,decide_eq_true_iff];intro h;rw[hz7.2 (by omega)] at h55;cases h55
        rw[himB,Ky hj,him]⟩ (O3 rfl rfl rfl) (fun w h=>h)
    ·obtain⟨ib,hib⟩:=s;dsimp only
     have hibl:ib.length≤11:=by
      rw[hib,himB]
      split
      ·omega
      ·split<;>omega
     refine zX<|zX<|zZ<|ZF M (zY (off:=0) (sz:=0) M Tryz.underlying74 (by kernel_rfl) M) ?_;refine ZF M (zD (v:=.int .i64 (o:Nat)) M Tryz.underlying3 M (fun w hw=>HpG.cell (k:=0) hw M hfo)) ?_;refine zE .none M  (v:=.string ⟨S.toArray⟩) (by kernel_rfl) M (fun w hw=>hwq w) ?_;refine ZT<|yZ<|zX<|Z4r 2 5 6 64 M M M M<|ZF M (xX M M Tryz.underlying9)<|Za M M<|ZT<|zT M (fun h65=>?_) (fun h65=>?_)
     ·have h65:=Jz h65;have hn:¬(o=52∨o=54):=fun h=>by rw[h65] at hs;rcases h with rfl|rfl<;>exact absurd hs (by decide)
      refine zX<|Z5 2 5 6 64 65 M M M M M<|wc_drawN [0,1,2,3,4,5,6,7,8,9,10,11,12,13,14,15,16] (Blk b2 (qiO i)) (by kernel_rfl) (by kernel_rfl) Blk.stab (fun w h=>HpG.blk h (k:=0) M) (fun n0 hn0=>?_);refine Zd rfl rfl rfl (zJ rfl)<|Zd rfl rfl rfl (zB rfl rfl (by first|omega|simp<;>omega)) ?_;refine Zd M M M (zY (off:=1) (sz:=0) M Tryz.underlying74 (by kernel_rfl) M) ?_;refine Zd M M M (zD (v:=.int .i64 i.d) M Tryz.underlying3 M (fun w hw=>Blk.cell hw M)) ?_;refine wC M<|vV .none M  (v:=.string ⟨(rgB i.d).toArray⟩) (by kernel_rfl) M (fun _ _ h hx=>Blk.onE h hx) (fun w hw=>vZ i.d hd0 (by omega) w) ?_;refine Zd rfl rfl rfl (zB rfl rfl (by first|omega|simp<;>omega)) ?_;refine Zd rfl rfl rfl (zB rfl rfl (by first|omega|simp<;>omega)) ?_;refine Zd M M M (zY (off:=2) (sz:=0) M Tryz.underlying74 (by kernel_rfl) M) ?_;refine Zd M M M (zD (v:=.int .i64 i.a) M Tryz.underlying3 M (fun w hw=>Blk.cell hw M)) ?_;refine wC M<|vV .none M  (v:=.string ⟨(rgB i.a).toArray⟩) (by kernel_rfl) M (fun _ _ h hx=>Blk.onE h hx) (fun w hw=>vZ i.a ha0 (by omega) w) ?_;refine Zd rfl rfl rfl (zB rfl rfl (by first|omega|simp<;>omega)) ?_;refine Zd rfl rfl rfl (zB rfl rfl (by first|omega|simp<;>omega)) ?_;refine Zd M M M (zY (off:=3) (sz:=0) M Tryz.underlying74 (by kernel_rfl) M) ?_;refine Zd M M M (zD (v:=.int .i64 i.b) M Tryz.underlying3 M (fun w hw=>Blk.cell hw M)) ?_;refine wC M<|vV .none M  (v:=.string ⟨(rgB i.b).toArray⟩) (by kernel_rfl) M (fun _ _ h hx=>Blk.onE h hx) (fun w hw=>vZ i.b hb0 (by omega) w) ?_;refine Zd rfl rfl rfl (zB rfl rfl (by first|omega|simp<;>omega)) ?_;refine Zd M M M (wF M)<|wd_endH<|zR<|zS<|yY<|zO<|zQ M M (fun w hw=>?_);exact⟨rN (by rw[lq_rrr a (hsh.trans h65) (by rw[hoe];omega),hot]),hw.ext0⟩
     ·have h65:=Ka h65;refine zX<|Z5r 2 5 6 64 65 M M M M M<|ZF M (xX M M Tryz.underlying9)<|Za M M<|ZT<|zT M (fun h83=>?_) (fun h83=>?_)
      ·have h83:=Jz h83;have hn:¬(o=52∨o=54):=fun h=>by rw[h83] at hs;rcases h with rfl|rfl<;>exact absurd hs (by decide)
       refine zX<|Z6 2 5 6 64 65 83 M M M M M M<|wc_drawN [0,1,2,3,4,5,6,7,8,9,10,11,12,13,14] (Blk b2 (qiO i)) (by kernel_rfl) (by kernel_rfl) Blk.stab (fun w h=>HpG.blk h (k:=0) M) (fun n0 hn0=>?_);refine Zd rfl rfl rfl (zJ rfl)<|Zd rfl rfl rfl (zB rfl rfl (by first|omega|simp<;>omega)) ?_;refine Zd M M M (zY (off:=1) (sz:=0) M Tryz.underlying74 (by kernel_rfl) M) ?_;refine Zd M M M (zD (v:=.int .i64 i.d) M Tryz.underlying3 M (fun w hw=>Blk.cell hw M)) ?_;refine wC M<|vV .none M  (v:=.string ⟨(rgB i.d).toArray⟩) (by kernel_rfl) M (fun _ _ h hx=>Blk.onE h hx) (fun w hw=>vZ i.d hd0 (by omega) w) ?_;refine Zd rfl rfl rfl (zB rfl rfl (by first|omega|simp<;>omega)) ?_;refine Zd rfl rfl rfl (zB rfl rfl (by first|omega|simp<;>omega)) ?_;refine Zd M M M (zY (off:=2) (sz:=0) M Tryz.underlying74 (by kernel_rfl) M) ?_;refine Zd M M M (zD (v:=.int .i64 i.a) M Tryz.underlying3 M (fun w hw=>Blk.cell hw M)) ?_;refine wC M<|vV .none M  (v:=.string ⟨(rgB i.a).toArray⟩) (by kernel_rfl) M (fun _ _ h hx=>Blk.onE h hx) (fun w hw=>vZ i.a ha0 (by omega) w) ?_;refine Zd rfl rfl rfl (zB rfl rfl (by first|omega|simp<;>omega)) ?_;refine Zd rfl rfl rfl (zB rfl rfl (by first|omega|simp<;>omega)) ?_;refine Zd rfl rfl rfl (zJ rfl)<|Zd rfl rfl rfl (zB rfl rfl (by first|omega|simp<;>omega)) ?_;refine Zd M M M (wF M)<|wd_endH<|zR<|zS<|yY<|zO<|zQ M M (fun w hw=>?_);exact⟨rN (by rw[lq_rrv a (hsh.trans h83) (by rw[hoe];omega),hot,hib]),hw.ext0⟩
      ·have h83:=Ka h83;refine zX<|Z6r 2 5 6 64 65 83 M M M M M M<|ZF M (xX M M Tryz.underlying9)<|Za M M<|ZT<|zT M (fun h99=>?_) (fun h99=>?_)
       ·have h99:=Jz h99;have hn:¬(o=52∨o=54):=fun h=>by rw[h99] at hs;rcases h with rfl|rfl<;>exact absurd hs (by decide)
        refine zX<|Z7 2 5 6 64 65 83 99 M M M M M M M<|wc_drawN [0,1,2,3,4,5,6,7,8,9,10,11,12,13,14,15,16] (Blk b2 (qiO i)) (by kernel_rfl) (by kernel_rfl) Blk.stab (fun w h=>HpG.blk h (k:=0) M) (fun n0 hn0=>?_);refine Zd rfl rfl rfl (zJ rfl)<|Zd rfl rfl rfl (zB rfl rfl (by first|omega|simp<;>omega)) ?_;refine Zd M M M (zY (off:=1) (sz:=0) M Tryz.underlying74 (by kernel_rfl) M) ?_;refine Zd M M M (zD (v:=.int .i64 i.d) M Tryz.underlying3 M (fun w hw=>Blk.cell hw M)) ?_;refine wC M<|vV .none M  (v:=.string ⟨(rgB i.d).toArray⟩) (by kernel_rfl) M (fun _ _ h hx=>Blk.onE h hx) (fun w hw=>vZ i.d hd0 (by omega) w) ?_;refine Zd rfl rfl rfl (zB rfl rfl (by first|omega|simp<;>omega)) ?_;refine Zd rfl rfl rfl (zB rfl rfl (by first|omega|simp<;>omega)) ?_;refine Zd M M M (zY (off:=2) (sz:=0) M Tryz.underlying74 (by kernel_rfl) M) ?_;refine Zd M M M (zD (v:=.int .i64 i.a) M Tryz.underlying3 M (fun w hw=>Blk.cell hw M)) ?_;refine wC M<|vV .none M  (v:=.string ⟨(rgB i.a).toArray⟩) (by kernel_rfl) M (fun _ _ h hx=>Blk.onE h hx) (fun w hw=>vZ i.a ha0 (by omega) w) ?_;refine Zd rfl rfl rfl (zB rfl rfl (by first|omega|simp<;>omega)) ?_;refine Zd M M M (zY (off:=4) (sz:=0) M Tryz.underlying74 (by kernel_rfl) M) ?_;refine Zd M M M (zD (v:=.int .u32 (i.imm:Nat)) M Tryz.underlying22 M (fun w hw=>Blk.cell hw M)) ?_;refine wC M<|vV .none M  (v:=.string ⟨(rL i.imm).toArray⟩) (by kernel_rfl) M (fun _ _ h hx=>Blk.onE h hx) (fun w hw=>by rw[← sgnP_off];exact signed_any i.imm hi true w) ?_;refine Zd rfl rfl rfl (zB rfl rfl (by first|omega|simp<;>omega)) ?_;refine Zd rfl rfl rfl (zB rfl rfl (by first|omega|simp<;>omega)) ?_;refine Zd M M M (wF M)<|wd_endH<|zR<|zS<|yY<|zO<|zQ M M (fun w hw=>?_);exact⟨rN (by rw[lq_rm a (hsh.trans h99) (by rw[hoe];omega),hot]),hw.ext0⟩
       ·have h99:=Ka h99;refine zX<|Z7r 2 5 6 64 65 83 99 M M M M M M M<|ZF M (xX M M Tryz.underlying9)<|Za M M<|ZT<|zT M (fun h117=>?_) (fun h117=>?_)
        ·have h117:=Jz h117
         have hn:o=52:=by
          rw[h117] at hs;refine Classical.byContradiction fun hne=>?_
          revert hs
          (repeat' split)<;>first|(intro h;exact absurd h (by decide))|omega
         refine zX<|Z8r 2 5 6 64 65 83 99 117 rfl rfl rfl rfl rfl rfl rfl rfl<|Zm rfl rfl<|ZF rfl (zB rfl rfl (by first|omega|simp<;>omega)) ?_;refine ZF M (zY (off:=2) (sz:=0) M Tryz.underlying74 (by kernel_rfl) M) ?_;refine ZF M (zW 0 M M M Tryz.underlying3 M)<|zE .none M  (v:=.string ⟨(rgB i.a).toArray⟩) (by kernel_rfl) M (fun w hw=>vZ i.a ha0 (by omega) w) ?_;refine ZF rfl (zB rfl rfl (by first|omega|simp<;>omega)) ?_;refine Za M M<|ZT<|zS<|yY<|zO<|zQ M M (fun w hw=>?_);exact⟨rN (by rw[lq_r a (hsh.trans h117) (by rw[hoe];omega),hot]),hw.ext0⟩
        ·have h117:=Ka h117;refine zX<|Z8r 2 5 6 64 65 83 99 117 M M M M M M M M<|ZF M (xX M M Tryz.underlying9)<|Za M M<|ZT<|zT M (fun h125=>?_) (fun h125=>?_)
         ·have h125:=Jz h125;refine zX<|Z9r 2 5 6 64 65 83 99 117 125 rfl rfl rfl rfl rfl rfl rfl rfl rfl<|Zm rfl rfl<|ZF rfl (zB rfl rfl (by first|omega|simp<;>omega)) ?_;refine Zm rfl rfl<|ZF rfl (zB rfl rfl (by first|omega|simp<;>omega)) ?_;refine Za M M<|ZT<|zS<|yY<|zO<|zQ M M (fun w hw=>?_);exact⟨rN (by rw[lq_v a (hsh.trans h125),hot,hib]),hw.ext0⟩
         ·have h125:=Ka h125;refine zX<|Z9r 2 5 6 64 65 83 99 117 125 M M M M M M M M M<|ZF M (xX M M Tryz.underlying9)<|Za M M<|ZT<|zT M (fun h131=>?_) (fun h131=>?_)
          ·have h131:=Jz h131;refine zX<|zX<|Z10r 2 5 6 64 65 83 99 117 125 131 M M M M M M M M M M<|ZF M (zY (off:=0) (sz:=0) M Tryz.underlying74 (by kernel_rfl) M) ?_;refine ZF M (zD (v:=.int .i64 (o:Nat)) M Tryz.underlying3 M (fun w hw=>HpG.cell (k:=0) hw M hfo)) ?_;refine ZF M (yR M M)<|ZT<|zT M (fun h135=>?_) (fun h135=>?_)
           ·replace h135:=Ki h135;refine zX<|Z11r 2 5 6 64 65 83 99 117 125 131 135 rfl rfl rfl rfl rfl rfl rfl rfl rfl rfl rfl<|Zm rfl rfl<|ZF rfl (zB rfl rfl (by first|omega|simp<;>omega)) ?_;refine ZF M (zY (off:=2) (sz:=0) M Tryz.underlying74 (by kernel_rfl) M) ?_;refine ZF M (zW 0 M M M Tryz.underlying3 M)<|zE .none M  (v:=.string ⟨(rgB i.a).toArray⟩) (by kernel_rfl) M (fun w hw=>vZ i.a ha0 (by omega) w) ?_;refine ZF rfl (zB rfl rfl (by first|omega|simp<;>omega)) ?_;refine ZF rfl (zB rfl rfl (by first|omega|simp<;>omega)) ?_;refine Zm rfl rfl<|ZF rfl (zB rfl rfl (by first|omega|simp<;>omega)) ?_;refine Za M M<|ZT<|zS<|zO<|yY<|zO<|zQ M M (fun w hw=>?_);exact⟨rN (by rw[lq_av a (hsh.trans h131) (by rw[hoe];omega),hot,hib]),hw.ext0⟩
           ·replace h135:=yL h135;refine zH<|zR<|zX<|Z11r 2 5 6 64 65 83 99 117 125 131 135 rfl rfl rfl rfl rfl rfl rfl rfl rfl rfl rfl<|Zm rfl rfl<|ZF rfl (zB rfl rfl (by first|omega|simp<;>omega)) ?_;refine ZF M (zY (off:=1) (sz:=0) M Tryz.underlying74 (by kernel_rfl) M) ?_;refine ZF M (zW 0 M M M Tryz.underlying3 M)<|zE .none M  (v:=.string ⟨(rgB i.d).toArray⟩) (by kernel_rfl) M (fun w hw=>vZ i.d hd0 (by omega) w) ?_;refine ZF rfl (zB rfl rfl (by first|omega|simp<;>omega)) ?_;refine ZF rfl (zB rfl rfl (by first|omega|simp<;>omega)) ?_;refine Zm rfl rfl<|ZF rfl (zB rfl rfl (by first|omega|simp<;>omega)) ?_;refine Za M M<|ZT<|zS<|yY<|zO<|zQ M M (fun w hw=>?_)
            exact⟨rN (by
             have hn:¬o=52:=fun h=>by
              subst h;rw[h131] at hs;exact absurd hs (by decide)
             rw[lq_dv a (hsh.trans h131) (by rw[hoe];omega),hot,hib]),hw.ext0⟩
          ·have h131:=Ka h131
           have hSn:S=[]:=by
            rw[hs] at h65 h83 h99 h117 h125 h131 ⊢
            revert h65 h83 h99 h117 h125 h131
            (repeat' split)<;>first|(intros;rfl)|(intro h1 h2 h3 h4 h5 h6;first|exact absurd rfl h1|exact absurd rfl h2|exact absurd rfl h3|exact absurd rfl h4|exact absurd rfl h5|exact absurd rfl h6)
           refine zH<|zA<|zR<|zX<|Z10r 2 5 6 64 65 83 99 117 125 131 M M M M M M M M M M<|Zm M M<|Za M M<|ZT<|zS<|zQ M M (fun w hw=>?_);exact⟨rN (by rw[lq_n a (hsh.trans hSn),hot]),hw.ext0⟩
end Go.Proofs.YtkaepknpplhgkaaGreatDoor
