import Derived.Test.YtkaepknpplhgkaaGreatDoorMar
import Derived.Test.YtkaepknpplhgkaaGreatDoorMai
import Derived.Test.YtkaepknpplhgkaaGreatDoorMao
set_option maxRecDepth 100000
set_option maxHeartbeats 4000000
namespace Go.Proofs.YtkaepknpplhgkaaGreatDoor
open Go.RowKit
def qaL:List Bs:=[[97,100,100],[115,117,98],[97,110,100],[111,114],[120,111,114],[115,104,108],[115,104,114],[115,97,114],[109,117,108],[100,105,118,117],[115,108,116,117],[115,108,116]]
def qbL:List Bs:=[[97,100,100,105],[97,110,100,105],[111,114,105],[120,111,114,105],[115,104,108,105],[115,104,114,105],[115,97,114,105],[108,100,119],[108,100,98],[115,116,119],[115,116,98],[106,97,108,114]]
def qcL:List Bs:=[[98,101,113],[98,110,101],[98,108,116,117],[98,103,101,117],[98,108,116],[98,103,101]]
def qdL:List Bs:=[[115,121,115],[98,114,101,97,107],[104,97,108,116],[114,101,116,116],[115,121,110,99],[103,101,116,99],[115,101,116,99]]
def qw1L:Nat→List Bs
 | 0=>List.replicate 64 []
 | k+1=>((qw1L k).set (1+k) (qaL.getD k [])).set (16+k) (qbL.getD k [])
def qw2L:Nat→List Bs
 | 0=>qw1L 12
 | k+1=>(qw2L k).set (32+k) (qcL.getD k [])
def qw3L:Nat→List Bs
 | 0=>qw2L 6
 | k+1=>(qw3L k).set (48+k) (qdL.getD k [])
def qnL:List Bs:=((qw3L 7).set 40 [106,97,108]).set 41 [108,117,105]
theorem qw1L_len:∀k,(qw1L k).length=64
 | 0=>rfl
 | k+1=>by rw[qw1L,List.length_set,List.length_set];exact qw1L_len k
theorem qw2L_len:∀k,(qw2L k).length=64
 | 0=>qw1L_len 12
 | k+1=>by rw[qw2L,List.length_set];exact qw2L_len k
theorem qw3L_len:∀k,(qw3L k).length=64
 | 0=>qw2L_len 6
 | k+1=>by rw[qw3L,List.length_set];exact qw3L_len k
theorem qnL_is:qnL=(List.range 64).map wC:=by kernel_rfl
theorem qnL_at {z:Nat}(h:z<64):qnL[z]? = some (wC z):=by rw[qnL_is,List.getElem?_map,List.getElem?_range h];rfl
abbrev strC (l:List Bs):List Value:=l.map fun x=>.string ⟨x.toArray⟩
theorem oT (l:List Bs) (i:Nat) (x:Bs):(strC l).set i (.string ⟨x.toArray⟩)=strC (l.set i x):=by unfold strC;rw[List.map_set]
theorem strC_one (l:List Bs):((strC l).all fun x=>x.oneCell')=true:=by
 unfold strC;rw[List.all_map];exact List.all_eq_true.2 fun _ _=>rfl
abbrev arQ (l:List Bs):Obj:=bk 156 (strC l)
theorem at_len {l:List Bs}{k:Nat}(h:k<l.length):l[k]? = some (l.getD k []):=by rw[Kq,Kj h];rfl
def qqH (w_0:World) (b12 b11 b10 b9 b1 b0:Nat) (l:List Bs):World→Prop:=Hp (fun _=>False) w_0 [(b12,vY qdL),(b11,vY qcL),(b10,vY qbL),(b9,vY qaL),(b1,arQ l),(b0,arQ (List.replicate 64 []))] [] (fun _=>True)
theorem rqnames_any (w_0:World):Calls Tryz.prog 88 #[] w_0 fun e w'=>e=.returned (.agg (strC qnL).toArray)∧Ext w_0 w':=by
 refine zH (args:=[]) Tryz.func88 M 56 M (Kc M)<|yL (.nil)<|zR (H':=Hp (fun _=>False) w_0 [] [] (fun _=>True)) (fun u hu=>?_) ?_
 ·subst hu;exact Hp.start0
 refine zX<|zZ<|zC .none M (yS (z:=.agg #[.string ⟨#[]⟩,.string ⟨#[]⟩,.string ⟨#[]⟩,.string ⟨#[]⟩,.string ⟨#[]⟩,.string ⟨#[]⟩,.string ⟨#[]⟩,.string ⟨#[]⟩,.string ⟨#[]⟩,.string ⟨#[]⟩,.string ⟨#[]⟩,.string ⟨#[]⟩,.string ⟨#[]⟩,.string ⟨#[]⟩,.string ⟨#[]⟩,.string ⟨#[]⟩,.string ⟨#[]⟩,.string ⟨#[]⟩,.string ⟨#[]⟩,.string ⟨#[]⟩,.string ⟨#[]⟩,.string ⟨#[]⟩,.string ⟨#[]⟩,.string ⟨#[]⟩,.string ⟨#[]⟩,.string ⟨#[]⟩,.string ⟨#[]⟩,.string ⟨#[]⟩,.string ⟨#[]⟩,.string ⟨#[]⟩,.string ⟨#[]⟩,.string ⟨#[]⟩,.string ⟨#[]⟩,.string ⟨#[]⟩,.string ⟨#[]⟩,.string ⟨#[]⟩,.string ⟨#[]⟩,.string ⟨#[]⟩,.string ⟨#[]⟩,.string ⟨#[]⟩,.string ⟨#[]⟩,.string ⟨#[]⟩,.string ⟨#[]⟩,.string ⟨#[]⟩,.string ⟨#[]⟩,.string ⟨#[]⟩,.string ⟨#[]⟩,.string ⟨#[]⟩,.string ⟨#[]⟩,.string ⟨#[]⟩,.string ⟨#[]⟩,.string ⟨#[]⟩,.string ⟨#[]⟩,.string ⟨#[]⟩,.string ⟨#[]⟩,.string ⟨#[]⟩,.string ⟨#[]⟩,.string ⟨#[]⟩,.string ⟨#[]⟩,.string ⟨#[]⟩,.string ⟨#[]⟩,.string ⟨#[]⟩,.string ⟨#[]⟩,.string ⟨#[]⟩]) (cs:=Jt) (by kernel_rfl) M) (fun b0=>?_);refine ZX<|zZ<|zC .none M (yS (z:=.agg #[.string ⟨#[]⟩,.string ⟨#[]⟩,.string ⟨#[]⟩,.string ⟨#[]⟩,.string ⟨#[]⟩,.string ⟨#[]⟩,.string ⟨#[]⟩,.string ⟨#[]⟩,.string ⟨#[]⟩,.string ⟨#[]⟩,.string ⟨#[]⟩,.string ⟨#[]⟩,.string ⟨#[]⟩,.string ⟨#[]⟩,.string ⟨#[]⟩,.string ⟨#[]⟩,.string ⟨#[]⟩,.string ⟨#[]⟩,.string ⟨#[]⟩,.string ⟨#[]⟩,.string ⟨#[]⟩,.string ⟨#[]⟩,.string ⟨#[]⟩,.string ⟨#[]⟩,.string ⟨#[]⟩,.string ⟨#[]⟩,.string ⟨#[]⟩,.string ⟨#[]⟩,.string ⟨#[]⟩,.string ⟨#[]⟩,.string ⟨#[]⟩,.string ⟨#[]⟩,.string ⟨#[]⟩,.string ⟨#[]⟩,.string ⟨#[]⟩,.string ⟨#[]⟩,.string ⟨#[]⟩,.string ⟨#[]⟩,.string ⟨#[]⟩,.string ⟨#[]⟩,.string ⟨#[]⟩,.string ⟨#[]⟩,.string ⟨#[]⟩,.string ⟨#[]⟩,.string ⟨#[]⟩,.string ⟨#[]⟩,.string ⟨#[]⟩,.string ⟨#[]⟩,.string ⟨#[]⟩,.string ⟨#[]⟩,.string ⟨#[]⟩,.string ⟨#[]⟩,.string ⟨#[]⟩,.string ⟨#[]⟩,.string ⟨#[]⟩,.string ⟨#[]⟩,.string ⟨#[]⟩,.string ⟨#[]⟩,.string ⟨#[]⟩,.string ⟨#[]⟩,.string ⟨#[]⟩,.string ⟨#[]⟩,.string ⟨#[]⟩,.string ⟨#[]⟩]) (cs:=Jt) (by kernel_rfl) M) (fun b1=>?_)
 refine ZX<|zZ<|zC .none M (tR (z:=Jg) M M M M U59 (by kernel_rfl) (by kernel_rfl) M M) (fun b9=>?_);refine Za M M<|ZX<|Z3r 0 1 2 M M M<|zC .none M (tR (z:=Jg) M M M M U59 (by kernel_rfl) (by kernel_rfl) M M) (fun b10=>?_);refine Za M M<|ZX<|Z4r 0 1 2 3 M M M M<|zC .none M (tR (z:=Jg) M M M M U59 (by kernel_rfl) (by kernel_rfl) M M) (fun b11=>?_);refine Za M M<|ZX<|Z5r 0 1 2 3 4 M M M M M<|zC .none M (tR (z:=Jg) M M M M U59 (by kernel_rfl) (by kernel_rfl) M M) (fun b12=>?_);refine Za M M<|ZX<|zX<|Z6 0 1 2 3 4 5 M M M M M M<|zR (H':=qqH w_0 b12 b11 b10 b9 b1 b0 (qw1L 0)) Jv ?_;refine zZ<|Za M M<|ZT<|yV<|xO (ι:={k:Nat // k≤12}) (fun k=>[(0,.pointer (some ⟨b0,0,none⟩)),(1,.pointer (some ⟨b1,0,none⟩)),(2,.slice (some ⟨b9,0,none⟩) 12 12),(3,.slice (some ⟨b10,0,none⟩) 12 12),(4,.slice (some ⟨b11,0,none⟩) 6 6),(5,.slice (some ⟨b12,0,none⟩) 7 7),(6,.int .i64 (k.1:Nat))]) (fun k=>qqH w_0 b12 b11 b10 b9 b1 b0 (qw1L k.1)) (fun k=>12-k.1) ⟨0,Aa _⟩ (O7 M M M M M M M) Jv (fun k=>?_);obtain⟨k,hk⟩:=k;dsimp only;have hql:=qw1L_len k;refine zX<|zX<|zZ<|Zm M M<|ZF M (yB M M)<|ZT<|zW M (fun h14=>?_) (fun h14=>?_)
 ·replace h14:=Ke h14;have hk:k<12:=by omega
  have ha:=at_len (l:=qaL) (k:=k) hk;have hb:=at_len (l:=qbL) (k:=k) hk;refine zL<|zP<|zX<|yV<|zX<|Z8r 0 1 2 3 4 5 6 14 M M M M M M M M<|Zm M M<|ZF M (yO M M (show IntKind.i64.wrap (1+((k:Nat):Int))=((1+k:Nat):Int) from i64_in ((1+k:Nat):Int) (by omega) (by omega))) ?_;refine Zm M M<|Zm M M<|ZF M (zA (j:=k) (es:=1) (g:=b9) (o:=0) (len:=12) (cap:=12) M M Tryz.underlying59 (by kernel_rfl) M (by omega) M) ?_;refine ZF M (zD M U9 M (fun w hw=>HpG.cell (k:=3) (cs:=strC qaL) hw M (rL ha))) ?_;refine ZF M (xC (j:=1+k) (es:=1) (len:=64) M M Tryz.underlying156 (by kernel_rfl) M (by omega) M) ?_;refine yM .none (vT 4 M M M M ?_ (by kernel_rfl)) (fun _=>?_)
  ·rw[Ag,hql];rw[Nat.blt_eq];omega
  refine ZT<|Z8 0 1 2 3 4 5 6 14 M M M M M M M M ?_
  refine zR (H':=qqH w_0 b12 b11 b10 b9 b1 b0 ((qw1L k).set (1+k) (qaL.getD k []))) (fun w h=>by
   have e:=oT (qw1L k) (0+(1+k)*1) (qaL.getD k []);rw[show 0+(1+k)*1=1+k by omega] at e;unfold qqH arQ;rw[← e];rw[show 0+(1+k)*1=1+k by omega] at h
   exact h) ?_
  refine zZ<|Zm M M<|ZF M (yO M M (show IntKind.i64.wrap (16+((k:Nat):Int))=((16+k:Nat):Int) from i64_in ((16+k:Nat):Int) (by omega) (by omega))) ?_;refine Zm M M<|Zm M M<|ZF M (zA (j:=k) (es:=1) (g:=b10) (o:=0) (len:=12) (cap:=12) M M Tryz.underlying59 (by kernel_rfl) M (by omega) M) ?_;refine ZF M (zD M U9 M (fun w hw=>HpG.cell (k:=2) (cs:=strC qbL) hw M (rL hb))) ?_;refine ZF M (xC (j:=16+k) (es:=1) (len:=64) M M Tryz.underlying156 (by kernel_rfl) M (by omega) M) ?_;refine yM .none (vT 4 M M M M ?_ (by kernel_rfl)) (fun _=>?_)
  ·rw[Ag,List.length_set,hql];rw[Nat.blt_eq];omega
  refine zI<|yW<|zP<|Z8 0 1 2 3 4 5 6 14 M M M M M M M M ?_
  refine zR (H':=qqH w_0 b12 b11 b10 b9 b1 b0 (qw1L (k+1))) (fun w h=>by
   have e:=oT ((qw1L k).set (1+k) (qaL.getD k [])) (0+(16+k)*1) (qbL.getD k []);rw[show 0+(16+k)*1=16+k by omega] at e;unfold qqH arQ;rw[qw1L,← e];rw[show 0+(16+k)*1=16+k by omega] at h
   exact h) ?_
  refine zZ<|Zm M M<|ZF M (yO M M (show IntKind.i64.wrap (((k:Nat):Int)+1)=((k+1:Nat):Int) from i64_in ((k+1:Nat):Int) (by omega) (by omega))) ?_;exact Za M M<|zI<|yK (ι:={k:Nat // k≤12}) ⟨k+1,by omega⟩ (by show 12-(k+1)<12-k;omega) (O7 M M M M M M M) Jv
 ·replace h14:=Kf h14;obtain rfl:k=12:=by omega
  refine xT<|zB<|zB<|xU<|zP<|zX<|zX<|Z8r 0 1 2 3 4 5 6 14 M M M M M M M M<|Za M M<|ZT<|yV<|xO (ι:={k:Nat // k≤6}) (fun k=>[(0,.pointer (some ⟨b0,0,none⟩)),(1,.pointer (some ⟨b1,0,none⟩)),(4,.slice (some ⟨b11,0,none⟩) 6 6),(5,.slice (some ⟨b12,0,none⟩) 7 7),(7,.int .i64 (k.1:Nat))]) (fun k=>qqH w_0 b12 b11 b10 b9 b1 b0 (qw2L k.1)) (fun k=>6-k.1) ⟨0,Aa _⟩ (O5 M M M M M) Jv (fun k=>?_);obtain⟨k,hk⟩:=k;dsimp only;have hql:=qw2L_len k;refine zX<|zX<|zZ<|Zm M M<|ZF M (yB M M)<|ZT<|zW M (fun h32=>?_) (fun h32=>?_)
  ·replace h32:=Ke h32;have hk:k<6:=by omega
   have ha:=at_len (l:=qcL) (k:=k) hk;refine zL<|zP<|zX<|yV<|Z6r 0 1 4 5 7 32 M M M M M M<|Zm M M<|ZF M (yO M M (show IntKind.i64.wrap (32+((k:Nat):Int))=((32+k:Nat):Int) from i64_in ((32+k:Nat):Int) (by omega) (by omega))) ?_;refine Zm M M<|Zm M M<|ZF M (zA (j:=k) (es:=1) (g:=b11) (o:=0) (len:=6) (cap:=6) M M Tryz.underlying59 (by kernel_rfl) M (by omega) M) ?_;refine ZF M (zD M U9 M (fun w hw=>HpG.cell (k:=1) (cs:=strC qcL) hw M (rL ha))) ?_;refine ZF M (xC (j:=32+k) (es:=1) (len:=64) M M Tryz.underlying156 (by kernel_rfl) M (by omega) M) ?_;refine yM .none (vT 4 M M M M ?_ (by kernel_rfl)) (fun _=>?_)
   ·rw[Ag,hql];rw[Nat.blt_eq];omega
   refine zI<|yW<|zP<|Z6 0 1 4 5 7 32 M M M M M M ?_
   refine zR (H':=qqH w_0 b12 b11 b10 b9 b1 b0 (qw2L (k+1))) (fun w h=>by
    have e:=oT (qw2L k) (0+(32+k)*1) (qcL.getD k []);rw[show 0+(32+k)*1=32+k by omega] at e;unfold qqH arQ;rw[qw2L,← e];rw[show 0+(32+k)*1=32+k by omega] at h
    exact h) ?_
   refine zZ<|Zm M M<|ZF M (yO M M (show IntKind.i64.wrap (((k:Nat):Int)+1)=((k+1:Nat):Int) from i64_in ((k+1:Nat):Int) (by omega) (by omega))) ?_;exact Za M M<|zI<|yK (ι:={k:Nat // k≤6}) ⟨k+1,by omega⟩ (by show 6-(k+1)<6-k;omega) (O5 M M M M M) Jv
  ·replace h32:=Kf h32;obtain rfl:k=6:=by omega
   refine xT<|zB<|zB<|xU<|zP<|zX<|zX<|Z6r 0 1 4 5 7 32 M M M M M M<|Za M M<|ZT<|yV<|xO (ι:={k:Nat // k≤7}) (fun k=>[(0,.pointer (some ⟨b0,0,none⟩)),(1,.pointer (some ⟨b1,0,none⟩)),(5,.slice (some ⟨b12,0,none⟩) 7 7),(8,.int .i64 (k.1:Nat))]) (fun k=>qqH w_0 b12 b11 b10 b9 b1 b0 (qw3L k.1)) (fun k=>7-k.1) ⟨0,Aa _⟩ (O4 M M M M) Jv (fun k=>?_);obtain⟨k,hk⟩:=k;dsimp only;have hql:=qw3L_len k;refine zX<|zX<|zZ<|Zm M M<|ZF M (yB M M)<|ZT<|zW M (fun h43=>?_) (fun h43=>?_)
   ·replace h43:=Ke h43;have hk:k<7:=by omega
    have ha:=at_len (l:=qdL) (k:=k) hk;refine zL<|zP<|zX<|yV<|Z5r 0 1 5 8 43 M M M M M<|Zm M M<|ZF M (yO M M (show IntKind.i64.wrap (48+((k:Nat):Int))=((48+k:Nat):Int) from i64_in ((48+k:Nat):Int) (by omega) (by omega))) ?_;refine Zm M M<|Zm M M<|ZF M (zA (j:=k) (es:=1) (g:=b12) (o:=0) (len:=7) (cap:=7) M M Tryz.underlying59 (by kernel_rfl) M (by omega) M) ?_;refine ZF M (zD M U9 M (fun w hw=>HpG.cell (k:=0) (cs:=strC qdL) hw M (rL ha))) ?_;refine ZF M (xC (j:=48+k) (es:=1) (len:=64) M M Tryz.underlying156 (by kernel_rfl) M (by omega) M) ?_;refine yM .none (vT 4 M M M M ?_ (by kernel_rfl)) (fun _=>?_)
    ·rw[Ag,hql];rw[Nat.blt_eq];omega
    refine zI<|yW<|zP<|Z5 0 1 5 8 43 M M M M M ?_
    refine zR (H':=qqH w_0 b12 b11 b10 b9 b1 b0 (qw3L (k+1))) (fun w h=>by
     have e:=oT (qw3L k) (0+(48+k)*1) (qdL.getD k []);rw[show 0+(48+k)*1=48+k by omega] at e;unfold qqH arQ;rw[qw3L,← e];rw[show 0+(48+k)*1=48+k by omega] at h
     exact h) ?_
    refine zZ<|Zm M M<|ZF M (yO M M (show IntKind.i64.wrap (((k:Nat):Int)+1)=((k+1:Nat):Int) from i64_in ((k+1:Nat):Int) (by omega) (by omega))) ?_;exact Za M M<|zI<|yK (ι:={k:Nat // k≤7}) ⟨k+1,by omega⟩ (by show 7-(k+1)<7-k;omega) (O4 M M M M) Jv
   ·replace h43:=Kf h43;obtain rfl:k=7:=by omega
    refine xT<|zB<|zB<|xU<|zP<|zX<|Z5r 0 1 5 8 43 rfl rfl rfl rfl rfl<|ZF rfl (xC (j:=40) (es:=1) rfl rfl Tryz.underlying156 (by kernel_rfl) rfl (by first|decide|omega|(simp;done)|(simp;omega)) rfl) ?_;refine yM .none (vT 4 M M M M ?_ (by kernel_rfl)) (fun _=>?_)
    ·rw[Ag,qw3L_len];rfl
    refine ZX<|Z5r 0 1 5 8 43 rfl rfl rfl rfl rfl<|ZF rfl (xC (j:=41) (es:=1) rfl rfl Tryz.underlying156 (by kernel_rfl) rfl (by first|decide|omega|(simp;done)|(simp;omega)) rfl) ?_;refine yM .none (vT 4 M M M M ?_ (by kernel_rfl)) (fun _=>?_)
    ·rw[List.length_set,Ag,qw3L_len];rfl
    refine ZX<|Z5 0 1 5 8 43 M M M M M ?_
    refine zR (H':=qqH w_0 b12 b11 b10 b9 b1 b0 qnL) (fun w h=>by
     unfold qqH arQ qnL;rw[← oT,← oT]
     exact h) ?_
    refine zZ<|uT .none M  (yU 4 M M Tryz.underlying156 M ?_) ?_
    ·show some 64=some (strC qnL).length;rw[Ag];rfl
    refine yM .none (pA 5 M M M ?_ M (by kernel_rfl)) (fun _=>?_)
    ·exact strC_one qnL
    refine ZT<|zQ<|yC M M 5 M Tryz.underlying156 M (by kernel_rfl) (fun w hw=>?_);exact⟨rfl,(Kg hw).ext⟩
end Go.Proofs.YtkaepknpplhgkaaGreatDoor
namespace Go.Proofs.YtkaepknpplhgkaaGreatDoor
open Go.RowKit
def knR (o:Nat):Bool:=decide (1≤o∧o≤12)||decide (16≤o∧o≤27)||decide (32≤o∧o≤37)||decide (o=40∨o=41)||decide (48≤o∧o≤54)
theorem kn_rng {o:Nat}(h:(xD ((o:Nat):Int)).known=true):(1≤o∧o≤12)∨(16≤o∧o≤27)∨(32≤o∧o≤37)∨(o=40∨o=41)∨(48≤o∧o≤54):=by
 have ho:o<64:=by
  refine Classical.byContradiction fun hh=>?_;rw[qB (by omega)] at h;cases h
 have h1:(List.range 64).all (fun o=>!(xD ((o:Nat):Int)).known||knR o)=true:=by kernel_rfl
 have:=tP h1 o ho;rw[h] at this;unfold knR at this;simp only[Bool.not_true,Bool.false_or,Bool.or_eq_true,Ac] at this;omega
theorem shq_ifs (o:Nat):wF o=if o≤12 then [114,114,114] else if 23≤o∧o≤26 then [114,109] else if o<40 then [114,114,118] else if o=48 then [118] else if o=52 then [114] else if 49≤o∧o≤51 then [] else [114,118]:=rfl
theorem rD {x y:Bs}(h:x=y):Ending.returned (.string ⟨x.toArray⟩)=Ending.returned (.string ⟨y.toArray⟩):=by rw[h]
theorem rshape_any (o:Nat) (hk:(xD ((o:Nat):Int)).known=true) (w_0:World):Calls Tryz.prog 89 #[.int .i64 o] w_0 fun e w'=>e=.returned (.string ⟨(wF o).toArray⟩)∧Ext w_0 w':=by
 have hr:=kn_rng hk;have hs:=shq_ifs o;refine zH (args:=[.int .i64 o]) Tryz.func89 M 45 M (Kc M)<|Z1 0 M<|zR (H':=Hp (fun _=>False) w_0 [] [] (fun _=>True)) (fun u hu=>?_) ?_
 ·subst hu;exact Hp.start0
 refine zX<|zZ<|Za M M<|ZX<|yV<|yN (ι:={z:Bool // z=true↔(1≤o∧o≤12)}) (fun z=>[(0,.int .i64 (o:Nat)),(3,.bool z.1)]) (fun _=>Hp (fun _=>False) w_0 [] [] (fun _=>True)) ?_ (fun z=>?_)
 ·refine zZ<|Zm M M<|ZF M (xY M M)<|Zm M M<|zF 6 M (fun hb=>?_) (fun hb=>?_)
  ·replace hb:=Ke hb;exact ZG M M M (zK M)<|ZG M M M (xL M M)<|ZF M (zJ M M)<|Za M M<|zI<|zU (ι:={z:Bool // z=true↔(1≤o∧o≤12)}) ⟨decide ((o:Int)≤12),by rw[decide_eq_true_iff];omega⟩ (O2 M M) Jv
  ·replace hb:=Kf hb;exact ZP M<|ZP M<|ZF M (zM M M)<|Za M M<|zI<|zU (ι:={z:Bool // z=true↔(1≤o∧o≤12)}) ⟨false,by simp;omega⟩ (O2 M M) Jv
 ·obtain⟨z,hz1⟩:=z;dsimp only;refine zW M (fun h3=>?_) (fun h3=>?_)
  ·refine zX<|zZ<|Za M M<|ZT<|zQ<|yZ<|zT<|zO M M (fun w hw=>?_);exact⟨rD (by rw[hs,Ae (hz1.1 h3).2]),hw.ext0⟩
  ·have h3':¬(1≤o∧o≤12):=fun h=>by rw[hz1.2 h] at h3;cases h3
   refine yN (ι:={z:Bool // z=true↔(23≤o∧o≤26)}) (fun z=>[(0,.int .i64 (o:Nat)),(10,.bool z.1)]) (fun _=>Hp (fun _=>False) w_0 [] [] (fun _=>True)) ?_ (fun z=>?_)
   ·refine zZ<|Zm M M<|ZF M (xY M M)<|Zm M M<|zF 13 M (fun hb=>?_) (fun hb=>?_)
    ·replace hb:=Ke hb;exact ZG M M M (zK M)<|ZG M M M (xL M M)<|ZF M (zJ M M)<|Za M M<|zI<|zU (ι:={z:Bool // z=true↔(23≤o∧o≤26)}) ⟨decide ((o:Int)≤26),by rw[decide_eq_true_iff];omega⟩ (O2 M M) Jv
    ·replace hb:=Kf hb;exact ZP M<|ZP M<|ZF M (zM M M)<|Za M M<|zI<|zU (ι:={z:Bool // z=true↔(23≤o∧o≤26)}) ⟨false,by simp;omega⟩ (O2 M M) Jv
   ·obtain⟨z,hz3⟩:=z;dsimp only;refine zW M (fun h10=>?_) (fun h10=>?_)
    ·refine zX<|zZ<|Za M M<|ZT<|zQ<|yZ<|zT<|zO M M (fun w hw=>?_);exact⟨rD (by rw[hs,Ad (by have:=hz3.1 h10;omega),Ae (hz3.1 h10)]),hw.ext0⟩
    ·have h10':¬(23≤o∧o≤26):=fun h=>by rw[hz3.2 h] at h10;cases h10
     refine yN (ι:={z:Bool // z=true↔((16≤o∧o≤27)∨(32≤o∧o≤37))}) (fun z=>[(0,.int .i64 (o:Nat)),(17,.bool z.1)]) (fun _=>Hp (fun _=>False) w_0 [] [] (fun _=>True)) ?_ (fun z=>?_)
     ·refine zZ<|Zm M M<|ZF M (xY M M)<|Zm M M<|zF 20 M (fun hb=>?_) (fun hb=>?_)
      ·replace hb:=Ke hb;refine ZG M M M (zK M)<|ZG M M M (xL M M)<|ZF M (zJ M M)<|Zm M M<|zF 24 M (fun hb=>?_) (fun hb=>?_)
       ·replace hb:=Ke hb;refine ZP M<|ZP M<|ZP M<|xH M M M<|xH M M M<|ZP M<|ZF M (zJ M M)<|Za M M<|zI ?_
        first|exact zU (ι:={z:Bool // z=true↔((16≤o∧o≤27)∨(32≤o∧o≤37))}) ⟨true,by simp;omega⟩ (O2 rfl rfl) Jv|exact zU (ι:={z:Bool // z=true↔((16≤o∧o≤27)∨(32≤o∧o≤37))}) ⟨false,by simp;omega⟩ (O2 rfl rfl) Jv|exact zU (ι:={z:Bool // z=true↔((16≤o∧o≤27)∨(32≤o∧o≤37))}) ⟨decide ((o:Int)≤37),by rw[decide_eq_true_iff];omega⟩ (O2 rfl rfl) Jv
       ·replace hb:=Kf hb;refine ZG M M M (zK M)<|ZG M M M (xY M M)<|ZG M M M (zK M)<|zF 27 M (fun hb=>?_) (fun hb=>?_)
        ·replace hb:=Ke hb;refine ZG M M M (zK M)<|ZG M M M (xL M M)<|ZG M M M (zJ M M)<|ZF M (zM M M)<|Za M M<|zI ?_
         first|exact zU (ι:={z:Bool // z=true↔((16≤o∧o≤27)∨(32≤o∧o≤37))}) ⟨true,by simp;omega⟩ (O2 rfl rfl) Jv|exact zU (ι:={z:Bool // z=true↔((16≤o∧o≤27)∨(32≤o∧o≤37))}) ⟨false,by simp;omega⟩ (O2 rfl rfl) Jv|exact zU (ι:={z:Bool // z=true↔((16≤o∧o≤27)∨(32≤o∧o≤37))}) ⟨decide ((o:Int)≤37),by rw[decide_eq_true_iff];omega⟩ (O2 rfl rfl) Jv
        ·replace hb:=Kf hb;refine ZP M<|ZP M<|ZG M M M (zM M M)<|ZF M (zM M M)<|Za M M<|zI ?_
         first|exact zU (ι:={z:Bool // z=true↔((16≤o∧o≤27)∨(32≤o∧o≤37))}) ⟨true,by simp;omega⟩ (O2 rfl rfl) Jv|exact zU (ι:={z:Bool // z=true↔((16≤o∧o≤27)∨(32≤o∧o≤37))}) ⟨false,by simp;omega⟩ (O2 rfl rfl) Jv|exact zU (ι:={z:Bool // z=true↔((16≤o∧o≤27)∨(32≤o∧o≤37))}) ⟨decide ((o:Int)≤37),by rw[decide_eq_true_iff];omega⟩ (O2 rfl rfl) Jv
      ·replace hb:=Kf hb;refine ZP M<|ZP M<|ZF M (zM M M)<|Zm M M<|ZG M M M (zK M)<|ZG M M M (xY M M)<|ZG M M M (zK M)<|zF 27 M (fun hb=>?_) (fun hb=>?_)
       ·replace hb:=Ke hb;refine ZG M M M (zK M)<|ZG M M M (xL M M)<|ZG M M M (zJ M M)<|ZF M (zM M M)<|Za M M<|zI ?_
        first|exact zU (ι:={z:Bool // z=true↔((16≤o∧o≤27)∨(32≤o∧o≤37))}) ⟨true,by simp;omega⟩ (O2 rfl rfl) Jv|exact zU (ι:={z:Bool // z=true↔((16≤o∧o≤27)∨(32≤o∧o≤37))}) ⟨false,by simp;omega⟩ (O2 rfl rfl) Jv|exact zU (ι:={z:Bool // z=true↔((16≤o∧o≤27)∨(32≤o∧o≤37))}) ⟨decide ((o:Int)≤37),by rw[decide_eq_true_iff];omega⟩ (O2 rfl rfl) Jv
       ·replace hb:=Kf hb;refine ZP M<|ZP M<|ZG M M M (zM M M)<|ZF M (zM M M)<|Za M M<|zI ?_
        first|exact zU (ι:={z:Bool // z=true↔((16≤o∧o≤27)∨(32≤o∧o≤37))}) ⟨true,by simp;omega⟩ (O2 rfl rfl) Jv|exact zU (ι:={z:Bool // z=true↔((16≤o∧o≤27)∨(32≤o∧o≤37))}) ⟨false,by simp;omega⟩ (O2 rfl rfl) Jv|exact zU (ι:={z:Bool // z=true↔((16≤o∧o≤27)∨(32≤o∧o≤37))}) ⟨decide ((o:Int)≤37),by rw[decide_eq_true_iff];omega⟩ (O2 rfl rfl) Jv
     ·obtain⟨z,hz5⟩:=z;dsimp only;refine zW M (fun h17=>?_) (fun h17=>?_)
      ·refine zX<|zZ<|Za M M<|ZT<|zQ<|yZ<|zT<|zO M M (fun w hw=>?_);exact⟨rD (by rw[hs,Ad (by have:=hz5.1 h17;omega),Ad h10',Ae (by have:=hz5.1 h17;omega)]),hw.ext0⟩
      ·have h17':¬((16≤o∧o≤27)∨(32≤o∧o≤37)):=fun h=>by rw[hz5.2 h] at h17;cases h17
       refine zX<|zZ<|Zm M M<|ZF M (yY M M)<|Za M M<|ZT<|zW M (fun h32=>?_) (fun h32=>?_)
       ·replace h32:=Km h32;refine zX<|Z3r 0 17 32 M M M<|Za M M<|ZT<|zQ<|yZ<|zT<|zO M M (fun w hw=>?_);exact⟨rD (by rw[hs,Ad (by omega),Ad (by omega),Ad (by omega),Ad (by omega),Ae (by omega)]),hw.ext0⟩
       ·replace h32:=yR h32;refine zX<|Z3r 0 17 32 M M M<|Zm M M<|ZF M (yY M M)<|Za M M<|ZT<|zW M (fun h35=>?_) (fun h35=>?_)
        ·replace h35:=Km h35;refine zX<|Z4r 0 17 32 35 M M M M<|Za M M<|ZT<|zQ<|yZ<|zT<|zO M M (fun w hw=>?_);exact⟨rD (by rw[hs,Ad (by omega),Ad (by omega),Ad (by omega),Ae (by omega)]),hw.ext0⟩
        ·replace h35:=yR h35;refine yN (ι:={z:Bool // z=true↔(49≤o∧o≤51)}) (fun z=>[(0,.int .i64 (o:Nat)),(38,.bool z.1)]) (fun _=>Hp (fun _=>False) w_0 [] [] (fun _=>True)) ?_ (fun z=>?_)
         ·refine Z4r 0 17 32 35 M M M M<|Zm M M<|ZF M (xY M M)<|Zm M M<|zF 41 M (fun hb=>?_) (fun hb=>?_)
          ·replace hb:=Ke hb;exact ZG M M M (zK M)<|ZG M M M (xL M M)<|ZF M (zJ M M)<|Za M M<|zI<|zU (ι:={z:Bool // z=true↔(49≤o∧o≤51)}) ⟨decide ((o:Int)≤51),by rw[decide_eq_true_iff];omega⟩ (O2 M M) Jv
          ·replace hb:=Kf hb;exact ZP M<|ZP M<|ZF M (zM M M)<|Za M M<|zI<|zU (ι:={z:Bool // z=true↔(49≤o∧o≤51)}) ⟨false,by simp;omega⟩ (O2 M M) Jv
         ·obtain⟨z,hz11⟩:=z;dsimp only;refine zW M (fun h38=>?_) (fun h38=>?_)
          ·refine zX<|zZ<|Za M M<|ZT<|zQ<|yZ<|zT<|zO M M (fun w hw=>?_);exact⟨rD (by rw[hs,Ad (by omega),Ad (by omega),Ad (by omega),Ad (by omega),Ad (by omega),Ae (hz11.1 h38)]),hw.ext0⟩
          ·have h38':¬(49≤o∧o≤51):=fun h=>by rw[hz11.2 h] at h38;cases h38
           refine zL<|yW<|zP<|zX<|zZ<|Za M M<|ZT<|zQ<|zO M M (fun w hw=>?_);exact⟨rD (by rw[hs,Ad (by omega),Ad (by omega),Ad (by omega),Ad (by omega),Ad (by omega),Ad h38']),hw.ext0⟩
theorem lq_n {i:QI}(a:Nat) (h:wF i.op.toNat=[]):lnQ i a=wC i.op.toNat:=by unfold lnQ;rw[Ae h]
theorem lq_rrr {i:QI}(a:Nat) (h:wF i.op.toNat=[114,114,114]) (hn:i.op≠52∧i.op≠54):lnQ i a=((((((wC i.op.toNat++[32])++rgB i.d)++[44,32])++rgB i.a)++[44,32])++rgB i.b):=by
 unfold lnQ;rw[Ad (by rw[h];decide),h];simp[tD,oO,joB,qK hn]
theorem lq_rrv {i:QI}(a:Nat) (h:wF i.op.toNat=[114,114,118]) (hn:i.op≠52∧i.op≠54):lnQ i a=((((((wC i.op.toNat++[32])++rgB i.d)++[44,32])++rgB i.a)++[44,32])++sB i a):=by
 unfold lnQ;rw[Ad (by rw[h];decide),h];simp[tD,oO,joB,qK hn]
theorem lq_rm {i:QI}(a:Nat) (h:wF i.op.toNat=[114,109]) (hn:i.op≠52∧i.op≠54):lnQ i a=((((((wC i.op.toNat++[32])++rgB i.d)++[44,32,91])++rgB i.a)++uO i.imm)++[93]):=by
 unfold lnQ;rw[Ad (by rw[h];decide),h];simp[tD,oO,joB,qK hn]
theorem lq_r {i:QI}(a:Nat) (h:wF i.op.toNat=[114]) (hn:i.op=52∨i.op=54):lnQ i a=((wC i.op.toNat++[32])++rgB i.a):=by
 unfold lnQ;rw[Ad (by rw[h];decide),h];simp[tD,oO,joB,regsQ_a hn]
theorem lq_v {i:QI}(a:Nat) (h:wF i.op.toNat=[118]):lnQ i a=((wC i.op.toNat++[32])++sB i a):=by
 unfold lnQ;rw[Ad (by rw[h];decide),h];simp[tD,oO,joB]
theorem lq_av {i:QI}(a:Nat) (h:wF i.op.toNat=[114,118]) (hn:i.op=52∨i.op=54):lnQ i a=((((wC i.op.toNat++[32])++rgB i.a)++[44,32])++sB i a):=by
 unfold lnQ;rw[Ad (by rw[h];decide),h];simp[tD,oO,joB,regsQ_a hn]
theorem lq_dv {i:QI}(a:Nat) (h:wF i.op.toNat=[114,118]) (hn:i.op≠52∧i.op≠54):lnQ i a=((((wC i.op.toNat++[32])++rgB i.d)++[44,32])++sB i a):=by
 unfold lnQ;rw[Ad (by rw[h];decide),h];simp[tD,oO,joB,qK hn]
end Go.Proofs.YtkaepknpplhgkaaGreatDoor
namespace Go.Proofs.YtkaepknpplhgkaaGreatDoor
open Go.RowKit
theorem rlineQ_any (i:QI) (hi:i.imm<4294967296) (a:Nat) (ha:a<4294967296) (w_0:World):Calls Tryz.prog 34 #[.agg (qiC i).toArray,.int .u32 a] w_0 fun e w'=>e=.returned (.string ⟨(lnQV i a).toArray⟩)∧Ext w_0 w':=by
 unfold lnQV
 cases hv:wQ i with
 | false =>
  refine zH (args:=[.agg (qiC i).toArray,.int .u32 a]) Tryz.func34 M 155 M (Kc M)<|Z2 0 1 M M<|zR (H':=Hp (fun _=>False) w_0 [] [] (fun _=>True)) (fun u hu=>?_) ?_
  ·subst hu;exact Hp.start0
  refine zX<|zZ<|zC .none M (yF M M) (fun b2=>?_);refine Za M M<|ZX<|zX<|zZ<|ZF M (yU 0 M M U74 M (by kernel_rfl)) ?_;refine zE .none M  (v:=.bool false) (by kernel_rfl) M (fun w hw=>(rvalidQ_any i hi w).mono fun e w' ⟨h1,h2⟩=>⟨by rw[h1,hv],h2⟩) ?_;refine ZF M (xF M)<|ZT<|zW M (fun hc=>?_) (fun hc=>?_)
  ·refine zX<|Z5r 0 1 2 4 9 M M M M M<|Za M M<|ZT<|zQ<|zT<|zO M M (fun w hw=>?_);exact⟨rfl,hw.ext0⟩
  ·cases hc
 | true =>
  rw[Ae rfl];have hvq:=vQ_of hi hv;obtain⟨⟨ho0,ho1⟩,⟨hd0,hd1⟩,⟨ha0,ha1⟩,hb0,hb1⟩:=vq_rng hvq;have hve:=oW i;rw[hv] at hve
  have hkn:(xD i.op).known=true:=by
   have hve:=hve.symm;simp only[Ky] at hve;exact hve.1.1.1.1
  obtain⟨o,hoe⟩:∃o:Nat,i.op=o:=⟨i.op.toNat,by omega⟩;have hot:i.op.toNat=o:=by omega
  rw[hoe] at hkn;have hr:=kn_rng hkn;have hnl:=qnmL_len o;have hdl:(rgB i.d).length≤3:=qL (by omega);have hal:(rgB i.a).length≤3:=qL (by omega);have hbl:(rgB i.b).length≤3:=qL (by omega);have hol:(uO i.imm).length≤11:=offB_len hi;have hsl:(uK i.imm).length≤11:=sgnB_len7 hi;have hml:(Lib.decDigits i.imm).length≤10:=dec32 hi;obtain⟨tg,htg⟩:∃t,t=(a+4*i.imm)%4294967296:=⟨_,rfl⟩;have htl:tg<4294967296:=by omega
  have hgl:(Lib.decDigits tg).length≤10:=dec32 htl;have himB:sB i a=if rF i.op=true then Lib.decDigits tg else if (17≤i.op∧i.op≤19)∨41≤i.op then Lib.decDigits i.imm else uK i.imm:=by rw[htg];rfl
  have hsh:wF i.op.toNat=wF o:=by rw[hot]
  obtain⟨S,hS⟩:∃S,S=wF o:=⟨_,rfl⟩;have hs:=shq_ifs o;have hfo:(qiC i)[0]? = some (.int .i64 (o:Nat)):=by rw[← hoe];rfl
  have hwq:=fun w=>rshape_any o hkn w;rw[← hS] at hwq hsh;rw[← hS] at hs;have h52:¬(i.op=52∨i.op=54)→i.op≠52∧i.op≠54:=fun h=>⟨fun e=>h (.inl e),fun e=>h (.inr e)⟩;rw[hoe] at h52;refine zH (args:=[.agg (qiC i).toArray,.int .u32 a]) Tryz.func34 M 155 M (Kc M)<|Z2 0 1 M M<|zR (H':=Hp (fun _=>False) w_0 [] [] (fun _=>True)) (fun u hu=>?_) ?_
  ·subst hu;exact Hp.start0
  refine zX<|zZ<|zC .none M (yF M M) (fun b2=>?_);refine Za M M<|ZX<|zX<|zZ<|ZF M (yU 0 M M U74 M (by kernel_rfl)) ?_;refine zE .none M  (v:=.bool true) (by kernel_rfl) M (fun w hw=>(rvalidQ_any i hi w).mono fun e w' ⟨h1,h2⟩=>⟨by rw[h1,hv],h2⟩) ?_;refine ZF M (xF M)<|ZT<|zW M (fun hc=>?_) (fun hc=>?_)
  ·cases hc
  ·refine zL<|zP<|zX<|Z5 0 1 2 4 9 M M M M M<|rJ [0,1,2,3,4] (Blk b2 (qiO i)) (by kernel_rfl) (by kernel_rfl) Blk.stab (fun w h=>HpG.blk h (k:=0) M) (fun n0 hn0=>?_);refine wU M<|uZ .none M  (v:=.agg (strC qnL).toArray) (by kernel_rfl) M (fun _ _ h hx=>Blk.onE h hx) (fun w hw=>rqnames_any w) ?_;refine Zd M M M (Y74x0 M) ?_;refine Zd M M M (zD (v:=.int .i64 (o:Nat)) M U3 M (fun w hw=>Blk.cell hw hfo)) ?_;refine Zd M M M (yf_indexA (len:=64) (j:=o) (cs:=(strC qnL).toArray) (v:=.string ⟨(wC o).toArray⟩) M M Tryz.underlying156 Tryz.underlying9 M (by kernel_rfl) M (by omega) (by rw[List.getElem?_toArray];unfold strC;rw[List.getElem?_map,qnL_at (by omega)];rfl)) ?_;refine Zd M M M (xZ M)<|pJ<|zP<|zX<|Z6r 0 1 2 4 5 9 M M M M M M<|ZF M (Y74x4 M) ?_;refine ZF M (zV 0 M M M U22 M)<|zE .none M  (v:=.string ⟨(uK i.imm).toArray⟩) (by kernel_rfl) M (fun w hw=>rU i.imm hi false w) ?_;refine Za M M<|ZT<|yN (ι:={s:Bs // s=if (17≤i.op∧i.op≤19)∨41≤i.op then Lib.decDigits i.imm else uK i.imm}) (fun s=>[(1,.int .u32 a),(2,.pointer (some ⟨b2,0,none⟩)),(5,.string ⟨(wC o).toArray⟩),(6,.string ⟨s.1.toArray⟩)]) (fun _=>Hp (fun _=>False) w_0 [(b2,qiO i)] [] (fun _=>True)) ?_ (fun s=>?_)
   ·refine yN (ι:={z:Bool // z=true↔((17≤o∧o≤19)∨41≤o)}) (fun z=>[(1,.int .u32 a),(2,.pointer (some ⟨b2,0,none⟩)),(5,.string ⟨(wC o).toArray⟩),(6,.string ⟨(uK i.imm).toArray⟩),(39,.bool z.1)]) (fun _=>Hp (fun _=>False) w_0 [(b2,qiO i)] [] (fun _=>True)) ?_ (fun z=>?_)
    ·refine Z7r 0 1 2 4 5 6 9 M M M M M M M<|ZF M (Y74x0 M) ?_;refine ZF M (zD (v:=.int .i64 (o:Nat)) M U3 M (fun w hw=>HpG.cell (k:=0) hw M hfo)) ?_;refine ZF M (yY M M)<|Zm M M<|zF 20 M (fun hb=>?_) (fun hb=>?_)
     ·replace hb:=Km hb;refine ZP M<|ZP M<|ZP M<|ZF M (zJ M M)<|Zm M M<|ZP M<|ZP M<|ZP M<|ZF M (zJ M M)<|Zm M M<|ZP M<|ZP M<|ZP M<|ZF M (zJ M M)<|Zm M M<|ZP M<|ZP M<|ZP M<|ZF M (zJ M M)<|zI ?_
      first|exact zU (ι:={z:Bool // z=true↔((17≤o∧o≤19)∨41≤o)}) ⟨true,by simp;omega⟩ (O5 rfl rfl rfl rfl rfl) Jv|exact zU (ι:={z:Bool // z=true↔((17≤o∧o≤19)∨41≤o)}) ⟨decide ((48:Int)≤((o:Nat):Int)),by rw[decide_eq_true_iff];omega⟩ (O5 rfl rfl rfl rfl rfl) Jv
     ·replace hb:=yR hb;refine ZG M M M (Y74x0 M) ?_;refine ZG M M M (zD (v:=.int .i64 (o:Nat)) M U3 M (fun w hw=>HpG.cell (k:=0) hw M hfo)) ?_;refine ZG M M M (yY M M)<|ZF M (zM M M)<|Zm M M<|zF 25 M (fun hb=>?_) (fun hb=>?_)
      ·replace hb:=Km hb;refine ZP M<|ZP M<|ZP M<|ZF M (zJ M M)<|Zm M M<|ZP M<|ZP M<|ZP M<|ZF M (zJ M M)<|Zm M M<|ZP M<|ZP M<|ZP M<|ZF M (zJ M M)<|zI ?_
       first|exact zU (ι:={z:Bool // z=true↔((17≤o∧o≤19)∨41≤o)}) ⟨true,by simp;omega⟩ (O5 rfl rfl rfl rfl rfl) Jv|exact zU (ι:={z:Bool // z=true↔((17≤o∧o≤19)∨41≤o)}) ⟨decide ((48:Int)≤((o:Nat):Int)),by rw[decide_eq_true_iff];omega⟩ (O5 rfl rfl rfl rfl rfl) Jv
      ·replace hb:=yR hb;refine ZG M M M (Y74x0 M) ?_;refine ZG M M M (zD (v:=.int .i64 (o:Nat)) M U3 M (fun w hw=>HpG.cell (k:=0) hw M hfo)) ?_;refine ZG M M M (yY M M)<|ZF M (zM M M)<|Zm M M<|zF 30 M (fun hb=>?_) (fun hb=>?_)
       ·replace hb:=Km hb;refine ZP M<|ZP M<|ZP M<|ZF M (zJ M M)<|Zm M M<|ZP M<|ZP M<|ZP M<|ZF M (zJ M M)<|zI ?_
        first|exact zU (ι:={z:Bool // z=true↔((17≤o∧o≤19)∨41≤o)}) ⟨true,by simp;omega⟩ (O5 rfl rfl rfl rfl rfl) Jv|exact zU (ι:={z:Bool // z=true↔((17≤o∧o≤19)∨41≤o)}) ⟨decide ((48:Int)≤((o:Nat):Int)),by rw[decide_eq_true_iff];omega⟩ (O5 rfl rfl rfl rfl rfl) Jv
       ·replace hb:=yR hb;refine ZG M M M (Y74x0 M) ?_;refine ZG M M M (zD (v:=.int .i64 (o:Nat)) M U3 M (fun w hw=>HpG.cell (k:=0) hw M hfo)) ?_;refine ZG M M M (yY M M)<|ZF M (zM M M)<|Zm M M<|zF 35 M (fun hb=>?_) (fun hb=>?_)
        ·replace hb:=Km hb;refine ZP M<|ZP M<|ZP M<|ZF M (zJ M M)<|zI ?_
         first|exact zU (ι:={z:Bool // z=true↔((17≤o∧o≤19)∨41≤o)}) ⟨true,by simp;omega⟩ (O5 rfl rfl rfl rfl rfl) Jv|exact zU (ι:={z:Bool // z=true↔((17≤o∧o≤19)∨41≤o)}) ⟨decide ((48:Int)≤((o:Nat):Int)),by rw[decide_eq_true_iff];omega⟩ (O5 rfl rfl rfl rfl rfl) Jv
        ·replace hb:=yR hb;refine ZG M M M (Y74x0 M) ?_;refine ZG M M M (zD (v:=.int .i64 (o:Nat)) M U3 M (fun w hw=>HpG.cell (k:=0) hw M hfo)) ?_;refine ZG M M M (xY M M)<|ZF M (zM M M)<|zI ?_
         first|exact zU (ι:={z:Bool // z=true↔((17≤o∧o≤19)∨41≤o)}) ⟨true,by simp;omega⟩ (O5 rfl rfl rfl rfl rfl) Jv|exact zU (ι:={z:Bool // z=true↔((17≤o∧o≤19)∨41≤o)}) ⟨decide ((48:Int)≤((o:Nat):Int)),by rw[decide_eq_true_iff];omega⟩ (O5 rfl rfl rfl rfl rfl) Jv
    ·obtain⟨z,hz5⟩:=z;dsimp only;refine zW M (fun h39=>?_) (fun h39=>?_)
     ·refine zZ<|ZF M (Y74x4 M) ?_;refine ZF M (zV 0 M M M U22 M)<|zE .none M  (v:=.string ⟨(Lib.decDigits i.imm).toArray⟩) (by kernel_rfl) M (fun w hw=>vA i.imm hi w) ?_;exact Za M M<|zI<|zU (ι:={s:Bs // s=if (17≤i.op∧i.op≤19)∨41≤i.op then Lib.decDigits i.imm else uK i.imm}) ⟨Lib.decDigits i.imm,by rw[Ae (by have:=hz5.1 h39;omega)]⟩ (O4 M M M M) Jv
     ·exact zL<|zU (ι:={s:Bs // s=if (17≤i.op∧i.op≤19)∨41≤i.op then Lib.decDigits i.imm else uK i.imm}) ⟨uK i.imm,by rw[Ad (fun h=>by rw[hz5.2 (by omega)] at h39;cases h39)]⟩ (O4 M M M M) Jv
   ·obtain⟨im,him⟩:=s;dsimp only;refine yN (ι:={s:Bs // s=sB i a}) (fun s=>[(2,.pointer (some ⟨b2,0,none⟩)),(5,.string ⟨(wC o).toArray⟩),(6,.string ⟨s.1.toArray⟩)]) (fun _=>Hp (fun _=>False) w_0 [(b2,qiO i)] [] (fun _=>True)) ?_ (fun s=>?_)
    ·refine yN (ι:={z:Bool // z=true↔((32≤o∧o≤37)∨o=40)}) (fun z=>[(1,.int .u32 a),(2,.pointer (some ⟨b2,0,none⟩)),(5,.string ⟨(wC o).toArray⟩),(6,.string ⟨im.toArray⟩),(55,.bool z.1)]) (fun _=>Hp (fun _=>False) w_0 [(b2,qiO i)] [] (fun _=>True)) ?_ (fun z=>?_)
     ·refine zZ<|ZF M (Y74x0 M) ?_;refine ZF M (zD (v:=.int .i64 (o:Nat)) M U3 M (fun w hw=>HpG.cell (k:=0) hw M hfo)) ?_;refine ZF M (yY M M)<|Zm M M<|zF 46 M (fun hb=>?_) (fun hb=>?_)
      ·replace hb:=Km hb;refine ZP M<|ZP M<|ZP M<|ZP M<|xH M M M<|xH M M M<|xH M M M<|ZP M<|ZF M (zJ M M)<|zI ?_
       first|exact zU (ι:={z:Bool // z=true↔((32≤o∧o≤37)∨o=40)}) ⟨true,by simp;omega⟩ (O5 rfl rfl rfl rfl rfl) Jv|exact zU (ι:={z:Bool // z=true↔((32≤o∧o≤37)∨o=40)}) ⟨false,by simp;omega⟩ (O5 rfl rfl rfl rfl rfl) Jv|exact zU (ι:={z:Bool // z=true↔((32≤o∧o≤37)∨o=40)}) ⟨decide (((o:Nat):Int)≤37),by rw[decide_eq_true_iff];omega⟩ (O5 rfl rfl rfl rfl rfl) Jv
      ·replace hb:=yR hb;refine ZG M M M (Y74x0 M) ?_;refine ZG M M M (zD (v:=.int .i64 (o:Nat)) M U3 M (fun w hw=>HpG.cell (k:=0) hw M hfo)) ?_;refine ZG M M M (xY M M)<|ZG M M M (zK M)<|zF 50 M (fun hb=>?_) (fun hb=>?_)
       ·replace hb:=Ke hb;refine ZG M M M (Y74x0 M) ?_;refine ZG M M M (zD (v:=.int .i64 (o:Nat)) M U3 M (fun w hw=>HpG.cell (k:=0) hw M hfo)) ?_;refine ZG M M M (xL M M)<|ZG M M M (zJ M M)<|ZF M (zM M M)<|zI ?_
        first|exact zU (ι:={z:Bool // z=true↔((32≤o∧o≤37)∨o=40)}) ⟨true,by simp;omega⟩ (O5 rfl rfl rfl rfl rfl) Jv|exact zU (ι:={z:Bool // z=true↔((32≤o∧o≤37)∨o=40)}) ⟨false,by simp;omega⟩ (O5 rfl rfl rfl rfl rfl) Jv|exact zU (ι:={z:Bool // z=true↔((32≤o∧o≤37)∨o=40)}) ⟨decide (((o:Nat):Int)≤37),by rw[decide_eq_true_iff];omega⟩ (O5 rfl rfl rfl rfl rfl) Jv
       ·replace hb:=Kf hb;refine ZP M<|ZP M<|ZP M<|ZG M M M (zM M M)<|ZF M (zM M M)<|zI ?_
        first|exact zU (ι:={z:Bool // z=true↔((32≤o∧o≤37)∨o=40)}) ⟨true,by simp;omega⟩ (O5 rfl rfl rfl rfl rfl) Jv|exact zU (ι:={z:Bool // z=true↔((32≤o∧o≤37)∨o=40)}) ⟨false,by simp;omega⟩ (O5 rfl rfl rfl rfl rfl) Jv|exact zU (ι:={z:Bool // z=true↔((32≤o∧o≤37)∨o=40)}) ⟨decide (((o:Nat):Int)≤37),by rw[decide_eq_true_iff];omega⟩ (O5 rfl rfl rfl rfl rfl) Jv
     ·obtain⟨z,hz7⟩:=z;dsimp only;refine zW M (fun h55=>?_) (fun h55=>?_)
      ·refine zZ<|Zm M M<|ZF M (Y74x4 M) ?_;refine ZF M (zV 0 M M M U22 M)<|ZF M (sY M M M)<|ZF M (yO M M (show IntKind.u32.wrap ((a:Int)+IntKind.u32.wrap (4*(i.imm:Int)))=((tg:Nat):Int) by rw[sX,sX,htg];omega)) ?_;refine zE .none M  (v:=.string ⟨(Lib.decDigits tg).toArray⟩) (by kernel_rfl) M (fun w hw=>vA tg htl w) ?_;refine Za M M<|zI ?_
       exact zU (ι:={s:Bs // s=sB i a}) ⟨Lib.decDigits tg,by
        have hj:rF i.op=true:=by
         have:=hz7.1 h55;unfold rF;rw[Bool.or_eq_true,decide_eq_true_iff,decide_eq_true_iff];omega
        rw[himB,Ae hj]⟩ (O3 rfl rfl rfl) Jv
      ·refine zL ?_
       exact zU (ι:={s:Bs // s=sB i a}) ⟨im,by
        have hj:¬rF i.op=true:=by
         unfold rF;rw[Bool.or_eq_true,decide_eq_true_iff,decide_eq_true_iff];intro h;rw[hz7.2 (by omega)] at h55;cases h55
        rw[himB,Ad hj,him]⟩ (O3 rfl rfl rfl) Jv
    ·obtain⟨ib,hib⟩:=s;dsimp only
     have hibl:ib.length≤11:=by
      rw[hib,himB]
      split
      ·omega
      ·split<;>omega
     refine zX<|zX<|zZ<|ZF M (Y74x0 M) ?_;refine ZF M (zD (v:=.int .i64 (o:Nat)) M U3 M (fun w hw=>HpG.cell (k:=0) hw M hfo)) ?_;refine zE .none M  (v:=.string ⟨S.toArray⟩) (by kernel_rfl) M (fun w hw=>hwq w) ?_;refine ZT<|yV<|zX<|Z4r 2 5 6 64 M M M M<|ZF M (yE M M U9)<|Za M M<|ZT<|zW M (fun h65=>?_) (fun h65=>?_)
     ·have h65:=Ke h65;have hn:¬(o=52∨o=54):=fun h=>by rw[h65] at hs;rcases h with rfl|rfl<;>exact absurd hs (by decide)
      refine zX<|Z5 2 5 6 64 65 M M M M M<|rJ [0,1,2,3,4,5,6,7,8,9,10,11,12,13,14,15,16] (Blk b2 (qiO i)) (by kernel_rfl) (by kernel_rfl) Blk.stab (fun w h=>HpG.blk h (k:=0) M) (fun n0 hn0=>?_);refine Zd rfl rfl rfl (zK rfl)<|Zd rfl rfl rfl (zN rfl rfl (by first|omega|simp<;>omega)) ?_;refine Zd M M M (Y74x1 M) ?_;refine Zd M M M (zD (v:=.int .i64 i.d) M U3 M (fun w hw=>Blk.cell hw M)) ?_;refine wU M<|uZ .none M  (v:=.string ⟨(rgB i.d).toArray⟩) (by kernel_rfl) M (fun _ _ h hx=>Blk.onE h hx) (fun w hw=>wW i.d hd0 (by omega) w) ?_;refine Zd rfl rfl rfl (zN rfl rfl (by first|omega|simp<;>omega)) ?_;refine Zd rfl rfl rfl (zN rfl rfl (by first|omega|simp<;>omega)) ?_;refine Zd M M M (Y74x2 M) ?_;refine Zd M M M (zD (v:=.int .i64 i.a) M U3 M (fun w hw=>Blk.cell hw M)) ?_;refine wU M<|uZ .none M  (v:=.string ⟨(rgB i.a).toArray⟩) (by kernel_rfl) M (fun _ _ h hx=>Blk.onE h hx) (fun w hw=>wW i.a ha0 (by omega) w) ?_;refine Zd rfl rfl rfl (zN rfl rfl (by first|omega|simp<;>omega)) ?_;refine Zd rfl rfl rfl (zN rfl rfl (by first|omega|simp<;>omega)) ?_;refine Zd M M M (Y74x3 M) ?_;refine Zd M M M (zD (v:=.int .i64 i.b) M U3 M (fun w hw=>Blk.cell hw M)) ?_;refine wU M<|uZ .none M  (v:=.string ⟨(rgB i.b).toArray⟩) (by kernel_rfl) M (fun _ _ h hx=>Blk.onE h hx) (fun w hw=>wW i.b hb0 (by omega) w) ?_;refine Zd rfl rfl rfl (zN rfl rfl (by first|omega|simp<;>omega)) ?_;refine Zd M M M (xZ M)<|pJ<|zP<|zQ<|yZ<|zT<|zO M M (fun w hw=>?_);exact⟨rD (by rw[lq_rrr a (hsh.trans h65) (by rw[hoe];omega),hot]),hw.ext0⟩
     ·have h65:=Kf h65;refine zX<|Z5r 2 5 6 64 65 M M M M M<|ZF M (yE M M U9)<|Za M M<|ZT<|zW M (fun h83=>?_) (fun h83=>?_)
      ·have h83:=Ke h83;have hn:¬(o=52∨o=54):=fun h=>by rw[h83] at hs;rcases h with rfl|rfl<;>exact absurd hs (by decide)
       refine zX<|Z6 2 5 6 64 65 83 M M M M M M<|rJ [0,1,2,3,4,5,6,7,8,9,10,11,12,13,14] (Blk b2 (qiO i)) (by kernel_rfl) (by kernel_rfl) Blk.stab (fun w h=>HpG.blk h (k:=0) M) (fun n0 hn0=>?_);refine Zd rfl rfl rfl (zK rfl)<|Zd rfl rfl rfl (zN rfl rfl (by first|omega|simp<;>omega)) ?_;refine Zd M M M (Y74x1 M) ?_;refine Zd M M M (zD (v:=.int .i64 i.d) M U3 M (fun w hw=>Blk.cell hw M)) ?_;refine wU M<|uZ .none M  (v:=.string ⟨(rgB i.d).toArray⟩) (by kernel_rfl) M (fun _ _ h hx=>Blk.onE h hx) (fun w hw=>wW i.d hd0 (by omega) w) ?_;refine Zd rfl rfl rfl (zN rfl rfl (by first|omega|simp<;>omega)) ?_;refine Zd rfl rfl rfl (zN rfl rfl (by first|omega|simp<;>omega)) ?_;refine Zd M M M (Y74x2 M) ?_;refine Zd M M M (zD (v:=.int .i64 i.a) M U3 M (fun w hw=>Blk.cell hw M)) ?_;refine wU M<|uZ .none M  (v:=.string ⟨(rgB i.a).toArray⟩) (by kernel_rfl) M (fun _ _ h hx=>Blk.onE h hx) (fun w hw=>wW i.a ha0 (by omega) w) ?_;refine Zd rfl rfl rfl (zN rfl rfl (by first|omega|simp<;>omega)) ?_;refine Zd rfl rfl rfl (zN rfl rfl (by first|omega|simp<;>omega)) ?_;refine Zd rfl rfl rfl (zK rfl)<|Zd rfl rfl rfl (zN rfl rfl (by first|omega|simp<;>omega)) ?_;refine Zd M M M (xZ M)<|pJ<|zP<|zQ<|yZ<|zT<|zO M M (fun w hw=>?_);exact⟨rD (by rw[lq_rrv a (hsh.trans h83) (by rw[hoe];omega),hot,hib]),hw.ext0⟩
      ·have h83:=Kf h83;refine zX<|Z6r 2 5 6 64 65 83 M M M M M M<|ZF M (yE M M U9)<|Za M M<|ZT<|zW M (fun h99=>?_) (fun h99=>?_)
       ·have h99:=Ke h99;have hn:¬(o=52∨o=54):=fun h=>by rw[h99] at hs;rcases h with rfl|rfl<;>exact absurd hs (by decide)
        refine zX<|Z7 2 5 6 64 65 83 99 M M M M M M M<|rJ [0,1,2,3,4,5,6,7,8,9,10,11,12,13,14,15,16] (Blk b2 (qiO i)) (by kernel_rfl) (by kernel_rfl) Blk.stab (fun w h=>HpG.blk h (k:=0) M) (fun n0 hn0=>?_);refine Zd rfl rfl rfl (zK rfl)<|Zd rfl rfl rfl (zN rfl rfl (by first|omega|simp<;>omega)) ?_;refine Zd M M M (Y74x1 M) ?_;refine Zd M M M (zD (v:=.int .i64 i.d) M U3 M (fun w hw=>Blk.cell hw M)) ?_;refine wU M<|uZ .none M  (v:=.string ⟨(rgB i.d).toArray⟩) (by kernel_rfl) M (fun _ _ h hx=>Blk.onE h hx) (fun w hw=>wW i.d hd0 (by omega) w) ?_;refine Zd rfl rfl rfl (zN rfl rfl (by first|omega|simp<;>omega)) ?_;refine Zd rfl rfl rfl (zN rfl rfl (by first|omega|simp<;>omega)) ?_;refine Zd M M M (Y74x2 M) ?_;refine Zd M M M (zD (v:=.int .i64 i.a) M U3 M (fun w hw=>Blk.cell hw M)) ?_;refine wU M<|uZ .none M  (v:=.string ⟨(rgB i.a).toArray⟩) (by kernel_rfl) M (fun _ _ h hx=>Blk.onE h hx) (fun w hw=>wW i.a ha0 (by omega) w) ?_;refine Zd rfl rfl rfl (zN rfl rfl (by first|omega|simp<;>omega)) ?_;refine Zd M M M (Y74x4 M) ?_;refine Zd M M M (zD (v:=.int .u32 (i.imm:Nat)) M U22 M (fun w hw=>Blk.cell hw M)) ?_;refine wU M<|uZ .none M  (v:=.string ⟨(uO i.imm).toArray⟩) (by kernel_rfl) M (fun _ _ h hx=>Blk.onE h hx) (fun w hw=>by rw[← oS];exact rU i.imm hi true w) ?_;refine Zd rfl rfl rfl (zN rfl rfl (by first|omega|simp<;>omega)) ?_;refine Zd rfl rfl rfl (zN rfl rfl (by first|omega|simp<;>omega)) ?_;refine Zd M M M (xZ M)<|pJ<|zP<|zQ<|yZ<|zT<|zO M M (fun w hw=>?_);exact⟨rD (by rw[lq_rm a (hsh.trans h99) (by rw[hoe];omega),hot]),hw.ext0⟩
       ·have h99:=Kf h99;refine zX<|Z7r 2 5 6 64 65 83 99 M M M M M M M<|ZF M (yE M M U9)<|Za M M<|ZT<|zW M (fun h117=>?_) (fun h117=>?_)
        ·have h117:=Ke h117
         have hn:o=52:=by
          rw[h117] at hs;refine Classical.byContradiction fun hne=>?_
          revert hs
          (repeat' split)<;>first|(intro h;exact absurd h (by decide))|omega
         refine zX<|Z8r 2 5 6 64 65 83 99 117 rfl rfl rfl rfl rfl rfl rfl rfl<|Zm rfl rfl<|ZF rfl (zN rfl rfl (by first|omega|simp<;>omega)) ?_;refine ZF M (Y74x2 M) ?_;refine ZF M (zV 0 M M M U3 M)<|zE .none M  (v:=.string ⟨(rgB i.a).toArray⟩) (by kernel_rfl) M (fun w hw=>wW i.a ha0 (by omega) w) ?_;refine ZF rfl (zN rfl rfl (by first|omega|simp<;>omega)) ?_;refine Za M M<|ZT<|zQ<|yZ<|zT<|zO M M (fun w hw=>?_);exact⟨rD (by rw[lq_r a (hsh.trans h117) (by rw[hoe];omega),hot]),hw.ext0⟩
        ·have h117:=Kf h117;refine zX<|Z8r 2 5 6 64 65 83 99 117 M M M M M M M M<|ZF M (yE M M U9)<|Za M M<|ZT<|zW M (fun h125=>?_) (fun h125=>?_)
         ·have h125:=Ke h125;refine zX<|Z9r 2 5 6 64 65 83 99 117 125 rfl rfl rfl rfl rfl rfl rfl rfl rfl<|Zm rfl rfl<|ZF rfl (zN rfl rfl (by first|omega|simp<;>omega)) ?_;refine Zm rfl rfl<|ZF rfl (zN rfl rfl (by first|omega|simp<;>omega)) ?_;refine Za M M<|ZT<|zQ<|yZ<|zT<|zO M M (fun w hw=>?_);exact⟨rD (by rw[lq_v a (hsh.trans h125),hot,hib]),hw.ext0⟩
         ·have h125:=Kf h125;refine zX<|Z9r 2 5 6 64 65 83 99 117 125 M M M M M M M M M<|ZF M (yE M M U9)<|Za M M<|ZT<|zW M (fun h131=>?_) (fun h131=>?_)
          ·have h131:=Ke h131;refine zX<|zX<|Z10r 2 5 6 64 65 83 99 117 125 131 M M M M M M M M M M<|ZF M (Y74x0 M) ?_;refine ZF M (zD (v:=.int .i64 (o:Nat)) M U3 M (fun w hw=>HpG.cell (k:=0) hw M hfo)) ?_;refine ZF M (yY M M)<|ZT<|zW M (fun h135=>?_) (fun h135=>?_)
           ·replace h135:=Km h135;refine zX<|Z11r 2 5 6 64 65 83 99 117 125 131 135 rfl rfl rfl rfl rfl rfl rfl rfl rfl rfl rfl<|Zm rfl rfl<|ZF rfl (zN rfl rfl (by first|omega|simp<;>omega)) ?_;refine ZF M (Y74x2 M) ?_;refine ZF M (zV 0 M M M U3 M)<|zE .none M  (v:=.string ⟨(rgB i.a).toArray⟩) (by kernel_rfl) M (fun w hw=>wW i.a ha0 (by omega) w) ?_;refine ZF rfl (zN rfl rfl (by first|omega|simp<;>omega)) ?_;refine ZF rfl (zN rfl rfl (by first|omega|simp<;>omega)) ?_;refine Zm rfl rfl<|ZF rfl (zN rfl rfl (by first|omega|simp<;>omega)) ?_;refine Za M M<|ZT<|zQ<|zT<|yZ<|zT<|zO M M (fun w hw=>?_);exact⟨rD (by rw[lq_av a (hsh.trans h131) (by rw[hoe];omega),hot,hib]),hw.ext0⟩
           ·replace h135:=yR h135;refine zL<|zP<|zX<|Z11r 2 5 6 64 65 83 99 117 125 131 135 rfl rfl rfl rfl rfl rfl rfl rfl rfl rfl rfl<|Zm rfl rfl<|ZF rfl (zN rfl rfl (by first|omega|simp<;>omega)) ?_;refine ZF M (Y74x1 M) ?_;refine ZF M (zV 0 M M M U3 M)<|zE .none M  (v:=.string ⟨(rgB i.d).toArray⟩) (by kernel_rfl) M (fun w hw=>wW i.d hd0 (by omega) w) ?_;refine ZF rfl (zN rfl rfl (by first|omega|simp<;>omega)) ?_;refine ZF rfl (zN rfl rfl (by first|omega|simp<;>omega)) ?_;refine Zm rfl rfl<|ZF rfl (zN rfl rfl (by first|omega|simp<;>omega)) ?_;refine Za M M<|ZT<|zQ<|yZ<|zT<|zO M M (fun w hw=>?_)
            exact⟨rD (by
             have hn:¬o=52:=fun h=>by
              subst h;rw[h131] at hs;exact absurd hs (by decide)
             rw[lq_dv a (hsh.trans h131) (by rw[hoe];omega),hot,hib]),hw.ext0⟩
          ·have h131:=Kf h131
           have hSn:S=[]:=by
            rw[hs] at h65 h83 h99 h117 h125 h131 ⊢
            revert h65 h83 h99 h117 h125 h131
            (repeat' split)<;>first|(intros;rfl)|(intro h1 h2 h3 h4 h5 h6;first|exact absurd rfl h1|exact absurd rfl h2|exact absurd rfl h3|exact absurd rfl h4|exact absurd rfl h5|exact absurd rfl h6)
           refine zL<|yW<|zP<|zX<|Z10r 2 5 6 64 65 83 99 117 125 131 M M M M M M M M M M<|Zm M M<|Za M M<|ZT<|zQ<|zO M M (fun w hw=>?_);exact⟨rD (by rw[lq_n a (hsh.trans hSn),hot]),hw.ext0⟩
end Go.Proofs.YtkaepknpplhgkaaGreatDoor
