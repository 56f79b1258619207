import Derived.Test.YtfpkpnkdnammnaaGreatDoorMgH
import Derived.Test.YtfpkpnkdnammnaaGreatDoorSxN
set_option maxRecDepth 100000
namespace Go.Proofs.YtfpkpnkdnammnaaGreatDoor
open Go.RowKit
abbrev exB (k n:Nat) (s:Bs) (A:Option Addr) (len cap:Nat):Obj:=bk 57 (exC k n s A len cap)
theorem exC_one (k n:Nat) (s:Bs) (A:Option Addr) (len cap:Nat):∀v∈exC k n s A len cap,v.oneCell'=true:=fun v hv=>by
 simp only[List.mem_cons,List.not_mem_nil,or_false] at hv;rcases hv with rfl|rfl|rfl|rfl<;>rfl
theorem elem_any {E:PE}{f:Nat}(IH:EOk E f) (s:PS) (x:Ex) (s':PS) (hr:(exF E.tk f).bin 0 s=some (x,s')) (hs:s.at_≤E.m) (bp be bx:Nat) (nm:Bs) (A:Option Addr) (len cap:Nat) (xs:List Value) (hlen:len≤1000000000) {B:Nat→Prop}{w0:World}{X:World→Prop}(hB:∀k,B k→k<w0.heap.size) (hX:∀w,X w→Blk bx (bk 86 [.pointer (some ⟨bp,0,none⟩)]) w∧TkX E w)
  (w_0:World) (h:Hp B w0 [(bp,pO E s),(be,exB 3 0 nm A len cap)] [⟨.slice A len cap,57,4,len,xs⟩] X w_0):Calls Tryz.prog 189 #[.pointer (some ⟨be,0,none⟩),.pointer (some ⟨bx,0,none⟩)] w_0 fun e w'=>∃A' cap' A2 cap2 F,e=.returned (.tuple #[])∧(∀k,F k→w0.heap.size≤k)∧len+1≤cap'∧Hp B w0 [(bp,pO E s'),(be,exB 3 0 nm A' (len+1) cap')] [⟨.slice A' (len+1) cap',57,4,len+1,xs++xL x A2 cap2⟩] (fun u=>xT F u x A2 cap2∧X u) w':=by
 have hlx:xs.length=len*4:=(HpG.rowAt (k:=0) h rfl).1;refine yV (args:=[.pointer (some ⟨be,0,none⟩),.pointer (some ⟨bx,0,none⟩)]) Tryz.func189 V 11 V (Jn V)<|Z2 0 1 V V<|zD (H':=Hp B w0 [(bp,pO E s),(be,exB 3 0 nm A len cap)] [⟨.slice A len cap,57,4,len,xs⟩] X) (fun u hu=>?_) ?_
 ·subst hu;exact h
 refine wc_drawA 6 [0,1,4,2,3,5] (fun u=>Blk be (exB 3 0 nm A len cap) u∧Blk bx (bk 86 [.pointer (some ⟨bp,0,none⟩)]) u) (by kernel_rfl) (by kernel_rfl) (fun u ob ⟨h1,h2⟩=>⟨Blk.stab u ob h1,Blk.stab u ob h2⟩) (fun u h=>⟨HpG.blk h (k:=1) rfl,(hX u (HpG.x h)).1⟩) (fun n0 hn0=>?_);refine Zd V V V (Y57x3 V) ?_;refine Zd V V V (yO (v:=.slice A len cap) V U55 V (fun u h=>by rw[cell_of_row u be _ _ _ _ h.1];rfl)) ?_;refine Zd V V V (yM V U55)<|Zd V V V (yO (v:=.pointer (some ⟨bp,0,none⟩)) V U86 V (fun u h=>by rw[cell_of_row u bx _ _ _ _ h.2];rfl)) ?_;refine xF V<|wd_ex E s x s' bp 0 hB (fun u h=>(hX u h).2) (fun u u' h1 h2 hK=>⟨h2.1.keep hK (HpG.ne h1 (i:=1) (j:=0) V V V),h2.2.keep hK ?_⟩) (fun u h1 h2=>rQ IH s x s' hr hs bp u h1 h2) .none V  (by kernel_rfl) V V (fun A2 cap2 F hF hc=>?_)
 ·exact fun e=>by subst e;have h9:=h2.2.symm.trans (HpG.blkL h1 (j:=0) rfl);simp at h9
 refine xF V<|tA ?_ .none V (fun k hk=>.inr (Jx hk hn0)) (xR (z:=.agg #[.int .i64 0,.int .u32 0,.string ⟨#[]⟩,.slice none 0 0]) V V U55 (by kernel_rfl) (by kernel_rfl) V V) (fun b7 hb7=>?_)
 ·rfl
 refine wd_endA<|yN (k:=4) [6] (by kernel_rfl) (by simp) ⟨⟨_,rfl,?_⟩,trivial⟩
 ·refine uO (z:=.agg #[.int .i64 0,.int .u32 0,.string ⟨#[]⟩,.slice none 0 0]) (bytes:=56) 0 0 .none V V V V V U55 (by kernel_rfl) V V V V V (by omega) (by omega) (fun a8 c8 h8=>?_);refine zU<|yW<|yN (k:=3) [7,9] (by kernel_rfl) (by simp) ⟨⟨_,rfl,?_⟩,⟨_,rfl,?_⟩,trivial⟩
  ·refine ZF rfl (zJ (es:=4) rfl rfl U55 (by kernel_rfl) rfl (by first|decide|omega|(simp;done)|(simp;omega)) rfl) ?_;refine zU<|yW<|yN (k:=2) [8,9] (by kernel_rfl) (by simp) ⟨⟨_,rfl,?_⟩,⟨_,rfl,?_⟩,trivial⟩
   ·refine xG .none (rF (seg:=xL x A2 cap2) 0 V V V (exC_one _ _ _ _ _ _) (by rw[Ji,hlx];simp) (by kernel_rfl)) (fun _=>?_);refine zU<|yW<|yN (k:=1) [9] (by kernel_rfl) (by simp) ⟨⟨_,rfl,?_⟩,trivial⟩
    ·refine ZF V (Y57x3 V) ?_;refine zU<|yW<|yN (k:=0) [10] (by kernel_rfl) (by simp) ⟨⟨_,rfl,?_⟩,trivial⟩
     ·refine ZS 2 V V V V V (by kernel_rfl) ?_;refine zU<|yW<|qU (by kernel_rfl) ?_;refine xI V (fun w hw=>?_);refine⟨some ⟨a8,0,none⟩,c8,A2,cap2,F,rfl,hF,h8,?_⟩;have e1:(xs++exC 0 0 [] none 0 0).take (0+len*4)=xs:=by rw[Kk,← hlx,List.take_left]
      have e2:(xs++exC 0 0 [] none 0 0).drop (0+len*4+(xL x A2 cap2).length)=[]:=Ks (by rw[Ji,hlx];simp);have hw2:=Hp.drop hw (Js _ _) (Jr _);have e3:(xs++exC 0 0 [] none 0 0).take (0+len*4)++xL x A2 cap2++(xs++exC 0 0 [] none 0 0).drop (0+len*4+(xL x A2 cap2).length)=xs++xL x A2 cap2:=by rw[e1,e2,Ku]
      rw[← e3];exact hw2
   ·refine ZF V (Y57x3 V) ?_;refine zU<|yW<|yN (k:=1) [8,10] (by kernel_rfl) (by simp) ⟨⟨_,rfl,?_⟩,⟨_,rfl,?_⟩,trivial⟩
    ·refine xG .none (rF (seg:=xL x A2 cap2) 0 V V V (exC_one _ _ _ _ _ _) (by rw[Ji,hlx];simp) (by kernel_rfl)) (fun _=>?_);refine zU<|yW<|yN (k:=0) [10] (by kernel_rfl) (by simp) ⟨⟨_,rfl,?_⟩,trivial⟩
     ·refine ZS 2 V V V V V (by kernel_rfl) ?_;refine zU<|yW<|qU (by kernel_rfl) ?_;refine xI V (fun w hw=>?_);refine⟨some ⟨a8,0,none⟩,c8,A2,cap2,F,rfl,hF,h8,?_⟩;have e1:(xs++exC 0 0 [] none 0 0).take (0+len*4)=xs:=by rw[Kk,← hlx,List.take_left]
      have e2:(xs++exC 0 0 [] none 0 0).drop (0+len*4+(xL x A2 cap2).length)=[]:=Ks (by rw[Ji,hlx];simp);have hw2:=Hp.drop hw (Js _ _) (Jr _);have e3:(xs++exC 0 0 [] none 0 0).take (0+len*4)++xL x A2 cap2++(xs++exC 0 0 [] none 0 0).drop (0+len*4+(xL x A2 cap2).length)=xs++xL x A2 cap2:=by rw[e1,e2,Ku]
      rw[← e3];exact hw2
    ·refine ZS 2 V V V V V (by kernel_rfl) ?_;refine zU<|yW<|yN (k:=0) [8] (by kernel_rfl) (by simp) ⟨⟨_,rfl,?_⟩,trivial⟩
     ·refine xG .none (rF (seg:=xL x A2 cap2) 0 V V V (exC_one _ _ _ _ _ _) (by rw[Ji,hlx];simp) (by kernel_rfl)) (fun _=>?_);refine zU<|yW<|qU (by kernel_rfl) ?_;refine xI V (fun w hw=>?_);refine⟨some ⟨a8,0,none⟩,c8,A2,cap2,F,rfl,hF,h8,?_⟩;have e1:(xs++exC 0 0 [] none 0 0).take (0+len*4)=xs:=by rw[Kk,← hlx,List.take_left]
      have e2:(xs++exC 0 0 [] none 0 0).drop (0+len*4+(xL x A2 cap2).length)=[]:=Ks (by rw[Ji,hlx];simp);have hw2:=Hp.drop hw (Js _ _) (Jr _);have e3:(xs++exC 0 0 [] none 0 0).take (0+len*4)++xL x A2 cap2++(xs++exC 0 0 [] none 0 0).drop (0+len*4+(xL x A2 cap2).length)=xs++xL x A2 cap2:=by rw[e1,e2,Ku]
      rw[← e3];exact hw2
  ·refine ZF V (Y57x3 V) ?_;refine zU<|yW<|yN (k:=2) [7,10] (by kernel_rfl) (by simp) ⟨⟨_,rfl,?_⟩,⟨_,rfl,?_⟩,trivial⟩
   ·refine ZF rfl (zJ (es:=4) rfl rfl U55 (by kernel_rfl) rfl (by first|decide|omega|(simp;done)|(simp;omega)) rfl) ?_;refine zU<|yW<|yN (k:=1) [8,10] (by kernel_rfl) (by simp) ⟨⟨_,rfl,?_⟩,⟨_,rfl,?_⟩,trivial⟩
    ·refine xG .none (rF (seg:=xL x A2 cap2) 0 V V V (exC_one _ _ _ _ _ _) (by rw[Ji,hlx];simp) (by kernel_rfl)) (fun _=>?_);refine zU<|yW<|yN (k:=0) [10] (by kernel_rfl) (by simp) ⟨⟨_,rfl,?_⟩,trivial⟩
     ·refine ZS 2 V V V V V (by kernel_rfl) ?_;refine zU<|yW<|qU (by kernel_rfl) ?_;refine xI V (fun w hw=>?_);refine⟨some ⟨a8,0,none⟩,c8,A2,cap2,F,rfl,hF,h8,?_⟩;have e1:(xs++exC 0 0 [] none 0 0).take (0+len*4)=xs:=by rw[Kk,← hlx,List.take_left]
      have e2:(xs++exC 0 0 [] none 0 0).drop (0+len*4+(xL x A2 cap2).length)=[]:=Ks (by rw[Ji,hlx];simp);have hw2:=Hp.drop hw (Js _ _) (Jr _);have e3:(xs++exC 0 0 [] none 0 0).take (0+len*4)++xL x A2 cap2++(xs++exC 0 0 [] none 0 0).drop (0+len*4+(xL x A2 cap2).length)=xs++xL x A2 cap2:=by rw[e1,e2,Ku]
      rw[← e3];exact hw2
    ·refine ZS 2 V V V V V (by kernel_rfl) ?_;refine zU<|yW<|yN (k:=0) [8] (by kernel_rfl) (by simp) ⟨⟨_,rfl,?_⟩,trivial⟩
     ·refine xG .none (rF (seg:=xL x A2 cap2) 0 V V V (exC_one _ _ _ _ _ _) (by rw[Ji,hlx];simp) (by kernel_rfl)) (fun _=>?_);refine zU<|yW<|qU (by kernel_rfl) ?_;refine xI V (fun w hw=>?_);refine⟨some ⟨a8,0,none⟩,c8,A2,cap2,F,rfl,hF,h8,?_⟩;have e1:(xs++exC 0 0 [] none 0 0).take (0+len*4)=xs:=by rw[Kk,← hlx,List.take_left]
      have e2:(xs++exC 0 0 [] none 0 0).drop (0+len*4+(xL x A2 cap2).length)=[]:=Ks (by rw[Ji,hlx];simp);have hw2:=Hp.drop hw (Js _ _) (Jr _);have e3:(xs++exC 0 0 [] none 0 0).take (0+len*4)++xL x A2 cap2++(xs++exC 0 0 [] none 0 0).drop (0+len*4+(xL x A2 cap2).length)=xs++xL x A2 cap2:=by rw[e1,e2,Ku]
      rw[← e3];exact hw2
   ·refine ZS 2 V V V V V (by kernel_rfl) ?_;refine zU<|yW<|yN (k:=1) [7] (by kernel_rfl) (by simp) ⟨⟨_,rfl,?_⟩,trivial⟩
    ·refine ZF rfl (zJ (es:=4) rfl rfl U55 (by kernel_rfl) rfl (by first|decide|omega|(simp;done)|(simp;omega)) rfl) ?_;refine zU<|yW<|yN (k:=0) [8] (by kernel_rfl) (by simp) ⟨⟨_,rfl,?_⟩,trivial⟩
     ·refine xG .none (rF (seg:=xL x A2 cap2) 0 V V V (exC_one _ _ _ _ _ _) (by rw[Ji,hlx];simp) (by kernel_rfl)) (fun _=>?_);refine zU<|yW<|qU (by kernel_rfl) ?_;refine xI V (fun w hw=>?_);refine⟨some ⟨a8,0,none⟩,c8,A2,cap2,F,rfl,hF,h8,?_⟩;have e1:(xs++exC 0 0 [] none 0 0).take (0+len*4)=xs:=by rw[Kk,← hlx,List.take_left]
      have e2:(xs++exC 0 0 [] none 0 0).drop (0+len*4+(xL x A2 cap2).length)=[]:=Ks (by rw[Ji,hlx];simp);have hw2:=Hp.drop hw (Js _ _) (Jr _);have e3:(xs++exC 0 0 [] none 0 0).take (0+len*4)++xL x A2 cap2++(xs++exC 0 0 [] none 0 0).drop (0+len*4+(xL x A2 cap2).length)=xs++xL x A2 cap2:=by rw[e1,e2,Ku]
      rw[← e3];exact hw2
end Go.Proofs.YtfpkpnkdnammnaaGreatDoor
namespace Go.Proofs.YtfpkpnkdnammnaaGreatDoor
open Go.RowKit
structure LiJ where
 k:Nat
 acc:List Ex
 s:PS
 A:Option Addr
 cap:Nat
 xs:List Value
 F:Nat→Prop
structure LiOk (E:PE) (f:Nat) (l:List Ex) (s':PS) (n0:Nat) (j:LiJ):Prop where
 run:(exF E.tk j.k).list j.acc j.s=some (l,s')
 k:j.acc.length+j.k≤f
 at_:j.s.at_≤E.m
 cap:j.acc.length≤j.cap
 F:∀k,j.F k→n0≤k
abbrev pxO (bp:Nat):Obj:=bk 86 [.pointer (some ⟨bp,0,none⟩)]
theorem TkX.neE {E:PE}{w:World}(h:TkX E w) {be k:Nat}{s:Bs}{A:Option Addr}{len cap:Nat}(hb:w.heap[be]? = some (exB k 0 s A len cap)):E.g≠be:=fun e=>by
 have h1:=h 0 (Kl _) 1 _ rfl;rw[e,cell_of_row w be _ _ _ _ hb] at h1;simp at h1
theorem listS_err {tk:Nat→Tok}{r:EF}{l:List Ex}{s:PS}{p:List Ex×PS}(h:sX tk r l s=some p) (he:s.err≠0):p=(l,s):=by
 unfold sX at h;rw[Kp he] at h;cases h;rfl
theorem listS_go {tk:Nat→Tok}{r:EF}{l:List Ex}{s:PS}{p:List Ex×PS}(h:sX tk r l s=some p) (he:s.err=0):∃x s1,r.bin 0 s=some (x,s1)∧(bif isP tk [41] s1 then some (l++[x],adv s1) else r.list (l++[x]) (yA tk [44] s1))=some p:=by
 unfold sX at h;rw[Ko (by omega)] at h;obtain⟨x,s1,h1,h2⟩:=yL h;exact⟨x,s1,h1,h2⟩
theorem list_any {E:PE}(hE:E.Ok) {f:Nat}(IH:EOk E f) (hf:f≤100000000) (s:PS) (l:List Ex) (s':PS) (hr:(isP E.tk [41] s=true∧l=[]∧s'=adv s)∨(isP E.tk [41] s=false∧(exF E.tk f).list [] s=some (l,s'))) (hs:s.at_≤E.m) (bp be bx:Nat) (nm:Bs) (hne:bp≠be) (w_0:World) (hb:w_0.heap[bp]? = some (pO E s)) (he:w_0.heap[be]? = some (exB 3 0 nm none 0 0)) (hx:Blk bx (pxO bp) w_0) (hX:TkX E w_0) :
  Calls Tryz.prog 86 #[.pointer (some ⟨bp,0,none⟩),.func (.func 189) #[] #[.pointer (some ⟨be,0,none⟩),.pointer (some ⟨bx,0,none⟩)]] w_0 fun e w'=>∃A cap,e=.returned (.tuple #[])∧Keep (fun j=>j=bp∨j=be) w_0 w'∧w'.heap[bp]? = some (pO E s')∧w'.heap[be]? = some (exB 3 0 nm A l.length cap)∧xT (fun k=>w_0.heap.size≤k) w' (.mk 3 0 nm l) A cap:=by
 have hB:∀k,(k=bp∨k=be)→k<w_0.heap.size:=fun k hk=>by
  rcases hk with rfl|rfl
  ·exact (Jv.1 hb).1
  ·exact (Jv.1 he).1
 have hxp:bx≠bp:=fun e=>by subst e;have h9:=hx.symm.trans hb;simp at h9
 have hxe:bx≠be:=fun e=>by subst e;have h9:=hx.symm.trans he;simp at h9
 have hX0:∀w,(fun u=>Blk bx (pxO bp) u∧TkX E u) w→Blk bx (pxO bp) w∧TkX E w:=fun _ h=>h;refine yV (args:=[.pointer (some ⟨bp,0,none⟩),.func (.func 189) #[] #[.pointer (some ⟨be,0,none⟩),.pointer (some ⟨bx,0,none⟩)]]) Tryz.func86 V 14 V (Jn V)<|Z2 0 1 V V<|zD (H':=Hp (fun k=>k=bp∨k=be) w_0 [(bp,pO E s),(be,exB 3 0 nm none 0 0)] [⟨.slice none 0 0,57,4,0,[]⟩] (fun u=>Blk bx (pxO bp) u∧TkX E u)) (fun u hu=>?_) ?_
 ·subst hu;exact Hp.nil (Hp.start2 hb he hne ⟨fun k=>k=bx∨k=E.g,fun k hk=>by rcases hk with rfl|rfl;exact⟨(Jv.1 hx).1,hxp,hxe⟩;exact⟨hX.lt,hX.ne hb,hX.neE he⟩,fun u hu=>⟨(hu _ (.inl rfl)).trans hx,hX.foot (hu _ (.inr rfl))⟩⟩) _ _
 refine zY<|zY<|zX<|Zm V V<|vX E hE s hs [41] bp (fun _ h=>h.2) 0 .none V  V V ?_;refine ZT<|zT V (fun h5=>?_) (fun h5=>?_)
 ·obtain⟨rfl,rfl⟩:l=[]∧s'=adv s:=by
   rcases hr with ⟨_,h1,h2⟩|⟨hr,_⟩
   ·exact⟨h1,h2⟩
   ·rw[h5] at hr;cases hr
  rw[h5];refine zK<|zV<|wq_ret0 V (fun w hw=>?_);exact⟨none,0,rfl,Jq hw,HpG.blkL (j:=0) hw rfl,HpG.blkL (j:=1) hw rfl,uV,[],RdF.nil,.nil⟩
 ·have hr:(exF E.tk f).list [] s=some (l,s'):=by
   rcases hr with ⟨hr,_⟩|⟨_,hr⟩
   ·rw[h5] at hr;cases hr
   ·exact hr
  rw[h5];refine zG<|zQ<|yY<|xV (ι:={j:LiJ // LiOk E f l s' w_0.heap.size j}) (fun _=>[(0,.pointer (some ⟨bp,0,none⟩)),(1,.func (.func 189) #[] #[.pointer (some ⟨be,0,none⟩),.pointer (some ⟨bx,0,none⟩)])]) (fun j=>Hp (fun k=>k=bp∨k=be) w_0 [(bp,pO E j.1.s),(be,exB 3 0 nm j.1.A j.1.acc.length j.1.cap)] [⟨.slice j.1.A j.1.acc.length j.1.cap,57,4,j.1.acc.length,j.1.xs⟩] (fun u=>ExsV j.1.F u j.1.acc j.1.xs∧Blk bx (pxO bp) u∧TkX E u)) (fun j=>j.1.k) ⟨⟨f,[],s,none,0,[],fun _=>False⟩,⟨hr,by simp,hs,Km _,fun _ h=>h.elim⟩⟩ ?_ ?_ (fun j=>?_)
  ·exact .cons V<|.cons V<|.nil
  ·exact fun w h=>Hp.weakX h fun u hu=>⟨.nil,hu⟩
  obtain⟨⟨k,acc,s,A,cap,xs,F⟩,⟨hrun,hk,hs,hcap,hF⟩⟩:=j;dsimp only at hrun hk hs hcap hF ⊢
  cases k with
  | zero=>cases hrun
  | succ k=>?_
  have hrun:sX E.tk (exF E.tk k) acc s=some (l,s'):=hrun;refine zY<|zY<|zX<|Zm V V<|wl_ok E s bp 0 .none V  V V<|ZT<|zT V (fun h7=>?_) (fun h7=>?_)
  ·have h7:s.err=0:=Jo h7;obtain⟨x,s1,hx1,hx2⟩:=listS_go hrun h7;have hs1:=(qQ hE.kind k).bin 0 s hs x s1 hx1;have hxf:=(exF_le (f:=k) (g:=f) (by omega)).bin 0 s _ hx1;refine zG<|zQ<|yY<|zY<|Z3r 0 1 7 V V V<|Zm V V<|xQ (ι:={i:(Option Addr×Nat)×(Option Addr×Nat)×(Nat→Prop) // (∀k,i.2.2 k→w_0.heap.size≤k)∧acc.length+1≤i.1.2}) (val:=fun _=>.tuple #[]) (H':=fun i=>Hp (fun k=>k=bp∨k=be) w_0 [(bp,pO E s1),(be,exB 3 0 nm i.1.1.1 (acc.length+1) i.1.1.2)] [⟨.slice i.1.1.1 (acc.length+1) i.1.1.2,57,4,acc.length+1,xs++xL x i.1.2.1.1 i.1.2.1.2⟩] (fun u=>xT i.1.2.2 u x i.1.2.1.1 i.1.2.1.2∧ExsV F u acc xs∧Blk bx (pxO bp) u∧TkX E u)) .none V  (qA (us:=[]) (vs:=[]) (cs:=[.pointer (some ⟨be,0,none⟩),.pointer (some ⟨bx,0,none⟩)]) (by kernel_rfl) V V (fun w hw=>(elem_any IH s x s1 hxf hs bp be bx nm A acc.length cap xs (by omega) hB (fun _ h=>h.2) w hw).mono fun e w' ⟨A',cap',A2,cap2,F2,e1,e2,e3,e4⟩=>⟨_,e1,⟨((A',cap'),(A2,cap2),F2),e2,e3⟩,rfl,e4⟩)) (fun i=>?_);obtain⟨⟨⟨A',cap'⟩,⟨A2,cap2⟩,F2⟩,hF2,hcap'⟩:=i;dsimp only at hF2 hcap' ⊢;refine ZX<|zY<|Z3r 0 1 7 V V V<|Zm V V<|vX E hE s1 hs1.2.1 [41] bp (fun _ h=>h.2.2.2) 0 .none V  V V ?_;refine ZT<|zT V (fun h11=>?_) (fun h11=>?_)
   ·rw[h11] at hx2 ⊢;cases hx2;refine zK<|zV<|zR<|zV<|zR<|wq_ret0 V (fun w hw=>?_);have hv:=HpG.x hw;refine⟨A',cap',rfl,Jq hw,HpG.blkL (j:=0) hw rfl,by rw[Ji];exact HpG.blkL (j:=1) hw rfl,by show Cp (acc++[x]).length cap';rw[Ji];exact HpG.rowCp (j:=0) hw rfl,_,HpG.rowF (j:=0) hw rfl,?_⟩;exact ExsV.append (ExsV.lies.mono hF hv.2.1) (ExsV.lies.mono hF2 hv.1.one)
   ·rw[h11] at hx2 ⊢;refine zG<|zQ<|Z4r 0 1 7 11 V V V V<|Zm V V<|vP E hE s1 hs1.2.1 [44] bp (fun _ h=>h.2.2.2) 0 .none V  V V ?_;refine zU<|zM<|yC (ι:={j:LiJ // LiOk E f l s' w_0.heap.size j}) ⟨⟨k,acc++[x],yA E.tk [44] s1,A',cap',xs++xL x A2 cap2,fun k=>F k∨F2 k⟩,⟨hx2,by rw[Ji];simp;omega,(tJ hE.kind [44] hs1.2.1).1,by rw[Ji];exact hcap',fun k hk=>hk.elim (hF k) (hF2 k)⟩⟩ (by show k<k+1;omega) (O2 V V) (fun w h=>?_);dsimp only;rw[Ji];exact Hp.weakX h fun u hu=>⟨ExsV.append (ExsV.lies.mono (fun _ h=>.inl h) hu.2.1) (ExsV.lies.mono (fun _ h=>.inr h) hu.1.one),hu.2.2⟩
  ·have h7:s.err≠0:=Jp h7;obtain⟨rfl,rfl⟩:l=acc∧s'=s:=by have:=listS_err hrun h7;cases this;exact⟨rfl,rfl⟩
   refine xY<|zN<|zN<|xZ<|xI V (fun w hw=>?_);exact⟨A,cap,rfl,Jq hw,HpG.blkL (j:=0) hw rfl,HpG.blkL (j:=1) hw rfl,HpG.rowCp (j:=0) hw rfl,_,HpG.rowF (j:=0) hw rfl,ExsV.lies.mono hF (HpG.x hw).1⟩
end Go.Proofs.YtfpkpnkdnammnaaGreatDoor
