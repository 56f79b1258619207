/- The reference model's blanks and symbols. -/
import Derived.Test.YtfpkpnkdnammnaaGreatDoorMgO
import Derived.Test.YtfpkpnkdnammnaaGreatDoorSyT
namespace Go.Proofs.YtfpkpnkdnammnaaGreatDoor
open Go.RowKit
theorem rblank_any (r:Nat) (w_0:World):Calls Tryz.prog 33 #[.int .u8 r] w_0 fun e w'=>e=.returned (.bool (sG r))∧Ext w_0 w':=by
 refine zC (args:=[.int .u8 r]) Tryz.func33 V 17 V (Nat.le_of_ble_eq_true V)<|Z1 0 V<|zI (H':=Hp (fun _=>False) w_0 [] [] (fun _=>True)) (fun u hu=>?_) ?_
 ·subst hu;exact Hp.start0
 refine zY<|zX<|Za V V<|ZX<|zX<|Zm V V<|ZF V (yU V V)<|Zm V V<|zH 5 V (fun hb=>?_) (fun hb=>?_)
 ·replace hb:=eq_of_beq hb;refine ZP V<|ZP V<|ZF V (zT V V)<|Zm V V<|ZP V<|ZP V<|ZF V (zT V V)<|Zm V V<|ZP V<|ZP V<|ZF V (zT V V)<|Za V V<|ZT<|zO<|zK V V (fun w hw=>?_);exact⟨by congr 2;rw[Bool.eq_iff_iff];simp[sG];try omega,(HpG.keep hw).ext⟩
 ·replace hb:=yO hb;refine ZG V V V (zU V)<|ZG V V V (yU V V)<|ZF V (zM V V)<|Zm V V<|zH 9 V (fun hb=>?_) (fun hb=>?_)
  ·replace hb:=eq_of_beq hb;refine ZP V<|ZP V<|ZF V (zT V V)<|Zm V V<|ZP V<|ZP V<|ZF V (zT V V)<|Za V V<|ZT<|zO<|zK V V (fun w hw=>?_);exact⟨by congr 2;rw[Bool.eq_iff_iff];simp[sG];try omega,(HpG.keep hw).ext⟩
  ·replace hb:=yO hb;refine ZG V V V (zU V)<|ZG V V V (yU V V)<|ZF V (zM V V)<|Zm V V<|zH 13 V (fun hb=>?_) (fun hb=>?_)
   ·replace hb:=eq_of_beq hb;refine ZP V<|ZP V<|ZF V (zT V V)<|Za V V<|ZT<|zO<|zK V V (fun w hw=>?_);exact⟨by congr 2;rw[Bool.eq_iff_iff];simp[sG];try omega,(HpG.keep hw).ext⟩
   ·replace hb:=yO hb;refine ZG V V V (zU V)<|ZG V V V (yU V V)<|ZF V (zM V V)<|Za V V<|ZT<|zO<|zK V V (fun w hw=>?_);exact⟨by congr 2;rw[Bool.eq_iff_iff];simp[sG];try omega,(HpG.keep hw).ext⟩
def xF:List Bs:=[[60,61],[62,61],[61,61],[33,61],[60,60],[62,62],[40],[41],[91],[93],[123],[125],[44],[59],[61],[43],[45],[42],[47],[37],[38],[124],[94],[126],[33],[60],[62]]
theorem rsigns_any (w_0:World):Calls Tryz.prog 73 #[] w_0 fun e w'=>∃A:Option Addr,e=.returned (.slice A xF.length 27)∧Ext w_0 w'∧RdF (fun k=>w_0.heap.size≤k) A (xG xF) w':=by
 refine zC (args:=[]) Tryz.func73 V 2 V (Nat.le_of_ble_eq_true V)<|xL (.nil)<|zI (H':=Hp (fun _=>False) w_0 [] [] (fun _=>True)) (fun u hu=>?_) ?_
 ·subst hu;exact Hp.start0
 refine zY<|zX<|Za V V<|ZX<|zX<|zA .none V (sJ (z:=.string ⟨#[]⟩) V V V V U22 (by kernel_rfl) (by kernel_rfl) V V) (fun b1=>?_);refine Za V V<|ZT<|zO<|zK V V (fun w hw=>?_);exact⟨_,rfl,(HpG.keep hw).ext,HpG.rdF (j:=0) hw V (HpG.mineL hw (j:=0) V id)⟩
/-- A symbol stands at the head of a text. -/
def hitL (x s:Bs):Prop:=x.length≤s.length∧s.take x.length=x
theorem signs_two {k:Nat}{x:Bs}(h:xF[k]? = some x) (hk:k<6):x.length=2∧x∈twoL:=by
 have:∀k,k<6→∀x,xF[k]? = some x→x.length=2∧x∈twoL:=by
  intro k hk
  match k,hk with
  | 0,_=>intro x h;cases h;decide
  | 1,_=>intro x h;cases h;decide
  | 2,_=>intro x h;cases h;decide
  | 3,_=>intro x h;cases h;decide
  | 4,_=>intro x h;cases h;decide
  | 5,_=>intro x h;cases h;decide
 exact this k hk x h
theorem signs_all:∀x∈xF.drop 6,∃c,x=[c]∧c∈oneL:=by
 intro x hx;have e:xF.drop 6=oneL.map fun c=>[c]:=rfl;rw[e] at hx;obtain⟨c,hc,rfl⟩:=List.mem_map.1 hx;exact⟨c,rfl,hc⟩
theorem signs_one {k:Nat}{x:Bs}(h:xF[k]? = some x) (hk:6≤k):∃c,x=[c]∧c∈oneL:=by
 refine signs_all x (List.mem_of_getElem? (i:=k-6) ?_);have e:6+(k-6)=k:=by omega
 rw[List.getElem?_drop,e];exact h
theorem two_at {x:Bs}(h:x∈twoL):∃j,j<6∧xF[j]? = some x:=by
 obtain⟨j,hj,e⟩:=List.getElem_of_mem h;have h6:j<6:=hj;refine⟨j,h6,?_⟩;have e2:xF=twoL++xF.drop 6:=rfl;rw[e2,List.getElem?_append_left hj,List.getElem?_eq_getElem hj,e]
theorem one_at {c:UInt8}(h:c∈oneL):∃j:Nat,xF[j]? = some ([c]:Bs):=by
 have:[c]∈xF:=by
  have e2:xF=twoL++oneL.map fun c=>[c]:=rfl;rw[e2];exact List.mem_append_right _ (List.mem_map.2 ⟨c,h,rfl⟩)
 obtain⟨j,hj,e⟩:=List.getElem_of_mem this;exact⟨j,by rw[List.getElem?_eq_getElem hj,e]⟩
theorem sign_hit {s x:Bs}{k:Nat}(hx:xF[k]? = some x) (hno:∀(j:Nat) (y:Bs),j<k→xF[j]? = some y→¬hitL y s) (h:hitL x s):s.take (uJ s)=x:=by
 by_cases h2:s.take 2∈twoL
 ·have hs:uJ s=2:=by unfold uJ;rw[if_pos h2]
  obtain⟨j,hj,hjx⟩:=two_at h2;rcases Nat.lt_or_ge k 6 with hk|hk
  ·obtain⟨hl,_⟩:=signs_two hx hk;rw[hs,← hl];exact h.2
  ·have hl:=(signs_two hjx hj).1;refine absurd ⟨?_,?_⟩ (hno j _ (by omega) hjx)
   ·rw[List.length_take];omega
   ·rw[hl]
 ·rcases Nat.lt_or_ge k 6 with hk|hk
  ·obtain⟨hl,hm⟩:=signs_two hx hk;have:=h.2;rw[hl] at this;rw[this] at h2;exact absurd hm h2
  ·obtain⟨c,rfl,hc⟩:=signs_one hx hk
   cases s with
   | nil=>have:=h.1;simp at this
   | cons d r =>
    have e:=h.2;simp at e;subst e;have hs:uJ (d::r)=1:=by unfold uJ;rw[if_neg h2];dsimp only;rw[if_pos hc]
    rw[hs];rfl
theorem sign_none {s:Bs}(hno:∀(j:Nat) (y:Bs),xF[j]? = some y→¬hitL y s):s.take (uJ s)=[]:=by
 by_cases h2:s.take 2∈twoL
 ·obtain⟨j,hj,hjx⟩:=two_at h2;have hl:=(signs_two hjx hj).1;refine absurd ⟨?_,?_⟩ (hno j _ hjx)
  ·rw[List.length_take];omega
  ·rw[hl]
 ·cases s with
  | nil=>simp
  | cons d r =>
   by_cases hd:d∈oneL
   ·obtain⟨j,hj⟩:=one_at hd;exact absurd ⟨by simp,by simp⟩ (hno j _ hj)
   ·have hs:uJ (d::r)=0:=by unfold uJ;rw[if_neg h2];dsimp only;rw[if_neg hd]
    rw[hs];rfl
structure SgI (s:Bs) (k:Nat):Prop where
 le:k≤xF.length
 no:∀(j:Nat) (y:Bs),j<k→xF[j]? = some y→¬hitL y s
theorem signs_len (x:Bs) (h:x∈xF):x.length≤2:=by
 have:∀x∈xF,x.length≤2:=by decide
 exact this x h
set_option maxRecDepth 100000 in
theorem rsign_any (s:Bs) (w_0:World):Calls Tryz.prog 38 #[.string ⟨s.toArray⟩] w_0 fun e w'=>e=.returned (.string ⟨(s.take (uJ s)).toArray⟩)∧Ext w_0 w':=by
 refine zC (args:=[.string ⟨s.toArray⟩]) Tryz.func38 V 36 V (Nat.le_of_ble_eq_true V)<|Z1 0 V<|zI (H':=Hp (fun _=>False) w_0 [] [] (fun _=>True)) (fun u hu=>?_) ?_
 ·subst hu;exact Hp.start0
 refine zY<|zX<|Za V V<|ZX<|zX<|uP (ι:=Option Addr) (C:=fun A=>∃b off,A=some ⟨b,off,none⟩) (val:=fun A=>.slice A xF.length 27) (TT:=fun A F u=>RdF F A (xG xF) u) .none V  (by kernel_rfl) V (fun _ h=>h.elim) (fun _=>RdF.lies) (fun w hw=>(rsigns_any w).mono fun e w' ⟨A,e1,e2,e3⟩=>⟨A,by obtain⟨b,off,e,_⟩:=e3 (by simp[xF]);exact⟨b,off,e⟩,e1,e2,e3⟩) (fun A F hA hF=>?_);obtain⟨b,off,rfl⟩:=hA;refine Za V V<|ZX<|zY<|Z3r 0 2 3 V V V<|Za V V<|ZT<|zB<|xW (ι:={k:Nat // SgI s k}) (fun k=>[(0,.string ⟨s.toArray⟩),(3,.slice (some ⟨b,off,none⟩) xF.length 27),(4,.int .i64 k.1)]) (fun _=>Hp (fun _=>False) w_0 [] [] (RdF F (some ⟨b,off,none⟩) (xG xF))) (fun k=>xF.length-k.1) ⟨0,Nat.zero_le _,fun _ _ h=>absurd h (by omega)⟩ ?_ ?_ (fun k=>?_)
 ·exact .cons V<|.cons V<|.cons V<|.nil
 ·exact fun w h=>Hp.weakX h fun _ hu=>hu.1
 obtain⟨k,hk,hno⟩:=k;dsimp only;have hL:xF.length=27:=rfl;refine zY<|zY<|zX<|Zm V V<|Zm V V<|ZF V (yL V U22)<|ZF V (xM V V)<|ZT<|zQ V (fun h10=>?_) (fun h10=>?_)
 ·replace h10:=of_decide_eq_true h10;skip;have hkl:k<xF.length:=by simp at *;omega
  obtain⟨x,hx⟩:∃x,xF[k]? = some x:=⟨xF[k],List.getElem?_eq_getElem hkl⟩;have hxl:=signs_len x (List.mem_of_getElem? hx);refine zJ<|zR<|zY<|zB<|zY<|Z4r 0 3 4 10 V V V V<|Zm V V<|Zm V V ?_;(refine ZF rfl (zL (es:=1) rfl rfl U22 (by kernel_rfl) rfl ?_ rfl) ?_;(· first|decide|omega|(simp;done)|(simp;omega));skip);refine ZF V (yP (v:=.string ⟨x.toArray⟩) V U9 V (fun w h=>RdF.part (HpG.x h) (by simpa using hkl) (by omega) (uS hx))) ?_;refine ZF V (wN V U9)<|Za V V<|ZX<|Z5 0 3 4 5 10 V V V V V<|tB [0,1,2,3,4,5,6,7,8,9,10,11,12,13] _ (by kernel_rfl) (by kernel_rfl) HpG.stab HpG.stab (fun _ h=>HpG.drew h) (fun _ h=>h) ?_;refine Zd V V V (zU V)<|Zd V V V (zU V)<|Zd V V V (wN V U9)<|Zd V V V (yf_leq V V)<|Zd V V V (zU V)<|uD 22 V (fun hb=>?_) (fun hb=>?_)
  ·replace hb:=of_decide_eq_true hb;refine yY V ?_;(refine zD ?_ (.some rfl rfl) rfl (zU rfl) ?_;(· rfl);skip);refine yY V ?_;(refine zD ?_ (.some rfl rfl) rfl (zU rfl) ?_;(· rfl);skip);refine yY V ?_;(refine zD ?_ (.some rfl rfl) rfl (tP rfl rfl U9 ?_ ?_ rfl) ?_;(· rfl);(· omega);(· omega);skip);refine yY V ?_;(refine zD ?_ (.some rfl rfl) rfl (zU rfl) ?_;(· rfl);skip);refine yY V ?_;(refine zD ?_ (.some rfl rfl) rfl (zU rfl) ?_;(· rfl);skip);refine yY V ?_;(refine zD ?_ (.some rfl rfl) rfl (zL (es:=1) rfl rfl U22 (by kernel_rfl) rfl ?_ rfl) ?_;(· rfl);(· first|decide|omega|(simp;done)|(simp;omega));skip);refine yY V ?_;(refine zD ?_ (.some rfl rfl) rfl (yP (v:=.string ⟨x.toArray⟩) rfl U9 rfl (fun w h=>RdF.part (HpG.x h) (by simpa using hkl) (by omega) (uS hx))) ?_;(· rfl);skip);refine yY V ?_;(refine zD ?_ (.some rfl rfl) rfl (yI rfl rfl U9) ?_;(· rfl);skip);refine Zd V V V (zT V V)<|uQ<|zR<|zQ V (fun h31=>?_) (fun h31=>?_)
   ·refine zY<|Z6r 0 3 4 5 10 31 V V V V V V<|Zm V V<|Zm V V ?_;(refine ZF rfl (zL (es:=1) rfl rfl U22 (by kernel_rfl) rfl ?_ rfl) ?_;(· first|decide|omega|(simp;done)|(simp;omega));skip);refine ZF V (yP (v:=.string ⟨x.toArray⟩) V U9 V (fun w h=>RdF.part (HpG.x h) (by simpa using hkl) (by omega) (uS hx))) ?_;refine Za V V<|ZT<|zO<|zS<|zV<|zV<|zS<|zV<|zK V V (fun w hw=>?_);exact⟨by rw[sign_hit hx hno ⟨by omega,of_decide_eq_true h31⟩],(HpG.keep hw).ext⟩
   ·refine zJ<|zG<|zR<|Z6r 0 3 4 5 10 31 V V V V V V<|Zm V V ?_;(refine ZF rfl (yG rfl rfl (i64_in _ ?_ ?_)) ?_;(· omega);(· omega);skip);refine Za V V<|zN<|yH (ι:={k:Nat // SgI s k}) ⟨k+1,hkl,fun j y hj hy=>?_⟩ (by show xF.length-(k+1)<xF.length-k;omega) (O3 V V V) (fun w h=>h);rcases Nat.lt_or_ge j k with h1|h1
    ·exact hno j y h1 hy
    ·have:j=k:=by omega
     subst this;rw[hx] at hy;cases hy;intro hh;have h2:=hh.1
     first|exact of_decide_eq_false h31 hh.2|omega
  ·replace hb:=of_decide_eq_false hb;refine ZD V V<|ZD V V<|ZD V V<|ZD V V<|ZD V V<|ZD V V<|ZD V V<|ZD V V<|Zd V V V (zM V V)<|uQ<|zR<|wC V<|zJ<|zG<|zR<|Z6r 0 3 4 5 10 31 V V V V V V<|Zm V V ?_;(refine ZF rfl (yG rfl rfl (i64_in _ ?_ ?_)) ?_;(· omega);(· omega);skip);refine Za V V<|zN<|yH (ι:={k:Nat // SgI s k}) ⟨k+1,hkl,fun j y hj hy=>?_⟩ (by show xF.length-(k+1)<xF.length-k;omega) (O3 V V V) (fun w h=>h);rcases Nat.lt_or_ge j k with h1|h1
   ·exact hno j y h1 hy
   ·have:j=k:=by omega
    subst this;rw[hx] at hy;cases hy;intro hh;have h2:=hh.1
    first|exact of_decide_eq_false h31 hh.2|omega
 ·replace h10:=of_decide_eq_false h10;refine yC<|zP<|zP<|yD<|zR<|zY<|Z4r 0 3 4 10 V V V V<|Za V V<|ZT<|zO<|zK V V (fun w hw=>?_);exact⟨by rw[sign_none (fun j y hy=>hno j y (by have:=(List.getElem?_eq_some_iff.1 hy).1;omega) hy)],(HpG.keep hw).ext⟩
end Go.Proofs.YtfpkpnkdnammnaaGreatDoor
/- The reference model's tokens, plainly. -/
namespace Go.Proofs.YtfpkpnkdnammnaaGreatDoor
/-- The value of a row of digits, 2^32 at most. -/
def nB (s:Bs):Nat:=min (tY s) 4294967296
def yA (s:Bs):Tok:=match s with
 | []=>⟨4,0,[],0⟩
 | c::_ =>
  if uX c then ⟨1,0,s.takeWhile uX,nB (s.takeWhile uX)⟩
  else if letB c then ⟨if 12<(s.takeWhile tK).length then 4 else if s.takeWhile tK∈uZ then 3 else 2,0,s.takeWhile tK,0⟩
  else ⟨if uJ s=0 then 4 else 3,0,s.take (uJ s),0⟩
theorem rnext_num {c:UInt8}{r:Bs}(h:uY c.toNat=true):yA (c::r)=⟨1,0,(c::r).takeWhile uX,nB ((c::r).takeWhile uX)⟩:=by
 have h':uX c=true:=h;unfold yA;dsimp only;rw[if_pos h']
theorem rnext_wor {c:UInt8}{r:Bs}(h1:¬uY c.toNat=true) (h:rX c.toNat=true):yA (c::r)=⟨if 12<((c::r).takeWhile tK).length then 4 else if (c::r).takeWhile tK∈uZ then 3 else 2,0,(c::r).takeWhile tK,0⟩:=by
 have h':letB c=true:=h;have h1':¬uX c=true:=h1;unfold yA;dsimp only;rw[if_neg h1',if_pos h']
theorem rnext_sym {c:UInt8}{r:Bs}(h1:¬uY c.toNat=true) (h:¬rX c.toNat=true):yA (c::r)=⟨if uJ (c::r)=0 then 4 else 3,0,(c::r).take (uJ (c::r)),0⟩:=by
 have h':¬letB c=true:=h;have h1':¬uX c=true:=h1;unfold yA;dsimp only;rw[if_neg h1',if_neg h']
/-- A token of the reference's beside one of the program's. -/
structure TkR (t t':Tok):Prop where
 kind:t.kind=t'.kind
 at_:t.at_=t'.at_
 val:t.value=t'.value
 text:t.kind≠4→t.text=t'.text
theorem rnext_same (c:UInt8) (r:Bs):TkR (yA (c::r)) (xD (c::r)):=by
 unfold yA xD;dsimp only
 split
 ·exact⟨rfl,rfl,rfl,fun _=>rfl⟩
 ·split
  ·exact⟨rfl,rfl,rfl,fun _=>rfl⟩
  ·split
   ·exact⟨rfl,rfl,rfl,fun h=>absurd V h⟩
   ·exact⟨rfl,rfl,rfl,fun _=>rfl⟩
theorem tV (c:UInt8) (r:Bs):(yA (c::r)).text.length≤(c::r).length∧((yA (c::r)).kind≠4→1≤(yA (c::r)).text.length):=by
 refine⟨?_,fun h=>by rw[(rnext_same c r).text h];exact (tC c r).1⟩;unfold yA;dsimp only
 split
 ·exact vJ _ _
 ·split
  ·exact vJ _ _
  ·dsimp only;rw[List.length_take];omega
theorem takeWhile_pre (p:UInt8→Bool) (l:Bs):l.take (l.takeWhile p).length=l.takeWhile p:=by
 induction l with
 | nil=>rfl
 | cons x l ih =>
  cases hx:p x
  ·simp[List.takeWhile,hx]
  ·simp[List.takeWhile,hx,ih]
theorem rnext_pre (c:UInt8) (r:Bs):(c::r).take (yA (c::r)).text.length=(yA (c::r)).text:=by
 unfold yA;dsimp only
 split
 ·exact takeWhile_pre _ _
 ·split
  ·exact takeWhile_pre _ _
  ·dsimp only;rw[List.length_take];have:=symL_le c r;rw[Nat.min_eq_left this]
/-- The tokens behind position i up to the end or the first bad one. -/
def rtokF:Nat→Nat→Bs→List Tok
 | 0,_,_=>[]
 | f+1,i,s =>
  let k:=spanL wE s
  match s.drop k with
  | []=>[⟨0,i+k,[],0⟩]
  | c::r =>
   let t:=yA (c::r)
   if t.kind=4 then [⟨4,i+k,t.text,t.value⟩] else ⟨t.kind,i+k,t.text,t.value⟩::rtokF f (i+k+t.text.length) ((c::r).drop t.text.length)
theorem rtokF_fuel:∀{f g:Nat}(i:Nat) (s:Bs),s.length<f→s.length<g→rtokF f i s=rtokF g i s
 | 0,_,_,_,h,_=>absurd h (by omega)
 | _+1,0,_,_,_,h=>absurd h (by omega)
 | f+1,g+1,i,s,hf,hg=>by
  unfold rtokF;dsimp only
  cases h:s.drop (spanL wE s) with
  | nil=>rfl
  | cons c r =>
   dsimp only;have hl:=tV c r;have hd:(c::r).length≤s.length:=by rw[← h,List.length_drop];omega
   split
   ·rfl
   ·rename_i h4;have:=hl.2 h4;congr 1;exact rtokF_fuel _ _ (by rw[List.length_drop];omega) (by rw[List.length_drop];omega)
def tX (i:Nat) (s:Bs):List Tok:=rtokF (s.length+1) i s
def tH (s:Bs):List Tok:=tX 0 s
theorem rtokD_end {i:Nat}{s:Bs}(h:s.drop (spanL wE s)=[]):tX i s=[⟨0,i+spanL wE s,[],0⟩]:=by
 unfold tX rtokF;dsimp only;rw[h]
theorem rtokD_bad {i:Nat}{s r:Bs}{c:UInt8}(h:s.drop (spanL wE s)=c::r) (h4:(yA (c::r)).kind=4):tX i s=[⟨4,i+spanL wE s,(yA (c::r)).text,(yA (c::r)).value⟩]:=by
 unfold tX rtokF;dsimp only;rw[h];dsimp only;rw[if_pos h4]
theorem rtokD_next {i:Nat}{s r:Bs}{c:UInt8}(h:s.drop (spanL wE s)=c::r) (h4:(yA (c::r)).kind≠4):tX i s=⟨(yA (c::r)).kind,i+spanL wE s,(yA (c::r)).text,(yA (c::r)).value⟩::tX (i+spanL wE s+(yA (c::r)).text.length) ((c::r).drop (yA (c::r)).text.length):=by
 have hl:=tV c r;have hl2:=hl.2 h4;have hd:(c::r).length≤s.length:=by rw[← h,List.length_drop];omega
 unfold tX
 conv=>lhs;unfold rtokF
 dsimp only;rw[h];dsimp only;rw[if_neg h4];congr 1;exact rtokF_fuel _ _ (by rw[List.length_drop];omega) (by rw[List.length_drop];omega)
/-- The reference's tokens end with one of kind 0 or 4; up to there they are the program's. -/
theorem rtok_same:∀(k:Nat) (i:Nat) (s:Bs),s.length=k→∃m,(tX i s).length=m+1∧m≤s.length∧((uO (tX i s) m).kind=0∨(uO (tX i s) m).kind=4)∧∀j,j≤m→TkR (uO (tX i s) j) (uO (tokD i s) j):=by
 intro k
 induction k using Nat.strongRecOn with
 | _ k ih =>
  intro i s hk
  cases h:s.drop (spanL wE s) with
  | nil =>
   rw[rtokD_end h,tokD_end h];refine⟨0,rfl,by omega,.inl rfl,fun j hj=>?_⟩;exact⟨rfl,rfl,rfl,fun _=>rfl⟩
  | cons c r =>
   have hs:=rnext_same c r
   by_cases h4:(yA (c::r)).kind=4
   ·rw[rtokD_bad h h4,tD h];refine⟨0,rfl,by omega,.inr rfl,fun j hj=>?_⟩;obtain rfl:j=0:=by omega
    exact⟨h4.symm.trans hs.kind,rfl,hs.val,fun h=>absurd V h⟩
   ·have hl:=(tV c r).2 h4;have hl0:=(tV c r).1;have hd:(c::r).length≤s.length:=by rw[← h,List.length_drop];omega
    have ht:=hs.text h4;rw[rtokD_next h h4,tD h,← ht];obtain⟨m,h1,h2,h3,h5⟩:=ih ((c::r).drop (yA (c::r)).text.length).length (by rw[List.length_drop];omega) (i+spanL wE s+(yA (c::r)).text.length) _ rfl;rw[List.length_drop] at h2;refine⟨m+1,by rw[List.length_cons,h1],by omega,h3,fun j hj=>?_⟩
    cases j with
    | zero=>exact⟨hs.kind,rfl,hs.val,fun _=>rfl⟩
    | succ j=>exact h5 j (by omega)
theorem decL_snoc (x:Bs) (d:UInt8):tY (x++[d])=10*tY x+(d.toNat-48):=by simp[tY]
theorem decL_take {s:Bs}{q:Nat}{d:UInt8}(h:s[q]? = some d):tY (s.take (q+1))=10*tY (s.take q)+(d.toNat-48):=by
 rw[List.take_add_one,h];exact decL_snoc _ d
end Go.Proofs.YtfpkpnkdnammnaaGreatDoor
/- The reference model's tokens. -/
namespace Go.Proofs.YtfpkpnkdnammnaaGreatDoor
open Go.RowKit
abbrev tG (t:Tok):List Value:=[.int .i64 t.kind,.string ⟨t.text.toArray⟩,.int .u32 ((t.value%4294967296:Nat):Int),.bool (decide (4294967296≤t.value)),.int .i64 t.at_]
def uV (l:List Tok):List Value:=l.flatMap tG
theorem rtoksC_one (l:List Tok) (t:Tok):uV (l++[t])=uV l++tG t:=by simp[uV]
theorem rtoksC_at {l:List Tok}{i:Nat}(h:i<l.length) {j:Nat}{v:Value}(hv:(tG (uO l i))[j]? = some v):(uV l)[5*i+j]? = some v:=by
 induction l generalizing i with
 | nil=>simp at h
 | cons t l ih =>
  have e:uV (t::l)=tG t++uV l:=rfl
  cases i with
  | zero =>
   rw[e,Nat.mul_zero,Nat.zero_add];exact (List.getElem?_append_left (List.getElem?_eq_some_iff.1 hv).1).trans hv
  | succ i =>
   rw[e,List.getElem?_append_right (by simp;omega)];have:5*(i+1)+j-(tG t).length=5*i+j:=by simp;omega
   rw[this];exact ih (by simpa using h) hv
theorem nB_le (x:Bs):nB x≤4294967296:=Nat.min_le_right _ _
theorem u32_nB (x:Bs):IntKind.u32.wrap ((nB x:Nat):Int)=((nB x%4294967296:Nat):Int):=by
 rcases Nat.lt_or_ge (nB x) 4294967296 with h|h
 ·rw[u32_in _ (by omega) (by omega),Nat.mod_eq_of_lt h]
 ·have:nB x=4294967296:=Nat.le_antisymm (nB_le x) h;rw[this];rfl
theorem nB_dec (x:Bs):decide (4294967296≤nB x)=decide (4294967296≤tY x):=by
 unfold nB;congr 1;apply propext;omega
theorem SpI.step {q:Nat→Bool}{l:Bs}{p:Nat}{d:UInt8}(h:SpI q l p) (hd:l[p]? = some d) (hq:q d.toNat=true):SpI q l (p+1) :=
 ⟨(List.getElem?_eq_some_iff.1 hd).1,fun j x hj hx=>by
  rcases Nat.lt_or_ge j p with h1|h1
  ·exact h.all j x h1 hx
  ·have:j=p:=by omega
   subst this;rw[hd] at hx;cases hx;exact hq⟩
theorem SpI.end {q:Nat→Bool}{l:Bs}{p:Nat}{x:Bool}(h:SpI q l p) (hx:x=true↔∃d,l[p]? = some d∧q d.toNat=true) (hf:¬x=true):spanL (fun c=>q c.toNat) l=p:=by
 cases hq:l[p]? with
 | none =>
  have h1:=List.getElem?_eq_none_iff.1 hq;have h2:=h.le;have:p=l.length:=by omega
  subst this;exact spanL_all (q:=q) fun j d hd=>h.all j d (List.getElem?_eq_some_iff.1 hd).1 hd
 | some c =>
  refine spanL_step (q:=q) hq h.all ?_
  cases hb:q c.toNat with
  | false=>rfl
  | true=>exact absurd (hx.2 ⟨c,hq,hb⟩) hf
theorem SpI.take {q:Nat→Bool}{l:Bs}{p:Nat}(h:spanL (fun c=>q c.toNat) l=p):l.takeWhile (fun c=>q c.toNat)=l.take p:=by rw[← h,take_span]
structure RkI (l:Bs) (i:Nat) (out:List Tok):Prop where
 le:i≤l.length
 n:out.length≤i
 e:tH l=out++tX i (l.drop i)
set_option maxRecDepth 100000 in
theorem rtokens_any (l:Bs) (hl:l.length≤1000000000000) (w_0:World):Calls Tryz.prog 17 #[.string ⟨l.toArray⟩] w_0 fun e w'=>∃g cap,e=.returned (.slice (some ⟨g,0,none⟩) (tH l).length cap)∧(tH l).length≤cap∧Ext w_0 w'∧RdF (fun k=>w_0.heap.size≤k) (some ⟨g,0,none⟩) (uV (tH l)) w':=by
 refine zC (args:=[.string ⟨l.toArray⟩]) Tryz.func17 V 128 V (Nat.le_of_ble_eq_true V)<|Z1 0 V<|zI (H':=Hp (fun _=>False) w_0 [] [] (fun _=>True)) (fun u hu=>?_) ?_
 ·subst hu;exact Hp.start0
 refine zY<|zX<|Za V V<|ZX<|zX<|Za V V<|ZX<|zX<|Za V V<|ZT<|zB<|xW (ι:={j:(Nat×List Tok)×(Option Addr×Nat) // RkI l j.1.1 j.1.2∧j.1.2.length≤j.2.2}) (fun j=>[(0,.string ⟨l.toArray⟩),(3,.slice j.1.2.1 j.1.1.2.length j.1.2.2),(4,.int .i64 j.1.1.1)]) (fun j=>Hp (fun _=>False) w_0 [] [⟨.slice j.1.2.1 j.1.1.2.length j.1.2.2,52,5,j.1.1.2.length,uV j.1.1.2⟩] (fun _=>True)) (fun j=>l.length-j.1.1.1) ⟨((0,[]),(none,0)),⟨Nat.zero_le _,Nat.le_refl _,rfl⟩,Nat.le_refl _⟩ ?_ ?_ (fun j=>?_)
 ·exact .cons V<|.cons V<|.cons V<|.nil
 ·exact fun w h=>Hp.nil h _ _
 obtain⟨⟨⟨i,out⟩,⟨A,cap⟩⟩,⟨hi,hn,he⟩,hcap⟩:=j;dsimp only at hi hn he hcap ⊢;refine zB<|zY<|zB<|xW (ι:={p:Nat // SpI sG (l.drop i) p}) (fun p=>[(0,.string ⟨l.toArray⟩),(3,.slice A out.length cap),(4,.int .i64 ((i+p.1:Nat):Int))]) (fun _=>Hp (fun _=>False) w_0 [] [⟨.slice A out.length cap,52,5,out.length,uV out⟩] (fun _=>True)) (fun p=>l.length-p.1) ⟨0,Nat.zero_le _,fun _ _ h=>absurd h (by omega)⟩ ?_ ?_ (fun p=>?_)
 ·exact .cons V<|.cons V<|.cons V<|.nil
 ·exact fun w h=>h
 obtain⟨p,hp⟩:=p;dsimp only;have hple:i+p≤l.length:=by have:=hp.le;rw[List.length_drop] at this;omega
 refine zY<|wZ (ι:={x:Bool // x=true↔∃d,(l.drop i)[p]? = some d∧sG d.toNat=true}) (fun x=>[(0,.string ⟨l.toArray⟩),(3,.slice A out.length cap),(4,.int .i64 ((i+p:Nat):Int)),(18,.bool x.1)]) (fun _=>Hp (fun _=>False) w_0 [] [⟨.slice A out.length cap,52,5,out.length,uV out⟩] (fun _=>True)) ?_ (fun x=>?_)
 ·refine zX<|Zm V V<|Zm V V<|ZF V (wN V U9)<|ZF V (xM V V)<|Zm V V<|zH 13 V (fun hb=>?_) (fun hb=>?_)
  ·replace hb:=of_decide_eq_true hb;skip;obtain⟨c,hc⟩:∃c,l[i+p]? = some c:=⟨l[i+p]'(by omega),List.getElem?_eq_getElem _⟩;have hcd:(l.drop i)[p]? = some c:=by rw[List.getElem?_drop];exact hc
   refine ZG V V V (zU V)<|ZG V V V (zU V)<|ZG V V V (vO V V U9 V hc)<|yS (.some V V) V  (v:=.bool (sG c.toNat)) (by kernel_rfl) V (fun w hw=>rblank_any _ w) ?_;refine ZF V (zT V V)<|zN<|yX (ι:={x:Bool // x=true↔∃d,(l.drop i)[p]? = some d∧sG d.toNat=true}) ⟨sG c.toNat,⟨fun h=>⟨c,hcd,h⟩,fun ⟨d,h1,h2⟩=>by rw[hcd] at h1;cases h1;exact h2⟩⟩ (O4 V V V V) (fun w h=>h)
  ·replace hb:=of_decide_eq_false hb;refine ZP V<|ZP V<|ZP V<|ZP V<|ZF V (zM V V)<|zN<|yX (ι:={x:Bool // x=true↔∃d,(l.drop i)[p]? = some d∧sG d.toNat=true}) ⟨false,⟨fun h=>(by cases h),fun ⟨d,h1,_⟩=>by have:=(List.getElem?_eq_some_iff.1 h1).1;rw[List.length_drop] at this;omega⟩⟩ (O4 V V V V) (fun w h=>h)
 ·obtain⟨x,hx⟩:=x;dsimp only;refine zQ V (fun h18=>?_) (fun h18=>?_)
  ·obtain⟨d,hd,hdq⟩:=hx.1 h18;have hps:=hp.step hd hdq;have hpl:i+p+1≤l.length:=by have:=hps.le;rw[List.length_drop] at this;omega
   refine zJ<|zR<|zB<|zX<|Zm V V ?_;(refine ZF rfl (yG rfl rfl (i64_in _ ?_ ?_)) ?_;(· omega);(· omega);skip);refine Za V V<|zN<|zG<|yH (ι:={p:Nat // SpI sG (l.drop i) p}) ⟨p+1,hps⟩ (by show l.length-(p+1)<l.length-p;omega) (O3 V V V) (fun w h=>h)
  ·have hsp:spanL wE (l.drop i)=p:=hp.end hx (by simpa using h18);refine yC<|zP<|zP<|yD<|zR<|zY<|zY<|zX<|Zm V V<|Zm V V<|ZF V (wN V U9)<|ZF V (yU V V)<|ZT<|zQ V (fun h24=>?_) (fun h24=>?_)
   ·replace h24:=eq_of_beq h24;skip;have hend:(l.drop i).drop (spanL wE (l.drop i))=[]:=by rw[List.drop_drop];exact List.drop_eq_nil_of_le (by omega)
    have hfin:tH l=out++[⟨0,i+p,[],0⟩]:=by rw[he,rtokD_end hend,hsp]
    refine zY<|Z5r 0 3 4 18 24 V V V V V<|Zm V V<|Zm V V<|ZF V (yV [.int .i64 0,.string ⟨#[]⟩,.int .u32 0,.bool false,.int .i64 0] [(0,1),(1,1),(2,1),(3,1),(4,1)] V (by kernel_rfl) (by kernel_rfl) V) ?_;refine zA .none V (xO (z:=.agg #[.int .i64 0,.string ⟨#[]⟩,.int .u32 0,.bool false,.int .i64 0]) V V U27 (by kernel_rfl) (by kernel_rfl) V V) (fun b28=>?_);(refine wR (z:=.agg #[.int .i64 0,.string ⟨#[]⟩,.int .u32 0,.bool false,.int .i64 0]) (bytes:=40) 0 0 .none rfl rfl rfl rfl rfl U27 (by kernel_rfl) rfl rfl rfl rfl rfl ?_ ?_ (fun a29 c29 h29=>?_);(· omega);(· omega);skip);refine Za V V<|ZT<|zO<|zV<|zS<|zV<|zS<|zK V V (fun w hw=>?_);exact⟨a29,c29,by rw[hfin,List.length_append];rfl,by rw[hfin,List.length_append];exact h29,(HpG.keep hw).ext,by rw[hfin,rtoksC_one];exact HpG.rowF (j:=0) hw rfl⟩
   ·replace h24:=yO h24;skip
    obtain⟨c,r,hcr⟩:∃c r,l.drop (i+p)=c::r:=by
     cases hq:l.drop (i+p) with
     | nil=>have:=List.drop_eq_nil_iff.1 hq;omega
     | cons c r=>exact⟨c,r,rfl⟩
    have hcr2:(l.drop i).drop (spanL wE (l.drop i))=c::r:=by rw[List.drop_drop,hsp,hcr]
    have hlen:(c::r).length+(i+p)=l.length:=by rw[← hcr,List.length_drop];omega
    have hat:∀{k:Nat} {d:UInt8},(c::r)[k]? = some d→l[i+p+k]? = some d:=fun {k d} h=>by rw[← hcr,List.getElem?_drop] at h;exact h
    have hnl:=tV c r;refine zJ<|zR<|zY<|Z5r 0 3 4 18 24 V V V V V<|Zm V V<|ZF V (yV [.int .i64 0,.string ⟨#[]⟩,.int .u32 0,.bool false,.int .i64 0] [(0,1),(1,1),(2,1),(3,1),(4,1)] V (by kernel_rfl) (by kernel_rfl) V) ?_;refine zA .none V (yR (z:=.agg #[.int .i64 0,.string ⟨#[]⟩,.int .u32 0,.bool false,.int .i64 0]) (cs:=[.int .i64 0,.string ⟨#[]⟩,.int .u32 0,.bool false,.int .i64 0]) (by kernel_rfl) V) (fun b5=>?_);refine ZR 0 V V V V V (by kernel_rfl) ?_;refine ZX<|Z6r 0 3 4 5 18 24 V V V V V V<|Zm V V<|Za V V<|ZT<|wZ (ι:=Unit) (fun _=>[(0,.string ⟨l.toArray⟩),(3,.slice A out.length cap),(4,.int .i64 ((i+p:Nat):Int)),(5,.pointer (some ⟨b5,0,none⟩)),(6,.int .i64 ((i+p+(yA (c::r)).text.length:Nat):Int))]) (fun _=>Hp (fun _=>False) w_0 [(b5,bk 52 [.int .i64 (yA (c::r)).kind,.string ⟨#[]⟩,.int .u32 (((yA (c::r)).value%4294967296:Nat):Int),.bool (decide (4294967296≤(yA (c::r)).value)),.int .i64 ((i+p:Nat):Int)])] [⟨.slice A out.length cap,52,5,out.length,uV out⟩] (fun _=>True)) ?_ (fun _=>?_)
    ·refine zB<|zY<|Z7r 0 3 4 5 6 18 24 V V V V V V V<|Zm V V<|Zm V V<|ZF V (vO V V U9 V (show l[i+p]? = some c from hat (k:=0) V))<|yS .none V  (v:=.bool (uY c.toNat)) (by kernel_rfl) V (fun w hw=>rdigit_any _ w) ?_;refine Za V V<|ZT<|zQ V (fun h45=>?_) (fun h45=>?_)
     ·refine zY<|Z8r 0 3 4 5 6 18 24 45 V V V V V V V V<|ZF V (Y52x0 V) ?_;refine ZS 0 V V V V V (by kernel_rfl) ?_;refine ZX<|Z8r 0 3 4 5 6 18 24 45 V V V V V V V V<|Za V V<|ZX<|zB<|xW (ι:={q:Nat // SpI uY (c::r) q}) (fun q=>[(0,.string ⟨l.toArray⟩),(3,.slice A out.length cap),(4,.int .i64 ((i+p:Nat):Int)),(5,.pointer (some ⟨b5,0,none⟩)),(6,.int .i64 ((i+p+q.1:Nat):Int)),(7,.int .u64 (nB ((c::r).take q.1)))]) (fun q=>Hp (fun _=>False) w_0 [(b5,bk 52 [.int .i64 1,.string ⟨#[]⟩,.int .u32 0,.bool (decide (4294967296≤tY ((c::r).take q.1))),.int .i64 ((i+p:Nat):Int)])] [⟨.slice A out.length cap,52,5,out.length,uV out⟩] (fun _=>True)) (fun q=>(c::r).length-q.1) ⟨0,Nat.zero_le _,fun _ _ h=>absurd h (by omega)⟩ ?_ ?_ (fun q=>?_)
      ·exact .cons V<|.cons V<|.cons V<|.cons V<|.cons V<|.cons V<|.nil
      ·exact fun w h=>h
      obtain⟨q,hq⟩:=q;dsimp only;have hqle:=hq.le;refine zY<|wZ (ι:={x:Bool // x=true↔∃d,(c::r)[q]? = some d∧uY d.toNat=true}) (fun x=>[(0,.string ⟨l.toArray⟩),(3,.slice A out.length cap),(4,.int .i64 ((i+p:Nat):Int)),(5,.pointer (some ⟨b5,0,none⟩)),(6,.int .i64 ((i+p+q:Nat):Int)),(7,.int .u64 (nB ((c::r).take q))),(60,.bool x.1)]) (fun _=>Hp (fun _=>False) w_0 [(b5,bk 52 [.int .i64 1,.string ⟨#[]⟩,.int .u32 0,.bool (decide (4294967296≤tY ((c::r).take q))),.int .i64 ((i+p:Nat):Int)])] [⟨.slice A out.length cap,52,5,out.length,uV out⟩] (fun _=>True)) ?_ (fun x=>?_)
      ·refine zX<|Zm V V<|Zm V V<|ZF V (wN V U9)<|ZF V (xM V V)<|Zm V V<|zH 55 V (fun hb=>?_) (fun hb=>?_)
       ·replace hb:=of_decide_eq_true hb;skip;obtain⟨y,hy⟩:∃y,(c::r)[q]? = some y:=⟨(c::r)[q]'(by omega),List.getElem?_eq_getElem _⟩;refine ZG V V V (zU V)<|ZG V V V (zU V)<|ZG V V V (vO V V U9 V (hat hy))<|yS (.some V V) V  (v:=.bool (uY y.toNat)) (by kernel_rfl) V (fun w hw=>rdigit_any _ w) ?_;refine ZF V (zT V V)<|zN<|yX (ι:={x:Bool // x=true↔∃d,(c::r)[q]? = some d∧uY d.toNat=true}) ⟨uY y.toNat,⟨fun h=>⟨y,hy,h⟩,fun ⟨d,h1,h2⟩=>by rw[hy] at h1;cases h1;exact h2⟩⟩ (O7 V V V V V V V) (fun w h=>h)
       ·replace hb:=of_decide_eq_false hb;refine ZP V<|ZP V<|ZP V<|ZP V<|ZF V (zM V V)<|zN<|yX (ι:={x:Bool // x=true↔∃d,(c::r)[q]? = some d∧uY d.toNat=true}) ⟨false,⟨fun h=>(by cases h),fun ⟨d,h1,_⟩=>by have:=(List.getElem?_eq_some_iff.1 h1).1;omega⟩⟩ (O7 V V V V V V V) (fun w h=>h)
      ·obtain⟨x,hx⟩:=x;dsimp only;refine zQ V (fun h60=>?_) (fun h60=>?_)
       ·obtain⟨y,hy,hyq⟩:=hx.1 h60;have hqs:=hq.step hy hyq;have hql:=hqs.le;have hyd:48≤y.toNat∧y.toNat≤57:=by simpa [uY] using hyq
        have hnb:=nB_le ((c::r).take q);have hdt:=decL_take hy;refine zJ<|zR<|zB<|zY<|zX<|Zm V V<|ZF V (yf_mul V V (show IntKind.u64.wrap ((10:Int)*((nB ((c::r).take q):Nat):Int))=((10*nB ((c::r).take q):Nat):Int) from by rw[u64_in _ (by omega) (by omega)];simp)) ?_;refine Zm V V<|Zm V V<|ZF V (vO V V U9 V (hat hy))<|ZF V (yf_sub V V (show IntKind.u8.wrap ((y.toNat:Int)-48)=((y.toNat-48:Nat):Int) from by rw[u8_in _ (by omega) (by omega)];omega)) ?_
        (refine ZF rfl (yf_conv rfl (by kernel_rfl) U53 (u64_in _ ?_ ?_)) ?_;(· omega);(· omega);skip)
        refine ZF V (yG V V (show IntKind.u64.wrap (((10*nB ((c::r).take q):Nat):Int)+((y.toNat-48:Nat):Int))=((10*nB ((c::r).take q)+(y.toNat-48):Nat):Int) from by rw[u64_in _ (by omega) (by omega)];simp)) ?_;refine Za V V<|ZX<|zY<|Z7r 0 3 4 5 6 7 60 V V V V V V V<|Zm V V<|ZF V (uK V V)<|ZT<|zQ V (fun h70=>?_) (fun h70=>?_)
        ·replace h70:=of_decide_eq_true h70;refine zY<|Z8r 0 3 4 5 6 7 60 70 V V V V V V V V<|ZF V (zZ (off:=3) (sz:=0) V U52 (by kernel_rfl) V) ?_;refine ZS 0 V V V V V (by kernel_rfl) ?_;refine ZT<|Z8r 0 3 4 5 6 7 60 70 V V V V V V V V<|Za V V<|ZT<|zX<|Zm V V ?_;(refine ZF rfl (yG rfl rfl (i64_in _ ?_ ?_)) ?_;(· omega);(· omega);skip);refine Za V V<|zN<|zG ?_
         have hbig:4294967296≤tY ((c::r).take (q+1)):=by
          have:nB ((c::r).take q)≤tY ((c::r).take q):=Nat.min_le_left _ _;omega
         refine yH (ι:={q:Nat // SpI uY (c::r) q}) ⟨q+1,hqs⟩ (by show (c::r).length-(q+1)<(c::r).length-q;omega) (.cons V<|.cons V<|.cons V<|.cons V<|.cons V<|.cons (by dsimp only;rw[show nB ((c::r).take (q+1))=4294967296 from Nat.min_eq_right hbig];rfl)<|.nil) (fun w h=>by dsimp only;rw[decide_eq_true hbig];exact h)
        ·replace h70:=of_decide_eq_false h70;refine zJ<|zR<|Z8r 0 3 4 5 6 7 60 70 V V V V V V V V<|Zm V V ?_;(refine ZF rfl (yG rfl rfl (i64_in _ ?_ ?_)) ?_;(· omega);(· omega);skip);refine Za V V<|zN<|zG ?_
         have hsm:tY ((c::r).take q)<4294967296∧nB ((c::r).take q)=tY ((c::r).take q):=by
          unfold nB at h70 ⊢;omega
         have hsm2:¬4294967296≤tY ((c::r).take (q+1)):=by omega
         refine yH (ι:={q:Nat // SpI uY (c::r) q}) ⟨q+1,hqs⟩ (by show (c::r).length-(q+1)<(c::r).length-q;omega) (.cons V<|.cons V<|.cons V<|.cons V<|.cons V<|.cons (by dsimp only;rw[show nB ((c::r).take (q+1))=10*nB ((c::r).take q)+(y.toNat-48) from by rw[hsm.2,← hdt];exact Nat.min_eq_left (by omega)];rfl)<|.nil) (fun w h=>by dsimp only;rw[decide_eq_false hsm2];rw[decide_eq_false (show ¬4294967296≤tY ((c::r).take q) by omega)] at h;exact h)
       ·have hqt:(c::r).takeWhile uX=(c::r).take q:=SpI.take (hq.end hx (by simpa using h60));have hT:yA (c::r)=⟨1,0,(c::r).take q,nB ((c::r).take q)⟩:=by rw[rnext_num h45,hqt]
        have hTl:((c::r).take q).length=q:=by rw[List.length_take];omega
        refine yC<|zP<|zP<|yD<|zR<|zX<|Zm V V ?_
        refine ZF V (yf_conv V (by kernel_rfl) U50 (u32_nB _)) ?_
        refine ZF V (zZ (off:=2) (sz:=0) V U52 (by kernel_rfl) V) ?_;refine ZS 0 V V V V V (by kernel_rfl) ?_;refine zN<|zG ?_;have hT':yA (c::r)=⟨1,0,(c::r).take q,nB ((c::r).take q)⟩:=hT;refine yX (ι:=Unit) () (.cons V<|.cons V<|.cons V<|.cons V<|.cons (by rw[hT'];dsimp only;rw[hTl];rfl)<|.nil) (fun w h=>by rw[hT'];dsimp only;rw[nB_dec];exact Hp.weakX h fun _ _=>trivial)
     ·refine zY<|Z8r 0 3 4 5 6 18 24 45 V V V V V V V V<|Zm V V<|Zm V V<|ZF V (vO V V U9 V (show l[i+p]? = some c from hat (k:=0) V))<|yS .none V  (v:=.bool (rX c.toNat)) (by kernel_rfl) V (fun w hw=>rletter_any _ w) ?_;refine Za V V<|ZT<|zQ V (fun h77=>?_) (fun h77=>?_)
      ·refine zY<|zB<|xW (ι:={q:Nat // SpI tF (c::r) q}) (fun q=>[(0,.string ⟨l.toArray⟩),(3,.slice A out.length cap),(4,.int .i64 ((i+p:Nat):Int)),(5,.pointer (some ⟨b5,0,none⟩)),(6,.int .i64 ((i+p+q.1:Nat):Int))]) (fun q=>Hp (fun _=>False) w_0 [(b5,bk 52 [.int .i64 0,.string ⟨#[]⟩,.int .u32 0,.bool false,.int .i64 ((i+p:Nat):Int)])] [⟨.slice A out.length cap,52,5,out.length,uV out⟩] (fun _=>True)) (fun q=>(c::r).length-q.1) ⟨0,Nat.zero_le _,fun _ _ h=>absurd h (by omega)⟩ ?_ ?_ (fun q=>?_)
       ·exact .cons V<|.cons V<|.cons V<|.cons V<|.cons V<|.nil
       ·exact fun w h=>h
       obtain⟨q,hq⟩:=q;dsimp only;have hqle:=hq.le;refine zY<|wZ (ι:={x:Bool // x=true↔∃d,(c::r)[q]? = some d∧tF d.toNat=true}) (fun x=>[(0,.string ⟨l.toArray⟩),(3,.slice A out.length cap),(4,.int .i64 ((i+p:Nat):Int)),(5,.pointer (some ⟨b5,0,none⟩)),(6,.int .i64 ((i+p+q:Nat):Int)),(97,.bool x.1)]) (fun _=>Hp (fun _=>False) w_0 [(b5,bk 52 [.int .i64 0,.string ⟨#[]⟩,.int .u32 0,.bool false,.int .i64 ((i+p:Nat):Int)])] [⟨.slice A out.length cap,52,5,out.length,uV out⟩] (fun _=>True)) ?_ (fun x=>?_)
       ·refine zX<|Zm V V<|Zm V V<|ZF V (wN V U9)<|ZF V (xM V V)<|Zm V V<|zH 86 V (fun hb=>?_) (fun hb=>?_)
        ·replace hb:=of_decide_eq_true hb;skip;obtain⟨y,hy⟩:∃y,(c::r)[q]? = some y:=⟨(c::r)[q]'(by omega),List.getElem?_eq_getElem _⟩;refine ZG V V V (zU V)<|ZG V V V (zU V)<|ZG V V V (vO V V U9 V (hat hy))<|yS (.some V V) V  (v:=.bool (rX y.toNat)) (by kernel_rfl) V (fun w hw=>rletter_any _ w) ?_;refine ZG V V V (zU V)<|zH 91 V (fun hl2=>?_) (fun hl2=>?_)
         ·refine ZP V<|ZP V<|ZP V<|ZP V<|ZG V V V (zT V V)<|ZF V (zT V V)<|zN<|yX (ι:={x:Bool // x=true↔∃d,(c::r)[q]? = some d∧tF d.toNat=true}) ⟨true,⟨fun _=>⟨y,hy,by simp[tF,hl2]⟩,fun _=>rfl⟩⟩ (O6 V V V V V V) (fun w h=>h)
         ·refine ZG V V V (zU V)<|ZG V V V (zU V)<|ZG V V V (vO V V U9 V (hat hy))<|yS (.some V V) V  (v:=.bool (uY y.toNat)) (by kernel_rfl) V (fun w hw=>rdigit_any _ w) ?_;refine ZG V V V (zM V V)<|ZF V (zT V V)<|zN<|yX (ι:={x:Bool // x=true↔∃d,(c::r)[q]? = some d∧tF d.toNat=true}) ⟨uY y.toNat,⟨fun h=>⟨y,hy,by simp[tF,h]⟩,fun ⟨d,h1,h2⟩=>by rw[hy] at h1;cases h1;simpa [tF,hl2] using h2⟩⟩ (O6 V V V V V V) (fun w h=>h)
        ·replace hb:=of_decide_eq_false hb;refine ZP V<|ZP V<|ZP V<|ZP V<|ZP V<|zE V V V<|zE V V V<|zE V V V<|zE V V V<|ZP V<|ZF V (zM V V)<|zN<|yX (ι:={x:Bool // x=true↔∃d,(c::r)[q]? = some d∧tF d.toNat=true}) ⟨false,⟨fun h=>(by cases h),fun ⟨d,h1,_⟩=>by have:=(List.getElem?_eq_some_iff.1 h1).1;omega⟩⟩ (O6 V V V V V V) (fun w h=>h)
       ·obtain⟨x,hx⟩:=x;dsimp only;refine zQ V (fun h97=>?_) (fun h97=>?_)
        ·obtain⟨y,hy,hyq⟩:=hx.1 h97;have hqs:=hq.step hy hyq;have hql:=hqs.le;refine zJ<|zR<|zB<|zX<|Zm V V ?_;(refine ZF rfl (yG rfl rfl (i64_in _ ?_ ?_)) ?_;(· omega);(· omega);skip);refine Za V V<|zN<|zG<|yH (ι:={q:Nat // SpI tF (c::r) q}) ⟨q+1,hqs⟩ (by show (c::r).length-(q+1)<(c::r).length-q;omega) (O5 V V V V V) (fun w h=>h)
        ·have hqt:(c::r).takeWhile tK=(c::r).take q:=SpI.take (hq.end hx (by simpa using h97));have hT:=rnext_wor (r:=r) (by simpa using h45) h77;rw[hqt] at hT;have hTl:((c::r).take q).length=q:=by rw[List.length_take];omega
         refine yC<|zP<|zP<|yD<|zR<|zY<|zX<|ZF V (Y52x0 V) ?_;refine ZS 0 V V V V V (by kernel_rfl) ?_;refine ZX<|Z6 0 3 4 5 6 97 V V V V V V<|xX 5 [0,1,2,3,4] (fun _=>True) (by kernel_rfl) (by kernel_rfl) (fun _ _ _=>trivial) (fun _ _=>trivial) (fun n0 hn0=>?_);refine Zd V V V (zU V)<|Zd V V V (zU V)<|Zd V V V (zU V)<|yY V ?_;(refine zD ?_ .none rfl (yf_strSlice rfl rfl rfl U9 ?_ ?_ ?_ (show (l.drop (i+p)).take (i+p+q-(i+p))=(c::r).take q from by rw[hcr,Nat.add_sub_cancel_left])) ?_;(· rfl);(· omega);(· omega);(· omega);skip);refine yY V<|wd_callX (ι:=Option Addr) (C:=fun _=>True) (val:=fun A=>.slice A uZ.length 9) (TT:=fun A F u=>RdF F A (xG uZ) u) .none V  (by kernel_rfl) V (fun _ h=>h.elim) (fun _=>RdF.lies) (fun _ _ _ _=>trivial) (fun w hw=>(rkeywords_any w).mono fun e w' ⟨A,e1,e2,e3⟩=>⟨A,trivial,e1,e2,e3⟩) (fun A2 F2 _ hF2=>?_);refine xS ?_;simp only[List.drop_succ_cons,List.drop_zero];refine yS .none V  (v:=.bool (decide ((c::r).take q∈uZ))) (by kernel_rfl) V (fun w hw=>among_any uZ (by decide) _ _ _ w (HpG.x hw).1) ?_;refine Za V V<|ZX<|zY<|Z7r 0 3 4 5 6 8 97 V V V V V V V<|Zm V V<|ZT<|zQ V (fun h107=>?_) (fun h107=>?_)
         ·refine zX<|ZF V (Y52x0 V) ?_;refine ZS 0 V V V V V (by kernel_rfl) ?_;refine ZX<|Z8r 0 3 4 5 6 8 97 107 V V V V V V V V<|Zm V V<|Zm V V ?_;(refine ZF rfl (yf_sub rfl rfl (i64_in _ ?_ ?_)) ?_;(· omega);(· omega);skip);refine ZF V (wD V V)<|ZT<|zQ V (fun h112=>?_) (fun h112=>?_)
          ·replace h112:=of_decide_eq_true h112;refine Z9r 0 3 4 5 6 8 97 107 112 V V V V V V V V V<|ZF V (Y52x0 V) ?_;refine ZS 0 V V V V V (by kernel_rfl) ?_;refine zN<|zG ?_;have hT':yA (c::r)=⟨4,0,(c::r).take q,0⟩:=by rw[hT,if_pos (by omega)]
           refine yX (ι:=Unit) () (.cons V<|.cons V<|.cons V<|.cons V<|.cons (by rw[hT'];dsimp only;rw[hTl];rfl)<|.nil) (fun w h=>by rw[hT'];exact Hp.weakX h fun _ _=>trivial)
          ·replace h112:=of_decide_eq_false h112;refine zJ<|zG ?_;have hT':yA (c::r)=⟨3,0,(c::r).take q,0⟩:=by rw[hT,if_neg (by omega),if_pos (of_decide_eq_true h107)]
           refine yX (ι:=Unit) () (.cons V<|.cons V<|.cons V<|.cons V<|.cons (by rw[hT'];dsimp only;rw[hTl];rfl)<|.nil) (fun w h=>by rw[hT'];exact Hp.weakX h fun _ _=>trivial)
         ·refine zJ<|zR<|zY<|zX<|Zm V V<|Zm V V ?_;(refine ZF rfl (yf_sub rfl rfl (i64_in _ ?_ ?_)) ?_;(· omega);(· omega);skip);refine ZF V (wD V V)<|ZT<|zQ V (fun h112=>?_) (fun h112=>?_)
          ·replace h112:=of_decide_eq_true h112;refine Z9r 0 3 4 5 6 8 97 107 112 V V V V V V V V V<|ZF V (Y52x0 V) ?_;refine ZS 0 V V V V V (by kernel_rfl) ?_;refine zN<|zG ?_;have hT':yA (c::r)=⟨4,0,(c::r).take q,0⟩:=by rw[hT,if_pos (by omega)]
           refine yX (ι:=Unit) () (.cons V<|.cons V<|.cons V<|.cons V<|.cons (by rw[hT'];dsimp only;rw[hTl];rfl)<|.nil) (fun w h=>by rw[hT'];exact Hp.weakX h fun _ _=>trivial)
          ·replace h112:=of_decide_eq_false h112;refine zJ<|zG ?_;have hT':yA (c::r)=⟨2,0,(c::r).take q,0⟩:=by rw[hT,if_neg (by omega),if_neg (of_decide_eq_false h107)]
           refine yX (ι:=Unit) () (.cons V<|.cons V<|.cons V<|.cons V<|.cons (by rw[hT'];dsimp only;rw[hTl];rfl)<|.nil) (fun w h=>by rw[hT'];exact Hp.weakX h fun _ _=>trivial)
      ·refine zY<|Z9r 0 3 4 5 6 18 24 45 77 V V V V V V V V V<|ZF V (Y52x0 V) ?_;refine ZS 0 V V V V V (by kernel_rfl) ?_;refine ZX<|Z9r 0 3 4 5 6 18 24 45 77 V V V V V V V V V<|Zm V V<|Zm V V<|Zm V V ?_;(refine ZF rfl (yf_strLo rfl rfl U9 ?_ ?_ (show l.drop (i+p)=c::r from hcr)) ?_;(· omega);(· omega);skip);refine yS .none V  (v:=.string ⟨((c::r).take (uJ (c::r))).toArray⟩) (by kernel_rfl) V (fun w hw=>rsign_any (c::r) w) ?_;refine ZF V (wN V U9) ?_;have hsy:((c::r).take (uJ (c::r))).length=uJ (c::r):=by rw[List.length_take];have:=symL_le c r;omega
       have hsy2:=symL_le c r;(refine ZF rfl (yG rfl rfl (i64_in _ ?_ ?_)) ?_;(· omega);(· omega);skip);refine Za V V<|ZX<|Z9r 0 3 4 5 6 18 24 45 77 V V V V V V V V V<|Zm V V<|Zm V V<|ZF V (yU V V)<|ZT<|zQ V (fun h43=>?_) (fun h43=>?_)
       ·replace h43:=eq_of_beq h43;refine Z10r 0 3 4 5 6 18 24 43 45 77 V V V V V V V V V V<|ZF V (Y52x0 V) ?_;refine ZS 0 V V V V V (by kernel_rfl) ?_;refine zN<|zG ?_;have hT':yA (c::r)=⟨4,0,(c::r).take (uJ (c::r)),0⟩:=by rw[rnext_sym (by simpa using h45) (by simpa using h77),if_pos (by omega)]
        refine yX (ι:=Unit) () (.cons V<|.cons V<|.cons V<|.cons V<|.cons (by rw[hT'];rfl)<|.nil) (fun w h=>by rw[hT'];exact Hp.weakX h fun _ _=>trivial)
       ·replace h43:=yO h43;refine zJ<|zG ?_;have hT':yA (c::r)=⟨3,0,(c::r).take (uJ (c::r)),0⟩:=by rw[rnext_sym (by simpa using h45) (by simpa using h77),if_neg (by omega)]
        refine yX (ι:=Unit) () (.cons V<|.cons V<|.cons V<|.cons V<|.cons (by rw[hT'];rfl)<|.nil) (fun w h=>by rw[hT'];exact Hp.weakX h fun _ _=>trivial)
    ·refine zY<|zX<|Zm V V<|Zm V V<|Zm V V ?_;(refine ZF rfl (yf_strSlice rfl rfl rfl U9 ?_ ?_ ?_ (show (l.drop (i+p)).take (i+p+(yA (c::r)).text.length-(i+p))=(yA (c::r)).text from by rw[hcr,Nat.add_sub_cancel_left,rnext_pre])) ?_;(· omega);(· omega);(· omega);skip);refine ZF V (Y52x1 V) ?_;refine ZS 0 V V V V V (by kernel_rfl) ?_;refine ZX<|Z5r 0 3 4 5 6 V V V V V<|Zm V V<|ZF V (zF 0 V V U52 V (by kernel_rfl)) ?_;refine zA .none V (xO (z:=.agg #[.int .i64 0,.string ⟨#[]⟩,.int .u32 0,.bool false,.int .i64 0]) V V U27 (by kernel_rfl) (by kernel_rfl) V V) (fun b121=>?_);(refine wR (z:=.agg #[.int .i64 0,.string ⟨#[]⟩,.int .u32 0,.bool false,.int .i64 0]) (bytes:=40) 0 0 .none rfl rfl rfl rfl rfl U27 (by kernel_rfl) rfl rfl rfl rfl rfl ?_ ?_ (fun a122 c122 h122=>?_);(· omega);(· omega);skip);refine Za V V<|ZX<|zY<|Z5r 0 3 4 5 6 V V V V V<|ZF V (Y52x0 V) ?_;refine ZF V (zW 1 V V V U3 V)<|ZF V (yU V V)<|ZT<|zQ V (fun h125=>?_) (fun h125=>?_)
     ·replace h125:=eq_of_beq h125;refine zY<|Z6r 0 3 4 5 6 125 V V V V V V<|Zm V V<|Za V V<|ZT<|zO<|zV<|zS<|zV<|zS<|zK V V (fun w hw=>?_);have h4:(yA (c::r)).kind=4:=by omega
      have hfin:tH l=out++[⟨(yA (c::r)).kind,i+p,(yA (c::r)).text,(yA (c::r)).value⟩]:=by rw[he,rtokD_bad hcr2 h4,hsp,h4]
      exact⟨a122,c122,by rw[hfin,List.length_append];rfl,by rw[hfin,List.length_append];exact h122,(HpG.keep hw).ext,by rw[hfin,rtoksC_one];exact HpG.rowF (j:=0) hw rfl⟩
     ·replace h125:=yO h125;refine zJ<|zR<|Z6r 0 3 4 5 6 125 V V V V V V<|Zm V V<|Za V V<|zN<|zG ?_;have h4:(yA (c::r)).kind≠4:=by omega
      have h1l:=hnl.2 h4;refine yH (ι:={j:(Nat×List Tok)×(Option Addr×Nat) // RkI l j.1.1 j.1.2∧j.1.2.length≤j.2.2}) ⟨((i+p+(yA (c::r)).text.length,out++[⟨(yA (c::r)).kind,i+p,(yA (c::r)).text,(yA (c::r)).value⟩]),(some ⟨a122,0,none⟩,c122)),⟨?_,?_,?_⟩,?_⟩ ?_ ?_ (fun w h=>?_)
      ·show i+p+(yA (c::r)).text.length≤l.length;omega
      ·rw[List.length_append];show out.length+1≤i+p+(yA (c::r)).text.length;omega
      ·rw[he,rtokD_next hcr2 h4,List.append_assoc,hsp];show out++_=out++(_::tX _ (l.drop (i+p+(yA (c::r)).text.length)));rw[← List.drop_drop,hcr]
      ·rw[List.length_append];exact h122
      ·show l.length-(i+p+(yA (c::r)).text.length)<l.length-i;omega
      ·exact .cons V<|.cons (by dsimp only;rw[List.length_append];rfl)<|.cons V<|.nil
      ·dsimp only;rw[List.length_append,rtoksC_one];exact Hp.drop h (List.nil_sublist _) (List.Sublist.refl _)
end Go.Proofs.YtfpkpnkdnammnaaGreatDoor
