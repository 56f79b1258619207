import Derived.Test.YtfpkpnkdnammnaaGreatDoorMgO
import Derived.Test.YtfpkpnkdnammnaaGreatDoorMge
import Derived.Test.YtfpkpnkdnammnaaGreatDoorMgA
set_option maxRecDepth 100000
namespace Go.Proofs.YtfpkpnkdnammnaaGreatDoor
open Go.RowKit
theorem rblank_any (r:Nat) (w_0:World):Calls Tryz.prog 33 #[.int .u8 r] w_0 fun e w'=>e=.returned (.bool (qM r))∧Ext w_0 w':=by
 refine yV (args:=[.int .u8 r]) Tryz.func33 V 17 V (Jn V)<|Z1 0 V<|zD (H':=Hp (fun _=>False) w_0 [] [] (fun _=>True)) (fun u hu=>?_) ?_
 ·subst hu;exact Hp.start0
 refine zY<|zX<|Za V V<|ZX<|zX<|Zm V V<|ZF V (yS V V)<|Zm V V<|zH 5 V (fun hb=>?_) (fun hb=>?_)
 ·replace hb:=Jw hb;refine ZP V<|ZP V<|ZF V (zP V V)<|Zm V V<|ZP V<|ZP V<|ZF V (zP V V)<|Zm V V<|ZP V<|ZP V<|ZF V (zP V V)<|Za V V<|ZT<|zK<|zI V V (fun w hw=>?_);exact⟨by congr 2;rw[Jl];simp[qM];try omega,(Jq hw).ext⟩
 ·replace hb:=yP hb;refine ZG V V V (zO V)<|ZG V V V (yS V V)<|ZF V (zL V V)<|Zm V V<|zH 9 V (fun hb=>?_) (fun hb=>?_)
  ·replace hb:=Jw hb;refine ZP V<|ZP V<|ZF V (zP V V)<|Zm V V<|ZP V<|ZP V<|ZF V (zP V V)<|Za V V<|ZT<|zK<|zI V V (fun w hw=>?_);exact⟨by congr 2;rw[Jl];simp[qM];try omega,(Jq hw).ext⟩
  ·replace hb:=yP hb;refine ZG V V V (zO V)<|ZG V V V (yS V V)<|ZF V (zL V V)<|Zm V V<|zH 13 V (fun hb=>?_) (fun hb=>?_)
   ·replace hb:=Jw hb;refine ZP V<|ZP V<|ZF V (zP V V)<|Za V V<|ZT<|zK<|zI V V (fun w hw=>?_);exact⟨by congr 2;rw[Jl];simp[qM];try omega,(Jq hw).ext⟩
   ·replace hb:=yP hb;refine ZG V V V (zO V)<|ZG V V V (yS V V)<|ZF V (zL V V)<|Za V V<|ZT<|zK<|zI V V (fun w hw=>?_);exact⟨by congr 2;rw[Jl];simp[qM];try omega,(Jq hw).ext⟩
def wH:List Bs:=[[60,61],[62,61],[61,61],[33,61],[60,60],[62,62],[40],[41],[91],[93],[123],[125],[44],[59],[61],[43],[45],[42],[47],[37],[38],[124],[94],[126],[33],[60],[62]]
theorem rsigns_any (w_0:World):Calls Tryz.prog 73 #[] w_0 fun e w'=>∃A:Option Addr,e=.returned (.slice A wH.length 27)∧Ext w_0 w'∧RdF (fun k=>w_0.heap.size≤k) A (xX wH) w':=by
 refine yV (args:=[]) Tryz.func73 V 2 V (Jn V)<|wY (.nil)<|zD (H':=Hp (fun _=>False) w_0 [] [] (fun _=>True)) (fun u hu=>?_) ?_
 ·subst hu;exact Hp.start0
 refine zY<|zX<|Za V V<|ZX<|zX<|zC .none V (wM (z:=Ja) V V V V U22 (by kernel_rfl) (by kernel_rfl) V V) (fun b1=>?_);refine Za V V<|ZT<|zK<|zI V V (fun w hw=>?_);exact⟨_,rfl,(Jq hw).ext,HpG.rdF (j:=0) hw V (HpG.mineL hw (j:=0) V id)⟩
def hitL (x s:Bs):Prop:=x.length≤s.length∧s.take x.length=x
theorem signs_two {k:Nat}{x:Bs}(h:wH[k]? = some x) (hk:k<6):x.length=2∧x∈rX:=by
 have:∀k,k<6→∀x,wH[k]? = some x→x.length=2∧x∈rX:=by
  intro k hk
  match k,hk with
  | 0,_=>intro x h;cases h;decide
  | 1,_=>intro x h;cases h;decide
  | 2,_=>intro x h;cases h;decide
  | 3,_=>intro x h;cases h;decide
  | 4,_=>intro x h;cases h;decide
  | 5,_=>intro x h;cases h;decide
 exact this k hk x h
theorem signs_all:∀x∈wH.drop 6,∃c,x=[c]∧c∈sE:=by
 intro x hx;have e:wH.drop 6=sE.map fun c=>[c]:=rfl;rw[e] at hx;obtain⟨c,hc,rfl⟩:=List.mem_map.1 hx;exact⟨c,rfl,hc⟩
theorem signs_one {k:Nat}{x:Bs}(h:wH[k]? = some x) (hk:6≤k):∃c,x=[c]∧c∈sE:=by
 refine signs_all x (Ju (i:=k-6) ?_);have e:6+(k-6)=k:=by omega
 rw[List.getElem?_drop,e];exact h
theorem two_at {x:Bs}(h:x∈rX):∃j,j<6∧wH[j]? = some x:=by
 obtain⟨j,hj,e⟩:=List.getElem_of_mem h;have h6:j<6:=hj;refine⟨j,h6,?_⟩;have e2:wH=rX++wH.drop 6:=rfl;rw[e2,List.getElem?_append_left hj,Jt hj,e]
theorem one_at {c:UInt8}(h:c∈sE):∃j:Nat,wH[j]? = some ([c]:Bs):=by
 have:[c]∈wH:=by
  have e2:wH=rX++sE.map fun c=>[c]:=rfl;rw[e2];exact List.mem_append_right _ (List.mem_map.2 ⟨c,h,rfl⟩)
 obtain⟨j,hj,e⟩:=List.getElem_of_mem this;exact⟨j,by rw[Jt hj,e]⟩
theorem sign_hit {s x:Bs}{k:Nat}(hx:wH[k]? = some x) (hno:∀(j:Nat) (y:Bs),j<k→wH[j]? = some y→¬hitL y s) (h:hitL x s):s.take (uZ s)=x:=by
 by_cases h2:s.take 2∈rX
 ·have hs:uZ s=2:=by unfold uZ;rw[Kp h2]
  obtain⟨j,hj,hjx⟩:=two_at h2;rcases Nat.lt_or_ge k 6 with hk|hk
  ·obtain⟨hl,_⟩:=signs_two hx hk;rw[hs,← hl];exact h.2
  ·have hl:=(signs_two hjx hj).1;refine absurd ⟨?_,?_⟩ (hno j _ (by omega) hjx)
   ·rw[Ki];omega
   ·rw[hl]
 ·rcases Nat.lt_or_ge k 6 with hk|hk
  ·obtain⟨hl,hm⟩:=signs_two hx hk;have:=h.2;rw[hl] at this;rw[this] at h2;exact absurd hm h2
  ·obtain⟨c,rfl,hc⟩:=signs_one hx hk
   cases s with
   | nil=>have:=h.1;simp at this
   | cons d r =>
    have e:=h.2;simp at e;subst e;have hs:uZ (d::r)=1:=by unfold uZ;rw[Ko h2];dsimp only;rw[Kp hc]
    rw[hs];rfl
theorem sign_none {s:Bs}(hno:∀(j:Nat) (y:Bs),wH[j]? = some y→¬hitL y s):s.take (uZ s)=[]:=by
 by_cases h2:s.take 2∈rX
 ·obtain⟨j,hj,hjx⟩:=two_at h2;have hl:=(signs_two hjx hj).1;refine absurd ⟨?_,?_⟩ (hno j _ hjx)
  ·rw[Ki];omega
  ·rw[hl]
 ·cases s with
  | nil=>simp
  | cons d r =>
   by_cases hd:d∈sE
   ·obtain⟨j,hj⟩:=one_at hd;exact absurd ⟨by simp,by simp⟩ (hno j _ hj)
   ·have hs:uZ (d::r)=0:=by unfold uZ;rw[Ko h2];dsimp only;rw[Ko hd]
    rw[hs];rfl
structure SgI (s:Bs) (k:Nat):Prop where
 le:k≤wH.length
 no:∀(j:Nat) (y:Bs),j<k→wH[j]? = some y→¬hitL y s
theorem signs_len (x:Bs) (h:x∈wH):x.length≤2:=by
 have:∀x∈wH,x.length≤2:=by decide
 exact this x h
theorem rsign_any (s:Bs) (w_0:World):Calls Tryz.prog 38 #[.string ⟨s.toArray⟩] w_0 fun e w'=>e=.returned (.string ⟨(s.take (uZ s)).toArray⟩)∧Ext w_0 w':=by
 refine yV (args:=[.string ⟨s.toArray⟩]) Tryz.func38 V 36 V (Jn V)<|Z1 0 V<|zD (H':=Hp (fun _=>False) w_0 [] [] (fun _=>True)) (fun u hu=>?_) ?_
 ·subst hu;exact Hp.start0
 refine zY<|zX<|Za V V<|ZX<|zX<|sU (ι:=Option Addr) (C:=fun A=>∃b off,A=some ⟨b,off,none⟩) (val:=fun A=>.slice A wH.length 27) (TT:=fun A F u=>RdF F A (xX wH) u) .none V  (by kernel_rfl) V (fun _ h=>h.elim) (fun _=>RdF.lies) (fun w hw=>(rsigns_any w).mono fun e w' ⟨A,e1,e2,e3⟩=>⟨A,by obtain⟨b,off,e,_⟩:=e3 (by simp[wH]);exact⟨b,off,e⟩,e1,e2,e3⟩) (fun A F hA hF=>?_);obtain⟨b,off,rfl⟩:=hA;refine Za V V<|ZX<|zY<|Z3r 0 2 3 V V V<|Za V V<|ZT<|yY<|xV (ι:={k:Nat // SgI s k}) (fun k=>[(0,.string ⟨s.toArray⟩),(3,.slice (some ⟨b,off,none⟩) wH.length 27),(4,.int .i64 k.1)]) (fun _=>Hp (fun _=>False) w_0 [] [] (RdF F (some ⟨b,off,none⟩) (xX wH))) (fun k=>wH.length-k.1) ⟨0,Kl _,fun _ _ h=>absurd h (by omega)⟩ ?_ ?_ (fun k=>?_)
 ·exact .cons V<|.cons V<|.cons V<|.nil
 ·exact fun w h=>Hp.weakX h fun _ hu=>hu.1
 obtain⟨k,hk,hno⟩:=k;dsimp only;have hL:wH.length=27:=rfl;refine zY<|zY<|zX<|Zm V V<|Zm V V<|ZF V (yM V U22)<|ZF V (xS V V)<|ZT<|zT V (fun h10=>?_) (fun h10=>?_)
 ·replace h10:=Jo h10;skip;have hkl:k<wH.length:=by simp at *;omega
  obtain⟨x,hx⟩:∃x,wH[k]? = some x:=⟨wH[k],Jt hkl⟩;have hxl:=signs_len x (Ju hx);refine zG<|zQ<|zY<|yY<|zY<|Z4r 0 3 4 10 rfl rfl rfl rfl<|Zm rfl rfl<|Zm rfl rfl<|ZF rfl (zJ (es:=1) rfl rfl U22 (by kernel_rfl) rfl (by first|decide|omega|(simp;done)|(simp;omega)) rfl) ?_;refine ZF V (yO (v:=.string ⟨x.toArray⟩) V U9 V (fun w h=>RdF.part (HpG.x h) (by simpa using hkl) (by omega) (rU hx))) ?_;refine ZF V (vL V U9)<|Za V V<|ZX<|Z5 0 3 4 5 10 V V V V V<|wc_draw0 [0,1,2,3,4,5,6,7,8,9,10,11,12,13] _ (by kernel_rfl) (by kernel_rfl) Ky Ky (fun _ h=>HpG.drew h) (fun _ h=>h) ?_;refine Zd V V V (zO V)<|Zd V V V (zO V)<|Zd V V V (vL V U9)<|Zd V V V (yf_leq V V)<|Zd V V V (zO V)<|wd_split 22 V (fun hb=>?_) (fun hb=>?_)
  ·replace hb:=Jo hb;refine Zg V V V V V (zO V)<|Zg V V V V V (zO V)<|Zg V V V V V (pI V V U9 (by omega) (by omega) V) ?_;refine Zg rfl rfl rfl rfl rfl (zO rfl)<|Zg rfl rfl rfl rfl rfl (zO rfl)<|Zg rfl rfl rfl rfl rfl (zJ (es:=1) rfl rfl U22 (by kernel_rfl) rfl (by first|decide|omega|(simp;done)|(simp;omega)) rfl) ?_;refine Zg V V V V V (yO (v:=.string ⟨x.toArray⟩) V U9 V (fun w h=>RdF.part (HpG.x h) (by simpa using hkl) (by omega) (rU hx))) ?_;refine Zg V V V V V (xU V V U9)<|Zd V V V (zP V V)<|wd_end<|zQ<|zT V (fun h31=>?_) (fun h31=>?_)
   ·refine zY<|Z6r 0 3 4 5 10 31 rfl rfl rfl rfl rfl rfl<|Zm rfl rfl<|Zm rfl rfl<|ZF rfl (zJ (es:=1) rfl rfl U22 (by kernel_rfl) rfl (by first|decide|omega|(simp;done)|(simp;omega)) rfl) ?_;refine ZF V (yO (v:=.string ⟨x.toArray⟩) V U9 V (fun w h=>RdF.part (HpG.x h) (by simpa using hkl) (by omega) (rU hx))) ?_;refine Za V V<|ZT<|zK<|zR<|zV<|zV<|zR<|zV<|zI V V (fun w hw=>?_);exact⟨by rw[sign_hit hx hno ⟨by omega,Jo h31⟩],(Jq hw).ext⟩
   ·refine zG<|zM<|zQ<|Z6r 0 3 4 5 10 31 V V V V V V<|Zm V V<|ZF V (yI V V (i64_in _ (by omega) (by omega))) ?_;refine Za V V<|zU<|yC (ι:={k:Nat // SgI s k}) ⟨k+1,hkl,fun j y hj hy=>?_⟩ (by show wH.length-(k+1)<wH.length-k;omega) (O3 V V V) (fun w h=>h);rcases Nat.lt_or_ge j k with h1|h1
    ·exact hno j y h1 hy
    ·have:j=k:=by omega
     subst this;rw[hx] at hy;cases hy;intro hh;have h2:=hh.1
     first|exact Jp h31 hh.2|omega
  ·replace hb:=Jp hb;refine ZD V V<|ZD V V<|ZD V V<|ZD V V<|ZD V V<|ZD V V<|ZD V V<|ZD V V<|Zd V V V (zL V V)<|wd_end<|zQ<|vU V<|zG<|zM<|zQ<|Z6r 0 3 4 5 10 31 V V V V V V<|Zm V V<|ZF V (yI V V (i64_in _ (by omega) (by omega))) ?_;refine Za V V<|zU<|yC (ι:={k:Nat // SgI s k}) ⟨k+1,hkl,fun j y hj hy=>?_⟩ (by show wH.length-(k+1)<wH.length-k;omega) (O3 V V V) (fun w h=>h);rcases Nat.lt_or_ge j k with h1|h1
   ·exact hno j y h1 hy
   ·have:j=k:=by omega
    subst this;rw[hx] at hy;cases hy;intro hh;have h2:=hh.1
    first|exact Jp h31 hh.2|omega
 ·replace h10:=Jp h10;refine xY<|zN<|zN<|xZ<|zQ<|zY<|Z4r 0 3 4 10 V V V V<|Za V V<|ZT<|zK<|zI V V (fun w hw=>?_);exact⟨by rw[sign_none (fun j y hy=>hno j y (by have:=(Jm.1 hy).1;omega) hy)],(Jq hw).ext⟩
end Go.Proofs.YtfpkpnkdnammnaaGreatDoor
namespace Go.Proofs.YtfpkpnkdnammnaaGreatDoor
def nB (s:Bs):Nat:=min (sV s) 4294967296
def xW (s:Bs):Tok:=match s with
 | []=>⟨4,0,[],0⟩
 | c::_ =>
  if vW c then ⟨1,0,s.takeWhile vW,nB (s.takeWhile vW)⟩
  else if qN c then ⟨if 12<(s.takeWhile vH).length then 4 else if s.takeWhile vH∈vN then 3 else 2,0,s.takeWhile vH,0⟩
  else ⟨if uZ s=0 then 4 else 3,0,s.take (uZ s),0⟩
theorem rnext_num {c:UInt8}{r:Bs}(h:vB c.toNat=true):xW (c::r)=⟨1,0,(c::r).takeWhile vW,nB ((c::r).takeWhile vW)⟩:=by
 have h':vW c=true:=h;unfold xW;dsimp only;rw[Kp h']
theorem rnext_wor {c:UInt8}{r:Bs}(h1:¬vB c.toNat=true) (h:sP c.toNat=true):xW (c::r)=⟨if 12<((c::r).takeWhile vH).length then 4 else if (c::r).takeWhile vH∈vN then 3 else 2,0,(c::r).takeWhile vH,0⟩:=by
 have h':qN c=true:=h;have h1':¬vW c=true:=h1;unfold xW;dsimp only;rw[Ko h1',Kp h']
theorem rnext_sym {c:UInt8}{r:Bs}(h1:¬vB c.toNat=true) (h:¬sP c.toNat=true):xW (c::r)=⟨if uZ (c::r)=0 then 4 else 3,0,(c::r).take (uZ (c::r)),0⟩:=by
 have h':¬qN c=true:=h;have h1':¬vW c=true:=h1;unfold xW;dsimp only;rw[Ko h1',Ko h']
structure TkR (t t':Tok):Prop where
 kind:t.kind=t'.kind
 at_:t.at_=t'.at_
 val:t.value=t'.value
 text:t.kind≠4→t.text=t'.text
theorem rnext_same (c:UInt8) (r:Bs):TkR (xW (c::r)) (xP (c::r)):=by
 unfold xW xP;dsimp only
 split
 ·exact⟨rfl,rfl,rfl,fun _=>rfl⟩
 ·split
  ·exact⟨rfl,rfl,rfl,fun _=>rfl⟩
  ·split
   ·exact⟨rfl,rfl,rfl,fun h=>absurd V h⟩
   ·exact⟨rfl,rfl,rfl,fun _=>rfl⟩
theorem sA (c:UInt8) (r:Bs):(xW (c::r)).text.length≤(c::r).length∧((xW (c::r)).kind≠4→1≤(xW (c::r)).text.length):=by
 refine⟨?_,fun h=>by rw[(rnext_same c r).text h];exact (rZ c r).1⟩;unfold xW;dsimp only
 split
 ·exact uA _ _
 ·split
  ·exact uA _ _
  ·dsimp only;rw[Ki];omega
theorem takeWhile_pre (p:UInt8→Bool) (l:Bs):l.take (l.takeWhile p).length=l.takeWhile p:=by
 induction l with
 | nil=>rfl
 | cons x l ih =>
  cases hx:p x
  ·simp[List.takeWhile,hx]
  ·simp[List.takeWhile,hx,ih]
theorem rnext_pre (c:UInt8) (r:Bs):(c::r).take (xW (c::r)).text.length=(xW (c::r)).text:=by
 unfold xW;dsimp only
 split
 ·exact takeWhile_pre _ _
 ·split
  ·exact takeWhile_pre _ _
  ·dsimp only;rw[Ki];have:=symL_le c r;rw[Nat.min_eq_left this]
theorem rnext_kind (c:UInt8) (r:Bs):(xW (c::r)).kind≠0∧(xW (c::r)).kind≤4:=by
 rw[(rnext_same c r).kind];exact⟨nextL_kind c r,nextL_kle c r⟩
def rtokF:Nat→Nat→Bs→List Tok
 | 0,_,_=>[]
 | f+1,i,s =>
  let k:=spanL wP s
  match s.drop k with
  | []=>[⟨0,i+k,[],0⟩]
  | c::r =>
   let t:=xW (c::r)
   if t.kind=4 then [⟨4,i+k,t.text,t.value⟩] else ⟨t.kind,i+k,t.text,t.value⟩::rtokF f (i+k+t.text.length) ((c::r).drop t.text.length)
theorem rtokF_fuel:∀{f g:Nat}(i:Nat) (s:Bs),s.length<f→s.length<g→rtokF f i s=rtokF g i s
 | 0,_,_,_,h,_=>absurd h (by omega)
 | _+1,0,_,_,_,h=>absurd h (by omega)
 | f+1,g+1,i,s,hf,hg=>by
  unfold rtokF;dsimp only
  cases h:s.drop (spanL wP s) with
  | nil=>rfl
  | cons c r =>
   dsimp only;have hl:=sA c r;have hd:(c::r).length≤s.length:=by rw[← h,Kc];omega
   split
   ·rfl
   ·rename_i h4;have:=hl.2 h4;congr 1;exact rtokF_fuel _ _ (by rw[Kc];omega) (by rw[Kc];omega)
def sR (i:Nat) (s:Bs):List Tok:=rtokF (s.length+1) i s
def rJ (s:Bs):List Tok:=sR 0 s
theorem rtokD_end {i:Nat}{s:Bs}(h:s.drop (spanL wP s)=[]):sR i s=[⟨0,i+spanL wP s,[],0⟩]:=by
 unfold sR rtokF;dsimp only;rw[h]
theorem rtokD_bad {i:Nat}{s r:Bs}{c:UInt8}(h:s.drop (spanL wP s)=c::r) (h4:(xW (c::r)).kind=4):sR i s=[⟨4,i+spanL wP s,(xW (c::r)).text,(xW (c::r)).value⟩]:=by
 unfold sR rtokF;dsimp only;rw[h];dsimp only;rw[Kp h4]
theorem rtokD_next {i:Nat}{s r:Bs}{c:UInt8}(h:s.drop (spanL wP s)=c::r) (h4:(xW (c::r)).kind≠4):sR i s=⟨(xW (c::r)).kind,i+spanL wP s,(xW (c::r)).text,(xW (c::r)).value⟩::sR (i+spanL wP s+(xW (c::r)).text.length) ((c::r).drop (xW (c::r)).text.length):=by
 have hl:=sA c r;have hl2:=hl.2 h4;have hd:(c::r).length≤s.length:=by rw[← h,Kc];omega
 unfold sR
 conv=>lhs;unfold rtokF
 dsimp only;rw[h];dsimp only;rw[Ko h4];congr 1;exact rtokF_fuel _ _ (by rw[Kc];omega) (by rw[Kc];omega)
theorem rtok_same:∀(k:Nat) (i:Nat) (s:Bs),s.length=k→∃m,(sR i s).length=m+1∧m≤s.length∧((vK (sR i s) m).kind=0∨(vK (sR i s) m).kind=4)∧∀j,j≤m→TkR (vK (sR i s) j) (vK (pW i s) j):=by
 intro k
 induction k using Nat.strongRecOn with
 | _ k ih =>
  intro i s hk
  cases h:s.drop (spanL wP s) with
  | nil =>
   rw[rtokD_end h,sT h];refine⟨0,rfl,by omega,.inl rfl,fun j hj=>?_⟩;exact⟨rfl,rfl,rfl,fun _=>rfl⟩
  | cons c r =>
   have hs:=rnext_same c r
   by_cases h4:(xW (c::r)).kind=4
   ·rw[rtokD_bad h h4,uU h];refine⟨0,rfl,by omega,.inr rfl,fun j hj=>?_⟩;obtain rfl:j=0:=by omega
    exact⟨h4.symm.trans hs.kind,rfl,hs.val,fun h=>absurd V h⟩
   ·have hl:=(sA c r).2 h4;have hl0:=(sA c r).1;have hd:(c::r).length≤s.length:=by rw[← h,Kc];omega
    have ht:=hs.text h4;rw[rtokD_next h h4,uU h,← ht];obtain⟨m,h1,h2,h3,h5⟩:=ih ((c::r).drop (xW (c::r)).text.length).length (by rw[Kc];omega) (i+spanL wP s+(xW (c::r)).text.length) _ rfl;rw[Kc] at h2;refine⟨m+1,by rw[Jj,h1],by omega,h3,fun j hj=>?_⟩
    cases j with
    | zero=>exact⟨hs.kind,rfl,hs.val,fun _=>rfl⟩
    | succ j=>exact h5 j (by omega)
theorem decL_snoc (x:Bs) (d:UInt8):sV (x++[d])=10*sV x+(d.toNat-48):=by simp[sV]
theorem decL_take {s:Bs}{q:Nat}{d:UInt8}(h:s[q]? = some d):sV (s.take (q+1))=10*sV (s.take q)+(d.toNat-48):=by
 rw[List.take_add_one,h];exact decL_snoc _ d
end Go.Proofs.YtfpkpnkdnammnaaGreatDoor
namespace Go.Proofs.YtfpkpnkdnammnaaGreatDoor
open Go.RowKit
abbrev rtokC (t:Tok):List Value:=[.int .i64 t.kind,.string ⟨t.text.toArray⟩,.int .u32 ((t.value%4294967296:Nat):Int),.bool (decide (4294967296≤t.value)),.int .i64 t.at_]
def wE (l:List Tok):List Value:=l.flatMap rtokC
theorem rtoksC_len (l:List Tok):(wE l).length=l.length*5:=by
 induction l with
 | nil=>rfl
 | cons t l ih =>
  have e:wE (t::l)=rtokC t++wE l:=rfl;rw[e,Ji,ih];simp;omega
theorem rtoksC_one (l:List Tok) (t:Tok):wE (l++[t])=wE l++rtokC t:=by simp[wE]
theorem rtoksC_at {l:List Tok}{i:Nat}(h:i<l.length) {j:Nat}{v:Value}(hv:(rtokC (vK l i))[j]? = some v):(wE l)[5*i+j]? = some v:=by
 induction l generalizing i with
 | nil=>simp at h
 | cons t l ih =>
  have e:wE (t::l)=rtokC t++wE l:=rfl
  cases i with
  | zero =>
   rw[e,Nat.mul_zero,Kk];exact (List.getElem?_append_left (Jm.1 hv).1).trans hv
  | succ i =>
   rw[e,List.getElem?_append_right (by simp;omega)];have:5*(i+1)+j-(rtokC t).length=5*i+j:=by simp;omega
   rw[this];exact ih (by simpa using h) hv
theorem nB_le (x:Bs):nB x≤4294967296:=Nat.min_le_right _ _
theorem u32_nB (x:Bs):IntKind.u32.wrap ((nB x:Nat):Int)=((nB x%4294967296:Nat):Int):=by
 rcases Nat.lt_or_ge (nB x) 4294967296 with h|h
 ·rw[u32_in _ (by omega) (by omega),Nat.mod_eq_of_lt h]
 ·have:nB x=4294967296:=Nat.le_antisymm (nB_le x) h;rw[this];rfl
theorem nB_dec (x:Bs):decide (4294967296≤nB x)=decide (4294967296≤sV x):=by
 unfold nB;congr 1;apply propext;omega
theorem SpI.step {q:Nat→Bool}{l:Bs}{p:Nat}{d:UInt8}(h:SpI q l p) (hd:l[p]? = some d) (hq:q d.toNat=true):SpI q l (p+1) :=
 ⟨(Jm.1 hd).1,fun j x hj hx=>by
  rcases Nat.lt_or_ge j p with h1|h1
  ·exact h.all j x h1 hx
  ·have:j=p:=by omega
   subst this;rw[hd] at hx;cases hx;exact hq⟩
theorem SpI.end {q:Nat→Bool}{l:Bs}{p:Nat}{x:Bool}(h:SpI q l p) (hx:x=true↔∃d,l[p]? = some d∧q d.toNat=true) (hf:¬x=true):spanL (fun c=>q c.toNat) l=p:=by
 cases hq:l[p]? with
 | none =>
  have h1:=List.getElem?_eq_none_iff.1 hq;have h2:=h.le;have:p=l.length:=by omega
  subst this;exact spanL_all (q:=q) fun j d hd=>h.all j d (Jm.1 hd).1 hd
 | some c =>
  refine spanL_step (q:=q) hq h.all ?_
  cases hb:q c.toNat with
  | false=>rfl
  | true=>exact absurd (hx.2 ⟨c,hq,hb⟩) hf
theorem SpI.take {q:Nat→Bool}{l:Bs}{p:Nat}(h:spanL (fun c=>q c.toNat) l=p):l.takeWhile (fun c=>q c.toNat)=l.take p:=by rw[← h,take_span]
structure RkI (l:Bs) (i:Nat) (out:List Tok):Prop where
 le:i≤l.length
 n:out.length≤i
 e:rJ l=out++sR i (l.drop i)
theorem rtokens_any (l:Bs) (hl:l.length≤1000000000000) (w_0:World):Calls Tryz.prog 17 #[.string ⟨l.toArray⟩] w_0 fun e w'=>∃g cap,e=.returned (.slice (some ⟨g,0,none⟩) (rJ l).length cap)∧(rJ l).length≤cap∧Ext w_0 w'∧RdF (fun k=>w_0.heap.size≤k) (some ⟨g,0,none⟩) (wE (rJ l)) w':=by
 refine yV (args:=[.string ⟨l.toArray⟩]) Tryz.func17 V 128 V (Jn V)<|Z1 0 V<|zD (H':=Hp (fun _=>False) w_0 [] [] (fun _=>True)) (fun u hu=>?_) ?_
 ·subst hu;exact Hp.start0
 refine zY<|zX<|Za V V<|ZX<|zX<|Za V V<|ZX<|zX<|Za V V<|ZT<|yY<|xV (ι:={j:(Nat×List Tok)×(Option Addr×Nat) // RkI l j.1.1 j.1.2∧j.1.2.length≤j.2.2}) (fun j=>[(0,.string ⟨l.toArray⟩),(3,.slice j.1.2.1 j.1.1.2.length j.1.2.2),(4,.int .i64 j.1.1.1)]) (fun j=>Hp (fun _=>False) w_0 [] [⟨.slice j.1.2.1 j.1.1.2.length j.1.2.2,52,5,j.1.1.2.length,wE j.1.1.2⟩] (fun _=>True)) (fun j=>l.length-j.1.1.1) ⟨((0,[]),(none,0)),⟨Kl _,Km _,rfl⟩,Km _⟩ ?_ ?_ (fun j=>?_)
 ·exact .cons V<|.cons V<|.cons V<|.nil
 ·exact fun w h=>Hp.nil h _ _
 obtain⟨⟨⟨i,out⟩,⟨A,cap⟩⟩,⟨hi,hn,he⟩,hcap⟩:=j;dsimp only at hi hn he hcap ⊢;refine yY<|zY<|yY<|xV (ι:={p:Nat // SpI qM (l.drop i) p}) (fun p=>[(0,.string ⟨l.toArray⟩),(3,.slice A out.length cap),(4,.int .i64 ((i+p.1:Nat):Int))]) (fun _=>Hp (fun _=>False) w_0 [] [⟨.slice A out.length cap,52,5,out.length,wE out⟩] (fun _=>True)) (fun p=>l.length-p.1) ⟨0,Kl _,fun _ _ h=>absurd h (by omega)⟩ ?_ ?_ (fun p=>?_)
 ·exact .cons V<|.cons V<|.cons V<|.nil
 ·exact fun w h=>h
 obtain⟨p,hp⟩:=p;dsimp only;have hple:i+p≤l.length:=by have:=hp.le;rw[Kc] at this;omega
 refine zY<|xA (ι:={x:Bool // x=true↔∃d,(l.drop i)[p]? = some d∧qM d.toNat=true}) (fun x=>[(0,.string ⟨l.toArray⟩),(3,.slice A out.length cap),(4,.int .i64 ((i+p:Nat):Int)),(18,.bool x.1)]) (fun _=>Hp (fun _=>False) w_0 [] [⟨.slice A out.length cap,52,5,out.length,wE out⟩] (fun _=>True)) ?_ (fun x=>?_)
 ·refine zX<|Zm V V<|Zm V V<|ZF V (vL V U9)<|ZF V (xS V V)<|Zm V V<|zH 13 V (fun hb=>?_) (fun hb=>?_)
  ·replace hb:=Jo hb;skip;obtain⟨c,hc⟩:∃c,l[i+p]? = some c:=⟨l[i+p]'(by omega),Jt _⟩;have hcd:(l.drop i)[p]? = some c:=by rw[List.getElem?_drop];exact hc
   refine ZG V V V (zO V)<|ZG V V V (zO V)<|ZG V V V (vJ V V U9 V hc)<|yT (.some V V) V  (v:=.bool (qM c.toNat)) (by kernel_rfl) V (fun w hw=>rblank_any _ w) ?_;refine ZF V (zP V V)<|zU<|zA (ι:={x:Bool // x=true↔∃d,(l.drop i)[p]? = some d∧qM d.toNat=true}) ⟨qM c.toNat,⟨fun h=>⟨c,hcd,h⟩,fun ⟨d,h1,h2⟩=>by rw[hcd] at h1;cases h1;exact h2⟩⟩ (O4 V V V V) (fun w h=>h)
  ·replace hb:=Jp hb;refine ZP V<|ZP V<|ZP V<|ZP V<|ZF V (zL V V)<|zU<|zA (ι:={x:Bool // x=true↔∃d,(l.drop i)[p]? = some d∧qM d.toNat=true}) ⟨false,⟨fun h=>(by cases h),fun ⟨d,h1,_⟩=>by have:=(Jm.1 h1).1;rw[Kc] at this;omega⟩⟩ (O4 V V V V) (fun w h=>h)
 ·obtain⟨x,hx⟩:=x;dsimp only;refine zT V (fun h18=>?_) (fun h18=>?_)
  ·obtain⟨d,hd,hdq⟩:=hx.1 h18;have hps:=hp.step hd hdq;have hpl:i+p+1≤l.length:=by have:=hps.le;rw[Kc] at this;omega
   refine zG<|zQ<|yY<|zX<|Zm V V<|ZF V (yI V V (i64_in _ (by omega) (by omega))) ?_;refine Za V V<|zU<|zM<|yC (ι:={p:Nat // SpI qM (l.drop i) p}) ⟨p+1,hps⟩ (by show l.length-(p+1)<l.length-p;omega) (O3 V V V) (fun w h=>h)
  ·have hsp:spanL wP (l.drop i)=p:=hp.end hx (by simpa using h18);refine xY<|zN<|zN<|xZ<|zQ<|zY<|zY<|zX<|Zm V V<|Zm V V<|ZF V (vL V U9)<|ZF V (yS V V)<|ZT<|zT V (fun h24=>?_) (fun h24=>?_)
   ·replace h24:=Jw h24;skip;have hend:(l.drop i).drop (spanL wP (l.drop i))=[]:=by rw[List.drop_drop];exact Ks (by omega)
    have hfin:rJ l=out++[⟨0,i+p,[],0⟩]:=by rw[he,rtokD_end hend,hsp]
    refine zY<|Z5r 0 3 4 18 24 V V V V V<|Zm V V<|Zm V V<|ZF V (yQ [.int .i64 0,.string ⟨#[]⟩,.int .u32 0,.bool false,.int .i64 0] [(0,1),(1,1),(2,1),(3,1),(4,1)] V (by kernel_rfl) (by kernel_rfl) V) ?_;refine zC .none V (xR (z:=.agg #[.int .i64 0,.string ⟨#[]⟩,.int .u32 0,.bool false,.int .i64 0]) V V U27 (by kernel_rfl) (by kernel_rfl) V V) (fun b28=>?_);refine uO (z:=.agg #[.int .i64 0,.string ⟨#[]⟩,.int .u32 0,.bool false,.int .i64 0]) (bytes:=40) 0 0 .none V V V V V U27 (by kernel_rfl) V V V V V (by omega) (by omega) (fun a29 c29 h29=>?_);refine Za V V<|ZT<|zK<|zV<|zR<|zV<|zR<|zI V V (fun w hw=>?_);exact⟨a29,c29,by rw[hfin,Ji];rfl,by rw[hfin,Ji];exact h29,(Jq hw).ext,by rw[hfin,rtoksC_one];exact HpG.rowF (j:=0) hw rfl⟩
   ·replace h24:=yP h24;skip
    obtain⟨c,r,hcr⟩:∃c r,l.drop (i+p)=c::r:=by
     cases hq:l.drop (i+p) with
     | nil=>have:=List.drop_eq_nil_iff.1 hq;omega
     | cons c r=>exact⟨c,r,rfl⟩
    have hcr2:(l.drop i).drop (spanL wP (l.drop i))=c::r:=by rw[List.drop_drop,hsp,hcr]
    have hlen:(c::r).length+(i+p)=l.length:=by rw[← hcr,Kc];omega
    have hat:∀{k:Nat} {d:UInt8},(c::r)[k]? = some d→l[i+p+k]? = some d:=fun {k d} h=>by rw[← hcr,List.getElem?_drop] at h;exact h
    have hnl:=sA c r;refine zG<|zQ<|zY<|Z5r 0 3 4 18 24 V V V V V<|Zm V V<|ZF V (yQ [.int .i64 0,.string ⟨#[]⟩,.int .u32 0,.bool false,.int .i64 0] [(0,1),(1,1),(2,1),(3,1),(4,1)] V (by kernel_rfl) (by kernel_rfl) V) ?_;refine zC .none V (yK (z:=.agg #[.int .i64 0,.string ⟨#[]⟩,.int .u32 0,.bool false,.int .i64 0]) (cs:=[.int .i64 0,.string ⟨#[]⟩,.int .u32 0,.bool false,.int .i64 0]) (by kernel_rfl) V) (fun b5=>?_);refine ZR 0 V V V V V (by kernel_rfl) ?_;refine ZX<|Z6r 0 3 4 5 18 24 V V V V V V<|Zm V V<|Za V V<|ZT<|xA (ι:=Unit) (fun _=>[(0,.string ⟨l.toArray⟩),(3,.slice A out.length cap),(4,.int .i64 ((i+p:Nat):Int)),(5,.pointer (some ⟨b5,0,none⟩)),(6,.int .i64 ((i+p+(xW (c::r)).text.length:Nat):Int))]) (fun _=>Hp (fun _=>False) w_0 [(b5,bk 52 [.int .i64 (xW (c::r)).kind,.string ⟨#[]⟩,.int .u32 (((xW (c::r)).value%4294967296:Nat):Int),.bool (decide (4294967296≤(xW (c::r)).value)),.int .i64 ((i+p:Nat):Int)])] [⟨.slice A out.length cap,52,5,out.length,wE out⟩] (fun _=>True)) ?_ (fun _=>?_)
    ·refine yY<|zY<|Z7r 0 3 4 5 6 18 24 V V V V V V V<|Zm V V<|Zm V V<|ZF V (vJ V V U9 V (show l[i+p]? = some c from hat (k:=0) V))<|yT .none V  (v:=.bool (vB c.toNat)) (by kernel_rfl) V (fun w hw=>rdigit_any _ w) ?_;refine Za V V<|ZT<|zT V (fun h45=>?_) (fun h45=>?_)
     ·refine zY<|Z8r 0 3 4 5 6 18 24 45 V V V V V V V V<|ZF V (Y52x0 V) ?_;refine ZS 0 V V V V V (by kernel_rfl) ?_;refine ZX<|Z8r 0 3 4 5 6 18 24 45 V V V V V V V V<|Za V V<|ZX<|yY<|xV (ι:={q:Nat // SpI vB (c::r) q}) (fun q=>[(0,.string ⟨l.toArray⟩),(3,.slice A out.length cap),(4,.int .i64 ((i+p:Nat):Int)),(5,.pointer (some ⟨b5,0,none⟩)),(6,.int .i64 ((i+p+q.1:Nat):Int)),(7,.int .u64 (nB ((c::r).take q.1)))]) (fun q=>Hp (fun _=>False) w_0 [(b5,bk 52 [.int .i64 1,.string ⟨#[]⟩,.int .u32 0,.bool (decide (4294967296≤sV ((c::r).take q.1))),.int .i64 ((i+p:Nat):Int)])] [⟨.slice A out.length cap,52,5,out.length,wE out⟩] (fun _=>True)) (fun q=>(c::r).length-q.1) ⟨0,Kl _,fun _ _ h=>absurd h (by omega)⟩ ?_ ?_ (fun q=>?_)
      ·exact .cons V<|.cons V<|.cons V<|.cons V<|.cons V<|.cons V<|.nil
      ·exact fun w h=>h
      obtain⟨q,hq⟩:=q;dsimp only;have hqle:=hq.le;refine zY<|xA (ι:={x:Bool // x=true↔∃d,(c::r)[q]? = some d∧vB d.toNat=true}) (fun x=>[(0,.string ⟨l.toArray⟩),(3,.slice A out.length cap),(4,.int .i64 ((i+p:Nat):Int)),(5,.pointer (some ⟨b5,0,none⟩)),(6,.int .i64 ((i+p+q:Nat):Int)),(7,.int .u64 (nB ((c::r).take q))),(60,.bool x.1)]) (fun _=>Hp (fun _=>False) w_0 [(b5,bk 52 [.int .i64 1,.string ⟨#[]⟩,.int .u32 0,.bool (decide (4294967296≤sV ((c::r).take q))),.int .i64 ((i+p:Nat):Int)])] [⟨.slice A out.length cap,52,5,out.length,wE out⟩] (fun _=>True)) ?_ (fun x=>?_)
      ·refine zX<|Zm V V<|Zm V V<|ZF V (vL V U9)<|ZF V (xS V V)<|Zm V V<|zH 55 V (fun hb=>?_) (fun hb=>?_)
       ·replace hb:=Jo hb;skip;obtain⟨y,hy⟩:∃y,(c::r)[q]? = some y:=⟨(c::r)[q]'(by omega),Jt _⟩;refine ZG V V V (zO V)<|ZG V V V (zO V)<|ZG V V V (vJ V V U9 V (hat hy))<|yT (.some V V) V  (v:=.bool (vB y.toNat)) (by kernel_rfl) V (fun w hw=>rdigit_any _ w) ?_;refine ZF V (zP V V)<|zU<|zA (ι:={x:Bool // x=true↔∃d,(c::r)[q]? = some d∧vB d.toNat=true}) ⟨vB y.toNat,⟨fun h=>⟨y,hy,h⟩,fun ⟨d,h1,h2⟩=>by rw[hy] at h1;cases h1;exact h2⟩⟩ (O7 V V V V V V V) (fun w h=>h)
       ·replace hb:=Jp hb;refine ZP V<|ZP V<|ZP V<|ZP V<|ZF V (zL V V)<|zU<|zA (ι:={x:Bool // x=true↔∃d,(c::r)[q]? = some d∧vB d.toNat=true}) ⟨false,⟨fun h=>(by cases h),fun ⟨d,h1,_⟩=>by have:=(Jm.1 h1).1;omega⟩⟩ (O7 V V V V V V V) (fun w h=>h)
      ·obtain⟨x,hx⟩:=x;dsimp only;refine zT V (fun h60=>?_) (fun h60=>?_)
       ·obtain⟨y,hy,hyq⟩:=hx.1 h60;have hqs:=hq.step hy hyq;have hql:=hqs.le;have hyd:48≤y.toNat∧y.toNat≤57:=by simpa [vB] using hyq
        have hnb:=nB_le ((c::r).take q);have hdt:=decL_take hy;refine zG<|zQ<|yY<|zY<|zX<|Zm V V<|ZF V (yf_mul V V (show IntKind.u64.wrap ((10:Int)*((nB ((c::r).take q):Nat):Int))=((10*nB ((c::r).take q):Nat):Int) from by rw[u64_in _ (by omega) (by omega)];simp)) ?_;refine Zm V V<|Zm V V<|ZF V (vJ V V U9 V (hat hy))<|ZF V (wG V V (show IntKind.u8.wrap ((y.toNat:Int)-48)=((y.toNat-48:Nat):Int) from by rw[u8_in _ (by omega) (by omega)];omega)) ?_
        refine ZF V (qP V (by kernel_rfl) U53 (u64_in _ (by omega) (by omega))) ?_
        refine ZF V (yI V V (show IntKind.u64.wrap (((10*nB ((c::r).take q):Nat):Int)+((y.toNat-48:Nat):Int))=((10*nB ((c::r).take q)+(y.toNat-48):Nat):Int) from by rw[u64_in _ (by omega) (by omega)];simp)) ?_;refine Za V V<|ZX<|zY<|Z7r 0 3 4 5 6 7 60 V V V V V V V<|Zm V V<|ZF V (tO V V)<|ZT<|zT V (fun h70=>?_) (fun h70=>?_)
        ·replace h70:=Jo h70;refine zY<|Z8r 0 3 4 5 6 7 60 70 V V V V V V V V<|ZF V (zZ (off:=3) (sz:=0) V U52 (by kernel_rfl) V) ?_;refine ZS 0 V V V V V (by kernel_rfl) ?_;refine ZT<|Z8r 0 3 4 5 6 7 60 70 V V V V V V V V<|Za V V<|ZT<|zX<|Zm V V<|ZF V (yI V V (i64_in _ (by omega) (by omega))) ?_;refine Za V V<|zU<|zM ?_
         have hbig:4294967296≤sV ((c::r).take (q+1)):=by
          have:nB ((c::r).take q)≤sV ((c::r).take q):=Nat.min_le_left _ _;omega
         refine yC (ι:={q:Nat // SpI vB (c::r) q}) ⟨q+1,hqs⟩ (by show (c::r).length-(q+1)<(c::r).length-q;omega) (.cons V<|.cons V<|.cons V<|.cons V<|.cons V<|.cons (by dsimp only;rw[show nB ((c::r).take (q+1))=4294967296 from Nat.min_eq_right hbig];rfl)<|.nil) (fun w h=>by dsimp only;rw[Kv hbig];exact h)
        ·replace h70:=Jp h70;refine zG<|zQ<|Z8r 0 3 4 5 6 7 60 70 V V V V V V V V<|Zm V V<|ZF V (yI V V (i64_in _ (by omega) (by omega))) ?_;refine Za V V<|zU<|zM ?_
         have hsm:sV ((c::r).take q)<4294967296∧nB ((c::r).take q)=sV ((c::r).take q):=by
          unfold nB at h70 ⊢;omega
         have hsm2:¬4294967296≤sV ((c::r).take (q+1)):=by omega
         refine yC (ι:={q:Nat // SpI vB (c::r) q}) ⟨q+1,hqs⟩ (by show (c::r).length-(q+1)<(c::r).length-q;omega) (.cons V<|.cons V<|.cons V<|.cons V<|.cons V<|.cons (by dsimp only;rw[show nB ((c::r).take (q+1))=10*nB ((c::r).take q)+(y.toNat-48) from by rw[hsm.2,← hdt];exact Nat.min_eq_left (by omega)];rfl)<|.nil) (fun w h=>by dsimp only;rw[Kw hsm2];rw[Kw (show ¬4294967296≤sV ((c::r).take q) by omega)] at h;exact h)
       ·have hqt:(c::r).takeWhile vW=(c::r).take q:=SpI.take (hq.end hx (by simpa using h60));have hT:xW (c::r)=⟨1,0,(c::r).take q,nB ((c::r).take q)⟩:=by rw[rnext_num h45,hqt]
        have hTl:((c::r).take q).length=q:=by rw[Ki];omega
        refine xY<|zN<|zN<|xZ<|zQ<|zX<|Zm V V ?_
        refine ZF V (qP V (by kernel_rfl) U50 (u32_nB _)) ?_
        refine ZF V (zZ (off:=2) (sz:=0) V U52 (by kernel_rfl) V) ?_;refine ZS 0 V V V V V (by kernel_rfl) ?_;refine zU<|zM ?_;have hT':xW (c::r)=⟨1,0,(c::r).take q,nB ((c::r).take q)⟩:=hT;refine zA (ι:=Unit) () (.cons V<|.cons V<|.cons V<|.cons V<|.cons (by rw[hT'];dsimp only;rw[hTl];rfl)<|.nil) (fun w h=>by rw[hT'];dsimp only;rw[nB_dec];exact Hp.weakX h fun _ _=>trivial)
     ·refine zY<|Z8r 0 3 4 5 6 18 24 45 V V V V V V V V<|Zm V V<|Zm V V<|ZF V (vJ V V U9 V (show l[i+p]? = some c from hat (k:=0) V))<|yT .none V  (v:=.bool (sP c.toNat)) (by kernel_rfl) V (fun w hw=>pR _ w) ?_;refine Za V V<|ZT<|zT V (fun h77=>?_) (fun h77=>?_)
      ·refine zY<|yY<|xV (ι:={q:Nat // SpI qO (c::r) q}) (fun q=>[(0,.string ⟨l.toArray⟩),(3,.slice A out.length cap),(4,.int .i64 ((i+p:Nat):Int)),(5,.pointer (some ⟨b5,0,none⟩)),(6,.int .i64 ((i+p+q.1:Nat):Int))]) (fun q=>Hp (fun _=>False) w_0 [(b5,bk 52 [.int .i64 0,.string ⟨#[]⟩,.int .u32 0,.bool false,.int .i64 ((i+p:Nat):Int)])] [⟨.slice A out.length cap,52,5,out.length,wE out⟩] (fun _=>True)) (fun q=>(c::r).length-q.1) ⟨0,Kl _,fun _ _ h=>absurd h (by omega)⟩ ?_ ?_ (fun q=>?_)
       ·exact .cons V<|.cons V<|.cons V<|.cons V<|.cons V<|.nil
       ·exact fun w h=>h
       obtain⟨q,hq⟩:=q;dsimp only;have hqle:=hq.le;refine zY<|xA (ι:={x:Bool // x=true↔∃d,(c::r)[q]? = some d∧qO d.toNat=true}) (fun x=>[(0,.string ⟨l.toArray⟩),(3,.slice A out.length cap),(4,.int .i64 ((i+p:Nat):Int)),(5,.pointer (some ⟨b5,0,none⟩)),(6,.int .i64 ((i+p+q:Nat):Int)),(97,.bool x.1)]) (fun _=>Hp (fun _=>False) w_0 [(b5,bk 52 [.int .i64 0,.string ⟨#[]⟩,.int .u32 0,.bool false,.int .i64 ((i+p:Nat):Int)])] [⟨.slice A out.length cap,52,5,out.length,wE out⟩] (fun _=>True)) ?_ (fun x=>?_)
       ·refine zX<|Zm V V<|Zm V V<|ZF V (vL V U9)<|ZF V (xS V V)<|Zm V V<|zH 86 V (fun hb=>?_) (fun hb=>?_)
        ·replace hb:=Jo hb;skip;obtain⟨y,hy⟩:∃y,(c::r)[q]? = some y:=⟨(c::r)[q]'(by omega),Jt _⟩;refine ZG V V V (zO V)<|ZG V V V (zO V)<|ZG V V V (vJ V V U9 V (hat hy))<|yT (.some V V) V  (v:=.bool (sP y.toNat)) (by kernel_rfl) V (fun w hw=>pR _ w) ?_;refine ZG V V V (zO V)<|zH 91 V (fun hl2=>?_) (fun hl2=>?_)
         ·refine ZP V<|ZP V<|ZP V<|ZP V<|ZG V V V (zP V V)<|ZF V (zP V V)<|zU<|zA (ι:={x:Bool // x=true↔∃d,(c::r)[q]? = some d∧qO d.toNat=true}) ⟨true,⟨fun _=>⟨y,hy,by simp[qO,hl2]⟩,fun _=>rfl⟩⟩ (O6 V V V V V V) (fun w h=>h)
         ·refine ZG V V V (zO V)<|ZG V V V (zO V)<|ZG V V V (vJ V V U9 V (hat hy))<|yT (.some V V) V  (v:=.bool (vB y.toNat)) (by kernel_rfl) V (fun w hw=>rdigit_any _ w) ?_;refine ZG V V V (zL V V)<|ZF V (zP V V)<|zU<|zA (ι:={x:Bool // x=true↔∃d,(c::r)[q]? = some d∧qO d.toNat=true}) ⟨vB y.toNat,⟨fun h=>⟨y,hy,by simp[qO,h]⟩,fun ⟨d,h1,h2⟩=>by rw[hy] at h1;cases h1;simpa [qO,hl2] using h2⟩⟩ (O6 V V V V V V) (fun w h=>h)
        ·replace hb:=Jp hb;refine ZP V<|ZP V<|ZP V<|ZP V<|ZP V<|yZ V V V<|yZ V V V<|yZ V V V<|yZ V V V<|ZP V<|ZF V (zL V V)<|zU<|zA (ι:={x:Bool // x=true↔∃d,(c::r)[q]? = some d∧qO d.toNat=true}) ⟨false,⟨fun h=>(by cases h),fun ⟨d,h1,_⟩=>by have:=(Jm.1 h1).1;omega⟩⟩ (O6 V V V V V V) (fun w h=>h)
       ·obtain⟨x,hx⟩:=x;dsimp only;refine zT V (fun h97=>?_) (fun h97=>?_)
        ·obtain⟨y,hy,hyq⟩:=hx.1 h97;have hqs:=hq.step hy hyq;have hql:=hqs.le;refine zG<|zQ<|yY<|zX<|Zm V V<|ZF V (yI V V (i64_in _ (by omega) (by omega))) ?_;refine Za V V<|zU<|zM<|yC (ι:={q:Nat // SpI qO (c::r) q}) ⟨q+1,hqs⟩ (by show (c::r).length-(q+1)<(c::r).length-q;omega) (O5 V V V V V) (fun w h=>h)
        ·have hqt:(c::r).takeWhile vH=(c::r).take q:=SpI.take (hq.end hx (by simpa using h97));have hT:=rnext_wor (r:=r) (by simpa using h45) h77;rw[hqt] at hT;have hTl:((c::r).take q).length=q:=by rw[Ki];omega
         refine xY<|zN<|zN<|xZ<|zQ<|zY<|zX<|ZF V (Y52x0 V) ?_;refine ZS 0 V V V V V (by kernel_rfl) ?_;refine ZX<|Z6 0 3 4 5 6 97 V V V V V V<|wR 5 [0,1,2,3,4] (fun _=>True) (by kernel_rfl) (by kernel_rfl) (fun _ _ _=>trivial) (fun _ _=>trivial) (fun n0 hn0=>?_);refine Zd V V V (zO V)<|Zd V V V (zO V)<|Zd V V V (zO V)<|Zd V V V (yf_strSlice V V V U9 (by omega) (by omega) (by omega) (show (l.drop (i+p)).take (i+p+q-(i+p))=(c::r).take q from by rw[hcr,Nat.add_sub_cancel_left])) ?_;refine xF V<|wd_callX (ι:=Option Addr) (C:=fun _=>True) (val:=fun A=>.slice A vN.length 9) (TT:=fun A F u=>RdF F A (xX vN) u) .none V  (by kernel_rfl) V (fun _ h=>h.elim) (fun _=>RdF.lies) (fun _ _ _ _=>trivial) (fun w hw=>(rkeywords_any w).mono fun e w' ⟨A,e1,e2,e3⟩=>⟨A,trivial,e1,e2,e3⟩) (fun A2 F2 _ hF2=>?_);refine wL ?_;simp only[Jz,Ke];refine yT .none V  (v:=.bool (decide ((c::r).take q∈vN))) (by kernel_rfl) V (fun w hw=>among_any vN (by decide) _ _ _ w (HpG.x hw).1) ?_;refine Za V V<|ZX<|zY<|Z7r 0 3 4 5 6 8 97 V V V V V V V<|Zm V V<|ZT<|zT V (fun h107=>?_) (fun h107=>?_)
         ·refine zX<|ZF V (Y52x0 V) ?_;refine ZS 0 V V V V V (by kernel_rfl) ?_;refine ZX<|Z8r 0 3 4 5 6 8 97 107 V V V V V V V V<|Zm V V<|Zm V V<|ZF V (wG V V (i64_in _ (by omega) (by omega))) ?_;refine ZF V (wO V V)<|ZT<|zT V (fun h112=>?_) (fun h112=>?_)
          ·replace h112:=Jo h112;refine Z9r 0 3 4 5 6 8 97 107 112 V V V V V V V V V<|ZF V (Y52x0 V) ?_;refine ZS 0 V V V V V (by kernel_rfl) ?_;refine zU<|zM ?_;have hT':xW (c::r)=⟨4,0,(c::r).take q,0⟩:=by rw[hT,Kp (by omega)]
           refine zA (ι:=Unit) () (.cons V<|.cons V<|.cons V<|.cons V<|.cons (by rw[hT'];dsimp only;rw[hTl];rfl)<|.nil) (fun w h=>by rw[hT'];exact Hp.weakX h fun _ _=>trivial)
          ·replace h112:=Jp h112;refine zG<|zM ?_;have hT':xW (c::r)=⟨3,0,(c::r).take q,0⟩:=by rw[hT,Ko (by omega),Kp (Jo h107)]
           refine zA (ι:=Unit) () (.cons V<|.cons V<|.cons V<|.cons V<|.cons (by rw[hT'];dsimp only;rw[hTl];rfl)<|.nil) (fun w h=>by rw[hT'];exact Hp.weakX h fun _ _=>trivial)
         ·refine zG<|zQ<|zY<|zX<|Zm V V<|Zm V V<|ZF V (wG V V (i64_in _ (by omega) (by omega))) ?_;refine ZF V (wO V V)<|ZT<|zT V (fun h112=>?_) (fun h112=>?_)
          ·replace h112:=Jo h112;refine Z9r 0 3 4 5 6 8 97 107 112 V V V V V V V V V<|ZF V (Y52x0 V) ?_;refine ZS 0 V V V V V (by kernel_rfl) ?_;refine zU<|zM ?_;have hT':xW (c::r)=⟨4,0,(c::r).take q,0⟩:=by rw[hT,Kp (by omega)]
           refine zA (ι:=Unit) () (.cons V<|.cons V<|.cons V<|.cons V<|.cons (by rw[hT'];dsimp only;rw[hTl];rfl)<|.nil) (fun w h=>by rw[hT'];exact Hp.weakX h fun _ _=>trivial)
          ·replace h112:=Jp h112;refine zG<|zM ?_;have hT':xW (c::r)=⟨2,0,(c::r).take q,0⟩:=by rw[hT,Ko (by omega),Ko (Jp h107)]
           refine zA (ι:=Unit) () (.cons V<|.cons V<|.cons V<|.cons V<|.cons (by rw[hT'];dsimp only;rw[hTl];rfl)<|.nil) (fun w h=>by rw[hT'];exact Hp.weakX h fun _ _=>trivial)
      ·refine zY<|Z9r 0 3 4 5 6 18 24 45 77 V V V V V V V V V<|ZF V (Y52x0 V) ?_;refine ZS 0 V V V V V (by kernel_rfl) ?_;refine ZX<|Z9r 0 3 4 5 6 18 24 45 77 V V V V V V V V V<|Zm V V<|Zm V V<|Zm V V<|ZF V (yf_strLo V V U9 (by omega) (by omega) (show l.drop (i+p)=c::r from hcr)) ?_;refine yT .none V  (v:=.string ⟨((c::r).take (uZ (c::r))).toArray⟩) (by kernel_rfl) V (fun w hw=>rsign_any (c::r) w) ?_;refine ZF V (vL V U9) ?_;have hsy:((c::r).take (uZ (c::r))).length=uZ (c::r):=by rw[Ki];have:=symL_le c r;omega
       have hsy2:=symL_le c r;refine ZF V (yI V V (i64_in _ (by omega) (by omega))) ?_;refine Za V V<|ZX<|Z9r 0 3 4 5 6 18 24 45 77 V V V V V V V V V<|Zm V V<|Zm V V<|ZF V (yS V V)<|ZT<|zT V (fun h43=>?_) (fun h43=>?_)
       ·replace h43:=Jw h43;refine Z10r 0 3 4 5 6 18 24 43 45 77 V V V V V V V V V V<|ZF V (Y52x0 V) ?_;refine ZS 0 V V V V V (by kernel_rfl) ?_;refine zU<|zM ?_;have hT':xW (c::r)=⟨4,0,(c::r).take (uZ (c::r)),0⟩:=by rw[rnext_sym (by simpa using h45) (by simpa using h77),Kp (by omega)]
        refine zA (ι:=Unit) () (.cons V<|.cons V<|.cons V<|.cons V<|.cons (by rw[hT'];rfl)<|.nil) (fun w h=>by rw[hT'];exact Hp.weakX h fun _ _=>trivial)
       ·replace h43:=yP h43;refine zG<|zM ?_;have hT':xW (c::r)=⟨3,0,(c::r).take (uZ (c::r)),0⟩:=by rw[rnext_sym (by simpa using h45) (by simpa using h77),Ko (by omega)]
        refine zA (ι:=Unit) () (.cons V<|.cons V<|.cons V<|.cons V<|.cons (by rw[hT'];rfl)<|.nil) (fun w h=>by rw[hT'];exact Hp.weakX h fun _ _=>trivial)
    ·refine zY<|zX<|Zm V V<|Zm V V<|Zm V V<|ZF V (yf_strSlice V V V U9 (by omega) (by omega) (by omega) (show (l.drop (i+p)).take (i+p+(xW (c::r)).text.length-(i+p))=(xW (c::r)).text from by rw[hcr,Nat.add_sub_cancel_left,rnext_pre])) ?_;refine ZF V (zZ (off:=1) (sz:=0) V U52 (by kernel_rfl) V) ?_;refine ZS 0 V V V V V (by kernel_rfl) ?_;refine ZX<|Z5r 0 3 4 5 6 V V V V V<|Zm V V<|ZF V (yX 0 V V U52 V (by kernel_rfl)) ?_;refine zC .none V (xR (z:=.agg #[.int .i64 0,.string ⟨#[]⟩,.int .u32 0,.bool false,.int .i64 0]) V V U27 (by kernel_rfl) (by kernel_rfl) V V) (fun b121=>?_);refine uO (z:=.agg #[.int .i64 0,.string ⟨#[]⟩,.int .u32 0,.bool false,.int .i64 0]) (bytes:=40) 0 0 .none V V V V V U27 (by kernel_rfl) V V V V V (by omega) (by omega) (fun a122 c122 h122=>?_);refine Za V V<|ZX<|zY<|Z5r 0 3 4 5 6 V V V V V<|ZF V (Y52x0 V) ?_;refine ZF V (zW 1 V V V U3 V)<|ZF V (yS V V)<|ZT<|zT V (fun h125=>?_) (fun h125=>?_)
     ·replace h125:=Jw h125;refine zY<|Z6r 0 3 4 5 6 125 V V V V V V<|Zm V V<|Za V V<|ZT<|zK<|zV<|zR<|zV<|zR<|zI V V (fun w hw=>?_);have h4:(xW (c::r)).kind=4:=by omega
      have hfin:rJ l=out++[⟨(xW (c::r)).kind,i+p,(xW (c::r)).text,(xW (c::r)).value⟩]:=by rw[he,rtokD_bad hcr2 h4,hsp,h4]
      exact⟨a122,c122,by rw[hfin,Ji];rfl,by rw[hfin,Ji];exact h122,(Jq hw).ext,by rw[hfin,rtoksC_one];exact HpG.rowF (j:=0) hw rfl⟩
     ·replace h125:=yP h125;refine zG<|zQ<|Z6r 0 3 4 5 6 125 V V V V V V<|Zm V V<|Za V V<|zU<|zM ?_;have h4:(xW (c::r)).kind≠4:=by omega
      have h1l:=hnl.2 h4;refine yC (ι:={j:(Nat×List Tok)×(Option Addr×Nat) // RkI l j.1.1 j.1.2∧j.1.2.length≤j.2.2}) ⟨((i+p+(xW (c::r)).text.length,out++[⟨(xW (c::r)).kind,i+p,(xW (c::r)).text,(xW (c::r)).value⟩]),(some ⟨a122,0,none⟩,c122)),⟨?_,?_,?_⟩,?_⟩ ?_ ?_ (fun w h=>?_)
      ·show i+p+(xW (c::r)).text.length≤l.length;omega
      ·rw[Ji];show out.length+1≤i+p+(xW (c::r)).text.length;omega
      ·rw[he,rtokD_next hcr2 h4,Kb,hsp];show out++_=out++(_::sR _ (l.drop (i+p+(xW (c::r)).text.length)));rw[← List.drop_drop,hcr]
      ·rw[Ji];exact h122
      ·show l.length-(i+p+(xW (c::r)).text.length)<l.length-i;omega
      ·exact .cons V<|.cons (by dsimp only;rw[Ji];rfl)<|.cons V<|.nil
      ·dsimp only;rw[Ji,rtoksC_one];exact Hp.drop h (Kf _) (Jr _)
end Go.Proofs.YtfpkpnkdnammnaaGreatDoor
namespace Go.Proofs.YtfpkpnkdnammnaaGreatDoor
structure TkS (t t':Tok):Prop extends TkR t t' where
 m1:t.text=kMem→t.kind=3
 m2:t'.text=kMem→t'.kind=3
section
variable {tk tk':Nat→Tok}(h:∀j,TkS (tk j) (tk' j))
include h
end
def tkM (l:Bs) (j:Nat):Tok:=if j<(rJ l).length then vK (rJ l) j else vK (uS l) j
theorem rtokL_pos (l:Bs):∃m,(rJ l).length=m+1∧m≤l.length∧((tkM l m).kind=0∨(tkM l m).kind=4):=by
 obtain⟨m,h1,h2,h3,_⟩:=rtok_same _ 0 l rfl;refine⟨m,h1,h2,?_⟩;have:tkM l m=vK (sR 0 l) m:=by unfold tkM;rw[Kp (by rw[rJ,h1];omega)];rfl
 rw[this];exact h3
end Go.Proofs.YtfpkpnkdnammnaaGreatDoor
