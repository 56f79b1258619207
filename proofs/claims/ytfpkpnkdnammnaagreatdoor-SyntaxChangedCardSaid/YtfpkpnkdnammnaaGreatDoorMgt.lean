import Derived.Test.YtfpkpnkdnammnaaGreatDoorMgO
import Derived.Test.YtfpkpnkdnammnaaGreatDoorMge
set_option maxRecDepth 100000
namespace Go.Proofs.YtfpkpnkdnammnaaGreatDoor
open Go.RowKit
theorem rblank_any (r:Nat) (w_0:World):Calls Tryz.prog 33 #[.int .u8 r] w_0 fun e w'=>e=.returned (.bool (qH r))∧Ext w_0 w':=by
 refine yW (args:=[.int .u8 r]) Tryz.func33 V 17 V (Jo V)<|Z1 0 V<|zC (H':=Hp (fun _=>False) w_0 [] [] (fun _=>True)) (fun u hu=>?_) ?_
 ·subst hu;exact Hp.start0
 refine zY<|zX<|Za V V<|ZX<|zX<|Zm V V<|ZF V (yU V V)<|Zm V V<|zG 5 V (fun hb=>?_) (fun hb=>?_)
 ·replace hb:=Jx hb;refine ZP V<|ZP V<|ZF V (zP V V)<|Zm V V<|ZP V<|ZP V<|ZF V (zP V V)<|Zm V V<|ZP V<|ZP V<|ZF V (zP V V)<|Za V V<|ZT<|zK<|zI V V (fun w hw=>?_);exact⟨by congr 2;rw[Jm];simp[qH];try omega,(Jr hw).ext⟩
 ·replace hb:=yM hb;refine ZG V V V (zR V)<|ZG V V V (yU V V)<|ZF V (zL V V)<|Zm V V<|zG 9 V (fun hb=>?_) (fun hb=>?_)
  ·replace hb:=Jx hb;refine ZP V<|ZP V<|ZF V (zP V V)<|Zm V V<|ZP V<|ZP V<|ZF V (zP V V)<|Za V V<|ZT<|zK<|zI V V (fun w hw=>?_);exact⟨by congr 2;rw[Jm];simp[qH];try omega,(Jr hw).ext⟩
  ·replace hb:=yM hb;refine ZG V V V (zR V)<|ZG V V V (yU V V)<|ZF V (zL V V)<|Zm V V<|zG 13 V (fun hb=>?_) (fun hb=>?_)
   ·replace hb:=Jx hb;refine ZP V<|ZP V<|ZF V (zP V V)<|Za V V<|ZT<|zK<|zI V V (fun w hw=>?_);exact⟨by congr 2;rw[Jm];simp[qH];try omega,(Jr hw).ext⟩
   ·replace hb:=yM hb;refine ZG V V V (zR V)<|ZG V V V (yU V V)<|ZF V (zL V V)<|Za V V<|ZT<|zK<|zI V V (fun w hw=>?_);exact⟨by congr 2;rw[Jm];simp[qH];try omega,(Jr hw).ext⟩
def wL:List Bs:=[[60,61],[62,61],[61,61],[33,61],[60,60],[62,62],[40],[41],[91],[93],[123],[125],[44],[59],[61],[43],[45],[42],[47],[37],[38],[124],[94],[126],[33],[60],[62]]
theorem rsigns_any (w_0:World):Calls Tryz.prog 73 #[] w_0 fun e w'=>∃A:Option Addr,e=.returned (.slice A wL.length 27)∧Ext w_0 w'∧RdF (fun k=>w_0.heap.size≤k) A (xT wL) w':=by
 refine yW (args:=[]) Tryz.func73 V 2 V (Jo V)<|xB (.nil)<|zC (H':=Hp (fun _=>False) w_0 [] [] (fun _=>True)) (fun u hu=>?_) ?_
 ·subst hu;exact Hp.start0
 refine zY<|zX<|Za V V<|ZX<|zX<|zA .none V (wP (z:=Ja) V V V V U22 (by kernel_rfl) (by kernel_rfl) V V) (fun b1=>?_);refine Za V V<|ZT<|zK<|zI V V (fun w hw=>?_);exact⟨_,rfl,(Jr hw).ext,HpG.rdF (j:=0) hw V (HpG.mineL hw (j:=0) V id)⟩
def hitL (x s:Bs):Prop:=x.length≤s.length∧s.take x.length=x
theorem signs_two {k:Nat}{x:Bs}(h:wL[k]? = some x) (hk:k<6):x.length=2∧x∈twoL:=by
 have:∀k,k<6→∀x,wL[k]? = some x→x.length=2∧x∈twoL:=by
  intro k hk
  match k,hk with
  | 0,_=>intro x h;cases h;decide
  | 1,_=>intro x h;cases h;decide
  | 2,_=>intro x h;cases h;decide
  | 3,_=>intro x h;cases h;decide
  | 4,_=>intro x h;cases h;decide
  | 5,_=>intro x h;cases h;decide
 exact this k hk x h
theorem signs_all:∀x∈wL.drop 6,∃c,x=[c]∧c∈oneL:=by
 intro x hx;have e:wL.drop 6=oneL.map fun c=>[c]:=rfl;rw[e] at hx;obtain⟨c,hc,rfl⟩:=List.mem_map.1 hx;exact⟨c,rfl,hc⟩
theorem signs_one {k:Nat}{x:Bs}(h:wL[k]? = some x) (hk:6≤k):∃c,x=[c]∧c∈oneL:=by
 refine signs_all x (Jv (i:=k-6) ?_);have e:6+(k-6)=k:=by omega
 rw[List.getElem?_drop,e];exact h
theorem two_at {x:Bs}(h:x∈twoL):∃j,j<6∧wL[j]? = some x:=by
 obtain⟨j,hj,e⟩:=List.getElem_of_mem h;have h6:j<6:=hj;refine⟨j,h6,?_⟩;have e2:wL=twoL++wL.drop 6:=rfl;rw[e2,List.getElem?_append_left hj,Ju hj,e]
theorem one_at {c:UInt8}(h:c∈oneL):∃j:Nat,wL[j]? = some ([c]:Bs):=by
 have:[c]∈wL:=by
  have e2:wL=twoL++oneL.map fun c=>[c]:=rfl;rw[e2];exact List.mem_append_right _ (List.mem_map.2 ⟨c,h,rfl⟩)
 obtain⟨j,hj,e⟩:=List.getElem_of_mem this;exact⟨j,by rw[Ju hj,e]⟩
theorem sign_hit {s x:Bs}{k:Nat}(hx:wL[k]? = some x) (hno:∀(j:Nat) (y:Bs),j<k→wL[j]? = some y→¬hitL y s) (h:hitL x s):s.take (tD s)=x:=by
 by_cases h2:s.take 2∈twoL
 ·have hs:tD s=2:=by unfold tD;rw[Kq h2]
  obtain⟨j,hj,hjx⟩:=two_at h2;rcases Nat.lt_or_ge k 6 with hk|hk
  ·obtain⟨hl,_⟩:=signs_two hx hk;rw[hs,← hl];exact h.2
  ·have hl:=(signs_two hjx hj).1;refine absurd ⟨?_,?_⟩ (hno j _ (by omega) hjx)
   ·rw[Kj];omega
   ·rw[hl]
 ·rcases Nat.lt_or_ge k 6 with hk|hk
  ·obtain⟨hl,hm⟩:=signs_two hx hk;have:=h.2;rw[hl] at this;rw[this] at h2;exact absurd hm h2
  ·obtain⟨c,rfl,hc⟩:=signs_one hx hk
   cases s with
   | nil=>have:=h.1;simp at this
   | cons d r =>
    have e:=h.2;simp at e;subst e;have hs:tD (d::r)=1:=by unfold tD;rw[Kp h2];dsimp only;rw[Kq hc]
    rw[hs];rfl
theorem sign_none {s:Bs}(hno:∀(j:Nat) (y:Bs),wL[j]? = some y→¬hitL y s):s.take (tD s)=[]:=by
 by_cases h2:s.take 2∈twoL
 ·obtain⟨j,hj,hjx⟩:=two_at h2;have hl:=(signs_two hjx hj).1;refine absurd ⟨?_,?_⟩ (hno j _ hjx)
  ·rw[Kj];omega
  ·rw[hl]
 ·cases s with
  | nil=>simp
  | cons d r =>
   by_cases hd:d∈oneL
   ·obtain⟨j,hj⟩:=one_at hd;exact absurd ⟨by simp,by simp⟩ (hno j _ hj)
   ·have hs:tD (d::r)=0:=by unfold tD;rw[Kp h2];dsimp only;rw[Kp hd]
    rw[hs];rfl
structure SgI (s:Bs) (k:Nat):Prop where
 le:k≤wL.length
 no:∀(j:Nat) (y:Bs),j<k→wL[j]? = some y→¬hitL y s
theorem signs_len (x:Bs) (h:x∈wL):x.length≤2:=by
 have:∀x∈wL,x.length≤2:=by decide
 exact this x h
theorem rsign_any (s:Bs) (w_0:World):Calls Tryz.prog 38 #[.string ⟨s.toArray⟩] w_0 fun e w'=>e=.returned (.string ⟨(s.take (tD s)).toArray⟩)∧Ext w_0 w':=by
 refine yW (args:=[.string ⟨s.toArray⟩]) Tryz.func38 V 36 V (Jo V)<|Z1 0 V<|zC (H':=Hp (fun _=>False) w_0 [] [] (fun _=>True)) (fun u hu=>?_) ?_
 ·subst hu;exact Hp.start0
 refine zY<|zX<|Za V V<|ZX<|zX<|uB (ι:=Option Addr) (C:=fun A=>∃b off,A=some ⟨b,off,none⟩) (val:=fun A=>.slice A wL.length 27) (TT:=fun A F u=>RdF F A (xT wL) u) .none V  (by kernel_rfl) V (fun _ h=>h.elim) (fun _=>RdF.lies) (fun w hw=>(rsigns_any w).mono fun e w' ⟨A,e1,e2,e3⟩=>⟨A,by obtain⟨b,off,e,_⟩:=e3 (by simp[wL]);exact⟨b,off,e⟩,e1,e2,e3⟩) (fun A F hA hF=>?_);obtain⟨b,off,rfl⟩:=hA;refine Za V V<|ZX<|zY<|Z3r 0 2 3 V V V<|Za V V<|ZT<|yY<|xW (ι:={k:Nat // SgI s k}) (fun k=>[(0,.string ⟨s.toArray⟩),(3,.slice (some ⟨b,off,none⟩) wL.length 27),(4,.int .i64 k.1)]) (fun _=>Hp (fun _=>False) w_0 [] [] (RdF F (some ⟨b,off,none⟩) (xT wL))) (fun k=>wL.length-k.1) ⟨0,Km _,fun _ _ h=>absurd h (by omega)⟩ ?_ ?_ (fun k=>?_)
 ·exact .cons V<|.cons V<|.cons V<|.nil
 ·exact fun w h=>Hp.weakX h fun _ hu=>hu.1
 obtain⟨k,hk,hno⟩:=k;dsimp only;have hL:wL.length=27:=rfl;refine zY<|zY<|zX<|Zm V V<|Zm V V<|ZF V (yL V U22)<|ZF V (xR V V)<|ZT<|zQ V (fun h10=>?_) (fun h10=>?_)
 ·replace h10:=Jp h10;skip;have hkl:k<wL.length:=by simp at *;omega
  obtain⟨x,hx⟩:∃x,wL[k]? = some x:=⟨wL[k],Ju hkl⟩;have hxl:=signs_len x (Jv hx);refine zH<|zO<|zY<|yY<|zY<|Z4r 0 3 4 10 rfl rfl rfl rfl<|Zm rfl rfl<|Zm rfl rfl<|ZF rfl (zM (es:=1) rfl rfl U22 (by kernel_rfl) rfl (by first|decide|omega|(simp;done)|(simp;omega)) rfl) ?_;refine ZF V (yP (v:=.string ⟨x.toArray⟩) V U9 V (fun w h=>RdF.part (HpG.x h) (by simpa using hkl) (by omega) (tM hx))) ?_;refine ZF V (vV V U9)<|Za V V<|ZX<|Z5 0 3 4 5 10 V V V V V<|sV [0,1,2,3,4,5,6,7,8,9,10,11,12,13] _ (by kernel_rfl) (by kernel_rfl) Ky Ky (fun _ h=>HpG.drew h) (fun _ h=>h) ?_;refine Zd V V V (zR V)<|Zd V V V (zR V)<|Zd V V V (vV V U9)<|Zd V V V (yf_leq V V)<|Zd V V V (zR V)<|tS 22 V (fun hb=>?_) (fun hb=>?_)
  ·replace hb:=Jp hb;refine Zg V V V V V (zR V)<|Zg V V V V V (zR V)<|Zg V V V V V (rI V V U9 (by omega) (by omega) V) ?_;refine Zg rfl rfl rfl rfl rfl (zR rfl)<|Zg rfl rfl rfl rfl rfl (zR rfl)<|Zg rfl rfl rfl rfl rfl (zM (es:=1) rfl rfl U22 (by kernel_rfl) rfl (by first|decide|omega|(simp;done)|(simp;omega)) rfl) ?_;refine Zg V V V V V (yP (v:=.string ⟨x.toArray⟩) V U9 V (fun w h=>RdF.part (HpG.x h) (by simpa using hkl) (by omega) (tM hx))) ?_;refine Zg V V V V V (yD V V U9)<|Zd V V V (zP V V)<|uO<|zO<|zQ V (fun h31=>?_) (fun h31=>?_)
   ·refine zY<|Z6r 0 3 4 5 10 31 rfl rfl rfl rfl rfl rfl<|Zm rfl rfl<|Zm rfl rfl<|ZF rfl (zM (es:=1) rfl rfl U22 (by kernel_rfl) rfl (by first|decide|omega|(simp;done)|(simp;omega)) rfl) ?_;refine ZF V (yP (v:=.string ⟨x.toArray⟩) V U9 V (fun w h=>RdF.part (HpG.x h) (by simpa using hkl) (by omega) (tM hx))) ?_;refine Za V V<|ZT<|zK<|zT<|zV<|zV<|zT<|zV<|zI V V (fun w hw=>?_);exact⟨by rw[sign_hit hx hno ⟨by omega,Jp h31⟩],(Jr hw).ext⟩
   ·refine zH<|zJ<|zO<|Z6r 0 3 4 5 10 31 V V V V V V<|Zm V V<|ZF V (yJ V V (i64_in _ (by omega) (by omega))) ?_;refine Za V V<|zU<|yF (ι:={k:Nat // SgI s k}) ⟨k+1,hkl,fun j y hj hy=>?_⟩ (by show wL.length-(k+1)<wL.length-k;omega) (O3 V V V) (fun w h=>h);rcases Nat.lt_or_ge j k with h1|h1
    ·exact hno j y h1 hy
    ·have:j=k:=by omega
     subst this;rw[hx] at hy;cases hy;intro hh;have h2:=hh.1
     first|exact Jq h31 hh.2|omega
  ·replace hb:=Jq hb;refine ZD V V<|ZD V V<|ZD V V<|ZD V V<|ZD V V<|ZD V V<|ZD V V<|ZD V V<|Zd V V V (zL V V)<|uO<|zO<|wC V<|zH<|zJ<|zO<|Z6r 0 3 4 5 10 31 V V V V V V<|Zm V V<|ZF V (yJ V V (i64_in _ (by omega) (by omega))) ?_;refine Za V V<|zU<|yF (ι:={k:Nat // SgI s k}) ⟨k+1,hkl,fun j y hj hy=>?_⟩ (by show wL.length-(k+1)<wL.length-k;omega) (O3 V V V) (fun w h=>h);rcases Nat.lt_or_ge j k with h1|h1
   ·exact hno j y h1 hy
   ·have:j=k:=by omega
    subst this;rw[hx] at hy;cases hy;intro hh;have h2:=hh.1
    first|exact Jq h31 hh.2|omega
 ·replace h10:=Jq h10;refine yB<|zN<|zN<|yC<|zO<|zY<|Z4r 0 3 4 10 V V V V<|Za V V<|ZT<|zK<|zI V V (fun w hw=>?_);exact⟨by rw[sign_none (fun j y hy=>hno j y (by have:=(Jn.1 hy).1;omega) hy)],(Jr hw).ext⟩
end Go.Proofs.YtfpkpnkdnammnaaGreatDoor
namespace Go.Proofs.YtfpkpnkdnammnaaGreatDoor
def nB (s:Bs):Nat:=min (sL s) 4294967296
def xP (s:Bs):Tok:=match s with
 | []=>⟨4,0,[],0⟩
 | c::_ =>
  if tV c then ⟨1,0,s.takeWhile tV,nB (s.takeWhile tV)⟩
  else if letB c then ⟨if 12<(s.takeWhile tE).length then 4 else if s.takeWhile tE∈uV then 3 else 2,0,s.takeWhile tE,0⟩
  else ⟨if tD s=0 then 4 else 3,0,s.take (tD s),0⟩
theorem rnext_num {c:UInt8}{r:Bs}(h:uT c.toNat=true):xP (c::r)=⟨1,0,(c::r).takeWhile tV,nB ((c::r).takeWhile tV)⟩:=by
 have h':tV c=true:=h;unfold xP;dsimp only;rw[Kq h']
theorem rnext_wor {c:UInt8}{r:Bs}(h1:¬uT c.toNat=true) (h:sN c.toNat=true):xP (c::r)=⟨if 12<((c::r).takeWhile tE).length then 4 else if (c::r).takeWhile tE∈uV then 3 else 2,0,(c::r).takeWhile tE,0⟩:=by
 have h':letB c=true:=h;have h1':¬tV c=true:=h1;unfold xP;dsimp only;rw[Kp h1',Kq h']
theorem rnext_sym {c:UInt8}{r:Bs}(h1:¬uT c.toNat=true) (h:¬sN c.toNat=true):xP (c::r)=⟨if tD (c::r)=0 then 4 else 3,0,(c::r).take (tD (c::r)),0⟩:=by
 have h':¬letB c=true:=h;have h1':¬tV c=true:=h1;unfold xP;dsimp only;rw[Kp h1',Kp h']
structure TkR (t t':Tok):Prop where
 kind:t.kind=t'.kind
 at_:t.at_=t'.at_
 val:t.value=t'.value
 text:t.kind≠4→t.text=t'.text
theorem rnext_same (c:UInt8) (r:Bs):TkR (xP (c::r)) (wJ (c::r)):=by
 unfold xP wJ;dsimp only
 split
 ·exact⟨rfl,rfl,rfl,fun _=>rfl⟩
 ·split
  ·exact⟨rfl,rfl,rfl,fun _=>rfl⟩
  ·split
   ·exact⟨rfl,rfl,rfl,fun h=>absurd V h⟩
   ·exact⟨rfl,rfl,rfl,fun _=>rfl⟩
theorem tK (c:UInt8) (r:Bs):(xP (c::r)).text.length≤(c::r).length∧((xP (c::r)).kind≠4→1≤(xP (c::r)).text.length):=by
 refine⟨?_,fun h=>by rw[(rnext_same c r).text h];exact (rJ c r).1⟩;unfold xP;dsimp only
 split
 ·exact uF _ _
 ·split
  ·exact uF _ _
  ·dsimp only;rw[Kj];omega
theorem takeWhile_pre (p:UInt8→Bool) (l:Bs):l.take (l.takeWhile p).length=l.takeWhile p:=by
 induction l with
 | nil=>rfl
 | cons x l ih =>
  cases hx:p x
  ·simp[List.takeWhile,hx]
  ·simp[List.takeWhile,hx,ih]
theorem rnext_pre (c:UInt8) (r:Bs):(c::r).take (xP (c::r)).text.length=(xP (c::r)).text:=by
 unfold xP;dsimp only
 split
 ·exact takeWhile_pre _ _
 ·split
  ·exact takeWhile_pre _ _
  ·dsimp only;rw[Kj];have:=symL_le c r;rw[Nat.min_eq_left this]
def rtokF:Nat→Nat→Bs→List Tok
 | 0,_,_=>[]
 | f+1,i,s =>
  let k:=spanL vK s
  match s.drop k with
  | []=>[⟨0,i+k,[],0⟩]
  | c::r =>
   let t:=xP (c::r)
   if t.kind=4 then [⟨4,i+k,t.text,t.value⟩] else ⟨t.kind,i+k,t.text,t.value⟩::rtokF f (i+k+t.text.length) ((c::r).drop t.text.length)
theorem rtokF_fuel:∀{f g:Nat}(i:Nat) (s:Bs),s.length<f→s.length<g→rtokF f i s=rtokF g i s
 | 0,_,_,_,h,_=>absurd h (by omega)
 | _+1,0,_,_,_,h=>absurd h (by omega)
 | f+1,g+1,i,s,hf,hg=>by
  unfold rtokF;dsimp only
  cases h:s.drop (spanL vK s) with
  | nil=>rfl
  | cons c r =>
   dsimp only;have hl:=tK c r;have hd:(c::r).length≤s.length:=by rw[← h,Ke];omega
   split
   ·rfl
   ·rename_i h4;have:=hl.2 h4;congr 1;exact rtokF_fuel _ _ (by rw[Ke];omega) (by rw[Ke];omega)
def sT (i:Nat) (s:Bs):List Tok:=rtokF (s.length+1) i s
def sA (s:Bs):List Tok:=sT 0 s
theorem rtokD_end {i:Nat}{s:Bs}(h:s.drop (spanL vK s)=[]):sT i s=[⟨0,i+spanL vK s,[],0⟩]:=by
 unfold sT rtokF;dsimp only;rw[h]
theorem rtokD_bad {i:Nat}{s r:Bs}{c:UInt8}(h:s.drop (spanL vK s)=c::r) (h4:(xP (c::r)).kind=4):sT i s=[⟨4,i+spanL vK s,(xP (c::r)).text,(xP (c::r)).value⟩]:=by
 unfold sT rtokF;dsimp only;rw[h];dsimp only;rw[Kq h4]
theorem rtokD_next {i:Nat}{s r:Bs}{c:UInt8}(h:s.drop (spanL vK s)=c::r) (h4:(xP (c::r)).kind≠4):sT i s=⟨(xP (c::r)).kind,i+spanL vK s,(xP (c::r)).text,(xP (c::r)).value⟩::sT (i+spanL vK s+(xP (c::r)).text.length) ((c::r).drop (xP (c::r)).text.length):=by
 have hl:=tK c r;have hl2:=hl.2 h4;have hd:(c::r).length≤s.length:=by rw[← h,Ke];omega
 unfold sT
 conv=>lhs;unfold rtokF
 dsimp only;rw[h];dsimp only;rw[Kp h4];congr 1;exact rtokF_fuel _ _ (by rw[Ke];omega) (by rw[Ke];omega)
theorem rtok_same:∀(k:Nat) (i:Nat) (s:Bs),s.length=k→∃m,(sT i s).length=m+1∧m≤s.length∧((tQ (sT i s) m).kind=0∨(tQ (sT i s) m).kind=4)∧∀j,j≤m→TkR (tQ (sT i s) j) (tQ (tokD i s) j):=by
 intro k
 induction k using Nat.strongRecOn with
 | _ k ih =>
  intro i s hk
  cases h:s.drop (spanL vK s) with
  | nil =>
   rw[rtokD_end h,tokD_end h];refine⟨0,rfl,by omega,.inl rfl,fun j hj=>?_⟩;exact⟨rfl,rfl,rfl,fun _=>rfl⟩
  | cons c r =>
   have hs:=rnext_same c r
   by_cases h4:(xP (c::r)).kind=4
   ·rw[rtokD_bad h h4,rK h];refine⟨0,rfl,by omega,.inr rfl,fun j hj=>?_⟩;obtain rfl:j=0:=by omega
    exact⟨h4.symm.trans hs.kind,rfl,hs.val,fun h=>absurd V h⟩
   ·have hl:=(tK c r).2 h4;have hl0:=(tK c r).1;have hd:(c::r).length≤s.length:=by rw[← h,Ke];omega
    have ht:=hs.text h4;rw[rtokD_next h h4,rK h,← ht];obtain⟨m,h1,h2,h3,h5⟩:=ih ((c::r).drop (xP (c::r)).text.length).length (by rw[Ke];omega) (i+spanL vK s+(xP (c::r)).text.length) _ rfl;rw[Ke] at h2;refine⟨m+1,by rw[Jk,h1],by omega,h3,fun j hj=>?_⟩
    cases j with
    | zero=>exact⟨hs.kind,rfl,hs.val,fun _=>rfl⟩
    | succ j=>exact h5 j (by omega)
theorem decL_snoc (x:Bs) (d:UInt8):sL (x++[d])=10*sL x+(d.toNat-48):=by simp[sL]
theorem decL_take {s:Bs}{q:Nat}{d:UInt8}(h:s[q]? = some d):sL (s.take (q+1))=10*sL (s.take q)+(d.toNat-48):=by
 rw[List.take_add_one,h];exact decL_snoc _ d
end Go.Proofs.YtfpkpnkdnammnaaGreatDoor
namespace Go.Proofs.YtfpkpnkdnammnaaGreatDoor
open Go.RowKit
abbrev uA (t:Tok):List Value:=[.int .i64 t.kind,.string ⟨t.text.toArray⟩,.int .u32 ((t.value%4294967296:Nat):Int),.bool (decide (4294967296≤t.value)),.int .i64 t.at_]
def xA (l:List Tok):List Value:=l.flatMap uA
theorem rtoksC_len (l:List Tok):(xA l).length=l.length*5:=by
 induction l with
 | nil=>rfl
 | cons t l ih =>
  have e:xA (t::l)=uA t++xA l:=rfl;rw[e,Jj,ih];simp;omega
theorem rtoksC_one (l:List Tok) (t:Tok):xA (l++[t])=xA l++uA t:=by simp[xA]
theorem rtoksC_at {l:List Tok}{i:Nat}(h:i<l.length) {j:Nat}{v:Value}(hv:(uA (tQ l i))[j]? = some v):(xA l)[5*i+j]? = some v:=by
 induction l generalizing i with
 | nil=>simp at h
 | cons t l ih =>
  have e:xA (t::l)=uA t++xA l:=rfl
  cases i with
  | zero =>
   rw[e,Nat.mul_zero,Kl];exact (List.getElem?_append_left (Jn.1 hv).1).trans hv
  | succ i =>
   rw[e,List.getElem?_append_right (by simp;omega)];have:5*(i+1)+j-(uA t).length=5*i+j:=by simp;omega
   rw[this];exact ih (by simpa using h) hv
theorem nB_le (x:Bs):nB x≤4294967296:=Nat.min_le_right _ _
theorem u32_nB (x:Bs):IntKind.u32.wrap ((nB x:Nat):Int)=((nB x%4294967296:Nat):Int):=by
 rcases Nat.lt_or_ge (nB x) 4294967296 with h|h
 ·rw[u32_in _ (by omega) (by omega),Nat.mod_eq_of_lt h]
 ·have:nB x=4294967296:=Nat.le_antisymm (nB_le x) h;rw[this];rfl
theorem nB_dec (x:Bs):decide (4294967296≤nB x)=decide (4294967296≤sL x):=by
 unfold nB;congr 1;apply propext;omega
theorem SpI.step {q:Nat→Bool}{l:Bs}{p:Nat}{d:UInt8}(h:SpI q l p) (hd:l[p]? = some d) (hq:q d.toNat=true):SpI q l (p+1) :=
 ⟨(Jn.1 hd).1,fun j x hj hx=>by
  rcases Nat.lt_or_ge j p with h1|h1
  ·exact h.all j x h1 hx
  ·have:j=p:=by omega
   subst this;rw[hd] at hx;cases hx;exact hq⟩
theorem SpI.end {q:Nat→Bool}{l:Bs}{p:Nat}{x:Bool}(h:SpI q l p) (hx:x=true↔∃d,l[p]? = some d∧q d.toNat=true) (hf:¬x=true):spanL (fun c=>q c.toNat) l=p:=by
 cases hq:l[p]? with
 | none =>
  have h1:=List.getElem?_eq_none_iff.1 hq;have h2:=h.le;have:p=l.length:=by omega
  subst this;exact spanL_all (q:=q) fun j d hd=>h.all j d (Jn.1 hd).1 hd
 | some c =>
  refine spanL_step (q:=q) hq h.all ?_
  cases hb:q c.toNat with
  | false=>rfl
  | true=>exact absurd (hx.2 ⟨c,hq,hb⟩) hf
theorem SpI.take {q:Nat→Bool}{l:Bs}{p:Nat}(h:spanL (fun c=>q c.toNat) l=p):l.takeWhile (fun c=>q c.toNat)=l.take p:=by rw[← h,take_span]
structure RkI (l:Bs) (i:Nat) (out:List Tok):Prop where
 le:i≤l.length
 n:out.length≤i
 e:sA l=out++sT i (l.drop i)
theorem rtokens_any (l:Bs) (hl:l.length≤1000000000000) (w_0:World):Calls Tryz.prog 17 #[.string ⟨l.toArray⟩] w_0 fun e w'=>∃g cap,e=.returned (.slice (some ⟨g,0,none⟩) (sA l).length cap)∧(sA l).length≤cap∧Ext w_0 w'∧RdF (fun k=>w_0.heap.size≤k) (some ⟨g,0,none⟩) (xA (sA l)) w':=by
 refine yW (args:=[.string ⟨l.toArray⟩]) Tryz.func17 V 128 V (Jo V)<|Z1 0 V<|zC (H':=Hp (fun _=>False) w_0 [] [] (fun _=>True)) (fun u hu=>?_) ?_
 ·subst hu;exact Hp.start0
 refine zY<|zX<|Za V V<|ZX<|zX<|Za V V<|ZX<|zX<|Za V V<|ZT<|yY<|xW (ι:={j:(Nat×List Tok)×(Option Addr×Nat) // RkI l j.1.1 j.1.2∧j.1.2.length≤j.2.2}) (fun j=>[(0,.string ⟨l.toArray⟩),(3,.slice j.1.2.1 j.1.1.2.length j.1.2.2),(4,.int .i64 j.1.1.1)]) (fun j=>Hp (fun _=>False) w_0 [] [⟨.slice j.1.2.1 j.1.1.2.length j.1.2.2,52,5,j.1.1.2.length,xA j.1.1.2⟩] (fun _=>True)) (fun j=>l.length-j.1.1.1) ⟨((0,[]),(none,0)),⟨Km _,Kn _,rfl⟩,Kn _⟩ ?_ ?_ (fun j=>?_)
 ·exact .cons V<|.cons V<|.cons V<|.nil
 ·exact fun w h=>Hp.nil h _ _
 obtain⟨⟨⟨i,out⟩,⟨A,cap⟩⟩,⟨hi,hn,he⟩,hcap⟩:=j;dsimp only at hi hn he hcap ⊢;refine yY<|zY<|yY<|xW (ι:={p:Nat // SpI qH (l.drop i) p}) (fun p=>[(0,.string ⟨l.toArray⟩),(3,.slice A out.length cap),(4,.int .i64 ((i+p.1:Nat):Int))]) (fun _=>Hp (fun _=>False) w_0 [] [⟨.slice A out.length cap,52,5,out.length,xA out⟩] (fun _=>True)) (fun p=>l.length-p.1) ⟨0,Km _,fun _ _ h=>absurd h (by omega)⟩ ?_ ?_ (fun p=>?_)
 ·exact .cons V<|.cons V<|.cons V<|.nil
 ·exact fun w h=>h
 obtain⟨p,hp⟩:=p;dsimp only;have hple:i+p≤l.length:=by have:=hp.le;rw[Ke] at this;omega
 refine zY<|xH (ι:={x:Bool // x=true↔∃d,(l.drop i)[p]? = some d∧qH d.toNat=true}) (fun x=>[(0,.string ⟨l.toArray⟩),(3,.slice A out.length cap),(4,.int .i64 ((i+p:Nat):Int)),(18,.bool x.1)]) (fun _=>Hp (fun _=>False) w_0 [] [⟨.slice A out.length cap,52,5,out.length,xA out⟩] (fun _=>True)) ?_ (fun x=>?_)
 ·refine zX<|Zm V V<|Zm V V<|ZF V (vV V U9)<|ZF V (xR V V)<|Zm V V<|zG 13 V (fun hb=>?_) (fun hb=>?_)
  ·replace hb:=Jp hb;skip;obtain⟨c,hc⟩:∃c,l[i+p]? = some c:=⟨l[i+p]'(by omega),Ju _⟩;have hcd:(l.drop i)[p]? = some c:=by rw[List.getElem?_drop];exact hc
   refine ZG V V V (zR V)<|ZG V V V (zR V)<|ZG V V V (vN V V U9 V hc)<|yS (.some V V) V  (v:=.bool (qH c.toNat)) (by kernel_rfl) V (fun w hw=>rblank_any _ w) ?_;refine ZF V (zP V V)<|zU<|zF (ι:={x:Bool // x=true↔∃d,(l.drop i)[p]? = some d∧qH d.toNat=true}) ⟨qH c.toNat,⟨fun h=>⟨c,hcd,h⟩,fun ⟨d,h1,h2⟩=>by rw[hcd] at h1;cases h1;exact h2⟩⟩ (O4 V V V V) (fun w h=>h)
  ·replace hb:=Jq hb;refine ZP V<|ZP V<|ZP V<|ZP V<|ZF V (zL V V)<|zU<|zF (ι:={x:Bool // x=true↔∃d,(l.drop i)[p]? = some d∧qH d.toNat=true}) ⟨false,⟨fun h=>(by cases h),fun ⟨d,h1,_⟩=>by have:=(Jn.1 h1).1;rw[Ke] at this;omega⟩⟩ (O4 V V V V) (fun w h=>h)
 ·obtain⟨x,hx⟩:=x;dsimp only;refine zQ V (fun h18=>?_) (fun h18=>?_)
  ·obtain⟨d,hd,hdq⟩:=hx.1 h18;have hps:=hp.step hd hdq;have hpl:i+p+1≤l.length:=by have:=hps.le;rw[Ke] at this;omega
   refine zH<|zO<|yY<|zX<|Zm V V<|ZF V (yJ V V (i64_in _ (by omega) (by omega))) ?_;refine Za V V<|zU<|zJ<|yF (ι:={p:Nat // SpI qH (l.drop i) p}) ⟨p+1,hps⟩ (by show l.length-(p+1)<l.length-p;omega) (O3 V V V) (fun w h=>h)
  ·have hsp:spanL vK (l.drop i)=p:=hp.end hx (by simpa using h18);refine yB<|zN<|zN<|yC<|zO<|zY<|zY<|zX<|Zm V V<|Zm V V<|ZF V (vV V U9)<|ZF V (yU V V)<|ZT<|zQ V (fun h24=>?_) (fun h24=>?_)
   ·replace h24:=Jx h24;skip;have hend:(l.drop i).drop (spanL vK (l.drop i))=[]:=by rw[List.drop_drop];exact Ks (by omega)
    have hfin:sA l=out++[⟨0,i+p,[],0⟩]:=by rw[he,rtokD_end hend,hsp]
    refine zY<|Z5r 0 3 4 18 24 V V V V V<|Zm V V<|Zm V V<|ZF V (yR [.int .i64 0,.string ⟨#[]⟩,.int .u32 0,.bool false,.int .i64 0] [(0,1),(1,1),(2,1),(3,1),(4,1)] V (by kernel_rfl) (by kernel_rfl) V) ?_;refine zA .none V (xU (z:=.agg #[.int .i64 0,.string ⟨#[]⟩,.int .u32 0,.bool false,.int .i64 0]) V V U27 (by kernel_rfl) (by kernel_rfl) V V) (fun b28=>?_);refine vS (z:=.agg #[.int .i64 0,.string ⟨#[]⟩,.int .u32 0,.bool false,.int .i64 0]) (bytes:=40) 0 0 .none V V V V V U27 (by kernel_rfl) V V V V V (by omega) (by omega) (fun a29 c29 h29=>?_);refine Za V V<|ZT<|zK<|zV<|zT<|zV<|zT<|zI V V (fun w hw=>?_);exact⟨a29,c29,by rw[hfin,Jj];rfl,by rw[hfin,Jj];exact h29,(Jr hw).ext,by rw[hfin,rtoksC_one];exact HpG.rowF (j:=0) hw rfl⟩
   ·replace h24:=yM h24;skip
    obtain⟨c,r,hcr⟩:∃c r,l.drop (i+p)=c::r:=by
     cases hq:l.drop (i+p) with
     | nil=>have:=List.drop_eq_nil_iff.1 hq;omega
     | cons c r=>exact⟨c,r,rfl⟩
    have hcr2:(l.drop i).drop (spanL vK (l.drop i))=c::r:=by rw[List.drop_drop,hsp,hcr]
    have hlen:(c::r).length+(i+p)=l.length:=by rw[← hcr,Ke];omega
    have hat:∀{k:Nat} {d:UInt8},(c::r)[k]? = some d→l[i+p+k]? = some d:=fun {k d} h=>by rw[← hcr,List.getElem?_drop] at h;exact h
    have hnl:=tK c r;refine zH<|zO<|zY<|Z5r 0 3 4 18 24 V V V V V<|Zm V V<|ZF V (yR [.int .i64 0,.string ⟨#[]⟩,.int .u32 0,.bool false,.int .i64 0] [(0,1),(1,1),(2,1),(3,1),(4,1)] V (by kernel_rfl) (by kernel_rfl) V) ?_;refine zA .none V (yN (z:=.agg #[.int .i64 0,.string ⟨#[]⟩,.int .u32 0,.bool false,.int .i64 0]) (cs:=Ji) (by kernel_rfl) V) (fun b5=>?_);refine ZR 0 V V V V V (by kernel_rfl) ?_;refine ZX<|Z6r 0 3 4 5 18 24 V V V V V V<|Zm V V<|Za V V<|ZT<|xH (ι:=Unit) (fun _=>[(0,.string ⟨l.toArray⟩),(3,.slice A out.length cap),(4,.int .i64 ((i+p:Nat):Int)),(5,.pointer (some ⟨b5,0,none⟩)),(6,.int .i64 ((i+p+(xP (c::r)).text.length:Nat):Int))]) (fun _=>Hp (fun _=>False) w_0 [(b5,bk 52 [.int .i64 (xP (c::r)).kind,.string ⟨#[]⟩,.int .u32 (((xP (c::r)).value%4294967296:Nat):Int),.bool (decide (4294967296≤(xP (c::r)).value)),.int .i64 ((i+p:Nat):Int)])] [⟨.slice A out.length cap,52,5,out.length,xA out⟩] (fun _=>True)) ?_ (fun _=>?_)
    ·refine yY<|zY<|Z7r 0 3 4 5 6 18 24 V V V V V V V<|Zm V V<|Zm V V<|ZF V (vN V V U9 V (show l[i+p]? = some c from hat (k:=0) V))<|yS .none V  (v:=.bool (uT c.toNat)) (by kernel_rfl) V (fun w hw=>rdigit_any _ w) ?_;refine Za V V<|ZT<|zQ V (fun h45=>?_) (fun h45=>?_)
     ·refine zY<|Z8r 0 3 4 5 6 18 24 45 V V V V V V V V<|ZF V (Y52x0 V) ?_;refine ZS 0 V V V V V (by kernel_rfl) ?_;refine ZX<|Z8r 0 3 4 5 6 18 24 45 V V V V V V V V<|Za V V<|ZX<|yY<|xW (ι:={q:Nat // SpI uT (c::r) q}) (fun q=>[(0,.string ⟨l.toArray⟩),(3,.slice A out.length cap),(4,.int .i64 ((i+p:Nat):Int)),(5,.pointer (some ⟨b5,0,none⟩)),(6,.int .i64 ((i+p+q.1:Nat):Int)),(7,.int .u64 (nB ((c::r).take q.1)))]) (fun q=>Hp (fun _=>False) w_0 [(b5,bk 52 [.int .i64 1,.string ⟨#[]⟩,.int .u32 0,.bool (decide (4294967296≤sL ((c::r).take q.1))),.int .i64 ((i+p:Nat):Int)])] [⟨.slice A out.length cap,52,5,out.length,xA out⟩] (fun _=>True)) (fun q=>(c::r).length-q.1) ⟨0,Km _,fun _ _ h=>absurd h (by omega)⟩ ?_ ?_ (fun q=>?_)
      ·exact .cons V<|.cons V<|.cons V<|.cons V<|.cons V<|.cons V<|.nil
      ·exact fun w h=>h
      obtain⟨q,hq⟩:=q;dsimp only;have hqle:=hq.le;refine zY<|xH (ι:={x:Bool // x=true↔∃d,(c::r)[q]? = some d∧uT d.toNat=true}) (fun x=>[(0,.string ⟨l.toArray⟩),(3,.slice A out.length cap),(4,.int .i64 ((i+p:Nat):Int)),(5,.pointer (some ⟨b5,0,none⟩)),(6,.int .i64 ((i+p+q:Nat):Int)),(7,.int .u64 (nB ((c::r).take q))),(60,.bool x.1)]) (fun _=>Hp (fun _=>False) w_0 [(b5,bk 52 [.int .i64 1,.string ⟨#[]⟩,.int .u32 0,.bool (decide (4294967296≤sL ((c::r).take q))),.int .i64 ((i+p:Nat):Int)])] [⟨.slice A out.length cap,52,5,out.length,xA out⟩] (fun _=>True)) ?_ (fun x=>?_)
      ·refine zX<|Zm V V<|Zm V V<|ZF V (vV V U9)<|ZF V (xR V V)<|Zm V V<|zG 55 V (fun hb=>?_) (fun hb=>?_)
       ·replace hb:=Jp hb;skip;obtain⟨y,hy⟩:∃y,(c::r)[q]? = some y:=⟨(c::r)[q]'(by omega),Ju _⟩;refine ZG V V V (zR V)<|ZG V V V (zR V)<|ZG V V V (vN V V U9 V (hat hy))<|yS (.some V V) V  (v:=.bool (uT y.toNat)) (by kernel_rfl) V (fun w hw=>rdigit_any _ w) ?_;refine ZF V (zP V V)<|zU<|zF (ι:={x:Bool // x=true↔∃d,(c::r)[q]? = some d∧uT d.toNat=true}) ⟨uT y.toNat,⟨fun h=>⟨y,hy,h⟩,fun ⟨d,h1,h2⟩=>by rw[hy] at h1;cases h1;exact h2⟩⟩ (O7 V V V V V V V) (fun w h=>h)
       ·replace hb:=Jq hb;refine ZP V<|ZP V<|ZP V<|ZP V<|ZF V (zL V V)<|zU<|zF (ι:={x:Bool // x=true↔∃d,(c::r)[q]? = some d∧uT d.toNat=true}) ⟨false,⟨fun h=>(by cases h),fun ⟨d,h1,_⟩=>by have:=(Jn.1 h1).1;omega⟩⟩ (O7 V V V V V V V) (fun w h=>h)
      ·obtain⟨x,hx⟩:=x;dsimp only;refine zQ V (fun h60=>?_) (fun h60=>?_)
       ·obtain⟨y,hy,hyq⟩:=hx.1 h60;have hqs:=hq.step hy hyq;have hql:=hqs.le;have hyd:48≤y.toNat∧y.toNat≤57:=by simpa [uT] using hyq
        have hnb:=nB_le ((c::r).take q);have hdt:=decL_take hy;refine zH<|zO<|yY<|zY<|zX<|Zm V V<|ZF V (yf_mul V V (show IntKind.u64.wrap ((10:Int)*((nB ((c::r).take q):Nat):Int))=((10*nB ((c::r).take q):Nat):Int) from by rw[u64_in _ (by omega) (by omega)];simp)) ?_;refine Zm V V<|Zm V V<|ZF V (vN V V U9 V (hat hy))<|ZF V (wG V V (show IntKind.u8.wrap ((y.toNat:Int)-48)=((y.toNat-48:Nat):Int) from by rw[u8_in _ (by omega) (by omega)];omega)) ?_
        refine ZF V (rP V (by kernel_rfl) U53 (u64_in _ (by omega) (by omega))) ?_
        refine ZF V (yJ V V (show IntKind.u64.wrap (((10*nB ((c::r).take q):Nat):Int)+((y.toNat-48:Nat):Int))=((10*nB ((c::r).take q)+(y.toNat-48):Nat):Int) from by rw[u64_in _ (by omega) (by omega)];simp)) ?_;refine Za V V<|ZX<|zY<|Z7r 0 3 4 5 6 7 60 V V V V V V V<|Zm V V<|ZF V (tU V V)<|ZT<|zQ V (fun h70=>?_) (fun h70=>?_)
        ·replace h70:=Jp h70;refine zY<|Z8r 0 3 4 5 6 7 60 70 V V V V V V V V<|ZF V (zZ (off:=3) (sz:=0) V U52 (by kernel_rfl) V) ?_;refine ZS 0 V V V V V (by kernel_rfl) ?_;refine ZT<|Z8r 0 3 4 5 6 7 60 70 V V V V V V V V<|Za V V<|ZT<|zX<|Zm V V<|ZF V (yJ V V (i64_in _ (by omega) (by omega))) ?_;refine Za V V<|zU<|zJ ?_
         have hbig:4294967296≤sL ((c::r).take (q+1)):=by
          have:nB ((c::r).take q)≤sL ((c::r).take q):=Nat.min_le_left _ _;omega
         refine yF (ι:={q:Nat // SpI uT (c::r) q}) ⟨q+1,hqs⟩ (by show (c::r).length-(q+1)<(c::r).length-q;omega) (.cons V<|.cons V<|.cons V<|.cons V<|.cons V<|.cons (by dsimp only;rw[show nB ((c::r).take (q+1))=4294967296 from Nat.min_eq_right hbig];rfl)<|.nil) (fun w h=>by dsimp only;rw[Kv hbig];exact h)
        ·replace h70:=Jq h70;refine zH<|zO<|Z8r 0 3 4 5 6 7 60 70 V V V V V V V V<|Zm V V<|ZF V (yJ V V (i64_in _ (by omega) (by omega))) ?_;refine Za V V<|zU<|zJ ?_
         have hsm:sL ((c::r).take q)<4294967296∧nB ((c::r).take q)=sL ((c::r).take q):=by
          unfold nB at h70 ⊢;omega
         have hsm2:¬4294967296≤sL ((c::r).take (q+1)):=by omega
         refine yF (ι:={q:Nat // SpI uT (c::r) q}) ⟨q+1,hqs⟩ (by show (c::r).length-(q+1)<(c::r).length-q;omega) (.cons V<|.cons V<|.cons V<|.cons V<|.cons V<|.cons (by dsimp only;rw[show nB ((c::r).take (q+1))=10*nB ((c::r).take q)+(y.toNat-48) from by rw[hsm.2,← hdt];exact Nat.min_eq_left (by omega)];rfl)<|.nil) (fun w h=>by dsimp only;rw[Kw hsm2];rw[Kw (show ¬4294967296≤sL ((c::r).take q) by omega)] at h;exact h)
       ·have hqt:(c::r).takeWhile tV=(c::r).take q:=SpI.take (hq.end hx (by simpa using h60));have hT:xP (c::r)=⟨1,0,(c::r).take q,nB ((c::r).take q)⟩:=by rw[rnext_num h45,hqt]
        have hTl:((c::r).take q).length=q:=by rw[Kj];omega
        refine yB<|zN<|zN<|yC<|zO<|zX<|Zm V V ?_
        refine ZF V (rP V (by kernel_rfl) U50 (u32_nB _)) ?_
        refine ZF V (zZ (off:=2) (sz:=0) V U52 (by kernel_rfl) V) ?_;refine ZS 0 V V V V V (by kernel_rfl) ?_;refine zU<|zJ ?_;have hT':xP (c::r)=⟨1,0,(c::r).take q,nB ((c::r).take q)⟩:=hT;refine zF (ι:=Unit) () (.cons V<|.cons V<|.cons V<|.cons V<|.cons (by rw[hT'];dsimp only;rw[hTl];rfl)<|.nil) (fun w h=>by rw[hT'];dsimp only;rw[nB_dec];exact Hp.weakX h fun _ _=>trivial)
     ·refine zY<|Z8r 0 3 4 5 6 18 24 45 V V V V V V V V<|Zm V V<|Zm V V<|ZF V (vN V V U9 V (show l[i+p]? = some c from hat (k:=0) V))<|yS .none V  (v:=.bool (sN c.toNat)) (by kernel_rfl) V (fun w hw=>qQ _ w) ?_;refine Za V V<|ZT<|zQ V (fun h77=>?_) (fun h77=>?_)
      ·refine zY<|yY<|xW (ι:={q:Nat // SpI rN (c::r) q}) (fun q=>[(0,.string ⟨l.toArray⟩),(3,.slice A out.length cap),(4,.int .i64 ((i+p:Nat):Int)),(5,.pointer (some ⟨b5,0,none⟩)),(6,.int .i64 ((i+p+q.1:Nat):Int))]) (fun q=>Hp (fun _=>False) w_0 [(b5,bk 52 [.int .i64 0,.string ⟨#[]⟩,.int .u32 0,.bool false,.int .i64 ((i+p:Nat):Int)])] [⟨.slice A out.length cap,52,5,out.length,xA out⟩] (fun _=>True)) (fun q=>(c::r).length-q.1) ⟨0,Km _,fun _ _ h=>absurd h (by omega)⟩ ?_ ?_ (fun q=>?_)
       ·exact .cons V<|.cons V<|.cons V<|.cons V<|.cons V<|.nil
       ·exact fun w h=>h
       obtain⟨q,hq⟩:=q;dsimp only;have hqle:=hq.le;refine zY<|xH (ι:={x:Bool // x=true↔∃d,(c::r)[q]? = some d∧rN d.toNat=true}) (fun x=>[(0,.string ⟨l.toArray⟩),(3,.slice A out.length cap),(4,.int .i64 ((i+p:Nat):Int)),(5,.pointer (some ⟨b5,0,none⟩)),(6,.int .i64 ((i+p+q:Nat):Int)),(97,.bool x.1)]) (fun _=>Hp (fun _=>False) w_0 [(b5,bk 52 [.int .i64 0,.string ⟨#[]⟩,.int .u32 0,.bool false,.int .i64 ((i+p:Nat):Int)])] [⟨.slice A out.length cap,52,5,out.length,xA out⟩] (fun _=>True)) ?_ (fun x=>?_)
       ·refine zX<|Zm V V<|Zm V V<|ZF V (vV V U9)<|ZF V (xR V V)<|Zm V V<|zG 86 V (fun hb=>?_) (fun hb=>?_)
        ·replace hb:=Jp hb;skip;obtain⟨y,hy⟩:∃y,(c::r)[q]? = some y:=⟨(c::r)[q]'(by omega),Ju _⟩;refine ZG V V V (zR V)<|ZG V V V (zR V)<|ZG V V V (vN V V U9 V (hat hy))<|yS (.some V V) V  (v:=.bool (sN y.toNat)) (by kernel_rfl) V (fun w hw=>qQ _ w) ?_;refine ZG V V V (zR V)<|zG 91 V (fun hl2=>?_) (fun hl2=>?_)
         ·refine ZP V<|ZP V<|ZP V<|ZP V<|ZG V V V (zP V V)<|ZF V (zP V V)<|zU<|zF (ι:={x:Bool // x=true↔∃d,(c::r)[q]? = some d∧rN d.toNat=true}) ⟨true,⟨fun _=>⟨y,hy,by simp[rN,hl2]⟩,fun _=>rfl⟩⟩ (O6 V V V V V V) (fun w h=>h)
         ·refine ZG V V V (zR V)<|ZG V V V (zR V)<|ZG V V V (vN V V U9 V (hat hy))<|yS (.some V V) V  (v:=.bool (uT y.toNat)) (by kernel_rfl) V (fun w hw=>rdigit_any _ w) ?_;refine ZG V V V (zL V V)<|ZF V (zP V V)<|zU<|zF (ι:={x:Bool // x=true↔∃d,(c::r)[q]? = some d∧rN d.toNat=true}) ⟨uT y.toNat,⟨fun h=>⟨y,hy,by simp[rN,h]⟩,fun ⟨d,h1,h2⟩=>by rw[hy] at h1;cases h1;simpa [rN,hl2] using h2⟩⟩ (O6 V V V V V V) (fun w h=>h)
        ·replace hb:=Jq hb;refine ZP V<|ZP V<|ZP V<|ZP V<|ZP V<|yZ V V V<|yZ V V V<|yZ V V V<|yZ V V V<|ZP V<|ZF V (zL V V)<|zU<|zF (ι:={x:Bool // x=true↔∃d,(c::r)[q]? = some d∧rN d.toNat=true}) ⟨false,⟨fun h=>(by cases h),fun ⟨d,h1,_⟩=>by have:=(Jn.1 h1).1;omega⟩⟩ (O6 V V V V V V) (fun w h=>h)
       ·obtain⟨x,hx⟩:=x;dsimp only;refine zQ V (fun h97=>?_) (fun h97=>?_)
        ·obtain⟨y,hy,hyq⟩:=hx.1 h97;have hqs:=hq.step hy hyq;have hql:=hqs.le;refine zH<|zO<|yY<|zX<|Zm V V<|ZF V (yJ V V (i64_in _ (by omega) (by omega))) ?_;refine Za V V<|zU<|zJ<|yF (ι:={q:Nat // SpI rN (c::r) q}) ⟨q+1,hqs⟩ (by show (c::r).length-(q+1)<(c::r).length-q;omega) (O5 V V V V V) (fun w h=>h)
        ·have hqt:(c::r).takeWhile tE=(c::r).take q:=SpI.take (hq.end hx (by simpa using h97));have hT:=rnext_wor (r:=r) (by simpa using h45) h77;rw[hqt] at hT;have hTl:((c::r).take q).length=q:=by rw[Kj];omega
         refine yB<|zN<|zN<|yC<|zO<|zY<|zX<|ZF V (Y52x0 V) ?_;refine ZS 0 V V V V V (by kernel_rfl) ?_;refine ZX<|Z6 0 3 4 5 6 97 V V V V V V<|xV 5 [0,1,2,3,4] (fun _=>True) (by kernel_rfl) (by kernel_rfl) (fun _ _ _=>trivial) (fun _ _=>trivial) (fun n0 hn0=>?_);refine Zd V V V (zR V)<|Zd V V V (zR V)<|Zd V V V (zR V)<|Zd V V V (yf_strSlice V V V U9 (by omega) (by omega) (by omega) (show (l.drop (i+p)).take (i+p+q-(i+p))=(c::r).take q from by rw[hcr,Nat.add_sub_cancel_left])) ?_;refine xZ V<|wd_callX (ι:=Option Addr) (C:=fun _=>True) (val:=fun A=>.slice A uV.length 9) (TT:=fun A F u=>RdF F A (xT uV) u) .none V  (by kernel_rfl) V (fun _ h=>h.elim) (fun _=>RdF.lies) (fun _ _ _ _=>trivial) (fun w hw=>(rkeywords_any w).mono fun e w' ⟨A,e1,e2,e3⟩=>⟨A,trivial,e1,e2,e3⟩) (fun A2 F2 _ hF2=>?_);refine xQ ?_;simp only[Ka,Kf];refine yS .none V  (v:=.bool (decide ((c::r).take q∈uV))) (by kernel_rfl) V (fun w hw=>among_any uV (by decide) _ _ _ w (HpG.x hw).1) ?_;refine Za V V<|ZX<|zY<|Z7r 0 3 4 5 6 8 97 V V V V V V V<|Zm V V<|ZT<|zQ V (fun h107=>?_) (fun h107=>?_)
         ·refine zX<|ZF V (Y52x0 V) ?_;refine ZS 0 V V V V V (by kernel_rfl) ?_;refine ZX<|Z8r 0 3 4 5 6 8 97 107 V V V V V V V V<|Zm V V<|Zm V V<|ZF V (wG V V (i64_in _ (by omega) (by omega))) ?_;refine ZF V (wR V V)<|ZT<|zQ V (fun h112=>?_) (fun h112=>?_)
          ·replace h112:=Jp h112;refine Z9r 0 3 4 5 6 8 97 107 112 V V V V V V V V V<|ZF V (Y52x0 V) ?_;refine ZS 0 V V V V V (by kernel_rfl) ?_;refine zU<|zJ ?_;have hT':xP (c::r)=⟨4,0,(c::r).take q,0⟩:=by rw[hT,Kq (by omega)]
           refine zF (ι:=Unit) () (.cons V<|.cons V<|.cons V<|.cons V<|.cons (by rw[hT'];dsimp only;rw[hTl];rfl)<|.nil) (fun w h=>by rw[hT'];exact Hp.weakX h fun _ _=>trivial)
          ·replace h112:=Jq h112;refine zH<|zJ ?_;have hT':xP (c::r)=⟨3,0,(c::r).take q,0⟩:=by rw[hT,Kp (by omega),Kq (Jp h107)]
           refine zF (ι:=Unit) () (.cons V<|.cons V<|.cons V<|.cons V<|.cons (by rw[hT'];dsimp only;rw[hTl];rfl)<|.nil) (fun w h=>by rw[hT'];exact Hp.weakX h fun _ _=>trivial)
         ·refine zH<|zO<|zY<|zX<|Zm V V<|Zm V V<|ZF V (wG V V (i64_in _ (by omega) (by omega))) ?_;refine ZF V (wR V V)<|ZT<|zQ V (fun h112=>?_) (fun h112=>?_)
          ·replace h112:=Jp h112;refine Z9r 0 3 4 5 6 8 97 107 112 V V V V V V V V V<|ZF V (Y52x0 V) ?_;refine ZS 0 V V V V V (by kernel_rfl) ?_;refine zU<|zJ ?_;have hT':xP (c::r)=⟨4,0,(c::r).take q,0⟩:=by rw[hT,Kq (by omega)]
           refine zF (ι:=Unit) () (.cons V<|.cons V<|.cons V<|.cons V<|.cons (by rw[hT'];dsimp only;rw[hTl];rfl)<|.nil) (fun w h=>by rw[hT'];exact Hp.weakX h fun _ _=>trivial)
          ·replace h112:=Jq h112;refine zH<|zJ ?_;have hT':xP (c::r)=⟨2,0,(c::r).take q,0⟩:=by rw[hT,Kp (by omega),Kp (Jq h107)]
           refine zF (ι:=Unit) () (.cons V<|.cons V<|.cons V<|.cons V<|.cons (by rw[hT'];dsimp only;rw[hTl];rfl)<|.nil) (fun w h=>by rw[hT'];exact Hp.weakX h fun _ _=>trivial)
      ·refine zY<|Z9r 0 3 4 5 6 18 24 45 77 V V V V V V V V V<|ZF V (Y52x0 V) ?_;refine ZS 0 V V V V V (by kernel_rfl) ?_;refine ZX<|Z9r 0 3 4 5 6 18 24 45 77 V V V V V V V V V<|Zm V V<|Zm V V<|Zm V V<|ZF V (yf_strLo V V U9 (by omega) (by omega) (show l.drop (i+p)=c::r from hcr)) ?_;refine yS .none V  (v:=.string ⟨((c::r).take (tD (c::r))).toArray⟩) (by kernel_rfl) V (fun w hw=>rsign_any (c::r) w) ?_;refine ZF V (vV V U9) ?_;have hsy:((c::r).take (tD (c::r))).length=tD (c::r):=by rw[Kj];have:=symL_le c r;omega
       have hsy2:=symL_le c r;refine ZF V (yJ V V (i64_in _ (by omega) (by omega))) ?_;refine Za V V<|ZX<|Z9r 0 3 4 5 6 18 24 45 77 V V V V V V V V V<|Zm V V<|Zm V V<|ZF V (yU V V)<|ZT<|zQ V (fun h43=>?_) (fun h43=>?_)
       ·replace h43:=Jx h43;refine Z10r 0 3 4 5 6 18 24 43 45 77 V V V V V V V V V V<|ZF V (Y52x0 V) ?_;refine ZS 0 V V V V V (by kernel_rfl) ?_;refine zU<|zJ ?_;have hT':xP (c::r)=⟨4,0,(c::r).take (tD (c::r)),0⟩:=by rw[rnext_sym (by simpa using h45) (by simpa using h77),Kq (by omega)]
        refine zF (ι:=Unit) () (.cons V<|.cons V<|.cons V<|.cons V<|.cons (by rw[hT'];rfl)<|.nil) (fun w h=>by rw[hT'];exact Hp.weakX h fun _ _=>trivial)
       ·replace h43:=yM h43;refine zH<|zJ ?_;have hT':xP (c::r)=⟨3,0,(c::r).take (tD (c::r)),0⟩:=by rw[rnext_sym (by simpa using h45) (by simpa using h77),Kp (by omega)]
        refine zF (ι:=Unit) () (.cons V<|.cons V<|.cons V<|.cons V<|.cons (by rw[hT'];rfl)<|.nil) (fun w h=>by rw[hT'];exact Hp.weakX h fun _ _=>trivial)
    ·refine zY<|zX<|Zm V V<|Zm V V<|Zm V V<|ZF V (yf_strSlice V V V U9 (by omega) (by omega) (by omega) (show (l.drop (i+p)).take (i+p+(xP (c::r)).text.length-(i+p))=(xP (c::r)).text from by rw[hcr,Nat.add_sub_cancel_left,rnext_pre])) ?_;refine ZF V (Y52x1 V) ?_;refine ZS 0 V V V V V (by kernel_rfl) ?_;refine ZX<|Z5r 0 3 4 5 6 V V V V V<|Zm V V<|ZF V (yX 0 V V U52 V (by kernel_rfl)) ?_;refine zA .none V (xU (z:=.agg #[.int .i64 0,.string ⟨#[]⟩,.int .u32 0,.bool false,.int .i64 0]) V V U27 (by kernel_rfl) (by kernel_rfl) V V) (fun b121=>?_);refine vS (z:=.agg #[.int .i64 0,.string ⟨#[]⟩,.int .u32 0,.bool false,.int .i64 0]) (bytes:=40) 0 0 .none V V V V V U27 (by kernel_rfl) V V V V V (by omega) (by omega) (fun a122 c122 h122=>?_);refine Za V V<|ZX<|zY<|Z5r 0 3 4 5 6 V V V V V<|ZF V (Y52x0 V) ?_;refine ZF V (zW 1 V V V U3 V)<|ZF V (yU V V)<|ZT<|zQ V (fun h125=>?_) (fun h125=>?_)
     ·replace h125:=Jx h125;refine zY<|Z6r 0 3 4 5 6 125 V V V V V V<|Zm V V<|Za V V<|ZT<|zK<|zV<|zT<|zV<|zT<|zI V V (fun w hw=>?_);have h4:(xP (c::r)).kind=4:=by omega
      have hfin:sA l=out++[⟨(xP (c::r)).kind,i+p,(xP (c::r)).text,(xP (c::r)).value⟩]:=by rw[he,rtokD_bad hcr2 h4,hsp,h4]
      exact⟨a122,c122,by rw[hfin,Jj];rfl,by rw[hfin,Jj];exact h122,(Jr hw).ext,by rw[hfin,rtoksC_one];exact HpG.rowF (j:=0) hw rfl⟩
     ·replace h125:=yM h125;refine zH<|zO<|Z6r 0 3 4 5 6 125 V V V V V V<|Zm V V<|Za V V<|zU<|zJ ?_;have h4:(xP (c::r)).kind≠4:=by omega
      have h1l:=hnl.2 h4;refine yF (ι:={j:(Nat×List Tok)×(Option Addr×Nat) // RkI l j.1.1 j.1.2∧j.1.2.length≤j.2.2}) ⟨((i+p+(xP (c::r)).text.length,out++[⟨(xP (c::r)).kind,i+p,(xP (c::r)).text,(xP (c::r)).value⟩]),(some ⟨a122,0,none⟩,c122)),⟨?_,?_,?_⟩,?_⟩ ?_ ?_ (fun w h=>?_)
      ·show i+p+(xP (c::r)).text.length≤l.length;omega
      ·rw[Jj];show out.length+1≤i+p+(xP (c::r)).text.length;omega
      ·rw[he,rtokD_next hcr2 h4,Kc,hsp];show out++_=out++(_::sT _ (l.drop (i+p+(xP (c::r)).text.length)));rw[← List.drop_drop,hcr]
      ·rw[Jj];exact h122
      ·show l.length-(i+p+(xP (c::r)).text.length)<l.length-i;omega
      ·exact .cons V<|.cons (by dsimp only;rw[Jj];rfl)<|.cons V<|.nil
      ·dsimp only;rw[Jj,rtoksC_one];exact Hp.drop h (Kg _) (Js _)
end Go.Proofs.YtfpkpnkdnammnaaGreatDoor
