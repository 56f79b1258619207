/- The tokens of a source, plainly. -/
import Derived.Test.YtfpkpnkdnammnaaGreatDoorSyP
namespace Go.Proofs.YtfpkpnkdnammnaaGreatDoor
theorem sM (p:UInt8→Bool) (c:UInt8) (r:Bs) (h:p c=true):1≤((c::r).takeWhile p).length:=by simp[List.takeWhile,h]
theorem vJ (p:UInt8→Bool) (s:Bs):(s.takeWhile p).length≤s.length:=(List.takeWhile_sublist p).length_le
theorem symL_le (c:UInt8) (r:Bs):uJ (c::r)≤(c::r).length:=by
 unfold uJ
 split
 ·rename_i h
  cases r with
  | nil=>exact absurd h (by simp[twoL])
  | cons d r=>simp
 ·dsimp only
  split<;>simp
theorem tC (c:UInt8) (r:Bs):1≤(xD (c::r)).text.length∧(xD (c::r)).text.length≤(c::r).length:=by
 unfold xD;dsimp only
 split
 ·rename_i h;exact⟨sM _ _ _ h,vJ _ _⟩
 ·split
  ·rename_i h;exact⟨sM _ _ _ (by simp[tK,tF];exact .inl h),vJ _ _⟩
  ·have hs:=symL_le c r
   split
   ·simp
   ·dsimp only;rw[List.length_take];omega
theorem sD (p:UInt8→Bool) (s:Bs):spanL p s≤s.length:=vJ p s
theorem tokF_fuel:∀{f g:Nat}(i:Nat) (s:Bs),s.length<f→s.length<g→tokF f i s=tokF g i s
 | 0,_,_,_,h,_=>absurd h (by omega)
 | _+1,0,_,_,_,h=>absurd h (by omega)
 | f+1,g+1,i,s,hf,hg=>by
  unfold tokF;dsimp only
  cases h:s.drop (spanL wE s) with
  | nil=>rfl
  | cons c r =>
   dsimp only;have hl:=tC c r;have hd:(c::r).length≤s.length:=by rw[← h,List.length_drop];omega
   congr 1;exact tokF_fuel _ _ (by rw[List.length_drop];omega) (by rw[List.length_drop];omega)
/-- The tokens behind a position. -/
def tokD (i:Nat) (s:Bs):List Tok:=tokF (s.length+1) i s
theorem tokD_end {i:Nat}{s:Bs}(h:s.drop (spanL wE s)=[]):tokD i s=[⟨0,i+spanL wE s,[],0⟩]:=by
 unfold tokD tokF;dsimp only;rw[h]
theorem tD {i:Nat}{s r:Bs}{c:UInt8}(h:s.drop (spanL wE s)=c::r):tokD i s=⟨(xD (c::r)).kind,i+spanL wE s,(xD (c::r)).text,(xD (c::r)).value⟩::tokD (i+spanL wE s+(xD (c::r)).text.length) ((c::r).drop (xD (c::r)).text.length):=by
 have hl:=tC c r;have hd:(c::r).length≤s.length:=by rw[← h,List.length_drop];omega
 unfold tokD
 conv=>lhs;unfold tokF
 dsimp only;rw[h];dsimp only;congr 1;exact tokF_fuel _ _ (by rw[List.length_drop];omega) (by rw[List.length_drop];omega)
theorem nextL_kind (c:UInt8) (r:Bs):(xD (c::r)).kind≠0:=by
 unfold xD;dsimp only
 repeat' split
 all_goals simp
theorem nextL_mem (c:UInt8) (r:Bs) (h:(xD (c::r)).text=uA):(xD (c::r)).kind=3:=by
 unfold xD at h ⊢;dsimp only at h ⊢
 split at h
 ·rename_i hd
  exfalso
  have:uX 109=true:=by
   have h2:∀x∈(c::r).takeWhile uX,uX x=true:=fun x hx=>List.all_eq_true.1 (List.all_takeWhile (l:=c::r) (p:=uX)) x hx;exact h2 109 (by dsimp only at h;rw[h];decide)
  exact absurd this (by decide)
 ·rename_i hd;rw[if_neg hd]
  split at h
  ·rename_i hl;rw[if_pos hl];dsimp only at h ⊢;rw[h];rfl
  ·rename_i hl;rw[if_neg hl]
   split at h
   ·rename_i h0
    exfalso
    dsimp only at h;have:=congrArg List.length h;simp[uA] at this
   ·rename_i h0;rw[if_neg h0]
theorem nextL_val (c:UInt8) (r:Bs):(xD (c::r)).value≤4294967296∧((xD (c::r)).value≠0→(xD (c::r)).kind=1):=by
 unfold xD;dsimp only
 repeat' split
 all_goals simp
 exact Nat.min_le_right _ _
/-- What holds of every token of a source. -/
structure TkOk (n:Nat) (t:Tok):Prop where
 kind:t.kind≤4
 at_:t.at_≤n
 text:t.text.length≤n
 val:t.value≤4294967296
 num:t.value≠0→t.kind=1
 mem:t.text=uA→t.kind=3
theorem nextL_kle (c:UInt8) (r:Bs):(xD (c::r)).kind≤4:=by
 unfold xD;dsimp only
 repeat' split
 all_goals simp
theorem tokD_ok:∀(k:Nat) (i:Nat) (s:Bs),s.length=k→∀t∈tokD i s,TkOk (i+s.length) t:=by
 intro k
 induction k using Nat.strongRecOn with
 | _ k ih =>
  intro i s hk t ht;have hsp:=sD wE s
  cases h:s.drop (spanL wE s) with
  | nil =>
   rw[tokD_end h] at ht;simp at ht;subst ht;exact⟨by simp,by simp;omega,by simp,by simp,by simp,fun h=>by cases h⟩
  | cons c r =>
   have hl:=tC c r;have hd:(c::r).length+spanL wE s=s.length:=by rw[← h,List.length_drop];omega
   rw[tD h] at ht;rcases List.mem_cons.1 ht with rfl|ht
   ·have hv:=nextL_val c r;exact⟨nextL_kle c r,by dsimp only;omega,by dsimp only;omega,hv.1,hv.2,nextL_mem c r⟩
   ·obtain⟨a,b,c',d,e,f⟩:=ih _ (by rw[List.length_drop];omega) _ _ rfl t ht;rw[List.length_drop] at b c';exact⟨a,by omega,by omega,d,e,f⟩
theorem tokD_ne (i:Nat) (s:Bs):tokD i s≠[]:=by
 cases h:s.drop (spanL wE s) with
 | nil=>rw[tokD_end h];simp
 | cons c r=>rw[tD h];simp
theorem tokD_last:∀(k:Nat) (i:Nat) (s:Bs),s.length=k→∃l a,tokD i s=l++[⟨0,a,[],0⟩]∧(∀t∈l,t.kind≠0)∧l.length≤s.length:=by
 intro k
 induction k using Nat.strongRecOn with
 | _ k ih =>
  intro i s hk
  cases h:s.drop (spanL wE s) with
  | nil=>exact⟨[],_,tokD_end h,by simp,by simp⟩
  | cons c r =>
   have hl:=tC c r;have hd:(c::r).length≤s.length:=by rw[← h,List.length_drop];omega
   obtain⟨l,a,h1,h2,h3⟩:=ih _ (by rw[List.length_drop];omega) (i+spanL wE s+(xD (c::r)).text.length) ((c::r).drop (xD (c::r)).text.length) rfl;rw[List.length_drop] at h3;refine⟨⟨(xD (c::r)).kind,i+spanL wE s,(xD (c::r)).text,(xD (c::r)).value⟩::l,a,by rw[tD h,h1];rfl,fun t ht=>?_,by simp only[List.length_cons] at *;omega⟩;rcases List.mem_cons.1 ht with rfl|ht
   ·exact nextL_kind c r
   ·exact h2 t ht
theorem tokL_eq (s:Bs):uW s=tokD 0 s:=rfl
theorem tkOf_mem {l:List Tok}{i:Nat}(h:i<l.length):uO l i∈l:=by
 unfold uO;rw[List.getD_eq_getElem?_getD,List.getElem?_eq_getElem h];exact List.getElem_mem h
theorem tokL_pos (s:Bs):0<(uW s).length:=List.length_pos_iff.2 (tokD_ne 0 s)
theorem tokL_len (s:Bs):(uW s).length≤s.length+1:=by
 obtain⟨l,a,h1,_,h3⟩:=tokD_last _ 0 s rfl;rw[tokL_eq,h1];simp;omega
theorem tokL_end (s:Bs):(uO (uW s) ((uW s).length-1)).kind=0:=by
 obtain⟨l,a,h1,_,_⟩:=tokD_last _ 0 s rfl;rw[tokL_eq,h1];unfold uO;simp[List.getD_eq_getElem?_getD]
end Go.Proofs.YtfpkpnkdnammnaaGreatDoor
