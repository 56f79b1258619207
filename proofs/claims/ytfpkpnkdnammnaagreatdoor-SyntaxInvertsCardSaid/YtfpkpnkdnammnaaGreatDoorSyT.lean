/- The tokens of a source, plainly. -/
import Derived.Test.YtfpkpnkdnammnaaGreatDoorSyP
namespace Go.Proofs.YtfpkpnkdnammnaaGreatDoor
theorem qH (p:UInt8→Bool) (c:UInt8) (r:Bs) (h:p c=true):1≤((c::r).takeWhile p).length:=by simp[List.takeWhile,h]
theorem sT (p:UInt8→Bool) (s:Bs):(s.takeWhile p).length≤s.length:=(List.takeWhile_sublist p).length_le
theorem symL_le (c:UInt8) (r:Bs):symL (c::r)≤(c::r).length:=by
 unfold symL
 split
 ·rename_i h
  cases r with
  | nil=>exact absurd h (by simp[qI])
  | cons d r=>simp
 ·dsimp only
  split<;>simp
theorem pV (c:UInt8) (r:Bs):1≤(wM (c::r)).text.length∧(wM (c::r)).text.length≤(c::r).length:=by
 unfold wM;dsimp only
 split
 ·rename_i h;exact⟨qH _ _ _ h,sT _ _⟩
 ·split
  ·rename_i h;exact⟨qH _ _ _ (by simp[tG,worQ];exact .inl h),sT _ _⟩
  ·have hs:=symL_le c r
   split
   ·simp
   ·dsimp only;rw[List.length_take];omega
theorem spanL_le (p:UInt8→Bool) (s:Bs):spanL p s≤s.length:=sT p s
theorem tokF_fuel:∀{f g:Nat}(i:Nat) (s:Bs),s.length<f→s.length<g→tokF f i s=tokF g i s
 | 0,_,_,_,h,_=>absurd h (by omega)
 | _+1,0,_,_,_,h=>absurd h (by omega)
 | f+1,g+1,i,s,hf,hg=>by
  unfold tokF;dsimp only
  cases h:s.drop (spanL vD s) with
  | nil=>rfl
  | cons c r =>
   dsimp only;have hl:=pV c r;have hd:(c::r).length≤s.length:=by rw[← h,List.length_drop];omega
   congr 1;exact tokF_fuel _ _ (by rw[List.length_drop];omega) (by rw[List.length_drop];omega)
/-- The tokens behind a position. -/
def tokD (i:Nat) (s:Bs):List Tok:=tokF (s.length+1) i s
theorem rG {i:Nat}{s:Bs}(h:s.drop (spanL vD s)=[]):tokD i s=[⟨0,i+spanL vD s,[],0⟩]:=by
 unfold tokD tokF;dsimp only;rw[h]
theorem sY {i:Nat}{s r:Bs}{c:UInt8}(h:s.drop (spanL vD s)=c::r):tokD i s=⟨(wM (c::r)).kind,i+spanL vD s,(wM (c::r)).text,(wM (c::r)).value⟩::tokD (i+spanL vD s+(wM (c::r)).text.length) ((c::r).drop (wM (c::r)).text.length):=by
 have hl:=pV c r;have hd:(c::r).length≤s.length:=by rw[← h,List.length_drop];omega
 unfold tokD
 conv=>lhs;unfold tokF
 dsimp only;rw[h];dsimp only;congr 1;exact tokF_fuel _ _ (by rw[List.length_drop];omega) (by rw[List.length_drop];omega)
theorem nextL_kind (c:UInt8) (r:Bs):(wM (c::r)).kind≠0:=by
 unfold wM;dsimp only
 repeat' split
 all_goals simp
theorem tokD_ne (i:Nat) (s:Bs):tokD i s≠[]:=by
 cases h:s.drop (spanL vD s) with
 | nil=>rw[rG h];simp
 | cons c r=>rw[sY h];simp
theorem tokD_last:∀(k:Nat) (i:Nat) (s:Bs),s.length=k→∃l a,tokD i s=l++[⟨0,a,[],0⟩]∧(∀t∈l,t.kind≠0)∧l.length≤s.length:=by
 intro k
 induction k using Nat.strongRecOn with
 | _ k ih =>
  intro i s hk
  cases h:s.drop (spanL vD s) with
  | nil=>exact⟨[],_,rG h,by simp,by simp⟩
  | cons c r =>
   have hl:=pV c r;have hd:(c::r).length≤s.length:=by rw[← h,List.length_drop];omega
   obtain⟨l,a,h1,h2,h3⟩:=ih _ (by rw[List.length_drop];omega) (i+spanL vD s+(wM (c::r)).text.length) ((c::r).drop (wM (c::r)).text.length) rfl;rw[List.length_drop] at h3;refine⟨⟨(wM (c::r)).kind,i+spanL vD s,(wM (c::r)).text,(wM (c::r)).value⟩::l,a,by rw[sY h,h1];rfl,fun t ht=>?_,by simp only[List.length_cons] at *;omega⟩;rcases List.mem_cons.1 ht with rfl|ht
   ·exact nextL_kind c r
   ·exact h2 t ht
theorem tokL_eq (s:Bs):sE s=tokD 0 s:=rfl
theorem tokL_pos (s:Bs):0<(sE s).length:=List.length_pos_iff.2 (tokD_ne 0 s)
theorem tokL_len (s:Bs):(sE s).length≤s.length+1:=by
 obtain⟨l,a,h1,_,h3⟩:=tokD_last _ 0 s rfl;rw[tokL_eq,h1];simp;omega
theorem tokL_end (s:Bs):(tkOf (sE s) ((sE s).length-1)).kind=0:=by
 obtain⟨l,a,h1,_,_⟩:=tokD_last _ 0 s rfl;rw[tokL_eq,h1];unfold tkOf;simp[List.getD_eq_getElem?_getD]
end Go.Proofs.YtfpkpnkdnammnaaGreatDoor
