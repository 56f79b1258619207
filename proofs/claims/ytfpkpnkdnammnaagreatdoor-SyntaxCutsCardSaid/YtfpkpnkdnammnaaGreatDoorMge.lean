import Derived.Test.YtfpkpnkdnammnaaGreatDoorBase
namespace Go.Proofs.YtfpkpnkdnammnaaGreatDoor

abbrev Bs:=List UInt8
def vB (r:Nat):Bool:=decide (48≤r)&&decide (r≤57)
def sP (r:Nat):Bool:=decide (97≤r)&&decide (r≤122)
def qO (r:Nat):Bool:=sP r||vB r
def qM (r:Nat):Bool:=decide (r=32)||decide (r=9)||decide (r=10)||decide (r=13)
def vW (c:UInt8):Bool:=vB c.toNat
def qN (c:UInt8):Bool:=sP c.toNat
def vH (c:UInt8):Bool:=qO c.toNat
def wP (c:UInt8):Bool:=qM c.toNat
def tI:Bs:=[101,108,115,101]
def kFn:Bs:=[102,110]
def kIf:Bs:=[105,102]
def kIn:Bs:=[105,110]
def kMem:Bs:=[109,101,109]
def kOut:Bs:=[111,117,116]
def kRet:Bs:=[114,101,116,117,114,110]
def kVar:Bs:=[118,97,114]
def kWhile:Bs:=[119,104,105,108,101]
def vN:List Bs:=[tI,kFn,kIf,kIn,kMem,kOut,kRet,kVar,kWhile]
def rX:List Bs:=[[60,61],[62,61],[61,61],[33,61],[60,60],[62,62]]
def sE:Bs:=[40,41,91,93,123,125,44,59,61,43,45,42,47,37,38,124,94,126,33,60,62]
def levT:List (Bs×Nat):=[([124],0),([94],1),([38],2),([61,61],3),([33,61],3),([60],4),([60,61],4),([62],4),([62,61],4),([60,60],5),([62,62],5),([43],6),([45],6),([42],7),([47],7),([37],7)]
def vC (k:Bs):List (Bs×Nat)→Option Nat
 | []=>none
 | (x,v)::r=>if k=x then some v else vC k r
def wA (k:Bs):Option Nat:=vC k levT
structure Tok where
 kind:Nat
 at_:Nat
 text:Bs
 value:Nat
deriving DecidableEq,Inhabited
def spanL (p:UInt8→Bool) (s:Bs):Nat:=(s.takeWhile p).length
def uZ (s:Bs):Nat:=if s.take 2∈rX then 2 else match s with
 | c::_=>if c∈sE then 1 else 0
 | []=>0
def sV (s:Bs):Nat:=s.foldl (fun v c=>10*v+(c.toNat-48)) 0
def yG (s:Bs):Bool:=match s with
 | []=>false
 | c::_=>Nat.ble s.length 12&&!decide (s∈vN)&&qN c&&s.all vH
def xP (s:Bs):Tok:=match s with
 | []=>⟨4,0,[],0⟩
 | c::_ =>
  if vW c then ⟨1,0,s.takeWhile vW,min (sV (s.takeWhile vW)) 4294967296⟩
  else if qN c then ⟨if 12<(s.takeWhile vH).length then 4 else if s.takeWhile vH∈vN then 3 else 2,0,s.takeWhile vH,0⟩
  else if uZ s=0 then ⟨4,0,s.take 1,0⟩ else ⟨3,0,s.take (uZ s),0⟩
def tokF:Nat→Nat→Bs→List Tok
 | 0,_,_=>[]
 | f+1,i,s =>
  let k:=spanL wP s
  match s.drop k with
  | []=>[⟨0,i+k,[],0⟩]
  | c::r =>
   let t:=xP (c::r)
   ⟨t.kind,i+k,t.text,t.value⟩::tokF f (i+k+t.text.length) ((c::r).drop t.text.length)
def uS (s:Bs):List Tok:=tokF (s.length+1) 0 s
inductive Ex where
 | mk (kind n:Nat) (name:Bs) (kids:List Ex)
inductive St where
 | mk (kind:Nat) (name:Bs) (exprs:List Ex) (body els:List St)
structure Fn where
 name:Bs
 params:List Bs
 body:List St
def Ex.kind:Ex→Nat|.mk k _ _ _=>k
def Ex.n:Ex→Nat|.mk _ n _ _=>n
def Ex.name:Ex→Bs|.mk _ _ s _=>s
def Ex.kids:Ex→List Ex|.mk _ _ _ l=>l
def noEx:Ex:=.mk 0 0 [] []
structure PS where
 at_:Nat
 err:Nat
 off:Nat
deriving DecidableEq
section
variable (tk:Nat→Tok)
def adv (s:PS):PS:=⟨s.at_+1,s.err,s.off⟩
def tE (s:PS):PS:=if s.err=0 then ⟨s.at_,if (tk s.at_).kind=1∧4294967296≤(tk s.at_).value then 24 else 20,(tk s.at_).at_⟩ else s
def isP (x:Bs) (s:PS):Bool:=decide (s.err=0)&&decide ((tk s.at_).kind=3)&&decide ((tk s.at_).text=x)
def yA (x:Bs) (s:PS):PS:=bif isP tk x s then adv s else tE tk s
def xM (s:PS):Bs×PS:=if s.err=0∧(tk s.at_).kind=2 then ((tk s.at_).text,adv s) else ([],tE tk s)
structure EF where
 prim:PS→Option (Ex×PS)
 un:PS→Option (Ex×PS)
 bin:Nat→PS→Option (Ex×PS)
 loop:Nat→Ex→PS→Option (Ex×PS)
 list:List Ex→PS→Option (List Ex×PS)
def EF.none:EF:=⟨fun _=>.none,fun _=>.none,fun _ _=>.none,fun _ _ _=>.none,fun _ _=>.none⟩
def andThen {α β:Type}(x:Option (α×PS)) (f:α→PS→Option (β×PS)):Option (β×PS):=match x with
 | some (a,s)=>f a s
 | .none=>.none
def vS (r:EF) (s:PS):Option (Ex×PS) :=
 if s.err≠0 then some (noEx,s)
 else if (tk s.at_).kind=1∧(tk s.at_).value<4294967296 then some (.mk 1 (tk s.at_).value [] [],adv s)
 else if (tk s.at_).kind=2 then
  (bif isP tk [40] (adv s) then
   (bif isP tk [41] (adv (adv s)) then some (.mk 3 0 (tk s.at_).text [],adv (adv (adv s)))
   else andThen (r.list [] (adv (adv s))) fun l s'=>some (.mk 3 0 (tk s.at_).text l,s'))
  else some (.mk 2 0 (tk s.at_).text [],adv s))
 else bif isP tk kMem s then andThen (r.bin 0 (yA tk [91] (adv s))) fun e s=>some (.mk 4 0 [] [e],yA tk [93] s)
 else bif isP tk kIn s then some (.mk 5 0 [] [],adv s)
 else bif isP tk [40] s then andThen (r.bin 0 (adv s)) fun e s=>some (e,yA tk [41] s)
 else some (noEx,tE tk s)
def unS (r:EF) (s:PS):Option (Ex×PS) :=
 bif isP tk [45] s then andThen (r.un (adv s)) fun e s=>some (.mk 6 0 [45] [e],s)
 else bif isP tk [126] s then andThen (r.un (adv s)) fun e s=>some (.mk 6 0 [126] [e],s)
 else bif isP tk [33] s then andThen (r.un (adv s)) fun e s=>some (.mk 6 0 [33] [e],s)
 else r.prim s
def binS (r:EF) (n:Nat) (s:PS):Option (Ex×PS):=andThen (r.un s) fun e s=>r.loop n e s
def uY (r:EF) (n:Nat) (e:Ex) (s:PS):Option (Ex×PS) :=
 if s.err=0∧(tk s.at_).kind=3 then
  match wA (tk s.at_).text with
  | some l=>if l<n then some (e,s) else andThen (r.bin (l+1) (adv s)) fun x s1=>r.loop n (.mk 7 0 (tk s.at_).text [e,x]) s1
  | .none=>some (e,s)
 else some (e,s)
def sX (r:EF) (acc:List Ex) (s:PS):Option (List Ex×PS) :=
 if s.err≠0 then some (acc,s)
 else andThen (r.bin 0 s) fun e s=>bif isP tk [41] s then some (acc++[e],adv s) else r.list (acc++[e]) (yA tk [44] s)
def exStep (r:EF):EF:=⟨vS tk r,unS tk r,binS r,uY tk r,sX tk r⟩
def exF:Nat→EF
 | 0=>EF.none
 | f+1=>exStep tk (exF f)
structure SF where
 stm:PS→Option (St×PS)
 blk:List St→PS→Option (List St×PS)
def SF.none:SF:=⟨fun _=>.none,fun _ _=>.none⟩
def rA (E:PS→Option (Ex×PS)) (k:Nat) (nm:Bs) (l:List Ex) (s:PS):Option (St×PS):=andThen (E s) fun e s=>some (.mk k nm (l++[e]) [] [],yA tk [59] s)
def vQ (r:SF) (s:PS):Option (List St×PS):=r.blk [] (yA tk [123] s)
def sS (E:PS→Option (Ex×PS)) (r:SF) (s:PS):Option (St×PS) :=
 bif isP tk kVar s then rA tk E 1 (xM tk (adv s)).1 [] (yA tk [61] (xM tk (adv s)).2)
 else bif isP tk kIf s then andThen (E (adv s)) fun e s=>andThen (vQ tk r s) fun b s =>
  (bif isP tk tI s then andThen (vQ tk r (adv s)) fun c s=>some (.mk 4 [] [e] b c,s) else some (.mk 4 [] [e] b [],s))
 else bif isP tk kWhile s then andThen (E (adv s)) fun e s=>andThen (vQ tk r s) fun b s=>some (.mk 5 [] [e] b [],s)
 else bif isP tk kRet s then rA tk E 6 [] [] (adv s)
 else bif isP tk kOut s then rA tk E 7 [] [] (adv s)
 else andThen (E s) fun e s1 =>
  if (tk s.at_).kind=2∧e.kind=2∧isP tk [61] s1=true then rA tk E 2 e.name [] (adv s1)
  else if (tk s.at_).text=kMem∧e.kind=4∧isP tk [61] s1=true then rA tk E 3 [] e.kids (adv s1)
  else some (.mk 8 [] [e] [] [],yA tk [59] s1)
def qV (r:SF) (acc:List St) (s:PS):Option (List St×PS) :=
 if s.err≠0 then some (acc,s)
 else bif isP tk [125] s then some (acc,adv s)
 else andThen (r.stm s) fun x s=>r.blk (acc++[x]) s
def stF (E:PS→Option (Ex×PS)):Nat→SF
 | 0=>SF.none
 | f+1=>⟨sS tk E (stF E f),qV tk (stF E f)⟩
def rK:Nat→List Bs→PS→Option (List Bs×PS)
 | 0,_,_=>.none
 | f+1,acc,s=>if s.err≠0 then some (acc,s) else
  bif isP tk [41] (xM tk s).2 then some (acc++[(xM tk s).1],adv (xM tk s).2) else rK f (acc++[(xM tk s).1]) (yA tk [44] (xM tk s).2)
def pV (f:Nat) (s:PS):Option (List Bs×PS):=bif isP tk [41] s then some ([],adv s) else rK tk f [] s
def fnS (E:PS→Option (Ex×PS)) (f:Nat) (s:PS):Option (Fn×PS) :=
 andThen (pV tk f (yA tk [40] (xM tk (yA tk kFn s)).2)) fun l s1=>andThen (vQ tk (stF tk E f) s1) fun b s2=>some (⟨(xM tk (yA tk kFn s)).1,l,b⟩,s2)
def rL (E:PS→Option (Ex×PS)) (f:Nat):Nat→List Fn→PS→Option (List Fn×PS)
 | 0,_,_=>.none
 | g+1,acc,s=>if s.err=0∧(tk s.at_).kind≠0 then andThen (fnS tk E f s) fun x s=>rL E f g (acc++[x]) s else some (acc,s)
def runP (E:PS→Option (Ex×PS)) (f:Nat):Option (List Fn×Nat×Nat):=match rL tk E f f [] ⟨0,0,0⟩ with
 | some (l,t)=>some (if t.err≠0 then ([],t.off,t.err) else (l,0,0))
 | .none=>.none
end
def noTok:Tok:=⟨0,0,[],0⟩
def vK (l:List Tok) (i:Nat):Tok:=l.getD i noTok
def qT (f:Nat) (s:Bs):Option (List Fn×Nat×Nat) :=
 if 16384<s.length then some ([],0,2) else runP (vK (uS s)) ((exF (vK (uS s)) f).bin 0) f
end Go.Proofs.YtfpkpnkdnammnaaGreatDoor
namespace Go.Proofs.YtfpkpnkdnammnaaGreatDoor
theorem pL (p:UInt8→Bool) (c:UInt8) (r:Bs) (h:p c=true):1≤((c::r).takeWhile p).length:=by simp[List.takeWhile,h]
theorem uA (p:UInt8→Bool) (s:Bs):(s.takeWhile p).length≤s.length:=(List.takeWhile_sublist p).length_le
theorem symL_le (c:UInt8) (r:Bs):uZ (c::r)≤(c::r).length:=by
 unfold uZ
 split
 ·rename_i h
  cases r with
  | nil=>exact absurd h (by simp[rX])
  | cons d r=>simp
 ·dsimp only
  split<;>simp
theorem rZ (c:UInt8) (r:Bs):1≤(xP (c::r)).text.length∧(xP (c::r)).text.length≤(c::r).length:=by
 unfold xP;dsimp only
 split
 ·rename_i h;exact⟨pL _ _ _ h,uA _ _⟩
 ·split
  ·rename_i h;exact⟨pL _ _ _ (by simp[vH,qO];exact .inl h),uA _ _⟩
  ·have hs:=symL_le c r
   split
   ·simp
   ·dsimp only;rw[List.length_take];omega
theorem qJ (p:UInt8→Bool) (s:Bs):spanL p s≤s.length:=uA p s
theorem tokF_fuel:∀{f g:Nat}(i:Nat) (s:Bs),s.length<f→s.length<g→tokF f i s=tokF g i s
 | 0,_,_,_,h,_=>absurd h (by omega)
 | _+1,0,_,_,_,h=>absurd h (by omega)
 | f+1,g+1,i,s,hf,hg=>by
  unfold tokF;dsimp only
  cases h:s.drop (spanL wP s) with
  | nil=>rfl
  | cons c r =>
   dsimp only;have hl:=rZ c r;have hd:(c::r).length≤s.length:=by rw[← h,List.length_drop];omega
   congr 1;exact tokF_fuel _ _ (by rw[List.length_drop];omega) (by rw[List.length_drop];omega)
def pW (i:Nat) (s:Bs):List Tok:=tokF (s.length+1) i s
theorem sT {i:Nat}{s:Bs}(h:s.drop (spanL wP s)=[]):pW i s=[⟨0,i+spanL wP s,[],0⟩]:=by
 unfold pW tokF;dsimp only;rw[h]
theorem uU {i:Nat}{s r:Bs}{c:UInt8}(h:s.drop (spanL wP s)=c::r):pW i s=⟨(xP (c::r)).kind,i+spanL wP s,(xP (c::r)).text,(xP (c::r)).value⟩::pW (i+spanL wP s+(xP (c::r)).text.length) ((c::r).drop (xP (c::r)).text.length):=by
 have hl:=rZ c r;have hd:(c::r).length≤s.length:=by rw[← h,List.length_drop];omega
 unfold pW
 conv=>lhs;unfold tokF
 dsimp only;rw[h];dsimp only;congr 1;exact tokF_fuel _ _ (by rw[List.length_drop];omega) (by rw[List.length_drop];omega)
theorem nextL_kind (c:UInt8) (r:Bs):(xP (c::r)).kind≠0:=by
 unfold xP;dsimp only
 repeat' split
 all_goals simp
theorem nextL_kle (c:UInt8) (r:Bs):(xP (c::r)).kind≤4:=by
 unfold xP;dsimp only
 repeat' split
 all_goals simp
theorem tokD_ne (i:Nat) (s:Bs):pW i s≠[]:=by
 cases h:s.drop (spanL wP s) with
 | nil=>rw[sT h];simp
 | cons c r=>rw[uU h];simp
theorem tokD_last:∀(k:Nat) (i:Nat) (s:Bs),s.length=k→∃l a,pW i s=l++[⟨0,a,[],0⟩]∧(∀t∈l,t.kind≠0)∧l.length≤s.length:=by
 intro k
 induction k using Nat.strongRecOn with
 | _ k ih =>
  intro i s hk
  cases h:s.drop (spanL wP s) with
  | nil=>exact⟨[],_,sT h,by simp,by simp⟩
  | cons c r =>
   have hl:=rZ c r;have hd:(c::r).length≤s.length:=by rw[← h,List.length_drop];omega
   obtain⟨l,a,h1,h2,h3⟩:=ih _ (by rw[List.length_drop];omega) (i+spanL wP s+(xP (c::r)).text.length) ((c::r).drop (xP (c::r)).text.length) rfl;rw[List.length_drop] at h3;refine⟨⟨(xP (c::r)).kind,i+spanL wP s,(xP (c::r)).text,(xP (c::r)).value⟩::l,a,by rw[uU h,h1];rfl,fun t ht=>?_,by simp only[List.length_cons] at *;omega⟩;rcases List.mem_cons.1 ht with rfl|ht
   ·exact nextL_kind c r
   ·exact h2 t ht
theorem tokL_eq (s:Bs):uS s=pW 0 s:=rfl
theorem tkOf_mem {l:List Tok}{i:Nat}(h:i<l.length):vK l i∈l:=by
 unfold vK;rw[List.getD_eq_getElem?_getD,List.getElem?_eq_getElem h];exact List.getElem_mem h
theorem tokL_pos (s:Bs):0<(uS s).length:=List.length_pos_iff.2 (tokD_ne 0 s)
theorem tokL_len (s:Bs):(uS s).length≤s.length+1:=by
 obtain⟨l,a,h1,_,h3⟩:=tokD_last _ 0 s rfl;rw[tokL_eq,h1];simp;omega
theorem tokL_end (s:Bs):(vK (uS s) ((uS s).length-1)).kind=0:=by
 obtain⟨l,a,h1,_,_⟩:=tokD_last _ 0 s rfl;rw[tokL_eq,h1];unfold vK;simp[List.getD_eq_getElem?_getD]
end Go.Proofs.YtfpkpnkdnammnaaGreatDoor
