import Derived.Test.YtfpkpnkdnammnaaGreatDoorBase
namespace Go.Proofs.YtfpkpnkdnammnaaGreatDoor

abbrev Bs:=List UInt8
def uY (r:Nat):Bool:=decide (48≤r)&&decide (r≤57)
def sQ (r:Nat):Bool:=decide (97≤r)&&decide (r≤122)
def qS (r:Nat):Bool:=sQ r||uY r
def qQ (r:Nat):Bool:=decide (r=32)||decide (r=9)||decide (r=10)||decide (r=13)
def vW (c:UInt8):Bool:=uY c.toNat
def qR (c:UInt8):Bool:=sQ c.toNat
def vG (c:UInt8):Bool:=qS c.toNat
def wG (c:UInt8):Bool:=qQ c.toNat
def rU:Bs:=[101,108,115,101]
def kFn:Bs:=[102,110]
def kIf:Bs:=[105,102]
def kIn:Bs:=[105,110]
def kMem:Bs:=[109,101,109]
def kOut:Bs:=[111,117,116]
def kRet:Bs:=[114,101,116,117,114,110]
def kVar:Bs:=[118,97,114]
def kWhile:Bs:=[119,104,105,108,101]
def vP:List Bs:=[rU,kFn,kIf,kIn,kMem,kOut,kRet,kVar,kWhile]
def sA:List Bs:=[[60,61],[62,61],[61,61],[33,61],[60,60],[62,62]]
def sI:Bs:=[40,41,91,93,123,125,44,59,61,43,45,42,47,37,38,124,94,126,33,60,62]
def levT:List (Bs×Nat):=[([124],0),([94],1),([38],2),([61,61],3),([33,61],3),([60],4),([60,61],4),([62],4),([62,61],4),([60,60],5),([62,62],5),([43],6),([45],6),([42],7),([47],7),([37],7)]
def uZ (k:Bs):List (Bs×Nat)→Option Nat
 | []=>none
 | (x,v)::r=>if k=x then some v else uZ k r
def vX (k:Bs):Option Nat:=uZ k levT
structure Tok where
 kind:Nat
 at_:Nat
 text:Bs
 value:Nat
deriving DecidableEq,Inhabited
def spanL (p:UInt8→Bool) (s:Bs):Nat:=(s.takeWhile p).length
def uV (s:Bs):Nat:=if s.take 2∈sA then 2 else match s with
 | c::_=>if c∈sI then 1 else 0
 | []=>0
def sV (s:Bs):Nat:=s.foldl (fun v c=>10*v+(c.toNat-48)) 0
def yH (s:Bs):Bool:=match s with
 | []=>false
 | c::_=>Nat.ble s.length 12&&!decide (s∈vP)&&qR c&&s.all vG
def xN (s:Bs):Tok:=match s with
 | []=>⟨4,0,[],0⟩
 | c::_ =>
  if vW c then ⟨1,0,s.takeWhile vW,min (sV (s.takeWhile vW)) 4294967296⟩
  else if qR c then ⟨if 12<(s.takeWhile vG).length then 4 else if s.takeWhile vG∈vP then 3 else 2,0,s.takeWhile vG,0⟩
  else if uV s=0 then ⟨4,0,s.take 1,0⟩ else ⟨3,0,s.take (uV s),0⟩
def tokF:Nat→Nat→Bs→List Tok
 | 0,_,_=>[]
 | f+1,i,s =>
  let k:=spanL wG s
  match s.drop k with
  | []=>[⟨0,i+k,[],0⟩]
  | c::r =>
   let t:=xN (c::r)
   ⟨t.kind,i+k,t.text,t.value⟩::tokF f (i+k+t.text.length) ((c::r).drop t.text.length)
def rQ (s:Bs):List Tok:=tokF (s.length+1) 0 s
inductive Ex where
 | mk (kind n:Nat) (name:Bs) (kids:List Ex)
inductive St where
 | mk (kind:Nat) (name:Bs) (exprs:List Ex) (body els:List St)
structure Fn where
 name:Bs
 params:List Bs
 body:List St
def Ex.kind:Ex→Nat|.mk k _ _ _=>k
def Ex.n:Ex→Nat|.mk _ n _ _=>n
def Ex.name:Ex→Bs|.mk _ _ s _=>s
def Ex.kids:Ex→List Ex|.mk _ _ _ l=>l
def noEx:Ex:=.mk 0 0 [] []
structure PS where
 at_:Nat
 err:Nat
 off:Nat
deriving DecidableEq
section
variable (tk:Nat→Tok)
def adv (s:PS):PS:=⟨s.at_+1,s.err,s.off⟩
def rP (s:PS):PS:=if s.err=0 then ⟨s.at_,if (tk s.at_).kind=1∧4294967296≤(tk s.at_).value then 24 else 20,(tk s.at_).at_⟩ else s
def isP (x:Bs) (s:PS):Bool:=decide (s.err=0)&&decide ((tk s.at_).kind=3)&&decide ((tk s.at_).text=x)
def xG (x:Bs) (s:PS):PS:=bif isP tk x s then adv s else rP tk s
def wN (s:PS):Bs×PS:=if s.err=0∧(tk s.at_).kind=2 then ((tk s.at_).text,adv s) else ([],rP tk s)
structure EF where
 prim:PS→Option (Ex×PS)
 un:PS→Option (Ex×PS)
 bin:Nat→PS→Option (Ex×PS)
 loop:Nat→Ex→PS→Option (Ex×PS)
 list:List Ex→PS→Option (List Ex×PS)
def EF.none:EF:=⟨fun _=>.none,fun _=>.none,fun _ _=>.none,fun _ _ _=>.none,fun _ _=>.none⟩
def andThen {α β:Type}(x:Option (α×PS)) (f:α→PS→Option (β×PS)):Option (β×PS):=match x with
 | some (a,s)=>f a s
 | .none=>.none
def vF (r:EF) (s:PS):Option (Ex×PS) :=
 if s.err≠0 then some (noEx,s)
 else if (tk s.at_).kind=1∧(tk s.at_).value<4294967296 then some (.mk 1 (tk s.at_).value [] [],adv s)
 else if (tk s.at_).kind=2 then
  (bif isP tk [40] (adv s) then
   (bif isP tk [41] (adv (adv s)) then some (.mk 3 0 (tk s.at_).text [],adv (adv (adv s)))
   else andThen (r.list [] (adv (adv s))) fun l s'=>some (.mk 3 0 (tk s.at_).text l,s'))
  else some (.mk 2 0 (tk s.at_).text [],adv s))
 else bif isP tk kMem s then andThen (r.bin 0 (xG tk [91] (adv s))) fun e s=>some (.mk 4 0 [] [e],xG tk [93] s)
 else bif isP tk kIn s then some (.mk 5 0 [] [],adv s)
 else bif isP tk [40] s then andThen (r.bin 0 (adv s)) fun e s=>some (e,xG tk [41] s)
 else some (noEx,rP tk s)
def unS (r:EF) (s:PS):Option (Ex×PS) :=
 bif isP tk [45] s then andThen (r.un (adv s)) fun e s=>some (.mk 6 0 [45] [e],s)
 else bif isP tk [126] s then andThen (r.un (adv s)) fun e s=>some (.mk 6 0 [126] [e],s)
 else bif isP tk [33] s then andThen (r.un (adv s)) fun e s=>some (.mk 6 0 [33] [e],s)
 else r.prim s
def binS (r:EF) (n:Nat) (s:PS):Option (Ex×PS):=andThen (r.un s) fun e s=>r.loop n e s
def tG (r:EF) (n:Nat) (e:Ex) (s:PS):Option (Ex×PS) :=
 if s.err=0∧(tk s.at_).kind=3 then
  match vX (tk s.at_).text with
  | some l=>if l<n then some (e,s) else andThen (r.bin (l+1) (adv s)) fun x s1=>r.loop n (.mk 7 0 (tk s.at_).text [e,x]) s1
  | .none=>some (e,s)
 else some (e,s)
def rB (r:EF) (acc:List Ex) (s:PS):Option (List Ex×PS) :=
 if s.err≠0 then some (acc,s)
 else andThen (r.bin 0 s) fun e s=>bif isP tk [41] s then some (acc++[e],adv s) else r.list (acc++[e]) (xG tk [44] s)
def exStep (r:EF):EF:=⟨vF tk r,unS tk r,binS r,tG tk r,rB tk r⟩
def exF:Nat→EF
 | 0=>EF.none
 | f+1=>exStep tk (exF f)
structure SF where
 stm:PS→Option (St×PS)
 blk:List St→PS→Option (List St×PS)
def SF.none:SF:=⟨fun _=>.none,fun _ _=>.none⟩
def simS (E:PS→Option (Ex×PS)) (k:Nat) (nm:Bs) (l:List Ex) (s:PS):Option (St×PS):=andThen (E s) fun e s=>some (.mk k nm (l++[e]) [] [],xG tk [59] s)
def sG (r:SF) (s:PS):Option (List St×PS):=r.blk [] (xG tk [123] s)
def rN (E:PS→Option (Ex×PS)) (r:SF) (s:PS):Option (St×PS) :=
 bif isP tk kVar s then simS tk E 1 (wN tk (adv s)).1 [] (xG tk [61] (wN tk (adv s)).2)
 else bif isP tk kIf s then andThen (E (adv s)) fun e s=>andThen (sG tk r s) fun b s =>
  (bif isP tk rU s then andThen (sG tk r (adv s)) fun c s=>some (.mk 4 [] [e] b c,s) else some (.mk 4 [] [e] b [],s))
 else bif isP tk kWhile s then andThen (E (adv s)) fun e s=>andThen (sG tk r s) fun b s=>some (.mk 5 [] [e] b [],s)
 else bif isP tk kRet s then simS tk E 6 [] [] (adv s)
 else bif isP tk kOut s then simS tk E 7 [] [] (adv s)
 else andThen (E s) fun e s1 =>
  if (tk s.at_).kind=2∧e.kind=2∧isP tk [61] s1=true then simS tk E 2 e.name [] (adv s1)
  else if (tk s.at_).text=kMem∧e.kind=4∧isP tk [61] s1=true then simS tk E 3 [] e.kids (adv s1)
  else some (.mk 8 [] [e] [] [],xG tk [59] s1)
def blkS (r:SF) (acc:List St) (s:PS):Option (List St×PS) :=
 if s.err≠0 then some (acc,s)
 else bif isP tk [125] s then some (acc,adv s)
 else andThen (r.stm s) fun x s=>r.blk (acc++[x]) s
def stF (E:PS→Option (Ex×PS)):Nat→SF
 | 0=>SF.none
 | f+1=>⟨rN tk E (stF E f),blkS tk (stF E f)⟩
def parF:Nat→List Bs→PS→Option (List Bs×PS)
 | 0,_,_=>.none
 | f+1,acc,s=>if s.err≠0 then some (acc,s) else
  bif isP tk [41] (wN tk s).2 then some (acc++[(wN tk s).1],adv (wN tk s).2) else parF f (acc++[(wN tk s).1]) (xG tk [44] (wN tk s).2)
def parS (f:Nat) (s:PS):Option (List Bs×PS):=bif isP tk [41] s then some ([],adv s) else parF tk f [] s
def fnS (E:PS→Option (Ex×PS)) (f:Nat) (s:PS):Option (Fn×PS) :=
 andThen (parS tk f (xG tk [40] (wN tk (xG tk kFn s)).2)) fun l s1=>andThen (sG tk (stF tk E f) s1) fun b s2=>some (⟨(wN tk (xG tk kFn s)).1,l,b⟩,s2)
def pK (E:PS→Option (Ex×PS)) (f:Nat):Nat→List Fn→PS→Option (List Fn×PS)
 | 0,_,_=>.none
 | g+1,acc,s=>if s.err=0∧(tk s.at_).kind≠0 then andThen (fnS tk E f s) fun x s=>pK E f g (acc++[x]) s else some (acc,s)
def runP (E:PS→Option (Ex×PS)) (f:Nat):Option (List Fn×Nat×Nat):=match pK tk E f f [] ⟨0,0,0⟩ with
 | some (l,t)=>some (if t.err≠0 then ([],t.off,t.err) else (l,0,0))
 | .none=>.none
end
def noTok:Tok:=⟨0,0,[],0⟩
def tO (l:List Tok) (i:Nat):Tok:=l.getD i noTok
def pW (f:Nat) (s:Bs):Option (List Fn×Nat×Nat) :=
 if 16384<s.length then some ([],0,2) else runP (tO (rQ s)) ((exF (tO (rQ s)) f).bin 0) f
end Go.Proofs.YtfpkpnkdnammnaaGreatDoor
namespace Go.Proofs.YtfpkpnkdnammnaaGreatDoor
theorem pX (p:UInt8→Bool) (c:UInt8) (r:Bs) (h:p c=true):1≤((c::r).takeWhile p).length:=by simp[List.takeWhile,h]
theorem tX (p:UInt8→Bool) (s:Bs):(s.takeWhile p).length≤s.length:=(List.takeWhile_sublist p).length_le
theorem symL_le (c:UInt8) (r:Bs):uV (c::r)≤(c::r).length:=by
 unfold uV
 split
 ·rename_i h
  cases r with
  | nil=>exact absurd h (by simp[sA])
  | cons d r=>simp
 ·dsimp only
  split<;>simp
theorem rM (c:UInt8) (r:Bs):1≤(xN (c::r)).text.length∧(xN (c::r)).text.length≤(c::r).length:=by
 unfold xN;dsimp only
 split
 ·rename_i h;exact⟨pX _ _ _ h,tX _ _⟩
 ·split
  ·rename_i h;exact⟨pX _ _ _ (by simp[vG,qS];exact .inl h),tX _ _⟩
  ·have hs:=symL_le c r
   split
   ·simp
   ·dsimp only;rw[List.length_take];omega
theorem spanL_le (p:UInt8→Bool) (s:Bs):spanL p s≤s.length:=tX p s
theorem tokF_fuel:∀{f g:Nat}(i:Nat) (s:Bs),s.length<f→s.length<g→tokF f i s=tokF g i s
 | 0,_,_,_,h,_=>absurd h (by omega)
 | _+1,0,_,_,_,h=>absurd h (by omega)
 | f+1,g+1,i,s,hf,hg=>by
  unfold tokF;dsimp only
  cases h:s.drop (spanL wG s) with
  | nil=>rfl
  | cons c r =>
   dsimp only;have hl:=rM c r;have hd:(c::r).length≤s.length:=by rw[← h,List.length_drop];omega
   congr 1;exact tokF_fuel _ _ (by rw[List.length_drop];omega) (by rw[List.length_drop];omega)
def pY (i:Nat) (s:Bs):List Tok:=tokF (s.length+1) i s
theorem rY {i:Nat}{s:Bs}(h:s.drop (spanL wG s)=[]):pY i s=[⟨0,i+spanL wG s,[],0⟩]:=by
 unfold pY tokF;dsimp only;rw[h]
theorem uE {i:Nat}{s r:Bs}{c:UInt8}(h:s.drop (spanL wG s)=c::r):pY i s=⟨(xN (c::r)).kind,i+spanL wG s,(xN (c::r)).text,(xN (c::r)).value⟩::pY (i+spanL wG s+(xN (c::r)).text.length) ((c::r).drop (xN (c::r)).text.length):=by
 have hl:=rM c r;have hd:(c::r).length≤s.length:=by rw[← h,List.length_drop];omega
 unfold pY
 conv=>lhs;unfold tokF
 dsimp only;rw[h];dsimp only;congr 1;exact tokF_fuel _ _ (by rw[List.length_drop];omega) (by rw[List.length_drop];omega)
theorem nextL_kind (c:UInt8) (r:Bs):(xN (c::r)).kind≠0:=by
 unfold xN;dsimp only
 repeat' split
 all_goals simp
theorem nextL_kle (c:UInt8) (r:Bs):(xN (c::r)).kind≤4:=by
 unfold xN;dsimp only
 repeat' split
 all_goals simp
theorem tokD_ne (i:Nat) (s:Bs):pY i s≠[]:=by
 cases h:s.drop (spanL wG s) with
 | nil=>rw[rY h];simp
 | cons c r=>rw[uE h];simp
theorem tokD_last:∀(k:Nat) (i:Nat) (s:Bs),s.length=k→∃l a,pY i s=l++[⟨0,a,[],0⟩]∧(∀t∈l,t.kind≠0)∧l.length≤s.length:=by
 intro k
 induction k using Nat.strongRecOn with
 | _ k ih =>
  intro i s hk
  cases h:s.drop (spanL wG s) with
  | nil=>exact⟨[],_,rY h,by simp,by simp⟩
  | cons c r =>
   have hl:=rM c r;have hd:(c::r).length≤s.length:=by rw[← h,List.length_drop];omega
   obtain⟨l,a,h1,h2,h3⟩:=ih _ (by rw[List.length_drop];omega) (i+spanL wG s+(xN (c::r)).text.length) ((c::r).drop (xN (c::r)).text.length) rfl;rw[List.length_drop] at h3;refine⟨⟨(xN (c::r)).kind,i+spanL wG s,(xN (c::r)).text,(xN (c::r)).value⟩::l,a,by rw[uE h,h1];rfl,fun t ht=>?_,by simp only[List.length_cons] at *;omega⟩;rcases List.mem_cons.1 ht with rfl|ht
   ·exact nextL_kind c r
   ·exact h2 t ht
theorem tokL_eq (s:Bs):rQ s=pY 0 s:=rfl
theorem tkOf_mem {l:List Tok}{i:Nat}(h:i<l.length):tO l i∈l:=by
 unfold tO;rw[List.getD_eq_getElem?_getD,List.getElem?_eq_getElem h];exact List.getElem_mem h
theorem tokL_pos (s:Bs):0<(rQ s).length:=List.length_pos_iff.2 (tokD_ne 0 s)
theorem tokL_len (s:Bs):(rQ s).length≤s.length+1:=by
 obtain⟨l,a,h1,_,h3⟩:=tokD_last _ 0 s rfl;rw[tokL_eq,h1];simp;omega
theorem tokL_end (s:Bs):(tO (rQ s) ((rQ s).length-1)).kind=0:=by
 obtain⟨l,a,h1,_,_⟩:=tokD_last _ 0 s rfl;rw[tokL_eq,h1];unfold tO;simp[List.getD_eq_getElem?_getD]
end Go.Proofs.YtfpkpnkdnammnaaGreatDoor
