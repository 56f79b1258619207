/- The systems language, plainly: texts as lists of bytes, tokens, trees, the parser as functions on fuel. -/
import Derived.Test.YtfpkpnkdnammnaaGreatDoorBase
namespace Go.Proofs.YtfpkpnkdnammnaaGreatDoor

abbrev Bs:=List UInt8
def tK (r:Nat):Bool:=decide (48≤r)&&decide (r≤57)
def sL (r:Nat):Bool:=decide (97≤r)&&decide (r≤122)
def worQ (r:Nat):Bool:=sL r||tK r
def blaQ (r:Nat):Bool:=decide (r=32)||decide (r=9)||decide (r=10)||decide (r=13)
def uF (c:UInt8):Bool:=tK c.toNat
def pS (c:UInt8):Bool:=sL c.toNat
def tG (c:UInt8):Bool:=worQ c.toNat
def vD (c:UInt8):Bool:=blaQ c.toNat
def sK:Bs:=[101,108,115,101]
def kFn:Bs:=[102,110]
def kIf:Bs:=[105,102]
def kIn:Bs:=[105,110]
def kMem:Bs:=[109,101,109]
def kOut:Bs:=[111,117,116]
def kRet:Bs:=[114,101,116,117,114,110]
def kVar:Bs:=[118,97,114]
def kWhile:Bs:=[119,104,105,108,101]
def vB:List Bs:=[sK,kFn,kIf,kIn,kMem,kOut,kRet,kVar,kWhile]
def qI:List Bs:=[[60,61],[62,61],[61,61],[33,61],[60,60],[62,62]]
def qV:Bs:=[40,41,91,93,123,125,44,59,61,43,45,42,47,37,38,124,94,126,33,60,62]
/-- The levels of the binary operators. -/
def levT:List (Bs×Nat):=[([124],0),([94],1),([38],2),([61,61],3),([33,61],3),([60],4),([60,61],4),([62],4),([62,61],4),([60,60],5),([62,62],5),([43],6),([45],6),([42],7),([47],7),([37],7)]
def vH (k:Bs):List (Bs×Nat)→Option Nat
 | []=>none
 | (x,v)::r=>if k=x then some v else vH k r
def vX (k:Bs):Option Nat:=vH k levT
/-! ### Tokens -/
structure Tok where
 kind:Nat
 at_:Nat
 text:Bs
 value:Nat
deriving DecidableEq,Inhabited
def spanL (p:UInt8→Bool) (s:Bs):Nat:=(s.takeWhile p).length
def symL (s:Bs):Nat:=if s.take 2∈qI then 2 else match s with
 | c::_=>if c∈qV then 1 else 0
 | []=>0
/-- The value of a row of digits. -/
def decL (s:Bs):Nat:=s.foldl (fun v c=>10*v+(c.toNat-48)) 0
def yD (s:Bs):Bool:=match s with
 | []=>false
 | c::_=>Nat.ble s.length 12&&!decide (s∈vB)&&pS c&&s.all tG
def wM (s:Bs):Tok:=match s with
 | []=>⟨4,0,[],0⟩
 | c::_ =>
  if uF c then ⟨1,0,s.takeWhile uF,min (decL (s.takeWhile uF)) 4294967296⟩
  else if pS c then ⟨if 12<(s.takeWhile tG).length then 4 else if s.takeWhile tG∈vB then 3 else 2,0,s.takeWhile tG,0⟩
  else if symL s=0 then ⟨4,0,s.take 1,0⟩ else ⟨3,0,s.take (symL s),0⟩
/-- The tokens behind position i; s is what is left. -/
def tokF:Nat→Nat→Bs→List Tok
 | 0,_,_=>[]
 | f+1,i,s =>
  let k:=spanL vD s
  match s.drop k with
  | []=>[⟨0,i+k,[],0⟩]
  | c::r =>
   let t:=wM (c::r)
   ⟨t.kind,i+k,t.text,t.value⟩::tokF f (i+k+t.text.length) ((c::r).drop t.text.length)
def sE (s:Bs):List Tok:=tokF (s.length+1) 0 s
/-! ### Trees -/
inductive Ex where
 | mk (kind n:Nat) (name:Bs) (kids:List Ex)
inductive St where
 | mk (kind:Nat) (name:Bs) (exprs:List Ex) (body els:List St)
structure Fn where
 name:Bs
 params:List Bs
 body:List St
def Ex.kind:Ex→Nat|.mk k _ _ _=>k
def Ex.n:Ex→Nat|.mk _ n _ _=>n
def Ex.name:Ex→Bs|.mk _ _ s _=>s
def Ex.kids:Ex→List Ex|.mk _ _ _ l=>l
def noEx:Ex:=.mk 0 0 [] []
/-! ### The parser -/
structure PS where
 at_:Nat
 err:Nat
 off:Nat
deriving DecidableEq
section
variable (tk:Nat→Tok)
def adv (s:PS):PS:=⟨s.at_+1,s.err,s.off⟩
def sJ (s:PS):PS:=if s.err=0 then ⟨s.at_,if (tk s.at_).kind=1∧4294967296≤(tk s.at_).value then 24 else 20,(tk s.at_).at_⟩ else s
def isP (x:Bs) (s:PS):Bool:=decide (s.err=0)&&decide ((tk s.at_).kind=3)&&decide ((tk s.at_).text=x)
def xD (x:Bs) (s:PS):PS:=bif isP tk x s then adv s else sJ tk s
def wR (s:PS):Bs×PS:=if s.err=0∧(tk s.at_).kind=2 then ((tk s.at_).text,adv s) else ([],sJ tk s)
structure EF where
 prim:PS→Option (Ex×PS)
 un:PS→Option (Ex×PS)
 bin:Nat→PS→Option (Ex×PS)
 loop:Nat→Ex→PS→Option (Ex×PS)
 list:List Ex→PS→Option (List Ex×PS)
def EF.none:EF:=⟨fun _=>.none,fun _=>.none,fun _ _=>.none,fun _ _ _=>.none,fun _ _=>.none⟩
def andThen {α β:Type}(x:Option (α×PS)) (f:α→PS→Option (β×PS)):Option (β×PS):=match x with
 | some (a,s)=>f a s
 | .none=>.none
def vM (r:EF) (s:PS):Option (Ex×PS) :=
 if s.err≠0 then some (noEx,s)
 else if (tk s.at_).kind=1∧(tk s.at_).value<4294967296 then some (.mk 1 (tk s.at_).value [] [],adv s)
 else if (tk s.at_).kind=2 then
  (bif isP tk [40] (adv s) then
   (bif isP tk [41] (adv (adv s)) then some (.mk 3 0 (tk s.at_).text [],adv (adv (adv s)))
   else andThen (r.list [] (adv (adv s))) fun l s'=>some (.mk 3 0 (tk s.at_).text l,s'))
  else some (.mk 2 0 (tk s.at_).text [],adv s))
 else bif isP tk kMem s then andThen (r.bin 0 (xD tk [91] (adv s))) fun e s=>some (.mk 4 0 [] [e],xD tk [93] s)
 else bif isP tk kIn s then some (.mk 5 0 [] [],adv s)
 else bif isP tk [40] s then andThen (r.bin 0 (adv s)) fun e s=>some (e,xD tk [41] s)
 else some (noEx,sJ tk s)
def unS (r:EF) (s:PS):Option (Ex×PS) :=
 bif isP tk [45] s then andThen (r.un (adv s)) fun e s=>some (.mk 6 0 [45] [e],s)
 else bif isP tk [126] s then andThen (r.un (adv s)) fun e s=>some (.mk 6 0 [126] [e],s)
 else bif isP tk [33] s then andThen (r.un (adv s)) fun e s=>some (.mk 6 0 [33] [e],s)
 else r.prim s
def binS (r:EF) (n:Nat) (s:PS):Option (Ex×PS):=andThen (r.un s) fun e s=>r.loop n e s
def tV (r:EF) (n:Nat) (e:Ex) (s:PS):Option (Ex×PS) :=
 if s.err=0∧(tk s.at_).kind=3 then
  match vX (tk s.at_).text with
  | some l=>if l<n then some (e,s) else andThen (r.bin (l+1) (adv s)) fun x s1=>r.loop n (.mk 7 0 (tk s.at_).text [e,x]) s1
  | .none=>some (e,s)
 else some (e,s)
/-- The elements of a list, of which some have been read; the closing parenthesis doesn't follow at once. -/
def rT (r:EF) (acc:List Ex) (s:PS):Option (List Ex×PS) :=
 if s.err≠0 then some (acc,s)
 else andThen (r.bin 0 s) fun e s=>bif isP tk [41] s then some (acc++[e],adv s) else r.list (acc++[e]) (xD tk [44] s)
def exStep (r:EF):EF:=⟨vM tk r,unS tk r,binS r,tV tk r,rT tk r⟩
def exF:Nat→EF
 | 0=>EF.none
 | f+1=>exStep tk (exF f)
structure SF where
 stm:PS→Option (St×PS)
 blk:List St→PS→Option (List St×PS)
def SF.none:SF:=⟨fun _=>.none,fun _ _=>.none⟩
def simS (E:PS→Option (Ex×PS)) (k:Nat) (nm:Bs) (l:List Ex) (s:PS):Option (St×PS):=andThen (E s) fun e s=>some (.mk k nm (l++[e]) [] [],xD tk [59] s)
def tA (r:SF) (s:PS):Option (List St×PS):=r.blk [] (xD tk [123] s)
def sD (E:PS→Option (Ex×PS)) (r:SF) (s:PS):Option (St×PS) :=
 bif isP tk kVar s then simS tk E 1 (wR tk (adv s)).1 [] (xD tk [61] (wR tk (adv s)).2)
 else bif isP tk kIf s then andThen (E (adv s)) fun e s=>andThen (tA tk r s) fun b s =>
  (bif isP tk sK s then andThen (tA tk r (adv s)) fun c s=>some (.mk 4 [] [e] b c,s) else some (.mk 4 [] [e] b [],s))
 else bif isP tk kWhile s then andThen (E (adv s)) fun e s=>andThen (tA tk r s) fun b s=>some (.mk 5 [] [e] b [],s)
 else bif isP tk kRet s then simS tk E 6 [] [] (adv s)
 else bif isP tk kOut s then simS tk E 7 [] [] (adv s)
 else andThen (E s) fun e s1 =>
  if (tk s.at_).kind=2∧e.kind=2∧isP tk [61] s1=true then simS tk E 2 e.name [] (adv s1)
  else if (tk s.at_).text=kMem∧e.kind=4∧isP tk [61] s1=true then simS tk E 3 [] e.kids (adv s1)
  else some (.mk 8 [] [e] [] [],xD tk [59] s1)
def blkS (r:SF) (acc:List St) (s:PS):Option (List St×PS) :=
 if s.err≠0 then some (acc,s)
 else bif isP tk [125] s then some (acc,adv s)
 else andThen (r.stm s) fun x s=>r.blk (acc++[x]) s
def stF (E:PS→Option (Ex×PS)):Nat→SF
 | 0=>SF.none
 | f+1=>⟨sD tk E (stF E f),blkS tk (stF E f)⟩
def parF:Nat→List Bs→PS→Option (List Bs×PS)
 | 0,_,_=>.none
 | f+1,acc,s=>if s.err≠0 then some (acc,s) else
  bif isP tk [41] (wR tk s).2 then some (acc++[(wR tk s).1],adv (wR tk s).2) else parF f (acc++[(wR tk s).1]) (xD tk [44] (wR tk s).2)
def parS (f:Nat) (s:PS):Option (List Bs×PS):=bif isP tk [41] s then some ([],adv s) else parF tk f [] s
def fnS (E:PS→Option (Ex×PS)) (f:Nat) (s:PS):Option (Fn×PS) :=
 andThen (parS tk f (xD tk [40] (wR tk (xD tk kFn s)).2)) fun l s1=>andThen (tA tk (stF tk E f) s1) fun b s2=>some (⟨(wR tk (xD tk kFn s)).1,l,b⟩,s2)
def pY (E:PS→Option (Ex×PS)) (f:Nat):Nat→List Fn→PS→Option (List Fn×PS)
 | 0,_,_=>.none
 | g+1,acc,s=>if s.err=0∧(tk s.at_).kind≠0 then andThen (fnS tk E f s) fun x s=>pY E f g (acc++[x]) s else some (acc,s)
/-- Functions, offset, error. -/
def runP (E:PS→Option (Ex×PS)) (f:Nat):Option (List Fn×Nat×Nat):=match pY tk E f f [] ⟨0,0,0⟩ with
 | some (l,t)=>some (if t.err≠0 then ([],t.off,t.err) else (l,0,0))
 | .none=>.none
end
def noTok:Tok:=⟨0,0,[],0⟩
def tkOf (l:List Tok) (i:Nat):Tok:=l.getD i noTok
def parseF (f:Nat) (s:Bs):Option (List Fn×Nat×Nat) :=
 if 16384<s.length then some ([],0,2) else runP (tkOf (sE s)) ((exF (tkOf (sE s)) f).bin 0) f
end Go.Proofs.YtfpkpnkdnammnaaGreatDoor
