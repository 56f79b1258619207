/- The systems language, plainly: texts as lists of bytes, tokens, trees, the parser as functions on fuel. -/
import Derived.Test.YtfpkpnkdnammnaaGreatDoorBase
namespace Go.Proofs.YtfpkpnkdnammnaaGreatDoor

abbrev Bs:=List UInt8
def uY (r:Nat):Bool:=decide (48≤r)&&decide (r≤57)
def rX (r:Nat):Bool:=decide (97≤r)&&decide (r≤122)
def tF (r:Nat):Bool:=rX r||uY r
def sG (r:Nat):Bool:=decide (r=32)||decide (r=9)||decide (r=10)||decide (r=13)
def uX (c:UInt8):Bool:=uY c.toNat
def letB (c:UInt8):Bool:=rX c.toNat
def tK (c:UInt8):Bool:=tF c.toNat
def wE (c:UInt8):Bool:=sG c.toNat
def kElse:Bs:=[101,108,115,101]
def kFn:Bs:=[102,110]
def kIf:Bs:=[105,102]
def kIn:Bs:=[105,110]
def uA:Bs:=[109,101,109]
def kOut:Bs:=[111,117,116]
def kRet:Bs:=[114,101,116,117,114,110]
def kVar:Bs:=[118,97,114]
def kWhile:Bs:=[119,104,105,108,101]
def uZ:List Bs:=[kElse,kFn,kIf,kIn,uA,kOut,kRet,kVar,kWhile]
def twoL:List Bs:=[[60,61],[62,61],[61,61],[33,61],[60,60],[62,62]]
def oneL:Bs:=[40,41,91,93,123,125,44,59,61,43,45,42,47,37,38,124,94,126,33,60,62]
/-- The levels of the binary operators. -/
def levT:List (Bs×Nat):=[([124],0),([94],1),([38],2),([61,61],3),([33,61],3),([60],4),([60,61],4),([62],4),([62,61],4),([60,60],5),([62,62],5),([43],6),([45],6),([42],7),([47],7),([37],7)]
def vT (k:Bs):List (Bs×Nat)→Option Nat
 | []=>none
 | (x,v)::r=>if k=x then some v else vT k r
def uR (k:Bs):Option Nat:=vT k levT
/-! ### Tokens -/
structure Tok where
 kind:Nat
 at_:Nat
 text:Bs
 value:Nat
deriving DecidableEq,Inhabited
def spanL (p:UInt8→Bool) (s:Bs):Nat:=(s.takeWhile p).length
def uJ (s:Bs):Nat:=if s.take 2∈twoL then 2 else match s with
 | c::_=>if c∈oneL then 1 else 0
 | []=>0
/-- The value of a row of digits. -/
def tY (s:Bs):Nat:=s.foldl (fun v c=>10*v+(c.toNat-48)) 0
def xK (s:Bs):Bool:=match s with
 | []=>false
 | c::_=>Nat.ble s.length 12&&!decide (s∈uZ)&&letB c&&s.all tK
def xD (s:Bs):Tok:=match s with
 | []=>⟨4,0,[],0⟩
 | c::_ =>
  if uX c then ⟨1,0,s.takeWhile uX,min (tY (s.takeWhile uX)) 4294967296⟩
  else if letB c then ⟨if 12<(s.takeWhile tK).length then 4 else if s.takeWhile tK∈uZ then 3 else 2,0,s.takeWhile tK,0⟩
  else if uJ s=0 then ⟨4,0,s.take 1,0⟩ else ⟨3,0,s.take (uJ s),0⟩
/-- The tokens behind position i; s is what is left. -/
def tokF:Nat→Nat→Bs→List Tok
 | 0,_,_=>[]
 | f+1,i,s =>
  let k:=spanL wE s
  match s.drop k with
  | []=>[⟨0,i+k,[],0⟩]
  | c::r =>
   let t:=xD (c::r)
   ⟨t.kind,i+k,t.text,t.value⟩::tokF f (i+k+t.text.length) ((c::r).drop t.text.length)
def uW (s:Bs):List Tok:=tokF (s.length+1) 0 s
/-! ### Trees -/
inductive Ex where
 | mk (kind n:Nat) (name:Bs) (kids:List Ex)
inductive St where
 | mk (kind:Nat) (name:Bs) (exprs:List Ex) (body els:List St)
structure Fn where
 name:Bs
 params:List Bs
 body:List St
def Ex.kind:Ex→Nat|.mk k _ _ _=>k
def Ex.n:Ex→Nat|.mk _ n _ _=>n
def Ex.name:Ex→Bs|.mk _ _ s _=>s
def Ex.kids:Ex→List Ex|.mk _ _ _ l=>l
def noEx:Ex:=.mk 0 0 [] []
/-! ### The parser -/
structure PS where
 at_:Nat
 err:Nat
 off:Nat
deriving DecidableEq
section
variable (tk:Nat→Tok)
def adv (s:PS):PS:=⟨s.at_+1,s.err,s.off⟩
def vR (s:PS):PS:=if s.err=0 then ⟨s.at_,if (tk s.at_).kind=1∧4294967296≤(tk s.at_).value then 24 else 20,(tk s.at_).at_⟩ else s
def isP (x:Bs) (s:PS):Bool:=decide (s.err=0)&&decide ((tk s.at_).kind=3)&&decide ((tk s.at_).text=x)
def yB (x:Bs) (s:PS):PS:=bif isP tk x s then adv s else vR tk s
def yF (s:PS):Bs×PS:=if s.err=0∧(tk s.at_).kind=2 then ((tk s.at_).text,adv s) else ([],vR tk s)
structure EF where
 prim:PS→Option (Ex×PS)
 un:PS→Option (Ex×PS)
 bin:Nat→PS→Option (Ex×PS)
 loop:Nat→Ex→PS→Option (Ex×PS)
 list:List Ex→PS→Option (List Ex×PS)
def EF.none:EF:=⟨fun _=>.none,fun _=>.none,fun _ _=>.none,fun _ _ _=>.none,fun _ _=>.none⟩
def andThen {α β:Type}(x:Option (α×PS)) (f:α→PS→Option (β×PS)):Option (β×PS):=match x with
 | some (a,s)=>f a s
 | .none=>.none
def wP (r:EF) (s:PS):Option (Ex×PS) :=
 if s.err≠0 then some (noEx,s)
 else if (tk s.at_).kind=1∧(tk s.at_).value<4294967296 then some (.mk 1 (tk s.at_).value [] [],adv s)
 else if (tk s.at_).kind=2 then
  (bif isP tk [40] (adv s) then
   (bif isP tk [41] (adv (adv s)) then some (.mk 3 0 (tk s.at_).text [],adv (adv (adv s)))
   else andThen (r.list [] (adv (adv s))) fun l s'=>some (.mk 3 0 (tk s.at_).text l,s'))
  else some (.mk 2 0 (tk s.at_).text [],adv s))
 else bif isP tk uA s then andThen (r.bin 0 (yB tk [91] (adv s))) fun e s=>some (.mk 4 0 [] [e],yB tk [93] s)
 else bif isP tk kIn s then some (.mk 5 0 [] [],adv s)
 else bif isP tk [40] s then andThen (r.bin 0 (adv s)) fun e s=>some (e,yB tk [41] s)
 else some (noEx,vR tk s)
def unS (r:EF) (s:PS):Option (Ex×PS) :=
 bif isP tk [45] s then andThen (r.un (adv s)) fun e s=>some (.mk 6 0 [45] [e],s)
 else bif isP tk [126] s then andThen (r.un (adv s)) fun e s=>some (.mk 6 0 [126] [e],s)
 else bif isP tk [33] s then andThen (r.un (adv s)) fun e s=>some (.mk 6 0 [33] [e],s)
 else r.prim s
def binS (r:EF) (n:Nat) (s:PS):Option (Ex×PS):=andThen (r.un s) fun e s=>r.loop n e s
def vU (r:EF) (n:Nat) (e:Ex) (s:PS):Option (Ex×PS) :=
 if s.err=0∧(tk s.at_).kind=3 then
  match uR (tk s.at_).text with
  | some l=>if l<n then some (e,s) else andThen (r.bin (l+1) (adv s)) fun x s1=>r.loop n (.mk 7 0 (tk s.at_).text [e,x]) s1
  | .none=>some (e,s)
 else some (e,s)
/-- The elements of a list, of which some have been read; the closing parenthesis doesn't follow at once. -/
def wB (r:EF) (acc:List Ex) (s:PS):Option (List Ex×PS) :=
 if s.err≠0 then some (acc,s)
 else andThen (r.bin 0 s) fun e s=>bif isP tk [41] s then some (acc++[e],adv s) else r.list (acc++[e]) (yB tk [44] s)
def exStep (r:EF):EF:=⟨wP tk r,unS tk r,binS r,vU tk r,wB tk r⟩
def exF:Nat→EF
 | 0=>EF.none
 | f+1=>exStep tk (exF f)
structure SF where
 stm:PS→Option (St×PS)
 blk:List St→PS→Option (List St×PS)
def SF.none:SF:=⟨fun _=>.none,fun _ _=>.none⟩
def simS (E:PS→Option (Ex×PS)) (k:Nat) (nm:Bs) (l:List Ex) (s:PS):Option (St×PS):=andThen (E s) fun e s=>some (.mk k nm (l++[e]) [] [],yB tk [59] s)
def tS (r:SF) (s:PS):Option (List St×PS):=r.blk [] (yB tk [123] s)
def stmS (E:PS→Option (Ex×PS)) (r:SF) (s:PS):Option (St×PS) :=
 bif isP tk kVar s then simS tk E 1 (yF tk (adv s)).1 [] (yB tk [61] (yF tk (adv s)).2)
 else bif isP tk kIf s then andThen (E (adv s)) fun e s=>andThen (tS tk r s) fun b s =>
  (bif isP tk kElse s then andThen (tS tk r (adv s)) fun c s=>some (.mk 4 [] [e] b c,s) else some (.mk 4 [] [e] b [],s))
 else bif isP tk kWhile s then andThen (E (adv s)) fun e s=>andThen (tS tk r s) fun b s=>some (.mk 5 [] [e] b [],s)
 else bif isP tk kRet s then simS tk E 6 [] [] (adv s)
 else bif isP tk kOut s then simS tk E 7 [] [] (adv s)
 else andThen (E s) fun e s1 =>
  if (tk s.at_).kind=2∧e.kind=2∧isP tk [61] s1=true then simS tk E 2 e.name [] (adv s1)
  else if (tk s.at_).text=uA∧e.kind=4∧isP tk [61] s1=true then simS tk E 3 [] e.kids (adv s1)
  else some (.mk 8 [] [e] [] [],yB tk [59] s1)
def sH (r:SF) (acc:List St) (s:PS):Option (List St×PS) :=
 if s.err≠0 then some (acc,s)
 else bif isP tk [125] s then some (acc,adv s)
 else andThen (r.stm s) fun x s=>r.blk (acc++[x]) s
def stF (E:PS→Option (Ex×PS)):Nat→SF
 | 0=>SF.none
 | f+1=>⟨stmS tk E (stF E f),sH tk (stF E f)⟩
def rZ:Nat→List Bs→PS→Option (List Bs×PS)
 | 0,_,_=>.none
 | f+1,acc,s=>if s.err≠0 then some (acc,s) else
  bif isP tk [41] (yF tk s).2 then some (acc++[(yF tk s).1],adv (yF tk s).2) else rZ f (acc++[(yF tk s).1]) (yB tk [44] (yF tk s).2)
def parS (f:Nat) (s:PS):Option (List Bs×PS):=bif isP tk [41] s then some ([],adv s) else rZ tk f [] s
def fnS (E:PS→Option (Ex×PS)) (f:Nat) (s:PS):Option (Fn×PS) :=
 andThen (parS tk f (yB tk [40] (yF tk (yB tk kFn s)).2)) fun l s1=>andThen (tS tk (stF tk E f) s1) fun b s2=>some (⟨(yF tk (yB tk kFn s)).1,l,b⟩,s2)
def sL (E:PS→Option (Ex×PS)) (f:Nat):Nat→List Fn→PS→Option (List Fn×PS)
 | 0,_,_=>.none
 | g+1,acc,s=>if s.err=0∧(tk s.at_).kind≠0 then andThen (fnS tk E f s) fun x s=>sL E f g (acc++[x]) s else some (acc,s)
/-- Functions, offset, error. -/
def runP (E:PS→Option (Ex×PS)) (f:Nat):Option (List Fn×Nat×Nat):=match sL tk E f f [] ⟨0,0,0⟩ with
 | some (l,t)=>some (if t.err≠0 then ([],t.off,t.err) else (l,0,0))
 | .none=>.none
end
def noTok:Tok:=⟨0,0,[],0⟩
def uO (l:List Tok) (i:Nat):Tok:=l.getD i noTok
def sK (f:Nat) (s:Bs):Option (List Fn×Nat×Nat) :=
 if 16384<s.length then some ([],0,2) else runP (uO (uW s)) ((exF (uO (uW s)) f).bin 0) f
end Go.Proofs.YtfpkpnkdnammnaaGreatDoor
