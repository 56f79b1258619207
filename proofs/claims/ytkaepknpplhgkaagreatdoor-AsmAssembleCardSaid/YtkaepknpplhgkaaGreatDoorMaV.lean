import Derived.Test.YtkaepknpplhgkaaGreatDoorMaU
namespace Go.Proofs.YtkaepknpplhgkaaGreatDoor
def rY (r:Nat):Bool:=decide (97≤r)&&decide (r≤122)
def uM (r:Nat):Bool:=decide (48≤r)&&decide (r≤57)
def sR (c:UInt8):Bool:=rY c.toNat
def vU (c:UInt8):Bool:=uM c.toNat
def wF (c:UInt8):Bool:=sR c||vU c||decide (c=95)||decide (c=46)
def tZ (c:UInt8):Bool:=sR c||vU c
structure ATk where
 kind:Nat
 s:Bs
 n:Nat
deriving DecidableEq
def tC (c:UInt8):Nat:=if vU c then c.toNat-48 else if sR c then c.toNat-97+10 else 99
def hexP (s:Bs):Bool:=decide (s.take 2=[48,120])&&decide (2<s.length)
def valA (base:Nat) (t:Bs):Nat:=t.foldl (fun v c=>v*base+tC c) 0
def pJ (s:Bs):Except Nat Nat :=
 let t:=if hexP s then s.drop 2 else s
 let base:=if hexP s then 16 else 10
 if t.all (fun c=>decide (tC c<base)) then (if 4294967296≤valA base t then .error 24 else .ok (valA base t)) else .error 20
def sgnL:Bs:=[44,58,91,93,43,45,42]
def yG {α β:Type}(x:Except Nat α) (f:α→Except Nat β):Except Nat β:=match x with
 | .ok a=>f a
 | .error e=>.error e
def oK:Nat→Bs→Except Nat (List ATk)
 | 0,_=>.ok []
 | _+1,[]=>.ok []
 | f+1,c::r =>
  if c=32∨c=9 then oK f r
  else if sR c=true∨c=95∨c=46 then yG (oK f ((c::r).drop ((c::r).takeWhile wF).length)) fun l=>.ok (⟨119,(c::r).takeWhile wF,0⟩::l)
  else if vU c=true then yG (pJ ((c::r).takeWhile tZ)) fun n=>yG (oK f ((c::r).drop ((c::r).takeWhile tZ).length)) fun l=>.ok (⟨48,[],n⟩::l)
  else if c∈sgnL then yG (oK f r) fun l=>.ok (⟨115,[c],0⟩::l)
  else .error 20
def xM (s:Bs):Bs:=s.takeWhile (fun c=>!decide (c=59))
def rN (s:Bs):Except Nat (List ATk):=oK ((xM s).length+1) (xM s)
structure AOp where
 kind:Nat
 r:Int
 name:Bs
 n:Nat
 index:Int
 scale:Int
deriving DecidableEq
def isA (x:Bs) (l:List ATk):Bool:=match l with
 | t::_=>decide (t.kind=115)&&decide (t.s=x)
 | []=>false
def xH (k:Nat) (l:List ATk):Except Nat (ATk×List ATk):=match l with
 | t::r=>if t.kind=k then .ok (t,r) else .error 20
 | []=>.error 20
def pD (x:Bs) (l:List ATk):List ATk:=if isA x l then l.drop 1 else l
def uC (s:Bs):Bool:=decide (1<s.length)&&decide (s.take 1=[114])&&(s.drop 1).all vU
def tG (kind:Int):Nat:=if kind=2 then 16 else 8
def rnmA (i:Nat):Bs:=if i<10 then [114,UInt8.ofNat (48+i)] else [114,49,UInt8.ofNat (38+i)]
def regG (s:Bs):Nat→Nat→Int
 | 0,_=>-1
 | f+1,i=>if s=rnmA i then (i:Int) else regG s f (i+1)
def tR (kind:Int) (s:Bs):Int:=regG s (tG kind) 0
def rgA (kind:Int) (l:List ATk):Except Nat (Int×List ATk):=yG (xH 119 l) fun p=>if tR kind p.1.s<0 then .error 20 else .ok (tR kind p.1.s,p.2)
def tH (s:Bs):Except Nat Bs:=if 32<s.length∨(46:UInt8)∈s∨uC s=true then .error 20 else .ok s
def negA (n:Nat):Nat:=(4294967296-n)%4294967296
def pM (n:Nat):Option Int:=if n=1 then some 0 else if n=2 then some 1 else if n=4 then some 2 else if n=8 then some 3 else none
def vA (o:AOp) (l:List ATk):Except Nat (AOp×List ATk) :=
 yG (if isA [43] l then yG (xH 48 (l.drop 1)) fun p=>.ok (p.1.n,p.2) else if isA [45] l then yG (xH 48 (l.drop 1)) fun p=>.ok (negA p.1.n,p.2) else .ok (0,l)) fun p =>
  if isA [93] p.2 then .ok ({ o with n:=p.1 },p.2.drop 1) else .error 20
def sB (kind:Int) (l:List ATk):Except Nat (AOp×List ATk) :=
 yG (rgA kind l) fun p =>
  if kind=1∧isA [43] p.2=true∧(∃t,p.2[1]? = some t∧t.kind=119) then
   yG (rgA kind (p.2.drop 1)) fun q =>
    if isA [42] q.2 then yG (xH 48 (q.2.drop 1)) fun u=>match pM u.1.n with
     | some c=>vA ⟨109,p.1,[],0,q.1,c⟩ u.2
     | none=>.error 20
    else vA ⟨109,p.1,[],0,q.1,0⟩ q.2
  else vA ⟨109,p.1,[],0,-1,0⟩ p.2
def opA (kind:Int) (l:List ATk):Except Nat (AOp×List ATk) :=
 if isA [91] l then sB kind (l.drop 1)
 else if isA [45] l then yG (xH 48 (l.drop 1)) fun p=>.ok (⟨118,0,[],negA p.1.n,0,0⟩,p.2)
 else if (∃t,l[0]? = some t∧t.kind=48) then yG (xH 48 l) fun p=>.ok (⟨118,0,[],p.1.n,0,0⟩,p.2)
 else yG (xH 119 l) fun p =>
  if 0≤tR kind p.1.s then .ok (⟨114,tR kind p.1.s,[],0,0,0⟩,p.2)
  else yG (tH p.1.s) fun x=>.ok (⟨118,0,x,0,0,0⟩,p.2)
def oM (kind:Int):Nat→Bool→List AOp→List ATk→Except Nat (List AOp)
 | 0,_,acc,_=>.ok acc
 | f+1,first,acc,l =>
  if l=[] then .ok acc
  else if first=false∧isA [44] l=false then .error 20
  else yG (opA kind (if first then l else l.drop 1)) fun p=>oM kind f false (acc++[p.1]) p.2
end Go.Proofs.YtkaepknpplhgkaaGreatDoor
namespace Go.Proofs.YtkaepknpplhgkaaGreatDoor
def byL (n:Nat):UInt8:=UInt8.ofNat n
def wS (n:Nat):Nat→Bs
 | 0=>[]
 | k+1=>byL (n%256)::wS (n/256) k
def wE (n bits:Nat):Bool:=decide (n<2 ^ (bits-1))||decide (4294967296-2 ^ (bits-1)≤n)
def sxL (n bits:Nat):Nat:=if n%2 ^ bits<2 ^ (bits-1) then n%2 ^ bits else n%2 ^ bits+(4294967296-2 ^ bits)
structure KI where
 op:Int
 d:Int
 s:Int
 index:Int
 scale:Int
 imm:Nat
 size:Int
deriving DecidableEq
inductive Fld
 | reg|pair|small|plain|full|index
deriving DecidableEq
def fmtL:List (Int×Int×Nat×List Fld):=[(0,4,1,[]),(16,21,2,[.reg]),(32,46,2,[.pair]),(48,62,3,[.reg,.small]),(64,78,6,[.reg,.full]),(80,86,3,[.pair,.small]),(88,94,7,[.pair,.index,.full]),(96,109,2,[.small]),(112,113,5,[.full]),(128,128,2,[.plain]),(129,130,2,[.pair])]
def fmtF (op:Int):List (Int×Int×Nat×List Fld)→Option (Nat×List Fld)
 | []=>none
 | (a,b,n,l)::r=>if a≤op∧op≤b then some (n,l) else fmtF op r
def pR (op:Int):Option (Nat×List Fld):=fmtF op fmtL
def uD (op:Int):Nat:=match pR op with
 | some (n,_)=>n
 | none=>0
def lowB (x:Int):UInt8:=byL (x%256).toNat
def putF (i:KI):Fld→Bs
 | .reg=>[lowB i.d]
 | .pair=>[lowB (Int.ofNat ((i.d.toNat <<< 4) ||| i.s.toNat))]
 | .small=>[byL (i.imm%256)]
 | .plain=>[byL (i.imm%256)]
 | .full=>wS i.imm 4
 | .index=>if i.index<0 then [8] else [lowB (Int.ofNat ((i.scale.toNat <<< 4) ||| i.index.toNat))]
def getL:Bs→Nat
 | []=>0
 | c::r=>c.toNat+256*getL r
def takeF (b:Bs) (i:KI):Fld→KI×Bs
 | .reg=>({ i with d:=(b.headD 0).toNat },b.drop 1)
 | .pair=>({ i with d:=((b.headD 0).toNat/16:Nat),s:=((b.headD 0).toNat%16:Nat) },b.drop 1)
 | .small=>({ i with imm:=sxL (b.headD 0).toNat 8 },b.drop 1)
 | .plain=>({ i with imm:=(b.headD 0).toNat },b.drop 1)
 | .full=>({ i with imm:=getL (b.take 4) },b.drop 4)
 | .index=>(if b.headD 0=8 then i else { i with index:=((b.headD 0).toNat%16:Nat),scale:=((b.headD 0).toNat/16:Nat) },b.drop 1)
def vZ (b:Bs) (i:KI):List Fld→KI
 | []=>i
 | f::r=>vZ (takeF b i f).2 (takeF b i f).1 r
def oN (i:KI):Bool:=decide (0≤i.d∧i.d≤7)&&decide (0≤i.s∧i.s≤if i.op=129 then 3 else if i.op=130 then 4 else 7)&&decide (-1≤i.index∧i.index≤7)&&decide (0≤i.scale∧i.scale≤3)
def vF (i:KI) (l:List Fld):Bs:=(l.map (putF i)).flatten
def tW (i:KI):Option Bs:=match pR i.op with
 | none=>none
 | some (n,l)=>if i.size=n∧oN i=true∧vZ (vF i l) ⟨i.op,0,0,-1,0,0,n⟩ l=i then some (lowB i.op::vF i l) else none
structure QI where
 op:Int
 d:Int
 a:Int
 b:Int
 imm:Nat
deriving DecidableEq
structure QS where
 d:Bool
 a:Bool
 b:Bool
 kind:Nat
 bits:Nat
 most:Nat
def qU (op:Int):Option QS :=
 if 1≤op∧op≤12 then some ⟨true,true,true,0,0,0⟩
 else if op=17∨op=18∨op=19 then some ⟨true,true,false,2,18,0⟩
 else if 16≤op∧op≤27 then some ⟨true,true,false,1,18,0⟩
 else if 32≤op∧op≤37 then some ⟨true,true,false,1,18,0⟩
 else if op=40 then some ⟨true,false,false,1,22,0⟩
 else if op=41 then some ⟨true,false,false,2,22,0⟩
 else if op=48 then some ⟨false,false,false,2,18,0⟩
 else if op=49∨op=50∨op=51 then some ⟨false,false,false,0,0,0⟩
 else if op=52 then some ⟨false,true,false,0,0,0⟩
 else if op=53 then some ⟨true,false,false,2,18,3⟩
 else if op=54 then some ⟨false,true,false,2,18,4⟩
 else none
def sS (n:Int) (used:Bool):Bool:=decide (n=0)||(used&&decide (0<n)&&decide (n<16))
def immQ (s:QS) (n:Nat):Bool:=if s.kind=0 then decide (n=0) else if s.kind=1 then wE n s.bits else if 0<s.most then decide (n≤s.most) else decide (n/2 ^ s.bits=0)
def tD (i:QI):Option Nat:=match qU i.op with
 | none=>none
 | some s=>if sS i.d s.d=true∧sS i.a s.a=true∧sS i.b s.b=true∧immQ s i.imm=true then some (i.op.toNat*67108864+i.d.toNat*4194304+i.a.toNat*262144+i.b.toNat*16384+i.imm%2 ^ s.bits) else none
inductive KSel
 | always (op:Int)
 | arith (k:Nat)
 | access (k:Nat)
deriving DecidableEq
inductive KFil
 | nothing|second|value|control|target|memory
deriving DecidableEq
inductive AFm
 | byte|word|zero
 | k (sel:KSel) (fil:KFil)
 | q (op:Int)
deriving DecidableEq
structure ASt where
 label:Bs
 op:Bs
 shape:Bs
 l:List AOp
 form:Option AFm
 at_:Nat
 size:Nat
def opK (sel:KSel) (l:List AOp):Int:=match sel with
 | .always op=>op
 | .arith k=>match l[1]? with
  | some o=>if o.name=[]∧wE o.n 8=true then 48+k else 64+k
  | none=>0
 | .access k=>match l[1]? with
  | some o=>if o.index<0∧wE o.n 8=true then 80+k else 88+k
  | none=>0
def uN:AOp:=⟨0,0,[],0,0,0⟩
def sizeA (f:AFm) (l:List AOp):Nat:=match f with
 | .byte=>l.length
 | .word=>4*l.length
 | .zero=>(l.getD 0 uN).n
 | .k sel _=>uD ((opK sel l)%256)
 | .q _=>4
def subW (a b:Nat):Nat:=(a+4294967296-b)%4294967296
def insK (sel:KSel) (fil:KFil) (shape:Bs) (l:List AOp) (v:List Nat) (at_:Nat):KI :=
 let op:=opK sel l
 let i:KI:=⟨op,if shape.headD 0=114 then (l.getD 0 uN).r else 0,0,-1,0,0,uD (op%256)⟩
 match fil with
 | .nothing=>i
 | .second=>{ i with s:=(l.getD 1 uN).r }
 | .value=>{ i with imm:=v.getLastD 0 }
 | .control=>{ i with s:=v.getD 1 0 }
 | .target=>{ i with imm:=subW (subW (v.getD 0 0) at_) (uD (op%256)) }
 | .memory=>{ i with s:=(l.getD 1 uN).r,imm:=(l.getD 1 uN).n,index:=(l.getD 1 uN).index,scale:=(l.getD 1 uN).scale }
def pI (op:Int):Bool:=decide (32≤op∧op≤37)||decide (op=40)
def sgnI (n:Nat):Int:=if n<2147483648 then n else (n:Int)-4294967296
def pH (i:QI) (k:Nat) (r:Int):QI:=if k=0 then { i with d:=r } else if k=1 then { i with a:=r } else { i with b:=r }
def sQ (op:Int):List AOp→List Nat→Nat→QI→QI
 | [],_,_,i=>i
 | o::l,v,k,i =>
  let j:=if op=52∨op=54 then k+1 else k
  sQ op l (v.drop 1) (k+1) (if o.kind=118 then { i with imm:=v.headD 0 } else if o.kind=109 then pH { i with imm:=o.n } j o.r else pH i j o.r)
def bytA (word:Bool):List Nat→Except Nat Bs
 | []=>.ok []
 | n::v=>if word=false∧255<n∧wE n 8=false then .error 13 else yG (bytA word v) fun r=>.ok ((if word then wS n 4 else [byL (n%256)])++r)
def sT (f:AFm) (shape:Bs) (l:List AOp) (v:List Nat) (at_:Nat):Except Nat Bs:=match f with
 | .byte=>bytA false v
 | .word=>bytA true v
 | .zero=>.ok (List.replicate (v.getD 0 0) 0)
 | .k sel fil=>match tW (insK sel fil shape l v at_) with
  | some c=>.ok c
  | none=>.error 13
 | .q op =>
  let i:=sQ op l v 0 ⟨op,0,0,0,0⟩
  if pI op=true then
   (if (sgnI (subW i.imm at_)).tmod 4=0 then
    match tD { i with imm:=((sgnI (subW i.imm at_)).tdiv 4%4294967296).toNat } with
    | some w=>.ok (wS w 4)
    | none=>.error 13
   else .error 13)
  else match tD i with
   | some w=>.ok (wS w 4)
   | none=>.error 13
def noneL:List Bs:=[[110,111,112],[114,101,116],[104,97,108,116],[98,114,101,97,107],[114,101,116,116]]
def singL:List Bs:=[[112,117,115,104],[112,111,112],[110,101,103],[110,111,116],[106,109,112],[99,97,108,108]]
def ariL:List Bs:=[[109,111,118],[97,100,100],[115,117,98],[97,100,99],[115,98,98],[97,110,100],[111,114],[120,111,114],[99,109,112],[116,101,115,116],[109,117,108],[100,105,118],[115,104,108],[115,104,114],[115,97,114]]
def accL:List Bs:=[[108,100],[115,116],[108,100,98],[115,116,98],[97,100,100,109],[109,97,100,100],[108,101,97]]
def wO:List Bs:=[[101,113],[110,101],[99,115],[99,99],[109,105],[112,108],[118,115],[118,99],[104,105],[108,115],[103,101],[108,116],[103,116],[108,101]]
def idxL (l:List Bs):List (Nat×Bs):=(List.range l.length).zip l
def xS:List (Bs×AFm) :=
 (idxL noneL).map (fun p=>(p.2++[32],.k (.always p.1) .nothing))++(idxL singL).map (fun p=>(p.2++[32,114],.k (.always (16+p.1:Nat)) .nothing))
 ++ ((idxL ariL).map fun p=>[(p.2++[32,114,114],AFm.k (.always (32+p.1:Nat)) .second),(p.2++[46,98,32,114,118],.k (.always (48+p.1:Nat)) .value),(p.2++[46,119,32,114,118],.k (.always (64+p.1:Nat)) .value),(p.2++[32,114,118],.k (.arith p.1) .value)]).flatten
 ++ ((idxL accL).map fun p=>[(p.2++[46,120,32,114,109],AFm.k (.always (88+p.1:Nat)) .memory),(p.2++[32,114,109],.k (.access p.1) .memory)]).flatten
 ++ (idxL wO).map (fun p=>(106::p.2++[32,118],.k (.always (96+p.1:Nat)) .target))
 ++ [([106,109,112,32,118],.k (.always 112) .target),([99,97,108,108,32,118],.k (.always 113) .target),([115,121,115,32,118],.k (.always 128) .value),([103,101,116,99,32,114,118],.k (.always 129) .control),([115,101,116,99,32,114,118],.k (.always 130) .control)]
def nS:List (Nat×Bs) :=
 (40,[106,97,108])::(41,[108,117,105])
 :: ((idxL [[97,100,100],[115,117,98],[97,110,100],[111,114],[120,111,114],[115,104,108],[115,104,114],[115,97,114],[109,117,108],[100,105,118,117],[115,108,116,117],[115,108,116]]).map (fun p=>(1+p.1,p.2))
 ++ (idxL [[97,100,100,105],[97,110,100,105],[111,114,105],[120,111,114,105],[115,104,108,105],[115,104,114,105],[115,97,114,105],[108,100,119],[108,100,98],[115,116,119],[115,116,98],[106,97,108,114]]).map (fun p=>(16+p.1,p.2))
 ++ (idxL [[98,101,113],[98,110,101],[98,108,116,117],[98,103,101,117],[98,108,116],[98,103,101]]).map (fun p=>(32+p.1,p.2))
 ++ (idxL [[115,121,115],[98,114,101,97,107],[104,97,108,116],[114,101,116,116],[115,121,110,99],[103,101,116,99],[115,101,116,99]]).map (fun p=>(48+p.1,p.2)))
def rS (op:Nat):Bs:=if op≤12 then [114,114,114] else if 23≤op∧op≤26 then [114,109] else if op<40 then [114,114,118] else if op=48 then [118] else if op=52 then [114] else if 49≤op∧op≤51 then [] else [114,118]
def oJ:List (Bs×AFm):=nS.map fun p=>(p.2++32::rS p.1,.q p.1)
def wR (k:Bs):List (Bs×AFm)→Option AFm
 | []=>none
 | (x,v)::r=>if k=x then some v else wR k r
def tT:Bs:=[46,98,121,116,101]
def uT:Bs:=[46,119,111,114,100]
def xT:Bs:=[46,122,101,114,111]
def qI (op:Bs):Option AFm:=if op=tT then some .byte else if op=uT then some .word else if op=xT then some .zero else none
def wI (kind:Int) (op shape:Bs) (len:Nat):Option AFm:=match qI op with
 | some f=>if shape=[]∨shape.all (fun c=>decide (c=118))=false∨(op=xT∧len≠1) then none else some f
 | none=>wR (op++32::shape) (if kind=2 then oJ else xS)
def xR (l:List AOp):Bs:=l.map fun o=>byL o.kind
def stmA (kind:Int) (label:Bs) (l:List ATk):Except Nat ASt :=
 if l=[] then .ok ⟨label,[],[],[],none,0,0⟩ else
 yG (xH 119 l) fun p =>
 yG (oM kind (p.2.length+1) true [] p.2) fun os =>
 match wI kind p.1.s (xR os) os.length with
 | none=>.error 20
 | some f=>if p.1.s=xT∧¬(p.2.length=1∧(p.2.headD ⟨0,[],0⟩).kind=48) then .error 20 else .ok ⟨label,p.1.s,xR os,os,some f,0,sizeA f os⟩
def nR (kind:Int) (l:List ATk):Except Nat ASt :=
 if 1<l.length∧isA [58] (l.drop 1)=true then yG (xH 119 l) fun p=>yG (tH p.1.s) fun x=>stmA kind x (p.2.drop 1) else stmA kind [] l
def xK:Bs→List Bs
 | []=>[[]]
 | c::r=>match xK r with
  | []=>[[c]]
  | x::l=>if c=10 then []::x::l else (c::x)::l
def tO (x:Bs):List (Bs×Nat)→Option Nat
 | []=>none
 | (y,v)::r=>if x=y then some v else tO x r
def pasF (kind:Int) (org:Nat):List Bs→Nat→Nat→List (Bs×Nat)→List ASt→Except (Nat×Nat) (List ASt×List (Bs×Nat))
 | [],_,_,labels,acc=>.ok (acc,labels)
 | s::r,k,at_,labels,acc=>match yG (rN s) (nR kind) with
  | .error e=>.error (k+1,e)
  | .ok st =>
   if st.label≠[]∧(tO st.label labels).isSome=true then .error (k+1,22)
   else if 65536<at_+st.size then .error (k+1,2)
   else pasF kind org r (k+1) (at_+st.size) (if st.label≠[] then labels++[(st.label,(org+at_)%4294967296)] else labels) (acc++[{ st with at_:=at_ }])
def wP (labels:List (Bs×Nat)):List AOp→Except Nat (List Nat)
 | []=>.ok []
 | o::l=>if o.name≠[] then (match tO o.name labels with
   | some a=>yG (wP labels l) fun r=>.ok (a::r)
   | none=>.error 14) else yG (wP labels l) fun r=>.ok (o.n::r)
def outF (org:Nat) (labels:List (Bs×Nat)):List ASt→Nat→Bs→Except (Nat×Nat) Bs
 | [],_,out=>.ok out
 | s::r,k,out=>match yG (wP labels s.l) (fun v=>match s.form with
   | some f=>sT f s.shape s.l v ((org+s.at_)%4294967296)
   | none=>.ok []) with
  | .error e=>.error (k+1,e)
  | .ok c=>outF org labels r (k+1) (out++c)
def oH (kind:Int) (text:Bs) (org:Nat):Bs×Nat×Nat :=
 if kind≠1∧kind≠2 then ([],0,1) else if 1048576<text.length then ([],0,2) else
 match pasF kind org (xK text) 0 0 [] [] with
 | .error (k,e)=>([],k,e)
 | .ok (l,labels)=>match outF org labels l 0 [] with
  | .error (k,e)=>([],k,e)
  | .ok out=>(out,0,0)
end Go.Proofs.YtkaepknpplhgkaaGreatDoor
namespace Go.Proofs.YtkaepknpplhgkaaGreatDoor
open Go.RowKit
def qR (r:Nat):Bool:=rY r||uM r||decide (r=95)||decide (r=46)
def alnQ (r:Nat):Bool:=rY r||uM r
theorem worB_q (c:UInt8):wF c=qR c.toNat:=by
 unfold wF qR sR vU;rw[show decide (c=95)=decide (c.toNat=95) by rw[decide_eq_decide];exact⟨fun h=>by subst h;rfl,fun h=>UInt8.toNat_inj.1 h⟩,show decide (c=46)=decide (c.toNat=46) by rw[decide_eq_decide];exact⟨fun h=>by subst h;rfl,fun h=>UInt8.toNat_inj.1 h⟩]
theorem worB_fun:wF=fun c=>qR c.toNat:=funext worB_q
def qK (e:Nat):Value:=.iface 25 (.int .i64 e)
theorem qL (r:Nat) (w_0:World):Calls Tryz.prog 121 #[.int .u8 r] w_0 fun e w'=>e=.returned (.bool (rY r))∧Ext w_0 w':=by
 refine zN (args:=[.int .u8 r]) Tryz.func121 M 9 M (Kh M)<|Z1 0 M<|Z0<|zX<|zZ<|Za M M<|ZX<|zZ<|Zm M M<|ZF M (yC M M)<|Zm M M<|zQ 5 M (fun hb=>?_) (fun hb=>?_)
 ·replace hb:=Ki hb;refine Zv M<|ZG M M M (xE M M)<|Zh M<|Za M M<|ZU M M fun w hw=>⟨by congr 2;rw[Kf];simp[rY];try omega,(Kk hw).ext⟩
 replace hb:=Kj hb;refine ZP M<|ZP M<|Zf M<|Za M M<|ZU M M fun w hw=>⟨by congr 2;rw[Kf];simp[rY];try omega,(Kk hw).ext⟩
theorem oZ (r:Nat) (w_0:World):Calls Tryz.prog 123 #[.int .u8 r] w_0 fun e w'=>e=.returned (.bool (uM r))∧Ext w_0 w':=by
 refine zN (args:=[.int .u8 r]) Tryz.func123 M 9 M (Kh M)<|Z1 0 M<|Z0<|zX<|zZ<|Za M M<|ZX<|zZ<|Zm M M<|ZF M (yC M M)<|Zm M M<|zQ 5 M (fun hb=>?_) (fun hb=>?_)
 ·replace hb:=Ki hb;refine Zv M<|ZG M M M (xE M M)<|Zh M<|Za M M<|ZU M M fun w hw=>⟨by congr 2;rw[Kf];simp[uM];try omega,(Kk hw).ext⟩
 replace hb:=Kj hb;refine ZP M<|ZP M<|Zf M<|Za M M<|ZU M M fun w hw=>⟨by congr 2;rw[Kf];simp[uM];try omega,(Kk hw).ext⟩
theorem lexW_any (r:Nat) (w_0:World):Calls Tryz.prog 122 #[.int .u8 r] w_0 fun e w'=>e=.returned (.bool (qR r))∧Ext w_0 w':=by
 refine zN (args:=[.int .u8 r]) Tryz.func122 M 17 M (Kh M)<|Z1 0 M<|Z0<|zX<|zZ<|Za M M<|ZX<|zZ<|Zm M M<|Zu (v:=.bool (rY r)) M (fun w hw=>qL r w)<|Zm M M<|zQ 5 M (fun hb=>?_) (fun hb=>?_)
 ·refine ZP M<|ZP M<|Zh M<|Zm M M<|ZP M<|ZP M<|Zh M<|Zm M M<|ZP M<|ZP M<|Zh M<|Za M M<|ZU M M fun w hw=>⟨by congr 2;rw[Kf];simp_all [qR];try omega,(Kk hw).ext⟩
 skip;refine Zv M<|xW (.some M M) M  (v:=.bool (uM r)) (by kernel_rfl) M (fun w hw=>oZ r w)<|Zf M<|Zm M M<|zQ 9 M (fun hb=>?_) (fun hb=>?_)
 ·refine ZP M<|ZP M<|Zh M<|Zm M M<|ZP M<|ZP M<|Zh M<|Za M M<|ZU M M fun w hw=>⟨by congr 2;rw[Kf];simp_all [qR];try omega,(Kk hw).ext⟩
 skip;refine Zv M<|Zx M<|Zf M<|Zm M M<|zQ 13 M (fun hb=>?_) (fun hb=>?_)
 ·replace hb:=Kq hb;refine ZP M<|ZP M<|Zh M<|Za M M<|ZU M M fun w hw=>⟨by congr 2;rw[Kf];simp_all [qR];try omega,(Kk hw).ext⟩
 replace hb:=yT hb;refine Zv M<|Zx M<|Zf M<|Za M M<|ZU M M fun w hw=>⟨by congr 2;rw[Kf];simp_all [qR];try omega,(Kk hw).ext⟩
theorem lexN_any (r:Nat) (w_0:World):Calls Tryz.prog 125 #[.int .u8 r] w_0 fun e w'=>e=.returned (.bool (alnQ r))∧Ext w_0 w':=by
 refine zN (args:=[.int .u8 r]) Tryz.func125 M 9 M (Kh M)<|Z1 0 M<|Z0<|zX<|zZ<|Za M M<|ZX<|zZ<|Zm M M<|Zu (v:=.bool (rY r)) M (fun w hw=>qL r w)<|Zm M M<|zQ 5 M (fun hb=>?_) (fun hb=>?_)
 ·refine ZP M<|ZP M<|Zh M<|Za M M<|ZU M M fun w hw=>⟨by congr 2;rw[Kf];simp_all [alnQ],(Kk hw).ext⟩
 skip;refine Zv M<|xW (.some M M) M  (v:=.bool (uM r)) (by kernel_rfl) M (fun w hw=>oZ r w)<|Zf M<|Za M M<|ZU M M fun w hw=>⟨by congr 2;rw[Kf];simp_all [alnQ],(Kk hw).ext⟩
end Go.Proofs.YtkaepknpplhgkaaGreatDoor
namespace Go.Proofs.YtkaepknpplhgkaaGreatDoor
def NoNl (x:Bs):Prop:=∀c∈x,c≠10
theorem linA_ne (x:Bs):xK x≠[]:=by
 cases x with
 | nil=>simp[xK]
 | cons c r =>
  rw[xK]
  split
  simp
  split<;>simp
theorem linA_app:∀{x:Bs}(y:Bs),NoNl x→xK (x++10::y)=x::xK y
 | [],y,_=>by
  have h:=linA_ne y;rw[List.nil_append,xK]
  cases hy:xK y with
  | nil=>exact absurd hy h
  | cons z l=>simp
 | c::x,y,h=>by
  rw[List.cons_append,xK,linA_app y fun d hd=>h d (Ky _ hd)];dsimp only;rw[Ag (h c (by simp))]
theorem linA_one:∀{x:Bs},NoNl x→xK x=[x]
 | [],_=>rfl
 | c::x,h=>by
  rw[xK,linA_one fun d hd=>h d (Ky _ hd)];dsimp only;rw[Ag (h c (by simp))]
def liA (kind:Int) (s:Bs):Except Nat ASt:=yG (rN s) (nR kind)
def cdA (st:ASt) (v:List Nat) (a:Nat):Except Nat Bs:=match st.form with
 | some f=>sT f st.shape st.l v a
 | none=>.ok []
theorem outF_cons {org:Nat}{lb:List (Bs×Nat)}{st:ASt}{r:List ASt}{k:Nat}{out:Bs}:outF org lb (st::r) k out=match yG (wP lb st.l) (fun v=>cdA st v ((org+st.at_)%4294967296)) with
  | .error e=>.error (k+1,e)
  | .ok c=>outF org lb r (k+1) (out++c):=rfl
theorem outF_ok {org:Nat}{lb:List (Bs×Nat)}{st:ASt}{r:List ASt}{k:Nat}{out:Bs}{c:Bs}{v:List Nat}(hv:wP lb st.l=.ok v) (h:cdA st v ((org+st.at_)%4294967296)=.ok c):outF org lb (st::r) k out=outF org lb r (k+1) (out++c):=by
 rw[outF_cons,hv]
 show (match cdA st v ((org+st.at_)%4294967296) with
  | .error e=>Except.error (k+1,e)
  | .ok c=>outF org lb r (k+1) (out++c))=_
 rw[h]
end Go.Proofs.YtkaepknpplhgkaaGreatDoor
namespace Go.Proofs.YtkaepknpplhgkaaGreatDoor
theorem valA_snoc (b:Nat) (x:Bs) (d:UInt8):valA b (x++[d])=valA b x*b+tC d:=by unfold valA;rw[List.foldl_append];rfl
theorem dec_dig (u:Nat) (h:u<10):vU (UInt8.ofNat (48+u))=true∧tC (UInt8.ofNat (48+u))=u:=by
 have:∀u,u<10→vU (UInt8.ofNat (48+u))=true∧tC (UInt8.ofNat (48+u))=u:=by decide
 exact this u h
theorem dec_all:∀(k n:Nat),n<k→(∀c∈Lib.decDigits n,vU c=true)∧valA 10 (Lib.decDigits n)=n∧Lib.decDigits n≠[]
 | 0,_,h=>absurd h (by omega)
 | k+1,n,h=>by
  rw[Lib.decDigits]
  split
  ·next h0 =>
   obtain⟨h1,h2⟩:=dec_dig n h0;refine⟨fun c hc=>by cases Ar.1 hc;exact h1,?_,by simp⟩;show 0*10+tC _=n;rw[h2];omega
  ·next h0 =>
   obtain⟨a1,a2,a3⟩:=dec_all k (n/10) (by omega);obtain⟨h1,h2⟩:=dec_dig (n%10) (by omega);refine⟨fun c hc=>?_,?_,by simp⟩
   ·rcases Aq.1 hc with hc|hc;exact a1 c hc
    ·cases Ar.1 hc;exact h1
   rw[valA_snoc,a2,h2];omega
theorem dig_val {c:UInt8}(h:vU c=true):tC c<10:=by
 unfold tC;rw[Ah h];unfold vU uM at h;simp only[Ab,Af] at h;omega
theorem hexP_dig {x:Bs}(h:∀c∈x,vU c=true):hexP x=false:=by
 unfold hexP
 match x with
 | []=>rfl
 | [_]=>simp
 | a::b::r =>
  have hb:=h b (by simp)
  have:¬(List.take 2 (a::b::r)=[48,120]):=fun e=>by
   simp at e;rw[e.2] at hb;exact absurd hb (by decide)
  rw[Ao this];rfl
theorem numA_dec {n:Nat}(h:n<4294967296):pJ (Lib.decDigits n)=.ok n:=by
 obtain⟨h1,h2,_⟩:=dec_all (n+1) n (by omega);unfold pJ;rw[hexP_dig h1];dsimp only;simp only[Bool.false_eq_true,if_false];rw[Ah (List.all_eq_true.2 fun c hc=>An (dig_val (h1 c hc))),h2,Ag (by omega)]
def Stp7 (r:Bs):Prop:=∀c t,r=c::t→wF c=false
theorem alnB_wor {c:UInt8}(h:wF c=false):tZ c=false:=by
 unfold wF at h;unfold tZ;simp only[Bool.or_eq_false_iff] at h ⊢;exact h.1.1
theorem takeW7 {p:UInt8→Bool}:∀{w r:Bs},(∀c∈w,p c=true)→(∀c t,r=c::t→p c=false)→(w++r).takeWhile p=w
 | [],[],_,_=>rfl
 | [],c::t,_,h=>by rw[List.nil_append,List.takeWhile_cons,Ag (by rw[h c t rfl];simp)]
 | c::w,r,hw,h=>by rw[List.cons_append,List.takeWhile_cons,Ah (hw c (by simp)),takeW7 (fun x hx=>hw x (Ky _ hx)) h]
theorem sU:∀{f g:Nat}(s:Bs),s.length<f→s.length<g→oK f s=oK g s
 | 0,_,_,h,_=>absurd h (by omega)
 | _+1,0,_,_,h=>absurd h (by omega)
 | f+1,g+1,[],_,_=>rfl
 | f+1,g+1,c::r,hf,hg=>by
  have hl:(c::r).length=r.length+1:=rfl
  have h1:1≤((c::r).takeWhile wF).length∨¬(sR c=true∨c=95∨c=46):=by
   by_cases h:sR c=true∨c=95∨c=46
   ·left
    have:wF c=true:=by
     unfold wF;rcases h with h|h|h;rw[h];rfl;subst h;rfl;subst h;rfl
    rw[List.takeWhile_cons,Ah this];simp
   exact .inr h
  have h2:1≤((c::r).takeWhile tZ).length∨¬vU c=true:=by
   by_cases h:vU c=true
   ·left
    rw[List.takeWhile_cons,Ah (by unfold tZ;rw[h];simp)];simp
   exact .inr h
  rw[oK,oK]
  split
  exact sU r (by omega) (by omega)
  split
  ·next h =>
   have h3:=h1.resolve_right fun x=>x h;rw[sU (f:=f) (g:=g) ((c::r).drop ((c::r).takeWhile wF).length) (by rw[Kw];omega) (by rw[Kw];omega)]
  split
  ·next h =>
   have h3:=h2.resolve_right fun x=>x h;rw[sU (f:=f) (g:=g) ((c::r).drop ((c::r).takeWhile tZ).length) (by rw[Kw];omega) (by rw[Kw];omega)]
  split
  rw[sU (f:=f) (g:=g) r (by omega) (by omega)];rfl
def vV (s:Bs):Except Nat (List ATk):=oK (s.length+1) s
theorem nP:vV []=.ok []:=rfl
theorem lexD_blank {c:UInt8}{r:Bs}(h:c=32∨c=9):vV (c::r)=vV r:=by
 unfold vV;rw[oK,Ah h];rfl
theorem wor_not {c:UInt8}(h:sR c=true∨c=95∨c=46):¬(c=32∨c=9):=by
 rintro (rfl|rfl)<;>rcases h with h|h|h<;>revert h<;>decide
theorem dig_not {c:UInt8}(h:vU c=true):¬(c=32∨c=9)∧¬(sR c=true∨c=95∨c=46):=by
 refine⟨?_,?_⟩
 ·rintro (rfl|rfl)<;>revert h<;>decide
 rintro (h2|rfl|rfl)
 ·unfold vU uM at h;unfold sR rY at h2;simp only[Ab,Af] at h h2;omega
 ·revert h;decide
 revert h;decide
theorem lexD_word {c:UInt8}{w r:Bs}(h:sR c=true∨c=95∨c=46) (hw:∀x∈w,wF x=true) (hr:Stp7 r):vV (c::w++r)=yG (vV r) fun l=>.ok (⟨119,c::w,0⟩::l):=by
 have hc:wF c=true:=by
  unfold wF;rcases h with h|h|h;rw[h];rfl;subst h;rfl;subst h;rfl
 have ht:(c::w++r).takeWhile wF=c::w:=takeW7 (fun x hx=>by
  rcases List.mem_cons.1 hx with rfl|hx;exact hc
  exact hw x hx) hr
 have e:c::w++r=c::(w++r):=rfl;unfold vV;rw[e,oK,Ag (wor_not h),Ah h,← e,ht,List.drop_left' rfl,sU r (by simp;omega) (Nat.lt_succ_self _)]
theorem lexD_dec {n:Nat}(hn:n<4294967296) {r:Bs}(hr:Stp7 r):vV (Lib.decDigits n++r)=yG (vV r) fun l=>.ok (⟨48,[],n⟩::l):=by
 obtain⟨h1,h2,h3⟩:=dec_all (n+1) n (by omega);have hnum:=numA_dec hn;generalize Lib.decDigits n=x at *
 cases x with
 | nil=>exact absurd rfl h3
 | cons c w =>
  have hc:=h1 c (by simp);have ht:(c::w++r).takeWhile tZ=c::w:=takeW7 (fun x hx=>by unfold tZ;rw[h1 x hx];simp) fun d t e=>alnB_wor (hr d t e);have e:c::w++r=c::(w++r):=rfl;unfold vV;rw[e,oK,Ag (dig_not hc).1,Ag (dig_not hc).2,Ah hc,← e,ht,hnum,List.drop_left' rfl,sU r (by simp;omega) (Nat.lt_succ_self _)];rfl
theorem lexD_sign {c:UInt8}{r:Bs}(h:c∈sgnL):vV (c::r)=yG (vV r) fun l=>.ok (⟨115,[c],0⟩::l):=by
 have h1:∀c∈sgnL,¬(c=32∨c=9)∧¬(sR c=true∨c=95∨c=46)∧¬vU c=true:=by decide
 obtain⟨a1,a2,a3⟩:=h1 c h;unfold vV;rw[oK,Ag a1,Ag a2,Ag a3,Ah h];rfl
end Go.Proofs.YtkaepknpplhgkaaGreatDoor
namespace Go.Proofs.YtkaepknpplhgkaaGreatDoor
open Go.RowKit
structure NuI (base:Nat) (t:Bs) (i n:Nat) (large:Bool):Prop where
 le:i≤t.length
 dig:∀j c,j<i→t[j]? = some c→tC c<base
 n:n=min (valA base (t.take i)) 4294967296
 lg:large=decide (4294967296≤valA base (t.take i))
theorem valA_step {base:Nat}{t:Bs}{i:Nat}{c:UInt8}(h:t[i]? = some c):valA base (t.take (i+1))=valA base (t.take i)*base+tC c:=by
 rw[List.take_add_one,h];exact valA_snoc _ _ _
theorem digA_le (c:UInt8) (h:vU c=true∨sR c=true):tC c≤35:=by
 unfold tC;unfold vU uM sR rY at h;simp only[Ab,Af] at h
 split
 ·next h1=>unfold vU uM at h1;simp only[Ab,Af] at h1;omega
 split
 ·next h1=>unfold sR rY at h1;simp only[Ab,Af] at h1;omega
 ·next h1 h2 =>
  exfalso
  rcases h with h|h;exact h1 (by unfold vU uM;simp only[Ab,Af];exact h);exact h2 (by unfold sR rY;simp only[Ab,Af];exact h)
theorem NuI.step {base:Nat}{t:Bs}{i n:Nat}{large:Bool}(h:NuI base t i n large) {c:UInt8}(hc:t[i]? = some c) (hd:tC c<base) (hb:base≤16) (hb1:1≤base):NuI base t (i+1) (if 4294967296≤n*base+tC c then 4294967296 else n*base+tC c) (if 4294967296≤n*base+tC c then true else large):=by
 have e:=valA_step (base:=base) hc;have hl:=(Kg.1 hc).1;obtain⟨h1,h2,h3,h4⟩:=h;generalize valA base (t.take i)=v at *;have hm:4294967296≤v→4294967296≤v*base:=fun hv=>Ap hv (Nat.le_mul_of_pos_right v hb1);have hm2:4294967296≤4294967296*base:=Nat.le_mul_of_pos_right _ hb1;refine⟨hl,fun j d hj hjd=>?_,?_,?_⟩
 ·rcases Nat.lt_or_ge j i with h5|h5;exact h2 j d h5 hjd;have:j=i:=by omega
  subst this;rw[hc] at hjd;cases hjd;exact hd
 ·rw[e];rcases Nat.lt_or_ge v 4294967296 with hv|hv
  ·rw[show n=v by omega]
   split<;>omega
  rw[show n=4294967296 by omega,Ah (by omega)];have:=hm hv;omega
 rw[e];rcases Nat.lt_or_ge v 4294967296 with hv|hv
 ·rw[show n=v by omega,h4,Ao (show ¬4294967296≤v by omega)]
  split
  ·next h5=>rw[An h5]
  ·next h5=>rw[Ao h5]
 rw[show n=4294967296 by omega,Ah (by omega)];have:=hm hv;rw[An (by omega)]
theorem NuI.zero (base:Nat) (t:Bs):NuI base t 0 0 false:=⟨Ad _,fun j c h _=>absurd h (by omega),rfl,rfl⟩
def oI (s:Bs):Nat:=if hexP s then 16 else 10
def tlA (s:Bs):Bs:=if hexP s then s.drop 2 else s
theorem numA_eq (s:Bs):pJ s=if (tlA s).all (fun c=>decide (tC c<oI s)) then (if 4294967296≤valA (oI s) (tlA s) then .error 24 else .ok (valA (oI s) (tlA s))) else .error 20:=rfl
theorem NuI.bad {s:Bs}{i n:Nat}{large:Bool}(_h:NuI (oI s) (tlA s) i n large) {c:UInt8}(hc:(tlA s)[i]? = some c) (hd:¬tC c<oI s):pJ s=.error 20:=by
 rw[numA_eq,Ag];intro h;rw[List.all_eq_true] at h;exact hd (Ki (h c (Ko hc)))
theorem NuI.fin {s:Bs}{n:Nat}{large:Bool}(h:NuI (oI s) (tlA s) (tlA s).length n large):pJ s=if large=true then .error 24 else .ok n:=by
 obtain⟨h1,h2,h3,h4⟩:=h;rw[Kz] at h3 h4
 rw[numA_eq,Ah (List.all_eq_true.2 fun c hc=>by
  obtain⟨j,hj,e⟩:=List.getElem_of_mem hc
  exact An (h2 j c hj (by rw[Kn hj,e])))]
 by_cases hv:4294967296≤valA (oI s) (tlA s)
 rw[Ah hv,Ah (by rw[h4,An hv])];rw[Ag hv,Ag (by rw[h4,Ao hv];simp),h3];congr 1;omega
end Go.Proofs.YtkaepknpplhgkaaGreatDoor
