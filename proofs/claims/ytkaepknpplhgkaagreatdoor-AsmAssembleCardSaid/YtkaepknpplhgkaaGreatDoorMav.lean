import Derived.Test.YtkaepknpplhgkaaGreatDoorMaZ
import Derived.Test.YtkaepknpplhgkaaGreatDoorMal
import Derived.Test.YtkaepknpplhgkaaGreatDoorMaa
import Derived.Test.YtkaepknpplhgkaaGreatDoorMan
namespace Go.Proofs.YtkaepknpplhgkaaGreatDoor
def Com (r:List ATk):Prop:=r=[]∨isA [44] r=true
theorem oY {x:Bs}(hx:x≠[44]) {r:List ATk}(hr:Com r):∀p:List ATk,isA x (p++r)=isA x p
 | t::p=>rfl
 | []=>by
  rcases hr with rfl|hr;rfl
  ·cases r with
   | nil=>rfl
   | cons t r =>
    show (decide (t.kind=115)&&decide (t.s=x))=false
    have:t.s=[44]:=by
     unfold isA at hr;simp only[Ab,Af] at hr;exact hr.2
    rw[this,show decide ([44]=x)=false from Ao (fun h=>hx h.symm),Bool.and_false]
def lft {α:Type}(r:List ATk) (x:Except Nat (α×List ATk)):Except Nat (α×List ATk):=match x with
 | .ok (a,q)=>.ok (a,q++r)
 | .error e=>.error e
theorem tB {α β:Type}{r:List ATk}{x:Except Nat (α×List ATk)}{f g:α×List ATk→Except Nat (β×List ATk)}(h:∀a q,f (a,q++r)=lft r (g (a,q))):yG (lft r x) f=lft r (yG x g):=by
 match x with
 | .ok (a,q)=>exact h a q
 | .error e=>rfl
theorem rW {k:Nat}(hk:k≠115) {r:List ATk}(hr:Com r):∀p:List ATk,xH k (p++r)=lft r (xH k p)
 | t::p=>by
  unfold xH;simp only[List.cons_append]
  split<;>rfl
 | []=>by
  rcases hr with rfl|hr;rfl
  ·cases r with
   | nil=>rfl
   | cons t r =>
    have:t.kind=115:=by
     unfold isA at hr;simp only[Ab,Af] at hr;exact hr.1
    show (if t.kind=k then _ else _)=_;rw[Ag (by omega)];rfl
theorem pP {x:Bs}{p r:List ATk}(h:isA x p=true):(p++r).drop 1=p.drop 1++r:=by
 cases p with
 | nil=>cases h
 | cons t p=>rfl
theorem rgA_loc (kind:Int) {r:List ATk}(hr:Com r) (p:List ATk):rgA kind (p++r)=lft r (rgA kind p):=by
 unfold rgA;rw[rW (by decide) hr];refine tB fun a q=>?_;dsimp only
 split<;>rfl
theorem tailA_loc (o:AOp) {r:List ATk}(hr:Com r) (p:List ATk):vA o (p++r)=lft r (vA o p):=by
 have key:(if isA [43] (p++r) then yG (xH 48 ((p++r).drop 1)) fun p=>.ok (p.1.n,p.2) else if isA [45] (p++r) then yG (xH 48 ((p++r).drop 1)) fun p=>.ok (negA p.1.n,p.2) else .ok (0,p++r))=lft r (if isA [43] p then yG (xH 48 (p.drop 1)) fun p=>.ok (p.1.n,p.2) else if isA [45] p then yG (xH 48 (p.drop 1)) fun p=>.ok (negA p.1.n,p.2) else .ok (0,p)):=by
  rw[oY (by decide) hr,oY (by decide) hr]
  by_cases h1:isA [43] p=true
  ·rw[Ah h1,Ah h1,pP h1,rW (by decide) hr];exact tB fun a q=>rfl
  rw[Ag h1,Ag h1]
  by_cases h2:isA [45] p=true
  ·rw[Ah h2,Ah h2,pP h2,rW (by decide) hr];exact tB fun a q=>rfl
  rw[Ag h2,Ag h2];rfl
 unfold vA;rw[key];refine tB fun a q=>?_;dsimp only;rw[oY (by decide) hr]
 by_cases h:isA [93] q=true
 rw[Ah h,Ah h,pP h];rfl;rw[Ag h,Ag h];rfl
theorem at1_loc {r:List ATk}(hr:Com r) {p:List ATk}(h:p≠[]):(∃t,(p++r)[1]? = some t∧t.kind=119)↔(∃t,p[1]? = some t∧t.kind=119):=by
 match p,h with
 | [a],_ =>
  constructor
  ·rintro⟨t,h1,h2⟩
   rcases hr with rfl|hr
   ·cases h1
   ·cases r with
    | nil=>cases h1
    | cons u r =>
     obtain rfl:u=t:=by simpa using h1
     unfold isA at hr;simp only[Ab,Af] at hr;omega
  rintro⟨t,h1,_⟩
  cases h1
 | a::b::p,_=>exact Iff.rfl
theorem ne_isA {x:Bs}{p:List ATk}(h:isA x p=true):p≠[]:=by
 rintro rfl
 cases h
theorem memA_loc (kind:Int) {r:List ATk}(hr:Com r) (p:List ATk):sB kind (p++r)=lft r (sB kind p):=by
 unfold sB;rw[rgA_loc kind hr];refine tB fun a q=>?_;dsimp only
 by_cases h1:isA [43] q=true
 ·have e1:isA [43] (q++r)=true:=by rw[oY (by decide) hr];exact h1
  have hq:=at1_loc hr (ne_isA h1)
  by_cases h2:kind=1∧isA [43] q=true∧(∃t,q[1]? = some t∧t.kind=119)
  ·rw[Ah h2,Ah ⟨h2.1,e1,hq.2 h2.2.2⟩,pP h1,rgA_loc kind hr];refine tB fun b u=>?_;dsimp only;rw[oY (by decide) hr]
   by_cases h3:isA [42] u=true
   ·rw[Ah h3,Ah h3,pP h3,rW (by decide) hr];refine tB fun c v=>?_;dsimp only
    cases pM c.n with
    | none=>rfl
    | some z=>exact tailA_loc _ hr v
   rw[Ag h3,Ag h3];exact tailA_loc _ hr u
  rw[Ag h2,Ag (fun h=>h2 ⟨h.1,h1,hq.1 h.2.2⟩)];exact tailA_loc _ hr q
 rw[Ag (fun h=>h1 (by rw[oY (by decide) hr] at h;exact h.2.1)),Ag (fun h=>h1 h.2.1)];exact tailA_loc _ hr q
theorem at0_loc {r:List ATk}(hr:Com r):∀p:List ATk,(∃t,(p++r)[0]? = some t∧t.kind=48)↔(∃t,p[0]? = some t∧t.kind=48)
 | a::p=>Iff.rfl
 | []=>by
  constructor
  ·rintro⟨t,h1,h2⟩
   rcases hr with rfl|hr
   ·cases h1
   ·cases r with
    | nil=>cases h1
    | cons u r =>
     obtain rfl:u=t:=by simpa using h1
     unfold isA at hr;simp only[Ab,Af] at hr;omega
  rintro⟨t,h1,_⟩
  cases h1
theorem opA_loc (kind:Int) {r:List ATk}(hr:Com r) (p:List ATk):opA kind (p++r)=lft r (opA kind p):=by
 unfold opA;rw[oY (by decide) hr,oY (by decide) hr]
 by_cases h1:isA [91] p=true
 rw[Ah h1,Ah h1,pP h1];exact memA_loc kind hr _;rw[Ag h1,Ag h1]
 by_cases h2:isA [45] p=true
 ·rw[Ah h2,Ah h2,pP h2,rW (by decide) hr];exact tB fun a q=>rfl
 rw[Ag h2,Ag h2];have h0:=at0_loc hr p
 by_cases h3:∃t,p[0]? = some t∧t.kind=48
 ·rw[Ah h3,Ah (h0.2 h3),rW (by decide) hr];exact tB fun a q=>rfl
 rw[Ag h3,Ag (fun h=>h3 (h0.1 h)),rW (by decide) hr];refine tB fun a q=>?_;dsimp only
 split
 rfl
 ·cases tH a.s<;>rfl
def Lft {α:Type}(p:List ATk) (x:Except Nat (α×List ATk)):Prop:=match x with
 | .ok (_,q)=>q.Sublist p
 | .error e=>e=20
theorem Lft.mono {α:Type}{p p':List ATk}{x:Except Nat (α×List ATk)}(h:Lft p x) (hp:p.Sublist p'):Lft p' x:=by
 match x,h with
 | .ok (_,q),h=>exact List.Sublist.trans h hp
 | .error e,h=>exact h
theorem Lft.and {α β:Type}{p:List ATk}{x:Except Nat (α×List ATk)}{f:α×List ATk→Except Nat (β×List ATk)}(h:Lft p x) (hf:∀a q,Lft q (f (a,q))):Lft p (yG x f):=by
 match x,h with
 | .ok (a,q),h=>exact (hf a q).mono h
 | .error e,h=>exact h
theorem rV (k:Nat):∀p:List ATk,Lft p (xH k p)
 | []=>rfl
 | t::p=>by
  unfold xH
  by_cases h:t.kind=k
  simp only[h,if_true];exact Km _ _;simp only[h,if_false];exact (rfl:(20:Nat)=20)
theorem rgA_lft (kind:Int) (p:List ATk):Lft p (rgA kind p):=by
 unfold rgA;refine (rV 119 p).and fun a q=>?_;dsimp only
 split
 exact (rfl:(20:Nat)=20);exact Kl _
theorem pQ (p:List ATk):(p.drop 1).Sublist p:=List.drop_sublist 1 p
theorem tailA_lft (o:AOp) (p:List ATk):Lft p (vA o p):=by
 unfold vA;refine Lft.and (x:=if isA [43] p then yG (xH 48 (p.drop 1)) fun p=>.ok (p.1.n,p.2) else if isA [45] p then yG (xH 48 (p.drop 1)) fun p=>.ok (negA p.1.n,p.2) else .ok (0,p)) ?_ fun a q=>?_
 ·split
  exact ((rV 48 _).mono (pQ p)).and fun a q=>Kl _
  split
  exact ((rV 48 _).mono (pQ p)).and fun a q=>Kl _;exact Kl _
 dsimp only
 split
 exact pQ q;exact (rfl:(20:Nat)=20)
theorem memA_lft (kind:Int) (p:List ATk):Lft p (sB kind p):=by
 unfold sB;refine (rgA_lft kind p).and fun a q=>?_;dsimp only
 split
 ·refine ((rgA_lft kind _).mono (pQ q)).and fun b u=>?_;dsimp only
  split
  ·refine ((rV 48 _).mono (pQ u)).and fun c v=>?_;dsimp only
   cases pM c.n with
   | none=>exact (rfl:(20:Nat)=20)
   | some z=>exact tailA_lft _ v
  exact tailA_lft _ u
 exact tailA_lft _ q
theorem nameA_err {s:Bs}{e:Nat}(h:tH s=.error e):e=20:=by
 unfold tH at h
 split at h
 ·cases h;rfl
 ·cases h
theorem opA_lft (kind:Int) (p:List ATk):Lft p (opA kind p):=by
 unfold opA
 split
 exact (memA_lft kind _).mono (pQ p)
 split
 exact ((rV 48 _).mono (pQ p)).and fun a q=>Kl _
 split
 exact (rV 48 p).and fun a q=>Kl _;refine (rV 119 p).and fun a q=>?_;dsimp only
 split
 exact Kl _
 ·cases h:tH a.s with
  | ok x=>exact Kl _
  | error e=>exact nameA_err h
def comT (t:ATk):Bool:=decide (t.kind=115)&&decide (t.s=[44])
def tP:List ATk→List (List ATk)
 | []=>[[]]
 | t::r=>if comT t then []::tP r else match tP r with
  | []=>[[t]]
  | x::l=>(t::x)::l
def qN (kind:Int) (p:List ATk):Option AOp:=match opA kind p with
 | .ok (o,[])=>some o
 | _=>none
def rQ (kind:Int):List (List ATk)→Option (List AOp)
 | []=>some []
 | p::r=>match qN kind p with
  | none=>none
  | some o=>match rQ kind r with
   | none=>none
   | some l=>some (o::l)
theorem splA_cut:∀l:List ATk,∃p r,l=p++r∧(∀t∈p,comT t=false)∧((r=[]∧tP l=[p])∨(∃c l',r=c::l'∧comT c=true∧tP l=p::tP l'))
 | []=>⟨[],[],rfl,(fun t h=>by cases h),.inl ⟨rfl,rfl⟩⟩
 | t::l=>by
  by_cases h:comT t=true
  exact⟨[],t::l,rfl,(fun t h=>by cases h),.inr ⟨t,l,rfl,h,by rw[tP,Ah h]⟩⟩;obtain⟨p,r,e,hp,hx⟩:=splA_cut l;refine⟨t::p,r,by rw[e];rfl,fun u hu=>?_,?_⟩
  ·rcases List.mem_cons.1 hu with rfl|hu
   ·simpa using h
   exact hp u hu
  rcases hx with ⟨h1,h2⟩|⟨c,l',h1,h2,h3⟩;exact .inl ⟨h1,by rw[tP,Ag h,h2]⟩;exact .inr ⟨c,l',h1,h2,by rw[tP,Ag h,h3]⟩
theorem com_is {c:ATk}{l:List ATk}:isA [44] (c::l)=comT c:=rfl
theorem ops_core (kind:Int):∀(f:Nat) (acc:List AOp) (l:List ATk),l.length≤f→yG (opA kind l) (fun p=>oM kind f false (acc++[p.1]) p.2)=match rQ kind (tP l) with
  | some os=>.ok (acc++os)
  | none=>.error 20
 | f,acc,l,hf=>by
  obtain⟨p,r,e,hp,hx⟩:=splA_cut l
  have hr:Com r:=by
   rcases hx with ⟨h1,_⟩|⟨c,l',h1,h2,_⟩;exact .inl h1;exact .inr (by rw[h1];exact h2)
  have hs:∃ps,tP l=p::ps:=by
   rcases hx with ⟨_,h2⟩|⟨c,l',_,_,h3⟩;exact⟨_,h2⟩;exact⟨_,h3⟩
  have hl:=opA_lft kind p;have hloc:=opA_loc kind hr p;rw[← e] at hloc;rw[hloc]
  cases ho:opA kind p with
  | error e' =>
   rw[ho] at hl;obtain rfl:e'=20:=hl;obtain⟨ps,hs⟩:=hs;rw[hs];have:qN kind p=none:=by unfold qN;rw[ho]
   rw[rQ,this];rfl
  | ok a =>
   obtain⟨o,q⟩:=a;rw[ho] at hl;have hl:q.Sublist p:=hl;show oM kind f false (acc++[o]) (q++r)=_
   cases q with
   | cons t q =>
    have ht:comT t=false:=hp t (hl.subset (by simp));obtain⟨ps,hs⟩:=hs;have hn:qN kind p=none:=by unfold qN;rw[ho]
    rw[hs,rQ,hn]
    have hlen:0<l.length:=by
     rw[e,Kb];have:=hl.length_le;simp only[Kc] at this;omega
    cases f with
    | zero=>omega
    | succ f =>
     rw[oM,Ag (by simp),Ah ⟨rfl,by rw[List.cons_append,com_is];exact ht⟩]
   | nil =>
    have hn:qN kind p=some o:=by unfold qN;rw[ho]
    rw[List.nil_append];rcases hx with ⟨h1,h2⟩|⟨c,l',h1,h2,h3⟩
    ·subst h1;rw[h2,rQ,hn,rQ]
     cases f with
     | zero=>rfl
     | succ f=>rw[oM,Ah rfl]
    subst h1
    have hlen:l'.length+1≤f:=by
     rw[e,Kb,Kc] at hf;omega
    cases f with
    | zero=>omega
    | succ f =>
     rw[oM,Ag (by simp),Ag (by rw[com_is,h2];simp)];show yG (opA kind l') (fun p=>oM kind f false ((acc++[o])++[p.1]) p.2)=_;rw[ops_core kind f (acc++[o]) l' (by omega),h3,rQ,hn]
     cases rQ kind (tP l') with
     | none=>rfl
     | some os=>dsimp only;rw[Kv];rfl
theorem ops_parts (kind:Int) {l:List ATk}(h:l≠[]):oM kind (l.length+1) true [] l=match rQ kind (tP l) with
  | some os=>.ok os
  | none=>.error 20:=by
 rw[oM,Ag h,Ag (by simp)];have:=ops_core kind l.length [] l (Ae _);simp only[List.nil_append] at this
 simpa using this
end Go.Proofs.YtkaepknpplhgkaaGreatDoor
namespace Go.Proofs.YtkaepknpplhgkaaGreatDoor
def plcG (s:Bs):List Bs→Nat→Int
 | [],_=>-1
 | x::l,k=>if x=s then k else plcG s l (k+1)
def xB (l:List Bs) (s:Bs):Int:=plcG s l 0
theorem plcG_at {s:Bs}:∀(l:List Bs) (k:Nat),(plcG s l k=-1∧s∉l)∨∃n,plcG s l k=((k+n:Nat):Int)∧l[n]? = some s
 | [],_=>.inl ⟨rfl,by simp⟩
 | x::l,k=>by
  rw[plcG]
  by_cases h:x=s
  rw[Ah h];exact .inr ⟨0,rfl,by rw[h];rfl⟩;rw[Ag h];rcases plcG_at l (k+1) with ⟨h1,h2⟩|⟨n,h1,h2⟩
  ·exact .inl ⟨h1,fun hm=>by
    rcases List.mem_cons.1 hm with rfl|hm;exact h rfl
    exact h2 hm⟩
  exact .inr ⟨n+1,by rw[h1];congr 1;omega,h2⟩
theorem sE {l:List Bs}{s:Bs}(h:¬xB l s<0):∃n:Nat,xB l s=n∧n<l.length∧l.getD n []=s:=by
 rcases plcG_at (s:=s) l 0 with ⟨h1,_⟩|⟨n,h1,h2⟩;exact absurd (show xB l s<0 by unfold xB;rw[h1];decide) h;refine⟨n,by unfold xB;rw[h1,Ac],(Kg.1 h2).1,by rw[Ku,h2];rfl⟩
theorem plcR_ge (l:List Bs) (s:Bs):-1≤xB l s∧xB l s<l.length∨xB l s=-1:=by
 by_cases h:xB l s<0
 ·rcases plcG_at (s:=s) l 0 with ⟨h1,_⟩|⟨n,h1,_⟩;exact .inr h1;unfold xB at h;rw[h1] at h;omega
 obtain⟨n,h1,h2,_⟩:=sE h;exact .inl (by omega)
def yH (w:Bs):Bs×Bs:=if 2<w.length∧w.getD (w.length-2) 0=46 then (w.take (w.length-2),w.drop (w.length-2)) else (w,[])
theorem pX (w:Bs):(yH w).1++(yH w).2=w:=by
 unfold yH
 split
 exact List.take_append_drop _ _;exact Al _
def plnR (l:List Bs) (op suf:Bs) (first:Nat) (fil:KFil):Option (KSel×KFil):=if xB l op<0∨suf≠[] then none else some (.always ((first:Int)+xB l op),fil)
def sysL:List Bs:=[[115,121,115]]
def jmpR:List Bs:=[[106,109,112],[99,97,108,108]]
def gscL:List Bs:=[[103,101,116,99],[115,101,116,99]]
def tN (op suf shape:Bs):Option (KSel×KFil) :=
 if shape=[] then plnR noneL op suf 0 .nothing
 else if shape=[114] then plnR singL op suf 16 .nothing
 else if shape=[114,114] then plnR ariL op suf 32 .second
 else if shape=[118] then
  if op=[106,109,112]∨op=[99,97,108,108] then plnR jmpR op suf 112 .target
  else if 1<op.length∧op.headD 0=106∧¬xB wO (op.drop 1)<0∧suf=[] then some (.always (96+xB wO (op.drop 1)),.target)
  else plnR sysL op suf 128 .value
 else if shape=[114,118] then
  if xB ariL op<0 then plnR gscL op suf 129 .control
  else if suf=[46,98] then some (.always (48+xB ariL op),.value)
  else if suf=[46,119] then some (.always (64+xB ariL op),.value)
  else if suf=[] then some (.arith (xB ariL op).toNat,.value)
  else none
 else if shape=[114,109] then
  if xB accL op<0 then none
  else if suf=[46,120] then some (.always (88+xB accL op),.memory)
  else if suf=[] then some (.access (xB accL op).toNat,.memory)
  else none
 else none
theorem lookR_mem {k:Bs}{f:AFm}:∀{l:List (Bs×AFm)},wR k l=some f→(k,f)∈l
 | [],h=>by cases h
 | (x,v)::l,h=>by
  rw[wR] at h
  split at h
  ·next e=>cases h;subst e;simp
  exact Ky _ (lookR_mem h)
theorem find_look {kind:Int}{w shape:Bs}{n:Nat}(hd:qI w=none):wI kind w shape n=wR (w++32::shape) (if kind=2 then oJ else xS):=by unfold wI;rw[hd]
theorem find_len {kind:Int}{w shape:Bs}{n:Nat}(hd:qI w=none) (m:Nat):wI kind w shape n=wI kind w shape m:=by rw[find_look hd,find_look hd]
def wOf (k:Bs):Bs:=k.takeWhile (fun c=>!decide (c=32))
def shOf (k:Bs):Bs:=(k.dropWhile (fun c=>!decide (c=32))).drop 1
theorem wOf_app {w:Bs}(h:∀c∈w,c≠32) (sh:Bs):wOf (w++32::sh)=w∧shOf (w++32::sh)=sh:=by
 induction w with
 | nil=>exact⟨rfl,rfl⟩
 | cons c w ih =>
  have hc:(!decide (c=32))=true:=by simp[h c (by simp)]
  obtain⟨i1,i2⟩:=ih fun d hd=>h d (Ky _ hd);unfold wOf at i1 ⊢;unfold shOf at i2 ⊢;rw[List.cons_append,List.takeWhile_cons,Ah hc,List.dropWhile_cons,Ah hc];exact⟨by rw[i1],i2⟩
theorem fmsK_sel:(xS.all fun e=>(tN (yH (wOf e.1)).1 (yH (wOf e.1)).2 (shOf e.1)).isSome)=true:=by kernel_rfl
theorem uP {l:List Bs}{op suf:Bs}{first:Nat}{fil:KFil}{s:KSel}{f:KFil}(h:plnR l op suf first fil=some (s,f)):∃n:Nat,n<l.length∧l.getD n []=op∧suf=[]∧s=.always (first+n:Nat)∧f=fil:=by
 unfold plnR at h
 split at h
 ·cases h
 ·next hh =>
  obtain⟨n,h1,h2,h3⟩:=sE (l:=l) (s:=op) (fun hx=>hh (.inl hx));refine⟨n,h2,h3,?_,?_,?_⟩
  ·by_cases e:suf=[]
   exact e;exact absurd (.inr e) hh
  ·cases h;rw[h1];congr 1
  ·cases h;rfl
theorem sY {kind:Int}{n:Nat}{nm:Nat→Bs}{sh:Bs}{f:Nat→AFm}(h:nmB kind n nm sh f=true) {k:Nat}(hk:k<n) {w:Bs}(hw:w=nm k) (hd:qI w=none) (m:Nat):wI kind w sh m=some (f k):=by
 rw[find_len hd sh.length,hw];exact (nmB_at h hk).2.2
theorem ksel_find {w shape:Bs}(hd:qI w=none) (h32:∀c∈w,c≠32) (m:Nat):wI 1 w shape m=(tN (yH w).1 (yH w).2 shape).map fun p=>.k p.1 p.2:=by
 have hw:=pX w
 cases hk:tN (yH w).1 (yH w).2 shape with
 | none =>
  rw[find_look hd,Ag (by decide)]
  cases hl:wR (w++32::shape) xS with
  | none=>rfl
  | some f =>
   have:=List.all_eq_true.1 fmsK_sel _ (lookR_mem hl);rw[(wOf_app h32 shape).1,(wOf_app h32 shape).2,hk] at this;cases this
 | some p =>
  obtain⟨s,f⟩:=p;generalize hop:(yH w).1=op at hk hw;generalize hsu:(yH w).2=suf at hk hw;show _=some (AFm.k s f);unfold tN at hk
  split at hk
  ·next hs =>
   subst hs;obtain⟨n,h1,h2,rfl,rfl,rfl⟩:=uP hk;rw[Al] at hw;rw[sY nm_none (k:=n) h1 (by rw[← hw,← h2]) hd];simp
  split at hk
  ·next hs =>
   subst hs;obtain⟨n,h1,h2,rfl,rfl,rfl⟩:=uP hk;rw[Al] at hw;rw[sY nm_sing (k:=n) h1 (by rw[← hw,← h2]) hd]
  split at hk
  ·next hs =>
   subst hs;obtain⟨n,h1,h2,rfl,rfl,rfl⟩:=uP hk;rw[Al] at hw;rw[sY nm_regs (k:=n) h1 (by rw[← hw,← h2]) hd]
  split at hk
  ·next hs =>
   subst hs
   split at hk
   ·obtain⟨n,h1,h2,rfl,rfl,rfl⟩:=uP hk;rw[Al] at hw;have h1:n<2:=h1;refine sY nm_jump (k:=n) h1 ?_ hd m;rw[← hw,← h2]
    match n,h1 with
    | 0,_=>rfl
    | 1,_=>rfl
   split at hk
   ·next hj =>
    obtain⟨j1,j2,j3,rfl⟩:=hj;obtain⟨n,h1,h2,h3⟩:=sE j3;rw[Al] at hw;rw[h1] at hk;injection hk with hk;injection hk with e1 e2;subst e1;subst e2;have e96:(96:Int)+(n:Int)=((96+n:Nat):Int):=by omega
    rw[e96];refine sY nm_cond (k:=n) h2 ?_ hd m;rw[← hw]
    match op,j1,j2,h3 with
    | c::r,_,j2,h3 =>
     obtain rfl:c=106:=j2;show _=106::wO.getD n [];rw[h3];rfl
   obtain⟨n,h1,h2,rfl,rfl,rfl⟩:=uP hk;rw[Al] at hw;have h1:n<1:=h1;obtain rfl:n=0:=by omega
   exact sY nm_sys (k:=0) h1 (by rw[← hw,← h2];rfl) hd m
  split at hk
  ·next hs =>
   subst hs
   split at hk
   ·obtain⟨n,h1,h2,rfl,rfl,rfl⟩:=uP hk;rw[Al] at hw;have h1:n<2:=h1;refine sY nm_gsc (k:=n) h1 ?_ hd m;rw[← hw,← h2]
    match n,h1 with
    | 0,_=>rfl
    | 1,_=>rfl
   next hp =>
   obtain⟨n,h1,h2,h3⟩:=sE hp;rw[h1] at hk
   split at hk
   ·next e =>
    cases hk;exact sY nm_shrt (k:=n) h2 (by rw[← hw,← h3,e]) hd m
   split at hk
   ·next e =>
    cases hk;exact sY nm_imm (k:=n) h2 (by rw[← hw,← h3,e]) hd m
   split at hk
   ·next e =>
    cases hk;exact sY nm_ari (k:=n) h2 (by rw[← hw,← h3,e,Al]) hd m
   ·cases hk
  split at hk
  ·next hs =>
   subst hs
   split at hk
   ·cases hk
   next hp =>
   obtain⟨n,h1,h2,h3⟩:=sE hp;rw[h1] at hk
   split at hk
   ·next e =>
    cases hk;exact sY nm_idx (k:=n) h2 (by rw[← hw,← h3,e]) hd m
   split at hk
   ·next e =>
    cases hk;exact sY nm_mem (k:=n) h2 (by rw[← hw,← h3,e,Al]) hd m
   ·cases hk
  ·cases hk
def qopG (op suf shape:Bs) (z:Nat):Bool:=!decide (pK z=[])&&(decide (pK z=op)&&(decide (suf=[])&&decide (rS z=shape)))
def pL (op suf shape:Bs):Option Nat:=(List.range 64).find? (qopG op suf shape)
theorem fmsQ_sel:(oJ.all fun e=>(pL (yH (wOf e.1)).1 (yH (wOf e.1)).2 (shOf e.1)).isSome)=true:=by kernel_rfl
theorem qnmR_look:((List.range 64).all fun z=>decide (pK z=[])||decide (wR (pK z++32::rS z) oJ=some (.q (z:Nat))))=true:=by kernel_rfl
theorem qop_find {w shape:Bs}(hd:qI w=none) (h32:∀c∈w,c≠32) (m:Nat):wI 2 w shape m=(pL (yH w).1 (yH w).2 shape).map fun (z:Nat)=>.q z:=by
 have hw:=pX w;rw[find_look hd,Ah rfl]
 cases hk:pL (yH w).1 (yH w).2 shape with
 | none =>
  cases hl:wR (w++32::shape) oJ with
  | none=>rfl
  | some f =>
   have:=List.all_eq_true.1 fmsQ_sel _ (lookR_mem hl);rw[(wOf_app h32 shape).1,(wOf_app h32 shape).2,hk] at this;cases this
 | some z =>
  have h1:=List.find?_some hk;have h2:=List.mem_of_find?_eq_some hk;unfold qopG at h1;simp only[Ab,Bool.not_eq_true',decide_eq_false_iff_not,Af] at h1;obtain⟨a1,a2,a3,a4⟩:=h1;have h3:=List.all_eq_true.1 qnmR_look z h2;simp only[Bool.or_eq_true,Af] at h3;rcases h3 with h3|h3;exact absurd h3 a1;rw[a3,Al] at hw;rw[a2,a4,hw] at h3;exact h3
end Go.Proofs.YtkaepknpplhgkaaGreatDoor
namespace Go.Proofs.YtkaepknpplhgkaaGreatDoor
structure RSt where
 label:Bs
 op:Bs
 suf:Bs
 shape:Bs
 l:List AOp
def RSt.w (s:RSt):Bs:=s.op++s.suf
def pB (kind:Int) (lab:Bs):List ATk→Option RSt
 | []=>some ⟨lab,[],[],[],[]⟩
 | t::r=>if t.kind≠119 then none else
  if r=[] then some ⟨lab,(yH t.s).1,(yH t.s).2,[],[]⟩ else
  match rQ kind (tP r) with
  | none=>none
  | some os=>if t.s=xT∧¬(r.length=1∧(r.headD ⟨0,[],0⟩).kind=48) then none else some ⟨lab,(yH t.s).1,(yH t.s).2,xR os,os⟩
def nmeR (s:Bs):Bool:=!decide (32<s.length∨(46:UInt8)∈s∨uC s=true)
def qZ (kind:Int) (l:List ATk):Option RSt :=
 if isA [58] (l.drop 1) then (match l with
  | t::r=>if t.kind=119∧nmeR t.s=true then pB kind t.s (r.drop 1) else none
  | []=>none)
 else pB kind [] l
def uB (s:RSt):Bool:=s.shape.all (fun c=>decide (c=118))&&(!decide (s.shape=[])&&(decide (s.w=tT)||(decide (s.w=uT)||decide (s.w=xT∧s.shape.length=1))))
def wQ (kind:Int) (s:RSt):Int :=
 if s.op=[] then 0 else if uB s=true then (if s.w=tT then s.l.length else if s.w=uT then (4*s.l.length:Nat) else (s.l.getD 0 uN).n)
 else if kind=2 then (match pL s.op s.suf s.shape with
  | none=>-1
  | some _=>4)
 else match tN s.op s.suf s.shape with
  | none=>-1
  | some p=>szN (fmN (opK p.1 s.l))
def frmR (kind:Int) (s:RSt):Option AFm :=
 if s.op=[] then none else if uB s=true then qI s.w
 else if kind=2 then (pL s.op s.suf s.shape).map fun (z:Nat)=>.q z
 else (tN s.op s.suf s.shape).map fun p=>.k p.1 p.2
theorem dirA_some {w:Bs}{f:AFm}(h:qI w=some f):(w=tT∧f=.byte)∨(w=uT∧f=.word)∨(w=xT∧f=.zero):=by
 unfold qI at h
 split at h
 ·next e=>cases h;exact .inl ⟨e,rfl⟩
 split at h
 ·next e=>cases h;exact .inr (.inl ⟨e,rfl⟩)
 split at h
 ·next e=>cases h;exact .inr (.inr ⟨e,rfl⟩)
 ·cases h
theorem pln_no {l:List Bs}{op suf:Bs}{first:Nat}{fil:KFil}(h:xB l op<0):plnR l op suf first fil=none:=by
 unfold plnR;rw[Ah (.inl h)]
theorem ksel_dir {w:Bs}(hw:w=tT∨w=uT∨w=xT) (shape:Bs):tN w [] shape=none:=by
 have h:xB noneL w<0∧xB singL w<0∧xB ariL w<0∧xB jmpR w<0∧xB sysL w<0∧xB gscL w<0∧xB accL w<0∧w.headD 0=46:=by
  rcases hw with rfl|rfl|rfl<;>decide +kernel
 obtain⟨h1,h2,h3,h4,h5,h6,h7,h8⟩:=h;unfold tN;rw[pln_no h1,pln_no h2,pln_no h3,pln_no h4,pln_no h5,pln_no h6,Ah h3,Ah h7]
 have h9:¬(1<w.length∧w.headD 0=106∧¬xB wO (w.drop 1)<0∧([]:Bs)=[]):=fun hh=>by
  have:=hh.2.1;rw[h8] at this;exact absurd this (by decide)
 rw[Ag h9];simp
theorem qop_dir {w:Bs}(hw:w=tT∨w=uT∨w=xT) (shape:Bs):pL w [] shape=none:=by
 unfold pL;rw[List.find?_eq_none];intro z hz;have h:((List.range 64).all fun z=>!decide (pK z=tT)&&!decide (pK z=uT)&&!decide (pK z=xT))=true:=by kernel_rfl
 have h:=List.all_eq_true.1 h z hz;simp only[Ab,Bool.not_eq_true',decide_eq_false_iff_not] at h
 have:¬pK z=w:=by
  rcases hw with rfl|rfl|rfl;exact h.1.1;exact h.1.2;exact h.2
 unfold qopG;rw[Ao this];simp
theorem spl_dir {w:Bs}(hw:w=tT∨w=uT∨w=xT):yH w=(w,[]):=by
 rcases hw with rfl|rfl|rfl<;>rfl
theorem find_frm {kind:Int}(hk:kind=1∨kind=2) {lab w shape:Bs}{l:List AOp}(hw:w≠[]) (h32:∀c∈w,c≠32) (hl:shape.length=l.length):wI kind w shape l.length=frmR kind ⟨lab,(yH w).1,(yH w).2,shape,l⟩:=by
 have hsw:RSt.w ⟨lab,(yH w).1,(yH w).2,shape,l⟩=w:=pX w
 have hop:(yH w).1≠[]:=by
  unfold yH
  split
  ·next h =>
   intro e;have:=congrArg List.length e;rw[Aa] at this;simp only[Ke] at this;omega
  exact hw
 unfold frmR;rw[Ag hop]
 cases hd:qI w with
 | none =>
  have hn:uB ⟨lab,(yH w).1,(yH w).2,shape,l⟩=false:=by
   unfold uB;rw[hsw]
   have:¬w=tT∧¬w=uT∧¬w=xT:=by
    refine⟨fun e=>?_,fun e=>?_,fun e=>?_⟩<;>subst e<;>exact absurd hd (by decide)
   rw[Ao this.1,Ao this.2.1,show decide (w=xT∧shape.length=1)=false from Ao (fun h=>this.2.2 h.1)];simp
  rw[Ag (by rw[hn];simp)];rcases hk with rfl|rfl;rw[Ag (by decide)];exact ksel_find hd h32 _;rw[Ah rfl];exact qop_find hd h32 _
 | some f =>
  have hx:=dirA_some hd
  have hw3:w=tT∨w=uT∨w=xT:=by
   rcases hx with h|h|h;exact .inl h.1;exact .inr (.inl h.1);exact .inr (.inr h.1)
  have hdd:uB ⟨lab,(yH w).1,(yH w).2,shape,l⟩=true↔¬(shape=[]∨shape.all (fun c=>decide (c=118))=false∨(w=xT∧l.length≠1)):=by
   unfold uB;rw[hsw];dsimp only;simp only[Ab,Bool.or_eq_true,Bool.not_eq_true',Af,decide_eq_false_iff_not,hl]
   constructor
   ·rintro⟨h1,h2,h3⟩ h
    rcases h with h|h|h;exact h2 h;rw[h1] at h;cases h;rcases h3 with h3|h3|h3;rw[h3] at h;exact absurd h.1 (by decide);rw[h3] at h;exact absurd h.1 (by decide);exact h.2 h3.2
   intro h;refine⟨?_,fun e=>h (.inl e),?_⟩
   ·cases ha:shape.all (fun c=>decide (c=118)) with
    | true=>rfl
    | false=>exact absurd (.inr (.inl ha)) h
   rcases hw3 with h3|h3|h3;exact .inl h3;exact .inr (.inl h3);refine .inr (.inr ⟨h3,?_⟩)
   by_cases e:l.length=1
   exact e;exact absurd (.inr (.inr ⟨h3,e⟩)) h
  unfold wI;rw[hd,hsw];dsimp only
  by_cases hdt:uB ⟨lab,(yH w).1,(yH w).2,shape,l⟩=true
  rw[Ah hdt,Ag (hdd.1 hdt),hd];rw[Ag hdt,spl_dir hw3,ksel_dir hw3,qop_dir hw3]
  have:(shape=[]∨shape.all (fun c=>decide (c=118))=false∨(w=xT∧l.length≠1)):=by
   by_cases hh:(shape=[]∨shape.all (fun c=>decide (c=118))=false∨(w=xT∧l.length≠1))
   exact hh;exact absurd (hdd.2 hh) hdt
  rw[Ah this]
  split<;>rfl
theorem size_fin:((List.range 256).all fun n=>decide (uD (n:Nat)=szN (fmN (n:Nat))))=true:=by kernel_rfl
theorem sizeK_szN (op:Int):uD op=szN (fmN op):=by
 by_cases h:0≤op∧op<256
 ·have:=uF size_fin op.toNat (by omega);have e:((op.toNat:Nat):Int)=op:=by omega
  rw[e] at this;exact Ki this
 have h1:fmN op=0:=by
  by_cases hf:fmN op=0
  exact hf;exact absurd (fmN_op hf) h
 have h2:pR op=none:=by
  cases hf:pR op with
  | none=>rfl
  | some p =>
   obtain⟨n,l⟩:=p;have:=rM hf;omega
 unfold uD;rw[h2,h1];rfl
theorem opK_rngR {op suf shape:Bs}{s:KSel}{f:KFil}(h:tN op suf shape=some (s,f)) (l:List AOp) (hl:l.length=shape.length):0≤opK s l∧opK s l<131:=by
 unfold tN at h
 have key:∀{L:List Bs} {first:Nat} {fil:KFil},plnR L op suf first fil=some (s,f)→first+L.length≤131→0≤opK s l∧opK s l<131:=fun {L first fil} h hL=>by
  obtain⟨n,h1,_,_,rfl,_⟩:=uP h;show 0≤((first+n:Nat):Int)∧((first+n:Nat):Int)<131;omega
 split at h
 exact key h (by decide)
 split at h
 exact key h (by decide)
 split at h
 exact key h (by decide)
 split at h
 ·split at h
  exact key h (by decide)
  split at h
  ·next hj =>
   obtain⟨n,h1,h2,_⟩:=sE hj.2.2.1;have h2:n<14:=h2;rw[h1] at h;cases h;show 0≤(96:Int)+(n:Int)∧(96:Int)+(n:Int)<131;omega
  exact key h (by decide)
 split at h
 ·next hs =>
  subst hs
  split at h
  exact key h (by decide)
  next hp =>
  obtain⟨n,h1,h2,_⟩:=sE hp;have h2:n<15:=h2;rw[h1] at h
  split at h
  ·cases h;show 0≤(48:Int)+(n:Int)∧(48:Int)+(n:Int)<131;omega
  split at h
  ·cases h;show 0≤(64:Int)+(n:Int)∧(64:Int)+(n:Int)<131;omega
  split at h
  ·cases h
   match l,hl with
   | [a,o],_ =>
    show 0≤(if o.name=[]∧wE o.n 8=true then (48:Int)+((n:Int).toNat:Nat) else 64+((n:Int).toNat:Nat))∧(if o.name=[]∧wE o.n 8=true then (48:Int)+((n:Int).toNat:Nat) else 64+((n:Int).toNat:Nat))<131
    split<;>omega
  ·cases h
 split at h
 ·next hs =>
  subst hs
  split at h
  ·cases h
  next hp =>
  obtain⟨n,h1,h2,_⟩:=sE hp;have h2:n<7:=h2;rw[h1] at h
  split at h
  ·cases h;show 0≤(88:Int)+(n:Int)∧(88:Int)+(n:Int)<131;omega
  split at h
  ·cases h
   match l,hl with
   | [a,o],_ =>
    show 0≤(if o.index<0∧wE o.n 8=true then (80:Int)+((n:Int).toNat:Nat) else 88+((n:Int).toNat:Nat))∧(if o.index<0∧wE o.n 8=true then (80:Int)+((n:Int).toNat:Nat) else 88+((n:Int).toNat:Nat))<131
    split<;>omega
  ·cases h
 ·cases h
theorem frm_size {kind:Int}{s:RSt}(hl:s.shape.length=s.l.length):(s.op=[]→wQ kind s=0)∧(s.op≠[]→match frmR kind s with
  | none=>wQ kind s=-1
  | some f=>wQ kind s=sizeA f s.l):=by
 unfold wQ frmR;refine⟨fun h=>Ah h,fun h=>?_⟩;rw[Ag h,Ag h]
 by_cases hd:uB s=true
 ·rw[Ah hd,Ah hd];unfold uB at hd;simp only[Ab,Bool.or_eq_true,Bool.not_eq_true',Af,decide_eq_false_iff_not] at hd;rcases hd.2.2 with h1|h1|h1;rw[h1];rfl;rw[h1];rfl;rw[h1.1];rfl
 rw[Ag hd,Ag hd]
 by_cases hk:kind=2
 ·rw[Ah hk,Ah hk];cases pL s.op s.suf s.shape<;>rfl
 rw[Ag hk,Ag hk]
 cases hs:tN s.op s.suf s.shape with
 | none=>rfl
 | some p =>
  obtain⟨sel,f⟩:=p;show ((szN (fmN (opK sel s.l)):Nat):Int)=((uD ((opK sel s.l)%256):Nat):Int);have:=opK_rngR hs s.l hl.symm;rw[Int.emod_eq_of_lt (by omega) (by omega),sizeK_szN]
theorem sI (l:List AOp):(xR l).length=l.length:=by unfold xR;rw[Ak]
theorem op_ne {w:Bs}(hw:w≠[]):(yH w).1≠[]:=by
 unfold yH
 split
 ·next h =>
  intro e;have:=congrArg List.length e;rw[Aa] at this;simp only[Ke] at this;omega
 exact hw
def StR (kind:Int) (s:RSt):ASt:=⟨s.label,s.w,s.shape,s.l,frmR kind s,0,(wQ kind s).toNat⟩
def WdT (l:List ATk):Prop:=∀t∈l,t.kind=119→t.s≠[]∧∀c∈t.s,c≠32
def resR (kind:Int) (x:Option RSt):Except Nat ASt:=match x with
 | none=>.error 20
 | some s=>if wQ kind s<0 then .error 20 else .ok (StR kind s)
theorem bod_fin {kind:Int}(hk:kind=1∨kind=2) {lab:Bs}{t:ATk}{r:List ATk}{os:List AOp}(h1:t.s≠[]) (h2:∀c∈t.s,c≠32) (hz:t.s=xT→¬(r.length=1∧(r.headD ⟨0,[],0⟩).kind=48)→frmR kind ⟨lab,(yH t.s).1,(yH t.s).2,xR os,os⟩=none):(match wI kind t.s (xR os) os.length with
  | none=>Except.error 20
  | some f=>if t.s=xT∧¬(r.length=1∧(r.headD ⟨0,[],0⟩).kind=48) then .error 20 else .ok (⟨lab,t.s,xR os,os,some f,0,sizeA f os⟩:ASt))=resR kind (some ⟨lab,(yH t.s).1,(yH t.s).2,xR os,os⟩):=by
 rw[find_frm hk (lab:=lab) h1 h2 (sI os)];have hs:=(frm_size (kind:=kind) (s:=⟨lab,(yH t.s).1,(yH t.s).2,xR os,os⟩) (sI os)).2 (op_ne h1);unfold resR;dsimp only
 cases hf:frmR kind ⟨lab,(yH t.s).1,(yH t.s).2,xR os,os⟩ with
 | none =>
  rw[hf] at hs;dsimp only at hs ⊢;rw[hs,Ah (by decide)]
 | some f =>
  rw[hf] at hs;dsimp only at hs ⊢;rw[Ag (fun hh=>by rw[hz hh.1 hh.2] at hf;cases hf),hs,Ag (by omega)];unfold StR;rw[hf,hs];have:RSt.w ⟨lab,(yH t.s).1,(yH t.s).2,xR os,os⟩=t.s:=pX t.s;rw[this];rfl
theorem frm_zero {kind:Int}{lab:Bs}:frmR kind ⟨lab,(yH xT).1,(yH xT).2,xR [],[]⟩=none:=by
 rw[spl_dir (.inr (.inr rfl))];have hd:uB (⟨lab,xT,[],xR [],[]⟩:RSt)=false:=rfl;unfold frmR;dsimp only;rw[Ag (show ¬xT=[] by decide),hd,Ag (show ¬false=true by decide),ksel_dir (.inr (.inr rfl)),qop_dir (.inr (.inr rfl))]
 split<;>rfl
theorem takeA_yes {k:Nat}{t:ATk}{r:List ATk}(h:t.kind=k):xH k (t::r)=.ok (t,r):=by
 show (if t.kind=k then Except.ok (t,r) else Except.error 20)=_;rw[Ah h]
theorem takeA_no {k:Nat}{t:ATk}{r:List ATk}(h:¬t.kind=k):xH k (t::r)=.error 20:=by
 show (if t.kind=k then Except.ok (t,r) else Except.error 20)=_;rw[Ag h]
theorem bod_eq {kind:Int}(hk:kind=1∨kind=2) (lab:Bs):∀l:List ATk,WdT l→stmA kind lab l=resR kind (pB kind lab l)
 | [],_=>by
  unfold stmA pB resR;rw[Ah rfl];have h0:wQ kind ⟨lab,[],[],[],[]⟩=0:=by unfold wQ;rw[Ah rfl]
  dsimp only;rw[Ag (by rw[h0];decide)];unfold StR;rw[h0];unfold frmR;rw[Ah rfl];rfl
 | t::r,hw=>by
  unfold stmA;rw[pB,Ag (show ¬(t::r=[]) by simp)]
  by_cases ht:t.kind=119
  ·obtain⟨w1,w2⟩:=hw t (by simp) ht;rw[takeA_yes ht,Ag (show ¬t.kind≠119 from fun h=>h ht)];show yG (oM kind (r.length+1) true [] r) _=_
   by_cases hr:r=[]
   ·subst hr;rw[Ah rfl]
    show (match wI kind t.s (xR []) 0 with
     | none=>Except.error 20
     | some f=>_)=_
    refine bod_fin (os:=[]) hk w1 w2 fun hz _=>?_;rw[hz];exact frm_zero
   rw[Ag hr,ops_parts kind hr]
   cases rQ kind (tP r) with
   | none=>rfl
   | some os =>
    show (match wI kind t.s (xR os) os.length with
     | none=>Except.error 20
     | some f=>_)=_
    dsimp only
    by_cases hz:t.s=xT∧¬(r.length=1∧(r.headD ⟨0,[],0⟩).kind=48)
    ·rw[Ah hz];show _=Except.error 20
     cases wI kind t.s (xR os) os.length with
     | none=>rfl
     | some f=>dsimp only;rw[Ah hz]
    rw[Ag hz];exact bod_fin hk w1 w2 fun h3 h4=>absurd ⟨h3,h4⟩ hz
  rw[takeA_no ht,Ah ht];rfl
theorem nameA_eq (s:Bs):tH s=if nmeR s=true then .ok s else .error 20:=by
 unfold tH nmeR
 by_cases h:32<s.length∨(46:UInt8)∈s∨uC s=true
 rw[Ah h,An h];rfl;rw[Ag h,Ao h];rfl
theorem par_eq {kind:Int}(hk:kind=1∨kind=2) {l:List ATk}(hw:WdT l):nR kind l=resR kind (qZ kind l):=by
 unfold nR qZ
 have h0:(1<l.length∧isA [58] (l.drop 1)=true)↔isA [58] (l.drop 1)=true:=by
  refine⟨And.right,fun h=>⟨?_,h⟩⟩
  match l,h with
  | a::b::l,_=>simp
 by_cases h:isA [58] (l.drop 1)=true
 ·rw[Ah (h0.2 h),Ah h]
  match l,h,hw with
  | t::r,h,hw =>
   dsimp only
   by_cases ht:t.kind=119
   ·rw[takeA_yes ht];show yG (tH t.s) _=_;rw[nameA_eq]
    by_cases hn:nmeR t.s=true
    ·rw[Ah hn,Ah ⟨ht,hn⟩];exact bod_eq hk t.s (r.drop 1) fun u hu=>hw u (Ky _ (List.drop_subset 1 r hu))
    rw[Ag hn,Ag (fun hh=>hn hh.2)];rfl
   rw[takeA_no ht,Ag (fun hh=>ht hh.1)];rfl
 rw[Ag (fun hh=>h hh.2),Ag h];exact bod_eq hk [] l hw
theorem tw_mem {p:UInt8→Bool}:∀{l:Bs}{d:UInt8},d∈l.takeWhile p→p d=true
 | [],d,h=>by cases h
 | c::l,d,h=>by
  rw[List.takeWhile_cons] at h
  split at h
  ·next hc =>
   rcases List.mem_cons.1 h with rfl|h;exact hc;exact tw_mem h
  ·cases h
theorem lexF_wd:∀(f:Nat) (s:Bs) (l:List ATk),oK f s=.ok l→WdT l
 | 0,_,l,h=>by cases h;intro t ht;cases ht
 | f+1,[],l,h=>by cases h;intro t ht;cases ht
 | f+1,c::r,l,h=>by
  rw[oK] at h
  split at h
  exact lexF_wd f r l h
  split at h
  ·next hc =>
   cases hx:oK f ((c::r).drop ((c::r).takeWhile wF).length) with
   | error e=>rw[hx] at h;cases h
   | ok l' =>
    rw[hx] at h;cases h;intro t ht hk;rcases List.mem_cons.1 ht with rfl|ht
    ·have hcw:wF c=true:=by
      unfold wF;rcases hc with h|h|h;rw[h];rfl;subst h;rfl;subst h;rfl
     refine⟨by rw[List.takeWhile_cons,Ah hcw];simp,fun d hd=>?_⟩;exact (wor_no (tw_mem hd)).2.2
    exact lexF_wd f _ l' hx t ht hk
  split at h
  ·cases hn:pJ ((c::r).takeWhile tZ) with
   | error e=>rw[hn] at h;cases h
   | ok n =>
    rw[hn] at h
    cases hx:oK f ((c::r).drop ((c::r).takeWhile tZ).length) with
    | error e=>rw[show yG (Except.ok n) _=_ from rfl,hx] at h;cases h
    | ok l' =>
     rw[show yG (Except.ok n) _=_ from rfl,hx] at h;cases h;intro t ht hk;rcases List.mem_cons.1 ht with rfl|ht
     ·cases hk
     exact lexF_wd f _ l' hx t ht hk
  split at h
  ·cases hx:oK f r with
   | error e=>rw[hx] at h;cases h
   | ok l' =>
    rw[hx] at h;cases h;intro t ht hk;rcases List.mem_cons.1 ht with rfl|ht
    ·cases hk
    exact lexF_wd f _ l' hx t ht hk
  ·cases h
theorem lexA_wd {s:Bs}{l:List ATk}(h:rN s=.ok l):WdT l:=lexF_wd _ _ _ h
end Go.Proofs.YtkaepknpplhgkaaGreatDoor
namespace Go.Proofs.YtkaepknpplhgkaaGreatDoor
def kiR (f:Nat) (op:Int) (shape:Bs) (l:List AOp) (v:List Nat) (at_:Nat):KI :=
 let i:KI:=⟨op,if shape.headD 0=114 then (l.getD 0 uN).r else 0,0,-1,0,0,szN f⟩
 match f with
 | 3=>{ i with s:=(l.getD 1 uN).r }
 | 4=>{ i with imm:=v.getD 1 0 }
 | 5=>{ i with imm:=v.getD 1 0 }
 | 6=>{ i with s:=(l.getD 1 uN).r,imm:=(l.getD 1 uN).n,index:=(l.getD 1 uN).index,scale:=(l.getD 1 uN).scale }
 | 7=>{ i with s:=(l.getD 1 uN).r,imm:=(l.getD 1 uN).n,index:=(l.getD 1 uN).index,scale:=(l.getD 1 uN).scale }
 | 8=>{ i with imm:=subW (subW (v.getD 0 0) at_) (szN f) }
 | 9=>{ i with imm:=subW (subW (v.getD 0 0) at_) (szN f) }
 | 10=>{ i with imm:=v.getD 0 0 }
 | 11=>{ i with s:=v.getD 1 0 }
 | 12=>{ i with s:=v.getD 1 0 }
 | _=>i
def filN (f:Nat):KFil:=match f with
 | 3=>.second
 | 4=>.value
 | 5=>.value
 | 6=>.memory
 | 7=>.memory
 | 8=>.target
 | 9=>.target
 | 10=>.value
 | 11=>.control
 | 12=>.control
 | _=>.nothing
def shpN (f:Nat):Bs:=match f with
 | 1=>[]
 | 2=>[114]
 | 3=>[114,114]
 | 4=>[114,118]
 | 5=>[114,118]
 | 6=>[114,109]
 | 7=>[114,109]
 | 11=>[114,118]
 | 12=>[114,118]
 | _=>[118]
theorem ksel_fil {op suf shape:Bs}{s:KSel}{f:KFil}(h:tN op suf shape=some (s,f)) (l:List AOp) (hl:l.length=shape.length):f=filN (fmN (opK s l))∧shape=shpN (fmN (opK s l))∧fmN (opK s l)≠0:=by
 have key:∀(z:Int) (m:Nat),fmN z=m→f=filN m→shape=shpN m→m≠0→opK s l=z→f=filN (fmN (opK s l))∧shape=shpN (fmN (opK s l))∧fmN (opK s l)≠0:=fun z m h1 h2 h3 h4 h5=>by
  rw[h5,h1];exact⟨h2,h3,h4⟩
 unfold tN at h
 split at h
 ·next hs =>
  obtain⟨n,h1,_,_,rfl,rfl⟩:=uP h;have h1:n<5:=h1;refine key ((0+n:Nat):Int) 1 (wK.1 ?_) M hs (by decide) rfl;omega
 split at h
 ·next hs =>
  obtain⟨n,h1,_,_,rfl,rfl⟩:=uP h;have h1:n<6:=h1;refine key ((16+n:Nat):Int) 2 (wK.2.1 ?_) M hs (by decide) rfl;omega
 split at h
 ·next hs =>
  obtain⟨n,h1,_,_,rfl,rfl⟩:=uP h;have h1:n<15:=h1;refine key ((32+n:Nat):Int) 3 (wK.2.2.1 ?_) M hs (by decide) rfl;omega
 split at h
 ·next hs =>
  split at h
  ·obtain⟨n,h1,_,_,rfl,rfl⟩:=uP h;have h1:n<2:=h1;refine key ((112+n:Nat):Int) 9 (wK.2.2.2.2.2.2.2.2 ?_) M hs (by decide) rfl;omega
  split at h
  ·next hj =>
   obtain⟨n,h1,h2,_⟩:=sE hj.2.2.1;have h2:n<14:=h2;rw[h1] at h;cases h;refine key (96+(n:Int)) 8 (wK.2.2.2.2.2.2.2.1 ?_) M hs (by decide) rfl;omega
  obtain⟨n,h1,_,_,rfl,rfl⟩:=uP h;have h1:n<1:=h1;obtain rfl:n=0:=by omega
  exact key _ 10 M M hs (by decide) rfl
 split at h
 ·next hs =>
  split at h
  ·obtain⟨n,h1,_,_,rfl,rfl⟩:=uP h;have h1:n<2:=h1
   match n,h1 with
   | 0,_=>exact key _ 11 rfl rfl hs (by decide) rfl
   | 1,_=>exact key _ 12 rfl rfl hs (by decide) rfl
  next hp =>
  obtain⟨n,h1,h2,_⟩:=sE hp;have h2:n<15:=h2;rw[h1] at h
  split at h
  ·cases h;refine key (48+(n:Int)) 4 (wK.2.2.2.1 ?_) M hs (by decide) rfl;omega
  split at h
  ·cases h;refine key (64+(n:Int)) 5 (wK.2.2.2.2.1 ?_) M hs (by decide) rfl;omega
  split at h
  ·cases h;rw[hs] at hl
   match l,hl with
   | [a,o],_ =>
    by_cases hc:o.name=[]∧wE o.n 8=true
    ·refine key (48+((n:Int).toNat:Nat)) 4 (wK.2.2.2.1 ?_) M hs (by decide) (Ah hc);omega
    refine key (64+((n:Int).toNat:Nat)) 5 (wK.2.2.2.2.1 ?_) M hs (by decide) (Ag hc);omega
  ·cases h
 split at h
 ·next hs =>
  split at h
  ·cases h
  next hp =>
  obtain⟨n,h1,h2,_⟩:=sE hp;have h2:n<7:=h2;rw[h1] at h
  split at h
  ·cases h;refine key (88+(n:Int)) 7 (wK.2.2.2.2.2.2.1 ?_) M hs (by decide) rfl;omega
  split at h
  ·cases h;rw[hs] at hl
   match l,hl with
   | [a,o],_ =>
    by_cases hc:o.index<0∧wE o.n 8=true
    ·refine key (80+((n:Int).toNat:Nat)) 6 (wK.2.2.2.2.2.1 ?_) M hs (by decide) (Ah hc);omega
    refine key (88+((n:Int).toNat:Nat)) 7 (wK.2.2.2.2.2.2.1 ?_) M hs (by decide) (Ag hc);omega
  ·cases h
 ·cases h
theorem ins_kiR {op suf shape:Bs}{s:KSel}{f:KFil}(h:tN op suf shape=some (s,f)) {l:List AOp}(hl:l.length=shape.length) {v:List Nat}(hv:v.length=l.length) (a:Nat):insK s f shape l v a=kiR (fmN (opK s l)) (opK s l) shape l v a:=by
 obtain⟨h1,h2,h0⟩:=ksel_fil h l hl;have hr:=opK_rngR h l hl;have hz:uD ((opK s l)%256)=szN (fmN (opK s l)):=by rw[Int.emod_eq_of_lt (by omega) (by omega),sizeK_szN]
 have hlt:=fmN_lt (opK s l);unfold insK;dsimp only;rw[hz,h1];rw[h2] at hl;generalize hf:fmN (opK s l)=m at *
 match m,hlt with
 | 0,_=>exact absurd rfl h0
 | 1,_=>rfl
 | 2,_=>rfl
 | 3,_=>rfl
 | 4,_ =>
  match v,hv.trans hl with
  | [x,y],_=>rfl
 | 5,_ =>
  match v,hv.trans hl with
  | [x,y],_=>rfl
 | 6,_=>rfl
 | 7,_=>rfl
 | 8,_=>rfl
 | 9,_=>rfl
 | 10,_ =>
  match v,hv.trans hl with
  | [x],_=>rfl
 | 11,_=>rfl
 | 12,_=>rfl
def rgOL (l:List AOp) (k:Nat):Int:=if (l.getD k uN).kind=118 then 0 else (l.getD k uN).r
def imR:List AOp→List Nat→Nat→Nat
 | [],_,m=>m
 | o::l,v,m=>imR l (v.drop 1) (if o.kind=118 then v.headD 0 else if o.kind=109 then o.n else m)
def qiR (z:Int) (l:List AOp) (v:List Nat):QI:=⟨z,if z=52∨z=54 then 0 else rgOL l 0,if z=52∨z=54 then rgOL l 0 else rgOL l 1,rgOL l 2,imR l v 0⟩
theorem sh_fin:((List.range 64).all fun z=>decide (pK z=[])||(decide ((rS z).length≤3)&&(!(decide (z=52)||decide (z=54))||decide (rS z=[114])||decide (rS z=[114,118]))))=true:=by kernel_rfl
def rgO (o:AOp):Int:=if o.kind=118 then 0 else o.r
def imO (o:AOp) (v:List Nat) (m:Nat):Nat:=if o.kind=118 then v.headD 0 else if o.kind=109 then o.n else m
theorem insQ_nil {op:Int}{v:List Nat}{k:Nat}{i:QI}:sQ op [] v k i=i:=rfl
theorem st0 {op:Int}(h:¬(op=52∨op=54)) (o:AOp) (l:List AOp) (v:List Nat) (z a b:Int) (m:Nat):sQ op (o::l) v 0 ⟨z,0,a,b,m⟩=sQ op l (v.drop 1) 1 ⟨z,rgO o,a,b,imO o v m⟩:=by
 show sQ op l (v.drop 1) 1 (if o.kind=118 then { (⟨z,0,a,b,m⟩:QI) with imm:=v.headD 0 } else if o.kind=109 then pH { (⟨z,0,a,b,m⟩:QI) with imm:=o.n } (if op=52∨op=54 then 0+1 else 0) o.r else pH ⟨z,0,a,b,m⟩ (if op=52∨op=54 then 0+1 else 0) o.r)=_;rw[Ag h];unfold rgO imO
 by_cases h1:o.kind=118
 simp only[Ah h1];simp only[Ag h1]
 by_cases h2:o.kind=109
 simp only[Ah h2];rfl;simp only[Ag h2];rfl
theorem st1 {op:Int}(h:¬(op=52∨op=54)) (o:AOp) (l:List AOp) (v:List Nat) (z d b:Int) (m:Nat):sQ op (o::l) v 1 ⟨z,d,0,b,m⟩=sQ op l (v.drop 1) 2 ⟨z,d,rgO o,b,imO o v m⟩:=by
 show sQ op l (v.drop 1) 2 (if o.kind=118 then { (⟨z,d,0,b,m⟩:QI) with imm:=v.headD 0 } else if o.kind=109 then pH { (⟨z,d,0,b,m⟩:QI) with imm:=o.n } (if op=52∨op=54 then 1+1 else 1) o.r else pH ⟨z,d,0,b,m⟩ (if op=52∨op=54 then 1+1 else 1) o.r)=_;rw[Ag h];unfold rgO imO
 by_cases h1:o.kind=118
 simp only[Ah h1];simp only[Ag h1]
 by_cases h2:o.kind=109
 simp only[Ah h2];rfl;simp only[Ag h2];rfl
theorem st2 {op:Int}(h:¬(op=52∨op=54)) (o:AOp) (l:List AOp) (v:List Nat) (z d a:Int) (m:Nat):sQ op (o::l) v 2 ⟨z,d,a,0,m⟩=sQ op l (v.drop 1) 3 ⟨z,d,a,rgO o,imO o v m⟩:=by
 show sQ op l (v.drop 1) 3 (if o.kind=118 then { (⟨z,d,a,0,m⟩:QI) with imm:=v.headD 0 } else if o.kind=109 then pH { (⟨z,d,a,0,m⟩:QI) with imm:=o.n } (if op=52∨op=54 then 2+1 else 2) o.r else pH ⟨z,d,a,0,m⟩ (if op=52∨op=54 then 2+1 else 2) o.r)=_;rw[Ag h];unfold rgO imO
 by_cases h1:o.kind=118
 simp only[Ah h1];simp only[Ag h1]
 by_cases h2:o.kind=109
 simp only[Ah h2];rfl;simp only[Ag h2];rfl
theorem su0 {op:Int}(h:op=52∨op=54) (o:AOp) (l:List AOp) (v:List Nat) (z d b:Int) (m:Nat):sQ op (o::l) v 0 ⟨z,d,0,b,m⟩=sQ op l (v.drop 1) 1 ⟨z,d,rgO o,b,imO o v m⟩:=by
 show sQ op l (v.drop 1) 1 (if o.kind=118 then { (⟨z,d,0,b,m⟩:QI) with imm:=v.headD 0 } else if o.kind=109 then pH { (⟨z,d,0,b,m⟩:QI) with imm:=o.n } (if op=52∨op=54 then 0+1 else 0) o.r else pH ⟨z,d,0,b,m⟩ (if op=52∨op=54 then 0+1 else 0) o.r)=_;rw[Ah h];unfold rgO imO
 by_cases h1:o.kind=118
 simp only[Ah h1];simp only[Ag h1]
 by_cases h2:o.kind=109
 simp only[Ah h2];rfl;simp only[Ag h2];rfl
theorem su1 {op:Int}(o:AOp) (hv:o.kind=118) (l:List AOp) (v:List Nat) (k:Nat) (z d a b:Int) (m:Nat):sQ op (o::l) v k ⟨z,d,a,b,m⟩=sQ op l (v.drop 1) (k+1) ⟨z,d,a,b,imO o v m⟩:=by
 show sQ op l (v.drop 1) (k+1) (if o.kind=118 then { (⟨z,d,a,b,m⟩:QI) with imm:=v.headD 0 } else _)=_;unfold imO;simp only[Ah hv]
theorem insQ_qiR {z:Int}{l:List AOp}(h3:l.length≤3) (h2:z=52∨z=54→l.length=1∨∃o p,l=[o,p]∧p.kind=118) (v:List Nat):sQ z l v 0 ⟨z,0,0,0,0⟩=qiR z l v:=by
 unfold qiR
 by_cases hz:z=52∨z=54
 ·rw[Ah hz,Ah hz];rcases h2 hz with h2|⟨o,p,rfl,hp⟩
  ·match l,h2 with
   | [o],_=>rw[su0 hz,insQ_nil];rfl
  rw[su0 hz,su1 p hp,insQ_nil];rfl
 rw[Ag hz,Ag hz]
 match l,h3 with
 | [],_=>rfl
 | [o],_=>rw[st0 hz,insQ_nil];rfl
 | [o,p],_=>rw[st0 hz,st1 hz,insQ_nil];rfl
 | [o,p,q],_=>rw[st0 hz,st1 hz,st2 hz,insQ_nil];rfl
theorem subR_lt (a b:Nat):subW a b<4294967296:=Nat.mod_lt _ (by omega)
theorem far_eq {x:Nat}(hx:x<4294967296):((sgnI x).tmod 4=0↔x%4=0)∧(x%4=0→((sgnI x).tdiv 4%4294967296).toNat=sxL (x/4) 30):=by
 unfold sgnI;have e:∀k:Int,(4*k).tmod 4=0:=fun k=>Int.mul_tmod_right 4 k;have d:∀k:Int,(4*k).tdiv 4=k:=fun k=>Int.mul_tdiv_cancel_left k (by decide);have t:∀k:Int,k.tmod 4=0→k%4=0:=fun k hk=>Int.emod_eq_zero_of_dvd (Int.dvd_of_tmod_eq_zero hk);refine⟨⟨fun h=>?_,fun h=>?_⟩,fun h=>?_⟩
 ·have:=t _ h
  split at this<;>omega
 ·split
  rw[show ((x:Nat):Int)=4*((x/4:Nat):Int) by omega];exact e _;rw[show ((x:Nat):Int)-4294967296=4*(((x/4:Nat):Int)-1073741824) by omega];exact e _
 unfold sxL;simp only[Nat.reducePow,Nat.reduceSub]
 by_cases h1:x<2147483648
 ·rw[Ah h1,show ((x:Nat):Int)=4*((x/4:Nat):Int) by omega,d]
  split<;>omega
 rw[Ag h1,show ((x:Nat):Int)-4294967296=4*(((x/4:Nat):Int)-1073741824) by omega,d]
 split<;>omega
def okE7 (x:Option Bs):Except Nat Bs:=match x with
 | some c=>.ok c
 | none=>.error 13
def jqR (i:QI) (a:Nat):QI:=if pI i.op=true then { i with imm:=sxL (subW i.imm a/4) 30 } else i
def nV (kind:Int) (s:RSt) (v:List Nat) (a:Nat):Except Nat Bs :=
 if s.op=[] then .ok [] else if uB s=true then (if s.w=xT then .ok (List.replicate (v.getD 0 0) 0) else bytA (decide (s.w=uT)) v)
 else if kind=2 then (match pL s.op s.suf s.shape with
  | none=>.ok []
  | some z=>if pI (z:Nat)=true∧subW (qiR z s.l v).imm a%4≠0 then .error 13 else match tD (jqR (qiR z s.l v) a) with
   | some w=>.ok (wS w 4)
   | none=>.error 13)
 else match tN s.op s.suf s.shape with
  | none=>.ok []
  | some p=>okE7 (tW (kiR (fmN (opK p.1 s.l)) (opK p.1 s.l) s.shape s.l v a))
theorem qop_some {op suf shape:Bs}{z:Nat}(h:pL op suf shape=some z):z<64∧pK z≠[]∧pK z=op∧suf=[]∧rS z=shape:=by
 have h1:=List.find?_some h;have h2:=List.mem_of_find?_eq_some h;unfold qopG at h1;simp only[Ab,Bool.not_eq_true',decide_eq_false_iff_not,Af] at h1;exact⟨List.mem_range.1 h2,h1⟩
theorem shp_kind {l:List AOp}(hk:∀o∈l,o.kind<256) {sh:Bs}(h:xR l=sh):∀(n:Nat) (c:UInt8),sh[n]? = some c→∃o:AOp,l[n]? = some o∧o.kind=c.toNat:=by
 intro n c hc;rw[← h] at hc;unfold xR at hc;rw[List.getElem?_map] at hc
 cases ho:l[n]? with
 | none=>rw[ho] at hc;cases hc
 | some o =>
  rw[ho] at hc;refine⟨o,rfl,?_⟩;have:byL o.kind=c:=by simpa using hc
  rw[← this];have:=hk o (Ko ho);show o.kind=(UInt8.ofNat o.kind).toNat;rw[UInt8.toNat_ofNat',Nat.mod_eq_of_lt this]
theorem qop_l {op suf:Bs}{z:Nat}{l:List AOp}(hk:∀o∈l,o.kind<256) (h:pL op suf (xR l)=some z):l.length≤3∧((z:Int)=52∨(z:Int)=54→l.length=1∨∃o p,l=[o,p]∧p.kind=118):=by
 obtain⟨h1,h2,_,_,h5⟩:=qop_some h;have hf:=uF sh_fin z h1;simp only[Bool.or_eq_true,Ab,Bool.not_eq_true',Af,Bool.or_eq_false_iff,decide_eq_false_iff_not] at hf;have hf:=hf.resolve_left h2;rw[h5] at hf;have hl:=sI l;refine⟨by omega,fun hz=>?_⟩;rcases hf.2 with (h6|h6)|h6;omega
 ·rw[h6] at hl;exact .inl hl.symm
 rw[h6] at hl
 match l,hl with
 | [o,p],_ =>
  obtain⟨q,hq,hq2⟩:=shp_kind hk h6 1 118 rfl;obtain rfl:p=q:=by simpa using hq
  exact .inr ⟨o,p,rfl,hq2⟩
theorem cod_eq {kind:Int}(hk:kind=1∨kind=2) {s:RSt}(hsh:s.shape=xR s.l) (hkd:∀o∈s.l,o.kind<256) (hr:¬wQ kind s<0) {v:List Nat}(hv:v.length=s.l.length) (a p:Nat):cdA { StR kind s with at_:=p } v a=nV kind s v a:=by
 have hl:s.shape.length=s.l.length:=by rw[hsh];exact sI _
 obtain⟨z0,z1⟩:=frm_size (kind:=kind) hl;unfold cdA nV StR;dsimp only
 by_cases ho:s.op=[]
 ·rw[Ah ho];have:frmR kind s=none:=by unfold frmR;rw[Ah ho]
  rw[this]
 rw[Ag ho];have z1:=z1 ho
 by_cases hd:uB s=true
 ·rw[Ah hd];have hf:frmR kind s=qI s.w:=by unfold frmR;rw[Ag ho,Ah hd]
  rw[hf];unfold uB at hd;simp only[Ab,Bool.or_eq_true,Bool.not_eq_true',Af,decide_eq_false_iff_not] at hd;rcases hd.2.2 with h1|h1|h1;rw[h1];rfl;rw[h1];rfl;rw[h1.1];rfl
 rw[Ag hd];rcases hk with rfl|rfl
 ·have hf:frmR 1 s=(tN s.op s.suf s.shape).map fun p=>.k p.1 p.2:=by unfold frmR;rw[Ag ho,Ag hd,Ag (by decide)]
  rw[hf] at z1 ⊢;rw[Ag (by decide)]
  cases hs:tN s.op s.suf s.shape with
  | none=>rw[hs] at z1;exact absurd (show wQ 1 s<0 by rw[show wQ 1 s=-1 from z1];decide) hr
  | some q =>
   obtain⟨sel,f⟩:=q;show sT (.k sel f) s.shape s.l v a=_;unfold sT;dsimp only;rw[ins_kiR hs hl.symm hv];unfold okE7;cases tW (kiR (fmN (opK sel s.l)) (opK sel s.l) s.shape s.l v a)<;>rfl
 have hf:frmR 2 s=(pL s.op s.suf s.shape).map fun (z:Nat)=>.q z:=by unfold frmR;rw[Ag ho,Ag hd,Ah rfl]
 rw[hf] at z1 ⊢;rw[Ah rfl]
 cases hs:pL s.op s.suf s.shape with
 | none=>rw[hs] at z1;exact absurd (show wQ 2 s<0 by rw[show wQ 2 s=-1 from z1];decide) hr
 | some z =>
  show sT (.q (z:Nat)) s.shape s.l v a=_;rw[hsh] at hs;obtain⟨l3,l2⟩:=qop_l hkd hs;unfold sT;dsimp only;rw[insQ_qiR l3 l2];unfold jqR;have hop:(qiR z s.l v).op=(z:Nat):=rfl;rw[hop]
  by_cases hj:pI ((z:Nat):Int)=true
  ·rw[Ah hj,Ah hj];obtain⟨f1,f2⟩:=far_eq (subR_lt (qiR z s.l v).imm a)
   by_cases h4:subW (qiR z s.l v).imm a%4=0
   ·rw[Ah (f1.2 h4),f2 h4,Ag (fun hh=>hh.2 h4)];generalize tD _=y;cases y<;>rfl
   rw[Ag (fun hh=>h4 (f1.1 hh)),Ah ⟨hj,h4⟩]
  rw[Ag hj,Ag (fun hh=>hj hh.1),Ag hj];generalize tD _=y;cases y<;>rfl
def pC (kind:Int):List Bs→Nat→Nat→List (Bs×Nat)→List (RSt×Nat)→Except (Nat×Nat) (List (RSt×Nat)×List (Bs×Nat))
 | [],_,_,lb,acc=>.ok (acc,lb)
 | s::r,k,a,lb,acc=>match rN s with
  | .error e=>.error (k+1,e)
  | .ok l=>match qZ kind l with
   | none=>.error (k+1,20)
   | some st=>if wQ kind st<0 then .error (k+1,20)
    else if st.label≠[]∧(tO st.label lb).isSome=true then .error (k+1,22)
    else if 65536<a+(wQ kind st).toNat then .error (k+1,2)
    else pC kind r (k+1) (a+(wQ kind st).toNat) (if st.label≠[] then lb++[(st.label,a)] else lb) (acc++[(st,a)])
def plO (org:Nat) (p:Bs×Nat):Bs×Nat:=(p.1,(org+p.2)%4294967296)
def stO (kind:Int) (p:RSt×Nat):ASt:={ StR kind p.1 with at_:=p.2 }
def routF (kind:Int) (org:Nat) (lb:List (Bs×Nat)):List (RSt×Nat)→Nat→Bs→Except (Nat×Nat) Bs
 | [],_,out=>.ok out
 | s::r,k,out=>match yG (wP (lb.map (plO org)) s.1.l) (fun v=>nV kind s.1 v ((org+s.2)%4294967296)) with
  | .error e=>.error (k+1,e)
  | .ok c=>routF kind org lb r (k+1) (out++c)
def nU (kind:Int) (text:Bs) (org:Nat):Bs×Nat×Nat :=
 if kind≠1∧kind≠2 then ([],0,1) else if 1048576<text.length then ([],0,2) else
 match pC kind (xK text) 0 0 [] [] with
 | .error (k,e)=>([],k,e)
 | .ok (l,labels)=>match routF kind org labels l 0 [] with
  | .error (k,e)=>([],k,e)
  | .ok out=>(out,0,0)
theorem labA_map (org:Nat) (x:Bs):∀lb:List (Bs×Nat),tO x (lb.map (plO org))=(tO x lb).map fun a=>(org+a)%4294967296
 | []=>rfl
 | (y,v)::lb=>by
  show (if x=y then some ((org+v)%4294967296) else tO x (lb.map (plO org)))=Option.map _ (if x=y then some v else tO x lb);rw[labA_map org x lb]
  split<;>rfl
structure GoodR (kind:Int) (s:RSt):Prop where
 sh:s.shape=xR s.l
 kd:∀o∈s.l,o.kind<256
 sz:¬wQ kind s<0
theorem opA_kind {kind:Int}{p:List ATk}{o:AOp}{q:List ATk}(h:opA kind p=.ok (o,q)):o.kind<256:=by
 have tail:∀(o':AOp) (p:List ATk),o'.kind<256→∀o q,vA o' p=.ok (o,q)→o.kind<256:=by
  intro o' p h' o q h;unfold vA at h
  cases hx:(if isA [43] p then yG (xH 48 (p.drop 1)) fun p=>.ok (p.1.n,p.2) else if isA [45] p then yG (xH 48 (p.drop 1)) fun p=>.ok (negA p.1.n,p.2) else .ok (0,p):Except Nat (Nat×List ATk)) with
  | error e=>rw[hx] at h;cases h
  | ok a =>
   rw[hx] at h;obtain⟨n,u⟩:=a;have h:(if isA [93] u then Except.ok ({ o' with n:=n },u.drop 1) else .error 20)=Except.ok (o,q):=h
   split at h
   ·cases h;exact h'
   ·cases h
 have bind:∀{α β:Type} {x:Except Nat α} {f:α→Except Nat β} {b:β},yG x f=.ok b→∃a,x=.ok a∧f a=.ok b:=by
  intro α β x f b h
  match x,h with
  | .ok a,h=>exact⟨a,rfl,h⟩
 unfold opA at h
 split at h
 ·unfold sB at h;obtain⟨a,_,h⟩:=bind h
  split at h
  ·obtain⟨b,_,h⟩:=bind h
   split at h
   ·obtain⟨c,_,h⟩:=bind h
    split at h
    exact tail _ _ (show (109:Nat)<256 by decide) _ _ h
    ·cases h
   exact tail _ _ (show (109:Nat)<256 by decide) _ _ h
  exact tail _ _ (show (109:Nat)<256 by decide) _ _ h
 split at h
 ·obtain⟨a,_,h⟩:=bind h;cases h;exact (show (118:Nat)<256 by decide)
 split at h
 ·obtain⟨a,_,h⟩:=bind h;cases h;exact (show (118:Nat)<256 by decide)
 obtain⟨a,_,h⟩:=bind h
 split at h
 ·cases h;exact (show (114:Nat)<256 by decide)
 obtain⟨b,_,h⟩:=bind h;cases h;exact (show (118:Nat)<256 by decide)
theorem opsR_kind {kind:Int}:∀{ps:List (List ATk)}{os:List AOp},rQ kind ps=some os→∀o∈os,o.kind<256
 | [],os,h=>by cases h;intro o ho;cases ho
 | p::ps,os,h=>by
  rw[rQ] at h
  cases hp:qN kind p with
  | none=>rw[hp] at h;cases h
  | some o =>
   rw[hp] at h
   cases hr:rQ kind ps with
   | none=>rw[hr] at h;cases h
   | some l =>
    rw[hr] at h;cases h;intro x hx;rcases List.mem_cons.1 hx with rfl|hx
    ·unfold qN at hp
     cases ho:opA kind p with
     | error e=>rw[ho] at hp;cases hp
     | ok a =>
      obtain⟨y,q⟩:=a;rw[ho] at hp
      cases q with
      | nil=>cases hp;exact opA_kind ho
      | cons t q=>cases hp
    exact opsR_kind hr x hx
theorem rbod_good {kind:Int}{lab:Bs}{l:List ATk}{s:RSt}(h:pB kind lab l=some s):s.shape=xR s.l∧∀o∈s.l,o.kind<256:=by
 match l,h with
 | [],h=>cases h;exact⟨rfl,fun o ho=>by cases ho⟩
 | t::r,h =>
  rw[pB] at h
  split at h
  ·cases h
  split at h
  ·cases h;exact⟨rfl,fun o ho=>by cases ho⟩
  cases ho:rQ kind (tP r) with
  | none=>rw[ho] at h;cases h
  | some os =>
   rw[ho] at h;dsimp only at h
   split at h
   ·cases h
   ·cases h;exact⟨rfl,opsR_kind ho⟩
theorem rpar_good {kind:Int}{l:List ATk}{s:RSt}(h:qZ kind l=some s):s.shape=xR s.l∧∀o∈s.l,o.kind<256:=by
 unfold qZ at h
 split at h
 ·split at h
  ·split at h
   exact rbod_good h
   ·cases h
  ·cases h
 exact rbod_good h
theorem pas_eq {kind:Int}(hk:kind=1∨kind=2) (org:Nat):∀(ls:List Bs) (k a:Nat) (lb:List (Bs×Nat)) (acc:List (RSt×Nat)),(∀p∈acc,GoodR kind p.1)→pasF kind org ls k a (lb.map (plO org)) (acc.map (stO kind))=match pC kind ls k a lb acc with
  | .error e=>.error e
  | .ok (sts,lb')=>.ok (sts.map (stO kind),lb'.map (plO org))
 | [],_,_,_,_,_=>rfl
 | s::r,k,a,lb,acc,hg=>by
  rw[pasF,pC]
  cases hl:rN s with
  | error e=>rfl
  | ok l =>
   show (match nR kind l with
    | .error e=>Except.error (k+1,e)
    | .ok st=>_)=_
   rw[par_eq hk (lexA_wd hl)];dsimp only
   cases hp:qZ kind l with
   | none=>rfl
   | some st =>
    unfold resR;dsimp only
    by_cases hz:wQ kind st<0
    rw[Ah hz,Ah hz];rw[Ag hz,Ag hz];dsimp only;have e1:(StR kind st).label=st.label:=rfl;have e2:(StR kind st).size=(wQ kind st).toNat:=rfl;have e3:(tO st.label (lb.map (plO org))).isSome=(tO st.label lb).isSome:=by rw[labA_map,Option.isSome_map]
    rw[e1,e2,e3]
    by_cases ht:st.label≠[]∧(tO st.label lb).isSome=true
    rw[Ah ht,Ah ht];rw[Ag ht,Ag ht]
    by_cases hm:65536<a+(wQ kind st).toNat
    rw[Ah hm,Ah hm];rw[Ag hm,Ag hm]
    have e4:(if st.label≠[] then lb.map (plO org)++[(st.label,(org+a)%4294967296)] else lb.map (plO org))=(if st.label≠[] then lb++[(st.label,a)] else lb).map (plO org):=by
     split
     rw[List.map_append];rfl;rfl
    have e5:acc.map (stO kind)++[(⟨st.label,(StR kind st).op,(StR kind st).shape,(StR kind st).l,(StR kind st).form,a,(wQ kind st).toNat⟩:ASt)]=(acc++[(st,a)]).map (stO kind):=by rw[List.map_append];rfl
    rw[e4,e5];refine pas_eq hk org r (k+1) (a+(wQ kind st).toNat) _ _ fun p hpm=>?_;rcases Aq.1 hpm with hpm|hpm;exact hg p hpm;obtain rfl:=Ar.1 hpm;exact⟨(rpar_good hp).1,(rpar_good hp).2,hz⟩
theorem rpas_good {kind:Int}:∀(ls:List Bs) (k a:Nat) (lb:List (Bs×Nat)) (acc:List (RSt×Nat)),(∀p∈acc,GoodR kind p.1)→∀sts lb',pC kind ls k a lb acc=.ok (sts,lb')→∀p∈sts,GoodR kind p.1
 | [],_,_,_,_,hg,sts,lb',h=>by cases h;exact hg
 | s::r,k,a,lb,acc,hg,sts,lb',h=>by
  rw[pC] at h
  split at h
  ·cases h
  split at h
  ·cases h
  next st hp =>
  split at h
  ·cases h
  next hz =>
  split at h
  ·cases h
  split at h
  ·cases h
  refine rpas_good r _ _ _ _ (fun p hpm=>?_) sts lb' h;rcases Aq.1 hpm with hpm|hpm;exact hg p hpm;obtain rfl:=Ar.1 hpm;exact⟨(rpar_good hp).1,(rpar_good hp).2,hz⟩
theorem vals_len {lb:List (Bs×Nat)}:∀{l:List AOp}{v:List Nat},wP lb l=.ok v→v.length=l.length
 | [],v,h=>by cases h;rfl
 | o::l,v,h=>by
  have bind:∀{x:Except Nat (List Nat)} {n:Nat},yG x (fun r=>.ok (n::r))=.ok v→∃a,x=.ok a∧v=n::a:=by
   intro x n h
   match x,h with
   | .ok a,h=>cases h;exact⟨a,rfl,rfl⟩
  rw[wP] at h
  split at h
  ·split at h
   ·obtain⟨a,h1,rfl⟩:=bind h;rw[Kc,Kc,vals_len h1]
   ·cases h
  obtain⟨a,h1,rfl⟩:=bind h;rw[Kc,Kc,vals_len h1]
theorem out_eq {kind:Int}(hk:kind=1∨kind=2) (org:Nat) (lb:List (Bs×Nat)):∀(l:List (RSt×Nat)) (k:Nat) (out:Bs),(∀p∈l,GoodR kind p.1)→outF org (lb.map (plO org)) (l.map (stO kind)) k out=routF kind org lb l k out
 | [],_,_,_=>rfl
 | s::l,k,out,hg=>by
  obtain⟨g1,g2,g3⟩:=hg s (by simp)
  show (match yG (wP (lb.map (plO org)) s.1.l) (fun v=>cdA (stO kind s) v ((org+s.2)%4294967296)) with
   | .error e=>Except.error (k+1,e)
   | .ok c=>outF org (lb.map (plO org)) (l.map (stO kind)) (k+1) (out++c))=_
  rw[routF]
  have:yG (wP (lb.map (plO org)) s.1.l) (fun v=>cdA (stO kind s) v ((org+s.2)%4294967296))=yG (wP (lb.map (plO org)) s.1.l) (fun v=>nV kind s.1 v ((org+s.2)%4294967296)):=by
   cases hv:wP (lb.map (plO org)) s.1.l with
   | error e=>rfl
   | ok v=>exact cod_eq hk g1 g2 g3 (vals_len hv) _ s.2
  rw[this]
  cases yG (wP (lb.map (plO org)) s.1.l) (fun v=>nV kind s.1 v ((org+s.2)%4294967296)) with
  | error e=>rfl
  | ok c=>exact out_eq hk org lb l (k+1) (out++c) fun p hp=>hg p (Ky _ hp)
theorem rasm_eq (kind:Int) (text:Bs) (org:Nat):oH kind text org=nU kind text org:=by
 unfold oH nU
 by_cases hk:kind≠1∧kind≠2
 rw[Ah hk,Ah hk];rw[Ag hk,Ag hk];have hk:kind=1∨kind=2:=by omega
 by_cases hl:1048576<text.length
 rw[Ah hl,Ah hl];rw[Ag hl,Ag hl];have:=pas_eq hk org (xK text) 0 0 [] [] (fun p h=>by cases h);rw[List.map_nil,List.map_nil] at this;rw[this]
 cases hr:pC kind (xK text) 0 0 [] [] with
 | error e=>rfl
 | ok x =>
  obtain⟨sts,lb⟩:=x;dsimp only;rw[out_eq hk org lb sts 0 [] (rpas_good _ _ _ _ _ (fun p h=>by cases h) sts lb hr)];generalize routF kind org lb sts 0 []=y;cases y<;>rfl
end Go.Proofs.YtkaepknpplhgkaaGreatDoor
