import Derived.Test.YtfpkpnkdnammnaaGreatDoorStr
import Derived.Test.YtfpkpnkdnammnaaGreatDoorMge
namespace Go.Proofs.YtfpkpnkdnammnaaGreatDoor
open Go.RowKit
def RdF (F:Nat→Prop) (A:Option Addr) (cs:List Value) (w:World):Prop:=0<cs.length→∃b off,A=some ⟨b,off,none⟩∧F b∧b<w.heap.size∧∀i,i<cs.length→w.cell? ⟨b,off+i,none⟩=some (cs.getD i undef)
structure Lies (T:(Nat→Prop)→World→Prop):Prop where
 foot:∀{F:Nat→Prop} {w w':World},(∀k,F k→w'.heap[k]? = w.heap[k]?)→T F w→T F w'
 lt:∀{F:Nat→Prop} {w:World},T F w→T (fun k=>F k∧k<w.heap.size) w
 mono:∀{F F':Nat→Prop} {w:World},(∀k,F k→F' k)→T F w→T F' w
theorem RdF.rd {F:Nat→Prop}{A:Option Addr}{cs:List Value}{w:World}(h:RdF F A cs w):Rd A cs w:=fun h0=>by
 obtain⟨b,off,e,_,_,hc⟩:=h h0;exact⟨b,off,e,hc⟩
theorem RdF.lies {A:Option Addr}{cs:List Value}:Lies fun F=>RdF F A cs:=by
 refine⟨fun {F w w'} hk h h0=>?_,fun {F w} h h0=>?_,fun {F F' w} hF h h0=>?_⟩<;>obtain⟨b,off,e,h1,h2,hc⟩:=h h0
 ·refine⟨b,off,e,h1,?_,fun i hi=>?_⟩
  ·have:=hk b h1;rw[Array.getElem?_eq_getElem h2] at this;exact (Jv.1 this).1
  ·rw[← hc i hi];exact World.cell?_of_block (hk b h1)
 ·exact⟨b,off,e,⟨h1,h2⟩,h2,hc⟩
 ·exact⟨b,off,e,hF b h1,h2,hc⟩
theorem RdF.nil {F:Nat→Prop}{A:Option Addr}{w:World}:RdF F A [] w:=fun h=>absurd h (by simp)
theorem RdF.part {F:Nat→Prop}{b off o i:Nat}{cs:List Value}{w:World}(h:RdF F (some ⟨b,off,none⟩) cs w) (hi:i<cs.length) (ho:o=off+i) {v:Value}(hv:cs[i]? = some v):w.cell? ⟨b,o,none⟩=some v:=by
 obtain⟨b',off',e,_,_,hc⟩:=h (by omega);cases e;subst ho;rw[hc i hi,Ka,hv];rfl
def Cp (n cap:Nat):Prop:=n≤cap∧cap≤maxLen
theorem uV:Cp 0 0:=⟨Km _,by unfold maxLen;omega⟩
theorem pK:Cp 1 1:=⟨Km _,by unfold maxLen;omega⟩
theorem cp22:Cp 2 2:=⟨Km _,by unfold maxLen;omega⟩
theorem Cp.lt {n cap:Nat}(h:Cp n cap):n≤9223372036854775807:=by have:=h.1;have:=h.2;unfold maxLen at *;omega
abbrev exC (k n:Nat) (s:Bs) (A:Option Addr) (len cap:Nat):List Value:=[.int .i64 k,.int .u32 n,.string ⟨s.toArray⟩,.slice A len cap]
inductive ExsV (F:Nat→Prop) (w:World):List Ex→List Value→Prop
 | nil:ExsV F w [] []
 | cons {k n:Nat} {s:Bs} {kids l:List Ex} {A:Option Addr} {cap:Nat} {kc rest:List Value} (h1:Cp kids.length cap) (h2:RdF F A kc w) (h3:ExsV F w kids kc) (h4:ExsV F w l rest):ExsV F w (.mk k n s kids::l) (exC k n s A kids.length cap++rest)
theorem ExsV.lies {l:List Ex}{cs:List Value}:Lies fun F w=>ExsV F w l cs:=by
 refine⟨fun {F w w'} hk h=>?_,fun {F w} h=>?_,fun {F F' w} hF h=>?_⟩
 ·induction h with
  | nil=>exact .nil
  | cons h1 h2 _ _ i1 i2=>exact .cons h1 (RdF.lies.foot hk h2) i1 i2
 ·induction h with
  | nil=>exact .nil
  | cons h1 h2 _ _ i1 i2=>exact .cons h1 (RdF.lies.lt h2) i1 i2
 ·induction h with
  | nil=>exact .nil
  | cons h1 h2 _ _ i1 i2=>exact .cons h1 (RdF.lies.mono hF h2) i1 i2
theorem ExsV.len {F:Nat→Prop}{w:World}{l:List Ex}{cs:List Value}(h:ExsV F w l cs):cs.length=4*l.length:=by
 induction h with
 | nil=>rfl
 | cons _ _ _ _ _ i2=>simp[i2];omega
theorem ExsV.append {F:Nat→Prop}{w:World}{l m:List Ex}{cs ds:List Value}(h:ExsV F w l cs) (k:ExsV F w m ds):ExsV F w (l++m) (cs++ds):=by
 induction h with
 | nil=>exact k
 | cons h1 h2 h3 _ _ i2=>exact .cons h1 h2 h3 i2
theorem ExsV.one {F:Nat→Prop}{w:World}{k n:Nat}{s:Bs}{kids:List Ex}{A:Option Addr}{cap:Nat}{kc:List Value}(h1:Cp kids.length cap) (h2:RdF F A kc w) (h3:ExsV F w kids kc):ExsV F w [.mk k n s kids] (exC k n s A kids.length cap):=.cons (rest:=[]) h1 h2 h3 .nil
theorem ExsV.cell (F:Nat→Prop) (w:World) {l:List Ex}{cs:List Value}(h:ExsV F w l cs):∀v∈cs,v.oneCell'=true:=by
 induction h with
 | nil=>simp
 | cons _ _ _ _ _ i2 =>
  intro v hv;rcases Kz.1 hv with hv|hv
  ·simp only[List.mem_cons,List.not_mem_nil,or_false] at hv;rcases hv with rfl|rfl|rfl|rfl<;>rfl
  ·exact i2 v hv
def xT (F:Nat→Prop) (w:World) (e:Ex) (A:Option Addr) (cap:Nat):Prop:=Cp e.kids.length cap∧∃kc,RdF F A kc w∧ExsV F w e.kids kc
theorem xT.lies {e:Ex}{A:Option Addr}{cap:Nat}:Lies fun F w=>xT F w e A cap :=
 ⟨fun hk ⟨h0,kc,h1,h2⟩=>⟨h0,kc,RdF.lies.foot hk h1,ExsV.lies.foot hk h2⟩,fun ⟨h0,kc,h1,h2⟩=>⟨h0,kc,RdF.lies.lt h1,ExsV.lies.lt h2⟩,fun hF ⟨h0,kc,h1,h2⟩=>⟨h0,kc,RdF.lies.mono hF h1,ExsV.lies.mono hF h2⟩⟩
abbrev xL (e:Ex) (A:Option Addr) (cap:Nat):List Value:=exC e.kind e.n e.name A e.kids.length cap
theorem xT.one {F:Nat→Prop}{w:World}{e:Ex}{A:Option Addr}{cap:Nat}(h:xT F w e A cap):ExsV F w [e] (xL e A cap):=by
 obtain⟨h0,kc,h1,h2⟩:=h
 cases e with
 | mk k n s kids=>exact .one h0 h1 h2
theorem ExsV.k {F:Nat→Prop}{w:World}{e:Ex}{cs:List Value}(h:ExsV F w [e] cs):∃A cap,cs=xL e A cap∧xT F w e A cap:=by
 cases h with
 | cons h1 h2 h3 h4 =>
  cases h4;exact⟨_,_,by simp[Ex.kind,Ex.n,Ex.name,Ex.kids],h1,_,h2,h3⟩
theorem ExsV.at {F:Nat→Prop}{w:World}{l:List Ex}{cs:List Value}(h:ExsV F w l cs) {i:Nat}{e:Ex}(hi:l[i]? = some e):∃A cap,xT F w e A cap∧∀(j:Nat) (v:Value),(xL e A cap)[j]? = some v→cs[4*i+j]? = some v:=by
 induction h generalizing i with
 | nil=>cases hi
 | @cons k n s kids l A cap kc rest h1 h2 h3 h4 i1 i2 =>
  cases i with
  | zero =>
   cases hi;refine⟨A,cap,⟨h1,kc,h2,h3⟩,fun j v hj=>?_⟩;rw[Nat.mul_zero,Kk];exact (List.getElem?_append_left (Jm.1 hj).1).trans hj
  | succ i =>
   obtain⟨A',cap',h5,h6⟩:=i2 hi;refine⟨A',cap',h5,fun j v hj=>?_⟩;rw[List.getElem?_append_right (by simp;omega)];have:4*(i+1)+j-(exC k n s A kids.length cap).length=4*i+j:=by simp;omega
   rw[this];exact h6 j v hj
abbrev stC (k:Nat) (s:Bs) (A1:Option Addr) (l1 c1:Nat) (A2:Option Addr) (l2 c2:Nat) (A3:Option Addr) (l3 c3:Nat):List Value:=[.int .i64 k,.string ⟨s.toArray⟩,.slice A1 l1 c1,.slice A2 l2 c2,.slice A3 l3 c3]
inductive StsV (F:Nat→Prop) (w:World):List St→List Value→Prop
 | nil:StsV F w [] []
 | cons {k:Nat} {s:Bs} {es:List Ex} {b c l:List St} {A1 A2 A3:Option Addr} {c1 c2 c3:Nat} {x1 x2 x3 rest:List Value} (p1:Cp es.length c1) (p2:Cp b.length c2) (p3:Cp c.length c3) (h1:RdF F A1 x1 w) (h2:RdF F A2 x2 w) (h3:RdF F A3 x3 w) (k1:ExsV F w es x1) (k2:StsV F w b x2) (k3:StsV F w c x3) (h4:StsV F w l rest) :
   StsV F w (.mk k s es b c::l) (stC k s A1 es.length c1 A2 b.length c2 A3 c.length c3++rest)
theorem StsV.lies {l:List St}{cs:List Value}:Lies fun F w=>StsV F w l cs:=by
 refine⟨fun {F w w'} hk h=>?_,fun {F w} h=>?_,fun {F F' w} hF h=>?_⟩
 ·induction h with
  | nil=>exact .nil
  | cons p1 p2 p3 h1 h2 h3 k1 _ _ _ i1 i2 i3=>exact .cons p1 p2 p3 (RdF.lies.foot hk h1) (RdF.lies.foot hk h2) (RdF.lies.foot hk h3) (ExsV.lies.foot hk k1) i1 i2 i3
 ·induction h with
  | nil=>exact .nil
  | cons p1 p2 p3 h1 h2 h3 k1 _ _ _ i1 i2 i3=>exact .cons p1 p2 p3 (RdF.lies.lt h1) (RdF.lies.lt h2) (RdF.lies.lt h3) (ExsV.lies.lt k1) i1 i2 i3
 ·induction h with
  | nil=>exact .nil
  | cons p1 p2 p3 h1 h2 h3 k1 _ _ _ i1 i2 i3=>exact .cons p1 p2 p3 (RdF.lies.mono hF h1) (RdF.lies.mono hF h2) (RdF.lies.mono hF h3) (ExsV.lies.mono hF k1) i1 i2 i3
theorem StsV.len {F:Nat→Prop}{w:World}{l:List St}{cs:List Value}(h:StsV F w l cs):cs.length=5*l.length:=by
 induction h with
 | nil=>rfl
 | cons _ _ _ _ _ _ _ _ _ _ _ _ i3=>simp[i3];omega
theorem StsV.append {F:Nat→Prop}{w:World}{l m:List St}{cs ds:List Value}(h:StsV F w l cs) (k:StsV F w m ds):StsV F w (l++m) (cs++ds):=by
 induction h with
 | nil=>exact k
 | cons p1 p2 p3 h1 h2 h3 k1 k2 k3 _ _ _ i3=>exact .cons p1 p2 p3 h1 h2 h3 k1 k2 k3 i3
def St.kind:St→Nat|.mk k _ _ _ _=>k
def St.name:St→Bs|.mk _ s _ _ _=>s
def St.exprs:St→List Ex|.mk _ _ l _ _=>l
def St.body:St→List St|.mk _ _ _ l _=>l
def St.els:St→List St|.mk _ _ _ _ l=>l
structure StA where
 (A1 A2 A3:Option Addr)
 (c1 c2 c3:Nat)
structure stsK (F:Nat→Prop) (w:World) (t:St) (a:StA):Prop where
 p1:Cp t.exprs.length a.c1
 p2:Cp t.body.length a.c2
 p3:Cp t.els.length a.c3
 h1:∃x,RdF F a.A1 x w∧ExsV F w t.exprs x
 h2:∃x,RdF F a.A2 x w∧StsV F w t.body x
 h3:∃x,RdF F a.A3 x w∧StsV F w t.els x
theorem stsK.lies {t:St}{a:StA}:Lies fun F w=>stsK F w t a :=
 ⟨fun hk ⟨p1,p2,p3,⟨x,a1,a2⟩,⟨y,b1,b2⟩,⟨z,d1,d2⟩⟩=>⟨p1,p2,p3,⟨x,RdF.lies.foot hk a1,ExsV.lies.foot hk a2⟩,⟨y,RdF.lies.foot hk b1,StsV.lies.foot hk b2⟩,⟨z,RdF.lies.foot hk d1,StsV.lies.foot hk d2⟩⟩,
  fun ⟨p1,p2,p3,⟨x,a1,a2⟩,⟨y,b1,b2⟩,⟨z,d1,d2⟩⟩=>⟨p1,p2,p3,⟨x,RdF.lies.lt a1,ExsV.lies.lt a2⟩,⟨y,RdF.lies.lt b1,StsV.lies.lt b2⟩,⟨z,RdF.lies.lt d1,StsV.lies.lt d2⟩⟩,
  fun hF ⟨p1,p2,p3,⟨x,a1,a2⟩,⟨y,b1,b2⟩,⟨z,d1,d2⟩⟩=>⟨p1,p2,p3,⟨x,RdF.lies.mono hF a1,ExsV.lies.mono hF a2⟩,⟨y,RdF.lies.mono hF b1,StsV.lies.mono hF b2⟩,⟨z,RdF.lies.mono hF d1,StsV.lies.mono hF d2⟩⟩⟩
abbrev stOf (t:St) (a:StA):List Value:=stC t.kind t.name a.A1 t.exprs.length a.c1 a.A2 t.body.length a.c2 a.A3 t.els.length a.c3
theorem stsK.one {F:Nat→Prop}{w:World}{t:St}{a:StA}(h:stsK F w t a):StsV F w [t] (stOf t a):=by
 obtain⟨p1,p2,p3,⟨x,a1,a2⟩,⟨y,b1,b2⟩,⟨z,d1,d2⟩⟩:=h
 cases t with
 | mk k s es b c=>exact .cons (rest:=[]) p1 p2 p3 a1 b1 d1 a2 b2 d2 .nil
theorem StsV.at {F:Nat→Prop}{w:World}{l:List St}{cs:List Value}(h:StsV F w l cs) {i:Nat}{e:St}(hi:l[i]? = some e):∃a,stsK F w e a∧∀(j:Nat) (v:Value),(stOf e a)[j]? = some v→cs[5*i+j]? = some v:=by
 induction h generalizing i with
 | nil=>cases hi
 | @cons k s es b c l A1 A2 A3 c1 c2 c3 x1 x2 x3 rest p1 p2 p3 h1 h2 h3 k1 k2 k3 h4 i1 i2 i3 =>
  cases i with
  | zero =>
   cases hi;refine⟨⟨A1,A2,A3,c1,c2,c3⟩,⟨p1,p2,p3,⟨x1,h1,k1⟩,⟨x2,h2,k2⟩,⟨x3,h3,k3⟩⟩,fun j v hj=>?_⟩;rw[Nat.mul_zero,Kk];exact (List.getElem?_append_left (Jm.1 hj).1).trans hj
  | succ i =>
   obtain⟨a',h5,h6⟩:=i3 hi;refine⟨a',h5,fun j v hj=>?_⟩;rw[List.getElem?_append_right (by simp;omega)];have:5*(i+1)+j-(stC k s A1 es.length c1 A2 b.length c2 A3 c.length c3).length=5*i+j:=by simp;omega
   rw[this];exact h6 j v hj
def xX (l:List Bs):List Value:=l.map fun s=>.string ⟨s.toArray⟩
@[simp] theorem strs_len (l:List Bs):(xX l).length=l.length:=by simp[xX]
abbrev fnC (s:Bs) (A1:Option Addr) (l1 c1:Nat) (A2:Option Addr) (l2 c2:Nat):List Value:=[.string ⟨s.toArray⟩,.slice A1 l1 c1,.slice A2 l2 c2]
inductive FnsV (F:Nat→Prop) (w:World):List Fn→List Value→Prop
 | nil:FnsV F w [] []
 | cons {f:Fn} {l:List Fn} {A1 A2:Option Addr} {c1 c2:Nat} {x2 rest:List Value} (p1:Cp f.params.length c1) (p2:Cp f.body.length c2) (h1:RdF F A1 (xX f.params) w) (h2:RdF F A2 x2 w) (k2:StsV F w f.body x2) (h4:FnsV F w l rest) :
   FnsV F w (f::l) (fnC f.name A1 f.params.length c1 A2 f.body.length c2++rest)
theorem FnsV.lies {l:List Fn}{cs:List Value}:Lies fun F w=>FnsV F w l cs:=by
 refine⟨fun {F w w'} hk h=>?_,fun {F w} h=>?_,fun {F F' w} hF h=>?_⟩
 ·induction h with
  | nil=>exact .nil
  | cons p1 p2 h1 h2 k2 _ i=>exact .cons p1 p2 (RdF.lies.foot hk h1) (RdF.lies.foot hk h2) (StsV.lies.foot hk k2) i
 ·induction h with
  | nil=>exact .nil
  | cons p1 p2 h1 h2 k2 _ i=>exact .cons p1 p2 (RdF.lies.lt h1) (RdF.lies.lt h2) (StsV.lies.lt k2) i
 ·induction h with
  | nil=>exact .nil
  | cons p1 p2 h1 h2 k2 _ i=>exact .cons p1 p2 (RdF.lies.mono hF h1) (RdF.lies.mono hF h2) (StsV.lies.mono hF k2) i
theorem FnsV.len {F:Nat→Prop}{w:World}{l:List Fn}{cs:List Value}(h:FnsV F w l cs):cs.length=3*l.length:=by
 induction h with
 | nil=>rfl
 | cons _ _ _ _ _ _ i=>simp[i];omega
theorem FnsV.append {F:Nat→Prop}{w:World}{l m:List Fn}{cs ds:List Value}(h:FnsV F w l cs) (k:FnsV F w m ds):FnsV F w (l++m) (cs++ds):=by
 induction h with
 | nil=>exact k
 | cons p1 p2 h1 h2 k2 _ i=>exact .cons p1 p2 h1 h2 k2 i
structure FnA where
 (A1 A2:Option Addr)
 (c1 c2:Nat)
structure fnsK (F:Nat→Prop) (w:World) (f:Fn) (a:FnA):Prop where
 p1:Cp f.params.length a.c1
 p2:Cp f.body.length a.c2
 h1:RdF F a.A1 (xX f.params) w
 h2:∃x,RdF F a.A2 x w∧StsV F w f.body x
theorem fnsK.lies {f:Fn}{a:FnA}:Lies fun F w=>fnsK F w f a :=
 ⟨fun hk ⟨p1,p2,a1,⟨y,b1,b2⟩⟩=>⟨p1,p2,RdF.lies.foot hk a1,⟨y,RdF.lies.foot hk b1,StsV.lies.foot hk b2⟩⟩,
  fun ⟨p1,p2,a1,⟨y,b1,b2⟩⟩=>⟨p1,p2,RdF.lies.lt a1,⟨y,RdF.lies.lt b1,StsV.lies.lt b2⟩⟩,
  fun hF ⟨p1,p2,a1,⟨y,b1,b2⟩⟩=>⟨p1,p2,RdF.lies.mono hF a1,⟨y,RdF.lies.mono hF b1,StsV.lies.mono hF b2⟩⟩⟩
abbrev rG (f:Fn) (a:FnA):List Value:=fnC f.name a.A1 f.params.length a.c1 a.A2 f.body.length a.c2
theorem fnsK.one {F:Nat→Prop}{w:World}{f:Fn}{a:FnA}(h:fnsK F w f a):FnsV F w [f] (rG f a):=by
 obtain⟨p1,p2,a1,⟨y,b1,b2⟩⟩:=h;exact .cons (rest:=[]) p1 p2 a1 b1 b2 .nil
theorem FnsV.at {F:Nat→Prop}{w:World}{l:List Fn}{cs:List Value}(h:FnsV F w l cs) {i:Nat}{e:Fn}(hi:l[i]? = some e):∃a,fnsK F w e a∧∀(j:Nat) (v:Value),(rG e a)[j]? = some v→cs[3*i+j]? = some v:=by
 induction h generalizing i with
 | nil=>cases hi
 | @cons f l A1 A2 c1 c2 x2 rest p1 p2 h1 h2 k2 h4 ih =>
  cases i with
  | zero =>
   cases hi;refine⟨⟨A1,A2,c1,c2⟩,⟨p1,p2,h1,⟨x2,h2,k2⟩⟩,fun j v hj=>?_⟩;rw[Nat.mul_zero,Kk];exact (List.getElem?_append_left (Jm.1 hj).1).trans hj
  | succ i =>
   obtain⟨a',h5,h6⟩:=ih hi;refine⟨a',h5,fun j v hj=>?_⟩;rw[List.getElem?_append_right (by simp;omega)];have:3*(i+1)+j-(fnC f.name A1 f.params.length c1 A2 f.body.length c2).length=3*i+j:=by simp;omega
   rw[this];exact h6 j v hj
section
variable {G B:Nat→Prop}{w0 w w':World}{L:List (Nat×Obj)}{R:List Rw}{X:World→Prop}{g k:Nat}{ob ob':Obj}{T:(Nat→Prop)→World→Prop}
theorem Hp.lie (hT:Lies T) (h:Hp B w0 L R X w) {n0:Nat}(hl:T (fun k=>n0≤k) w) (h0:w0.heap.size≤n0) (hb:∀k∈wB L R,k<n0) (hB:∀k,B k→k<n0):∃F:Nat→Prop,(∀k,F k→w0.heap.size≤k)∧Hp B w0 L R (fun u=>T F u∧X u) w:=by
 refine⟨fun k=>n0≤k∧k<w.heap.size,fun k hk=>Kx h0 hk.1,Hp.addX h ⟨_,fun k hk=>⟨hk.2,fun hbk=>absurd (hB k hbk) (by omega),fun hm=>absurd (hb k hm) (by omega)⟩,fun u hu=>hT.foot hu (hT.lt hl)⟩⟩
theorem Hp.startT (hT:Lies T) {F:Nat→Prop}(h:T F w):Hp (fun _=>False) w [] [] (T F) w :=
 Hp.start ⟨fun k=>F k∧k<w.heap.size,fun _ hk=>⟨hk.2,id⟩,fun _ hu=>hT.mono (fun _ hk=>hk.1) (hT.foot (F:=fun k=>F k∧k<w.heap.size) hu (hT.lt h))⟩
theorem Hp.callT (hT:Lies T) (h:Hp B w0 L R X w) (hB:∀k,B k→k<w0.heap.size) (hk:L[k]? = some (g,ob)) (hK:Keep (fun j=>j=g) w w') (hg:w'.heap[g]? = some ob') (hl:T (fun k=>w.heap.size≤k) w'):∃F:Nat→Prop,(∀k,F k→w0.heap.size≤k)∧Hp B w0 (L.set k (g,ob')) R (fun u=>T F u∧X u) w' :=
 Hp.lie hT (HpG.turn h hk hK hg) hl (HpG.size h) (fun j hj=>HpG.lt h j (by rwa [blks_set hk] at hj)) (fun j hj=>Jx (hB j hj) (HpG.size h))
theorem Hp.callT0 (hT:Lies T) (h:Hp B w0 L R X w) (hB:∀k,B k→k<w0.heap.size) (hK:Ext w w') (hl:T (fun k=>w.heap.size≤k) w'):∃F:Nat→Prop,(∀k,F k→w0.heap.size≤k)∧Hp B w0 L R (fun u=>T F u∧X u) w' :=
 Hp.lie hT (HpG.onE h hK) hl (HpG.size h) (fun j hj=>HpG.lt h j hj) (fun j hj=>Jx (hB j hj) (HpG.size h))
variable {P:Program}{ops:Array Oper}{Q:Exit→Act→World→Prop}{n:Nat}{m:List (Nat×Value)}{ty:TypeId}{ι:Type}{C:ι→Prop}{rest:List Oper}{d:Nat}{pos:String}{af:Array Edge}{gd:Option (Nat×Bool)}{f:FuncId}{args:List Operand}{ats:Array TypeId}{vs:List Value}{val:ι→Value}{obi:ι→Obj}{TT:ι→(Nat→Prop)→World→Prop}
theorem pH (hg:Gd ops m gd) (hd:Nat.blt d n=true) (k:Nat) (hf:goes P f=true) (ha:evl m args=some vs) (hk:L[k]? = some (g,ob)) (hB:∀k,B k→k<w0.heap.size) (hT:∀i,Lies (TT i))
  (hC:∀w,w.heap[g]? = some ob→Hp B w0 L R X w→Calls P f vs.toArray w fun e w'=>∃i,C i∧e=.returned (val i)∧Keep (fun j=>j=g) w w'∧w'.heap[g]? = some (obi i)∧TT i (fun k=>w.heap.size≤k) w')
  (h:∀i F,C i→(∀k,F k→w0.heap.size≤k)→WL P ops Q rest n ((d,val i)::m) (Hp B w0 (L.set k (g,obi i)) R (fun u=>TT i F u∧X u))):WL P ops Q (⟨some d,.call { callee:=.value (.func f),args:=args.toArray,argTypes:=ats },ty,pos,af,gd⟩::rest) n m (Hp B w0 L R X) :=
 xQ (ι:={i:ι×(Nat→Prop) // C i.1∧∀k,i.2 k→w0.heap.size≤k}) (val:=fun i=>val i.1.1) (H':=fun i=>Hp B w0 (L.set k (g,obi i.1.1)) R (fun u=>TT i.1.1 i.1.2 u∧X u)) hg hd
  (vT hf ha fun w hw=>(hC w (HpG.own hw _ (Ju hk)) hw).mono fun _ w' ⟨i,c,e1,e2,e3,e4⟩=>by
   obtain⟨F,hF,hp⟩:=Hp.callT (hT i) hw hB hk e2 e3 e4
   exact⟨_,e1,⟨⟨i,F⟩,c,hF⟩,rfl,hp⟩) fun i=>h i.1.1 i.1.2 i.2.1 i.2.2
theorem sU (hg:Gd ops m gd) (hd:Nat.blt d n=true) (hf:goes P f=true) (ha:evl m args=some vs) (hB:∀k,B k→k<w0.heap.size) (hT:∀i,Lies (TT i))
  (hC:∀w,Hp B w0 L R X w→Calls P f vs.toArray w fun e w'=>∃i,C i∧e=.returned (val i)∧Ext w w'∧TT i (fun k=>w.heap.size≤k) w')
  (h:∀i F,C i→(∀k,F k→w0.heap.size≤k)→WL P ops Q rest n ((d,val i)::m) (Hp B w0 L R (fun u=>TT i F u∧X u))):WL P ops Q (⟨some d,.call { callee:=.value (.func f),args:=args.toArray,argTypes:=ats },ty,pos,af,gd⟩::rest) n m (Hp B w0 L R X) :=
 xQ (ι:={i:ι×(Nat→Prop) // C i.1∧∀k,i.2 k→w0.heap.size≤k}) (val:=fun i=>val i.1.1) (H':=fun i=>Hp B w0 L R (fun u=>TT i.1.1 i.1.2 u∧X u)) hg hd
  (vT hf ha fun w hw=>(hC w hw).mono fun _ w' ⟨i,c,e1,e2,e4⟩=>by
   obtain⟨F,hF,hp⟩:=Hp.callT0 (hT i) hw hB e2 e4
   exact⟨_,e1,⟨⟨i,F⟩,c,hF⟩,rfl,hp⟩) fun i=>h i.1.1 i.1.2 i.2.1 i.2.2
theorem HpG.callT (hT:Lies T) (h:HpG G B w0 L R X w) (hB:∀k,B k→k<w0.heap.size) (hk:L[k]? = some (g,ob)) (hK:Keep (fun j=>j=g) w w') (hg:w'.heap[g]? = some ob') (hl:T (fun k=>w.heap.size≤k) w') :
  HpG (fun j=>(w.heap.size≤j∧j<w'.heap.size)∨G j) B w0 (L.set k (g,ob')) R (fun u=>T (fun j=>w.heap.size≤j∧j<w'.heap.size) u∧X u) w':=by
 have h1:=HpG.turn h hk hK hg;have hlt:=h.lt;have hs:=h.size;obtain⟨F,hF,hX⟩:=h1.foot;refine⟨h1.keep,h1.own,h1.mine,h1.rows,h1.nd,fun j hj=>.inr (h1.inG j hj),fun j=>(w.heap.size≤j∧j<w'.heap.size)∨F j,fun j hj=>?_,fun u hu=>⟨hT.foot (fun j hj=>hu j (.inl hj)) (hT.lt hl),hX u fun j hj=>hu j (.inr hj)⟩⟩;rcases hj with hj|hj
 ·refine⟨hj.2,fun hb=>?_,fun hm=>?_,.inl hj⟩
  ·have:=hB j hb;omega
  ·have:=hlt j (by rwa [blks_set hk] at hm);omega
 ·obtain⟨a1,a2,a3,a4⟩:=hF j hj;exact⟨a1,a2,a3,.inr a4⟩
theorem wd_callT {J:World→Prop}{σ:List Nat}(hg:Gd ops m gd) (hd:Nat.blt d n=true) (k:Nat) (hf:goes P f=true) (ha:evl m args=some vs) (hk:L[k]? = some (g,ob)) (hB:∀k,B k→k<w0.heap.size) (hT:∀i,Lies (TT i))
  (hJ:∀w w',HpG G B w0 L R X w→J w→Keep (fun j=>j=g) w w'→J w')
  (hC:∀w,w.heap[g]? = some ob→HpG G B w0 L R X w→Calls P f vs.toArray w fun e w'=>∃i,C i∧e=.returned (val i)∧Keep (fun j=>j=g) w w'∧w'.heap[g]? = some (obi i)∧TT i (fun k=>w.heap.size≤k) w')
  (h:∀i F,C i→(∀k,F k→w0.heap.size≤k)→WD P ops J Q σ (fun j=>F j∨G j) n ((d,val i)::m) (HpG (fun j=>F j∨G j) B w0 (L.set k (g,obi i)) R (fun u=>TT i F u∧X u))):WDo P ops J Q ⟨some d,.call { callee:=.value (.func f),args:=args.toArray,argTypes:=ats },ty,pos,af,gd⟩ σ G n m (HpG G B w0 L R X) :=
 wd_chainN (ι:={i:ι×(Nat→Prop) // C i.1∧∀k,i.2 k→w0.heap.size≤k}) (val:=fun i=>val i.1.1) (H':=fun i=>HpG (fun j=>i.1.2 j∨G j) B w0 (L.set k (g,obi i.1.1)) R (fun u=>TT i.1.1 i.1.2 u∧X u)) (N:=fun i=>i.1.2) rfl (fun _ _ e=>by cases e) hg hd (fun _=>Ky)
  (fun _ w _ _ _ hs hw hj=>(ch_call hs hf ha ((hC w (hw.own _ (Ju hk)) hw).mono fun _ w' ⟨i,c,e1,e2,e3,e4⟩=>⟨_,e1,⟨i,c,rfl,e2,e3,e4⟩⟩)).mono
   (R:=fun v w'=>∃i,C i∧v=val i∧Keep (fun j=>j=g) w w'∧w'.heap[g]? = some (obi i)∧TT i (fun k=>w.heap.size≤k) w') fun v w' ⟨i,c,e1,e2,e3,e4⟩ =>
    ⟨e2.mono fun j _ hjg=>by subst hjg;exact hw.inG j (List.mem_append_left _ (List.mem_map.2 ⟨_,Ju hk,rfl⟩)),hJ w w' hw hj e2,
     ⟨⟨(i,fun j=>w.heap.size≤j∧j<w'.heap.size),c,fun j hj=>Kx hw.size hj.1⟩,e1,HpG.callT (hT i) hw hB hk e2 e3 e4,fun _ h=>h⟩⟩) fun i=>h i.1.1 i.1.2 i.2.1 i.2.2
theorem HpG.callT0 (hT:Lies T) (h:HpG G B w0 L R X w) (hB:∀k,B k→k<w0.heap.size) (hK:Ext w w') (hl:T (fun k=>w.heap.size≤k) w') :
  HpG (fun j=>(w.heap.size≤j∧j<w'.heap.size)∨G j) B w0 L R (fun u=>T (fun j=>w.heap.size≤j∧j<w'.heap.size) u∧X u) w':=by
 have h1:=HpG.onE h hK;have hlt:=h.lt;have hs:=h.size;obtain⟨F,hF,hX⟩:=h1.foot;refine⟨h1.keep,h1.own,h1.mine,h1.rows,h1.nd,fun j hj=>.inr (h1.inG j hj),fun j=>(w.heap.size≤j∧j<w'.heap.size)∨F j,fun j hj=>?_,fun u hu=>⟨hT.foot (fun j hj=>hu j (.inl hj)) (hT.lt hl),hX u fun j hj=>hu j (.inr hj)⟩⟩;rcases hj with hj|hj
 ·refine⟨hj.2,fun hb=>?_,fun hm=>?_,.inl hj⟩
  ·have:=hB j hb;omega
  ·have:=hlt j hm;omega
 ·obtain⟨a1,a2,a3,a4⟩:=hF j hj;exact⟨a1,a2,a3,.inr a4⟩
theorem wd_callX {J:World→Prop}{σ:List Nat}(hg:Gd ops m gd) (hd:Nat.blt d n=true) (hf:goes P f=true) (ha:evl m args=some vs) (hB:∀k,B k→k<w0.heap.size) (hT:∀i,Lies (TT i))
  (hJ:∀w w',J w→Ext w w'→J w')
  (hC:∀w,HpG G B w0 L R X w→Calls P f vs.toArray w fun e w'=>∃i,C i∧e=.returned (val i)∧Ext w w'∧TT i (fun k=>w.heap.size≤k) w')
  (h:∀i F,C i→(∀k,F k→w0.heap.size≤k)→WD P ops J Q σ (fun j=>F j∨G j) n ((d,val i)::m) (HpG (fun j=>F j∨G j) B w0 L R (fun u=>TT i F u∧X u))):WDo P ops J Q ⟨some d,.call { callee:=.value (.func f),args:=args.toArray,argTypes:=ats },ty,pos,af,gd⟩ σ G n m (HpG G B w0 L R X) :=
 wd_chainN (ι:={i:ι×(Nat→Prop) // C i.1∧∀k,i.2 k→w0.heap.size≤k}) (val:=fun i=>val i.1.1) (H':=fun i=>HpG (fun j=>i.1.2 j∨G j) B w0 L R (fun u=>TT i.1.1 i.1.2 u∧X u)) (N:=fun i=>i.1.2) rfl (fun _ _ e=>by cases e) hg hd (fun _=>Ky)
  (fun _ w _ _ _ hs hw hj=>(ch_call hs hf ha ((hC w hw).mono fun _ w' ⟨i,c,e1,e2,e4⟩=>⟨_,e1,⟨i,c,rfl,e2,e4⟩⟩)).mono
   (R:=fun v w'=>∃i,C i∧v=val i∧Ext w w'∧TT i (fun k=>w.heap.size≤k) w') fun v w' ⟨i,c,e1,e2,e4⟩ =>
    ⟨Keep.of_ext e2,hJ w w' hj e2,
     ⟨⟨(i,fun j=>w.heap.size≤j∧j<w'.heap.size),c,fun j hj=>Kx hw.size hj.1⟩,e1,HpG.callT0 (hT i) hw hB e2 e4,fun _ h=>h⟩⟩) fun i=>h i.1.1 i.1.2 i.2.1 i.2.2
theorem HpG.rdF (h:HpG G B w0 L R X w) {j T:Nat}{cs:List Value}(hj:L[j]? = some (g,bk T cs)) {F:Nat→Prop}(hF:F g):RdF F (some ⟨g,0,none⟩) cs w:=fun _=>⟨g,0,rfl,hF,h.lt g (List.mem_append_left _ (List.mem_map.2 ⟨_,Ju hj,rfl⟩)),fun i hi=>by
 rw[Kk];exact h.cell hj (by rw[Ka,Jt hi];rfl)⟩
theorem HpG.mineL (h:HpG G B w0 L R X w) {j:Nat}(hj:L[j]? = some (g,ob)) (hn:¬B g):w0.heap.size≤g:=(h.mine _ (Ju hj)).resolve_right hn
theorem HpG.rowCp (h:HpG G B w0 L R X w) {j:Nat}{A:Option Addr}{E size len cap:Nat}{xs:List Value}(hj:R[j]? = some ⟨.slice A len cap,E,size,len,xs⟩):Cp len cap:=by
 obtain⟨e1,hr⟩:=h.rowAt hj;rcases hr with ⟨hv,hn⟩|⟨g',c',cur,hv,h1,h2,h3,h4,h5,h6⟩
 ·injection hv with _ _ a3;dsimp only at hn;subst hn;subst a3;exact uV
 ·injection hv with a1 a2 a3;subst a3;exact⟨h3,h4⟩
theorem HpG.rowF (h:HpG G B w0 L R X w) {j:Nat}{A:Option Addr}{E size len cap:Nat}{xs:List Value}(hj:R[j]? = some ⟨.slice A len cap,E,size,len,xs⟩):RdF (fun k=>w0.heap.size≤k) A xs w:=fun h0=>by
 obtain⟨e1,hr⟩:=h.rowAt hj;rcases hr with ⟨_,hn⟩|⟨g',c',cur,hv,h1,h2,h3,h4,h5,h6⟩
 ·dsimp only at e1 hn;rw[hn,Nat.zero_mul] at e1;omega
 ·injection hv with a1 a2 a3;dsimp only at h2 h6;refine⟨g',0,a1,h1,(Jv.1 h2).1,fun i hi=>?_⟩;rw[Kk,cell_of_row w g' i _ _ _ h2]
  have e2:xs[i]? = cur.toList[i]? := by
   rw[← h6,List.getElem?_take_of_lt (by have:(cur.toList.take (len*size)).length≤len*size:=List.length_take_le ..;rw[h6] at this;omega)]
  rw[Ka,← Array.getElem?_toList,← e2,Jt hi];rfl
end
end Go.Proofs.YtfpkpnkdnammnaaGreatDoor
