/- Made: the numbers' next one; constants. -/
import Derived.Test.YtfpkpnkdnammnaaGreatDoorMgY
import Derived.Test.YtfpkpnkdnammnaaGreatDoorMgI
import Derived.Test.YtfpkpnkdnammnaaGreatDoorMgK
import Derived.Test.YtfpkpnkdnammnaaGreatDoorMgL
import Derived.Test.YtfpkpnkdnammnaaGreatDoorMdS
import Derived.Test.YtfpkpnkdnammnaaGreatDoorSyX
namespace Go.Proofs.YtfpkpnkdnammnaaGreatDoor
open Go.RowKit
/-- Where the lists of the maker lie. -/
structure GM where
 (lA:Option Addr)
 (lc:Nat)
 (nA:Option Addr)
 (nc:Nat)
 (fA:Option Addr)
 (fc:Nat)
 (fcs:List Value)
abbrev gC (M:GM) (E:GE) (s:GS):List Value:=[.slice M.lA E.l.length M.lc,.int .i64 s.at_,.int .i64 s.left,.int .i64 s.nodes,.slice M.nA s.names.length M.nc,.int .i64 s.vars,.int .i64 E.me,.slice M.fA E.fs.length M.fc]
abbrev gO (M:GM) (E:GE) (s:GS):Obj:=bk 71 (gC M E s)
def ints (l:List Int):List Value:=l.map (.int .i64)
@[simp] theorem ints_len (l:List Int):(ints l).length=l.length:=by simp[ints]
/-- What the maker reads. -/
structure GX (M:GM) (l:List Int) (nm:List Bs) (fs:List Fn) (F:Nat→Prop) (u:World):Prop where
 l:RdF F M.lA (ints l) u
 nm:RdF F M.nA (xG nm) u
 fr:RdF F M.fA M.fcs u
 fs:FnsV F u fs M.fcs
theorem GX.lies {M:GM}{l:List Int}{nm:List Bs}{fs:List Fn}:Lies fun F u=>GX M l nm fs F u :=
 ⟨fun hk ⟨a,b,d,e⟩=>⟨RdF.lies.foot hk a,RdF.lies.foot hk b,RdF.lies.foot hk d,FnsV.lies.foot hk e⟩,fun ⟨a,b,d,e⟩=>⟨RdF.lies.lt a,RdF.lies.lt b,RdF.lies.lt d,FnsV.lies.lt e⟩,fun hF ⟨a,b,d,e⟩=>⟨RdF.lies.mono hF a,RdF.lies.mono hF b,RdF.lies.mono hF d,FnsV.lies.mono hF e⟩⟩
theorem Lies.keep {T:(Nat→Prop)→World→Prop}(hT:Lies T) {F K:Nat→Prop}{w w':World}(h:T F w) (hk:Keep K w w') (hF:∀k,F k→¬K k):T F w' :=
 hT.mono (fun _ h=>h.1) (hT.foot (F:=fun k=>F k∧k<w.heap.size) (fun k h=>hk.block k h.2 (hF k h.1)) (hT.lt h))
/-- The maker's block, whatever it has counted. -/
def GJ (M:GM) (E:GE) (nm:List Bs) (bp:Nat) (u:World):Prop:=∃s:GS,s.names=nm∧u.heap[bp]? = some (gO M E s)
theorem GJ.stab {M:GM}{E:GE}{nm:List Bs}{bp:Nat}:vY (GJ M E nm bp):=fun w ob ⟨s,h1,h2⟩=>⟨s,h1,Blk.stab w ob h2⟩
section
variable {M:GM}{E:GE}{nm:List Bs}{bp:Nat}{u:World}
theorem GJ.c4 (h:GJ M E nm bp u):u.cell? ⟨bp,4,none⟩=some (.slice M.nA nm.length M.nc):=by
 obtain⟨s,rfl,h⟩:=h;rw[cell_of_row u bp _ _ _ _ h];rfl
theorem GJ.c7 (h:GJ M E nm bp u):u.cell? ⟨bp,7,none⟩=some (.slice M.fA E.fs.length M.fc):=by
 obtain⟨s,rfl,h⟩:=h;rw[cell_of_row u bp _ _ _ _ h];rfl
end
section
variable {P:Program}{ops:Array Oper}{Q:Exit→Act→World→Prop}{n:Nat}{m:List (Nat×Value)}{ty:TypeId}{G B:Nat→Prop}{w0:World}{L:List (Nat×Obj)}{R:List Rw}{X:World→Prop}{J:World→Prop}{σ:List Nat}{ι:Type}{C:ι→Prop}{d:Nat}{pos:String}{af:Array Edge}{gd:Option (Nat×Bool)}{f:FuncId}{args:List Operand}{ats:Array TypeId}{vs:List Value}{g:Nat}{ob:Obj}
end
end Go.Proofs.YtfpkpnkdnammnaaGreatDoor
/- Made: constants, what an expression promises, calls. -/
namespace Go.Proofs.YtfpkpnkdnammnaaGreatDoor
open Go.RowKit
section
variable {ops:Array Oper}{Q:Exit→Act→World→Prop}{J:World→Prop}{σ:List Nat}{n:Nat}{m:List (Nat×Value)}{ty:TypeId}{G B:Nat→Prop}{w0:World}{L:List (Nat×Obj)}{R:List Rw}{X:World→Prop}{rest:List Oper}{d:Nat}{pos:String}{af:Array Edge}{gd:Option (Nat×Bool)}{args:List Operand}{ats:Array TypeId}{F:Nat→Prop}
end
/-- How far the maker may still count. -/
structure GOk (E:GE) (c:Nat) (s:GS):Prop where
 at_:s.at_≤E.l.length
 lo:-1000000≤s.nodes-c
 hi:s.nodes≤1000
 nm:s.names.length≤1000
theorem GOk.step {E:GE}{c d:Nat}{s t:GS}(h:GOk E (c+d) s) (k:EL E c s t):GOk E d t :=
 ⟨k.at_ h.at_,by have:=h.lo;have:=k.lo;omega,by have:=h.hi;have:=k.hi;omega,by rw[k.nm];exact h.nm⟩
theorem GOk.mono {E:GE}{c d:Nat}{s:GS}(h:GOk E c s) (hcd:d≤c):GOk E d s:=⟨h.at_,by have:=h.lo;omega,h.hi,h.nm⟩
section
variable {ops:Array Oper}{Q:Exit→Act→World→Prop}{J:World→Prop}{σ:List Nat}{n:Nat}{m:List (Nat×Value)}{ty:TypeId}{G B:Nat→Prop}{w0:World}{L:List (Nat×Obj)}{R:List Rw}{X:World→Prop}{rest:List Oper}{d:Nat}{pos:String}{af:Array Edge}{gd:Option (Nat×Bool)}{f:FuncId}{args:List Operand}{ats:Array TypeId}{vs:List Value}
end
end Go.Proofs.YtfpkpnkdnammnaaGreatDoor
/- Made: the call of a function, with as many expressions as it takes. -/
namespace Go.Proofs.YtfpkpnkdnammnaaGreatDoor
open Go.RowKit
end Go.Proofs.YtfpkpnkdnammnaaGreatDoor
/- Made: an expression. -/
namespace Go.Proofs.YtfpkpnkdnammnaaGreatDoor
open Go.RowKit
/-- What holds while calls turn the maker. -/
def GK (M:GM) (E:GE) (nm:List Bs) (F:Nat→Prop) (bp:Nat) (u:World):Prop:=GJ M E nm bp u∧GX M E.l nm E.fs F u
theorem GK.stab {M:GM}{E:GE}{nm:List Bs}{F:Nat→Prop}{bp:Nat}:vY (GK M E nm F bp):=fun w ob ⟨h1,h2⟩=>⟨GJ.stab w ob h1,GX.lies.ext h2 (Ext.alloc (Ext.refl w) ob)⟩
theorem GK.turn {M:GM}{E:GE}{s:GS}{nm:List Bs}{F:Nat→Prop}{bp:Nat}{w w':World}(h:GK M E nm F bp w) (hF:∀k,F k→k≠bp) (hs:s.names=nm) (hk:Keep (fun j=>j=bp) w w') (hb:w'.heap[bp]? = some (gO M E s)):GK M E nm F bp w':=⟨⟨s,hs,hb⟩,GX.lies.keep h.2 hk hF⟩
end Go.Proofs.YtfpkpnkdnammnaaGreatDoor
/- Made: expressions of every depth; the frame of statements. -/
namespace Go.Proofs.YtfpkpnkdnammnaaGreatDoor
open Go.RowKit
def GM.nm (M:GM) (p:Option Addr×Nat):GM:={ M with nA:=p.1,nc:=p.2 }
/-- What the maker of statements reads. -/
structure GF (M:GM) (E:GE) (F:Nat→Prop) (u:World):Prop where
 l:RdF F M.lA (ints E.l) u
 fr:RdF F M.fA M.fcs u
 fs:FnsV F u E.fs M.fcs
theorem GF.lies {M:GM}{E:GE}:Lies fun F u=>GF M E F u :=
 ⟨fun hk ⟨a,d,e⟩=>⟨RdF.lies.foot hk a,RdF.lies.foot hk d,FnsV.lies.foot hk e⟩,fun ⟨a,d,e⟩=>⟨RdF.lies.lt a,RdF.lies.lt d,FnsV.lies.lt e⟩,fun hF ⟨a,d,e⟩=>⟨RdF.lies.mono hF a,RdF.lies.mono hF d,FnsV.lies.mono hF e⟩⟩
/-- How far the maker of statements may still count. -/
structure GSI (E:GE) (c:Nat) (s:GS):Prop where
 at_:s.at_≤E.l.length
 left:s.left≤8
 lo:-500000≤s.nodes-c-1000*(s.left:Int)
 hi:s.nodes≤1000
 vars:s.vars≤8
 nm:s.names.length≤100+s.vars
theorem GSI.step {E:GE}{c d:Nat}{s t:GS}(h:GSI E (c+d) s) (k:SL E c s t):GSI E d t :=
 ⟨k.at_ h.at_,by have:=h.left;have:=k.left;omega,by have:=h.lo;have:=k.lo;omega,by have:=h.hi;have:=k.hi;omega,k.vars h.vars,by have:=h.nm;have:=k.nm;omega⟩
theorem GSI.mono {E:GE}{c d:Nat}{s:GS}(h:GSI E c s) (hcd:d≤c):GSI E d s:=⟨h.at_,h.left,by have:=h.lo;omega,h.hi,h.vars,h.nm⟩
theorem GSI.ok {E:GE}{c:Nat}{s:GS}(h:GSI E c s):GOk E c s:=⟨h.at_,by have:=h.lo;omega,h.hi,by have:=h.nm;have:=h.vars;omega⟩
section
variable {α:Type}
end
section
variable {ops:Array Oper}{Q:Exit→Act→World→Prop}{n:Nat}{m:List (Nat×Value)}{ty:TypeId}{w0:World}{L:List (Nat×Obj)}{R:List Rw}{X:World→Prop}{rest:List Oper}{d:Nat}{pos:String}{af:Array Edge}{gd:Option (Nat×Bool)}{args:List Operand}{ats:Array TypeId}
end
end Go.Proofs.YtfpkpnkdnammnaaGreatDoor
/- Made: statements. -/
namespace Go.Proofs.YtfpkpnkdnammnaaGreatDoor
open Go.RowKit
section
variable {B:Nat→Prop}{w0 w:World}{L:List (Nat×Obj)}{R:List Rw}{X:World→Prop}
/-- A row of the call's own becomes a fact. -/
theorem Hp.rowXd {A:Option Addr}{E size len cap:Nat}{xs:List Value}(h:Hp (fun _=>False) w0 L (⟨.slice A len cap,E,size,len,xs⟩::R) X w):∃F:Nat→Prop,(∀k,F k→w0.heap.size≤k∧k∉vX L R)∧Hp (fun _=>False) w0 L R (fun u=>RdF F A xs u∧X u) w:=by
 have hr:=HpG.rowF h (j:=0) rfl;obtain⟨F,hF,hX⟩:=h.foot
 have hsub:vX L R ⊆ vX L (⟨.slice A len cap,E,size,len,xs⟩::R):=by
  unfold vX;intro k hk;rcases List.mem_append.1 hk with hk|hk
  ·exact List.mem_append_left _ hk
  ·refine List.mem_append_right _ ?_;rw[List.filterMap_cons]
   split
   ·exact hk
   ·exact List.mem_cons_of_mem _ hk
 have hnd:(vX L R).Nodup:=by
  refine h.nd.sublist ?_;unfold vX;refine List.Sublist.append (List.Sublist.refl _) ?_;rw[List.filterMap_cons]
  split
  ·exact List.Sublist.refl _
  ·exact List.sublist_cons_self _ _
 rcases Nat.eq_zero_or_pos xs.length with h0|h0
 ·refine⟨fun _=>False,fun _ h=>h.elim,h.keep,h.own,h.mine,fun r hr=>h.rows r (List.mem_cons_of_mem _ hr),hnd,fun _ _=>trivial,F,fun k hk=>⟨(hF k hk).1,(hF k hk).2.1,fun hm=>(hF k hk).2.2.1 (hsub hm),trivial⟩,fun u hu=>⟨fun hp=>absurd hp (by omega),hX u hu⟩⟩
 ·obtain⟨b,off,rfl,hb1,hb2,hb3⟩:=hr h0;have hown:(Value.slice (some ⟨b,off,none⟩) len cap).ownBlock=some b:=rfl
  have hbm:vX L (⟨.slice (some ⟨b,off,none⟩) len cap,E,size,len,xs⟩::R)=L.map (·.1)++b::R.filterMap (·.v.ownBlock):=by
   unfold vX;rw[List.filterMap_cons,hown]
  have hnb:b∉vX L R:=by
   have:=h.nd;rw[hbm] at this;have h2:=List.perm_middle.nodup_iff.1 this;exact (List.nodup_cons.1 h2).1
  have hbF:¬F b:=fun hf=>(hF b hf).2.2.1 (by rw[hbm];exact List.mem_append_right _ (List.mem_cons_self ..));refine⟨fun k=>k=b,fun k hk=>hk▸⟨hb1,hnb⟩,h.keep,h.own,h.mine,fun r hr=>h.rows r (List.mem_cons_of_mem _ hr),hnd,fun _ _=>trivial,fun k=>k=b∨F k,fun k hk=>?_,fun u hu=>⟨RdF.lies.foot (F:=fun k=>k=b) (w:=w) (fun k hk=>hu k (.inl hk)) (fun _=>⟨b,off,rfl,rfl,hb2,hb3⟩),hX u fun k hk=>hu k (.inr hk)⟩⟩;rcases hk with rfl|hk
  ·exact⟨hb2,id,hnb,trivial⟩
  ·exact⟨(hF k hk).1,(hF k hk).2.1,fun hm=>(hF k hk).2.2.1 (hsub hm),trivial⟩
theorem Hp.rowX {A:Option Addr}{E size len cap:Nat}{xs:List Value}(h:Hp (fun _=>False) w0 L (⟨.slice A len cap,E,size,len,xs⟩::R) X w):∃F:Nat→Prop,(∀k,F k→w0.heap.size≤k)∧Hp (fun _=>False) w0 L R (fun u=>RdF F A xs u∧X u) w:=by
 obtain⟨F,hF,h'⟩:=Hp.rowXd h;exact⟨F,fun k hk=>(hF k hk).1,h'⟩
end
section
variable {P:Program}{Q:Exit→Act→World→Prop}{n:Nat}{m:List (Nat×Value)}{H:World→Prop}
/-- The next round; what it is depends on the world. -/
theorem wq_roundE {ι:Type}{I:ι→List (Nat×Value)}{HI:ι→World→Prop}{μ:ι→Nat}{m0:Nat}(h:∀w,H w→∃j,μ j<m0∧Pr m (I j)∧HI j w) :
  WQ (Exit.then (fun a w=>∃j,μ j<m0∧Sat n (I j) a∧HI j w) Q) .normal n m H:=fun _ w hs hw=>by
 obtain⟨j,h1,h2,h3⟩:=h w hw;exact⟨j,h1,hs.weak h2,h3⟩
end
section
variable {P:Program}{Q:Exit→Act→World→Prop}{n:Nat}{m:List (Nat×Value)}{H:World→Prop}
end
end Go.Proofs.YtfpkpnkdnammnaaGreatDoor
