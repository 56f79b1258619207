import Derived.Test.YtkaepknpplhgkaaGreatDoorBase
import Derived.Deep.RegionWith
import Derived.Deep.DrawnRows
import Derived.StillTail
namespace Go.Proofs.YtkaepknpplhgkaaGreatDoor
open Go.RowKit

def Ext (w w':World):Prop:=Below w.heap.size w w'
theorem Ext.refl (w:World):Ext w w:=Below.refl _ _
theorem Ext.size {w w':World}(h:Ext w w'):w.heap.size≤w'.heap.size:=Below.size h
theorem Ext.trans {a b c:World}(h:Ext a b) (k:Ext b c):Ext a c:=Below.trans h (Below.mono k h.size)
theorem Ext.alloc {a w:World}(h:Ext a w) (o:Obj):Ext a (w.alloc o):=Below.alloc h h.size o
theorem Ext.drew {a w:World}(h:Ext a w):Ext a w.drew:=Below.drew h
theorem Ext.block {w w':World}(h:Ext w w') {k:Nat}{o:Obj}(hk:w.heap[k]? = some o):w'.heap[k]? = some o :=
 (Below.block h k (Array.getElem?_eq_some_iff.1 hk).1).trans hk

section
variable {P:Program}{ops:Array Oper}{Q:Exit→Act→World→Prop}

def dstOf (ops:Array Oper) (j:Nat):Option Tmp:=(ops[j]?).bind (·.dst)
def actS (ops:Array Oper) (vs:Nat→Value):List Nat→Act→Act
 | [],a=>a
 | j::r,a=>actS ops vs r (a.put (dstOf ops j) (vs j))
theorem qY {a:Act}{d:Option Tmp}{v:Value}{t:Nat}(h:d≠some t):(a.put d v).tmps[t]? = a.tmps[t]? := by
 cases d with
 | none=>rfl
 | some e =>
  have:e≠t:=fun he=>h (by rw[he]);simp[Act.put,Array.getElem?_setIfInBounds_ne this]
theorem put_tmps_eq {a:Act}{v:Value}{t:Nat}:(a.put (some t) v).tmps[t]? = (a.tmps[t]?).map fun _=>v:=by
 show (a.tmps.setIfInBounds t v)[t]? = _;rcases Nat.lt_or_ge t a.tmps.size with h|h
 ·simp[h]
 ·simp[Array.getElem?_eq_none h];exact h
theorem put_size (a:Act) (d:Option Tmp) (v:Value):(a.put d v).tmps.size=a.tmps.size:=by
 cases d<;>simp[Act.put]
theorem put_defers (a:Act) (d:Option Tmp) (v:Value):(a.put d v).defers=a.defers:=by
 cases d<;>rfl
def rL (m n:Nat):Array Bool:=((List.range m).map fun i=>decide (i<n)).toArray
def unl (listed:Array Bool):Nat→Nat
 | 0=>0
 | n+1=>unl listed n+(if listed.getD n false then 0 else 1)
theorem getD_set_self {listed:Array Bool}{i:Nat}(h:i<listed.size):(listed.setIfInBounds i true).getD i false=true:=by
 simp[h]
theorem unl_zero {listed:Array Bool}:∀{n:Nat},unl listed n=0→∀i,i<n→listed.getD i false=true
 | 0,_,i,hi=>by omega
 | n+1,h,i,hi=>by
  rw[unl] at h
  by_cases hin:i=n
  ·subst hin
   by_cases hl:listed.getD i false=true
   ·exact hl
   ·rw[if_neg hl] at h;omega
  ·exact unl_zero (n:=n) (by omega) i (by omega)
theorem unl_some {listed:Array Bool}:∀{n:Nat},0<unl listed n→∃i,i<n∧listed.getD i false=false∧∀j,j<i→listed.getD j false=true
 | 0,h=>by simp[unl] at h
 | n+1,h=>by
  by_cases h0:0<unl listed n
  ·obtain⟨i,hi,r⟩:=unl_some h0;exact⟨i,by omega,r⟩
  ·have hz:unl listed n=0:=by omega
   rw[unl,hz] at h;refine⟨n,by omega,?_,unl_zero hz⟩
   by_cases hl:listed.getD n false=true
   ·rw[if_pos hl] at h;omega
   ·simpa using hl
variable {n:Nat}{deps:List (List Nat)}{T:Nat→Value→World→Prop}{a0:Act}{w0:World}
def OpOk (P:Program) (ops:Array Oper) (T:Nat→Value→World→Prop) (a0:Act) (w0:World) (i:Nat) (o:Oper) (dep:List Nat):Prop :=
 ∀(vs:Nat→Value) (w':World),Ext w0 w'→(∀j∈dep,T j (vs j) w')→∀K:Act→World→Prop,(∀v w'',Ext w' w''→T i v w''→K ((actS ops vs dep a0).put o.dst v) w'') →
  if Region.wanted o (yielded ops (actS ops vs dep a0).tmps)=true then o.wp P (actS ops vs dep a0) w' K (fun _ _ _=>False) else K ((actS ops vs dep a0).put o.dst undef) w'
def OpsOk (P:Program) (ops:Array Oper) (deps:List (List Nat)) (T:Nat→Value→World→Prop) (a0:Act) (w0:World) (n:Nat):Prop :=
 ∀i o,i<n→ops[i]? = some o→OpOk P ops T a0 w0 i o (deps.getD i [])
theorem firstTrue_get {m n i:Nat}(h:i<m):(rL m n)[i]? = some (decide (i<n)):=by simp[rL,h]
theorem listed_full {listed:Array Bool}(hh:HeadInv .any ops n listed) (h:∀i,i<n→listed.getD i false=true):listed=rL ops.size n:=by
 apply Array.ext_getElem?;intro i;rcases Nat.lt_or_ge i ops.size with hi|hi
 ·rw[firstTrue_get hi];have hs:i<listed.size:=by rw[hh.size];exact hi
  rcases Nat.lt_or_ge i n with hn|hn
  ·have:=h i hn;simp[hs] at this ⊢;simp[this,hn]
  ·have:=hh.tail i hn hi;simp[hs] at this ⊢;rw[this];simp;omega
 ·rw[Array.getElem?_eq_none (by rw[hh.size];exact hi),Array.getElem?_eq_none (by simp[rL];exact hi)]
theorem OpsOk.zero:OpsOk P ops deps T a0 w0 0:=fun i _ hi=>by omega
theorem OpsOk.succ {l:List Oper}{o:Oper}(dep:List Nat) (h:OpsOk P l.toArray deps T a0 w0 n) (ho:l[n]? = some o) (hdep:deps.getD n []=dep) (h1:OpOk P l.toArray T a0 w0 n o dep):OpsOk P l.toArray deps T a0 w0 (n+1):=fun i o' hi ho'=>by
 by_cases hin:i=n
 ·subst hin;rw[List.getElem?_toArray] at ho';have:o'=o:=Option.some.inj (ho'.symm.trans ho);subst this;rw[hdep];exact h1
 ·exact h i o' (by omega) ho'
end
end Go.Proofs.YtkaepknpplhgkaaGreatDoor
