/- Well-formed programs, plainly; the place of what meets a condition. -/
import Derived.Test.YtfpkpnkdnammnaaGreatDoorSyP
namespace Go.Proofs.YtfpkpnkdnammnaaGreatDoor
def tA:List Bs:=[[45],[126],[33]]
def xI (k:Nat) (s:Bs) (len:Nat):Bool :=
 if k=1∨k=5 then decide (s=[])&&decide (len=0)
 else if k=2 then yC s&&decide (len=0)
 else if k=3 then yC s
 else if k=4 then decide (s=[])&&decide (len=1)
 else if k=6 then decide (s∈tA)&&decide (len=1)
 else if k=7 then (uC s).isSome&&decide (len=2)
 else false
mutual
def xW:Ex→Bool
 | .mk k n s kids=>xI k s kids.length&&(decide (k=1)||decide (n=0))&&rightExs kids
def rightExs:List Ex→Bool
 | []=>true
 | x::l=>xW x&&rightExs l
end
theorem vX:∀l:List Ex,rightExs l=l.all xW
 | []=>by simp[rightExs]
 | x::l=>by simp[rightExs,vX l]
def okSt (k:Nat) (s:Bs) (es b c:Nat):Bool :=
 decide (1≤k)&&decide (k≤8)&&decide (es=if k=3 then 2 else 1)&&(if k=1∨k=2 then yC s else decide (s=[]))&&(decide (k=4∨k=5)||decide (b=0))&&(decide (k=4)||decide (c=0))
mutual
def wC:St→Bool
 | .mk k s es b c=>okSt k s es.length b.length c.length&&rightExs es&&rightSts b&&rightSts c
def rightSts:List St→Bool
 | []=>true
 | x::l=>wC x&&rightSts l
end
theorem uJ:∀l:List St,rightSts l=l.all wC
 | []=>by simp[rightSts]
 | x::l=>by simp[rightSts,uJ l]
def vE (f:Fn):Bool:=f.params.all yC&&yC f.name&&rightSts f.body
def vG (l:List Fn):Bool:=l.all vE
/-! ### Places -/
def tD {α:Type} (q:α→Bool):List α→Int
 | []=>-1
 | x::r=>if q x=true then 0 else if tD q r<0 then -1 else tD q r+1
structure IxQ {α:Type} (q:α→Bool) (l:List α) (k:Nat):Prop where
 le:k≤l.length
 no:∀j x,j<k→l[j]? = some x→q x=false
variable {α:Type} {q:α→Bool}
theorem idxQ_at {l:List α} {k:Nat} {x:α} (h:IxQ q l k) (hk:l[k]? = some x) (hq:q x=true):tD q l=k:=by
 induction k generalizing l with
 | zero =>
  cases l with
  | nil=>cases hk
  | cons y l=>cases hk;simp[tD,hq]
 | succ k ih =>
  cases l with
  | nil=>cases hk
  | cons y l =>
   have h0:=h.no 0 y (by omega) rfl;have:=ih (l:=l) ⟨by have:=h.le;simp at this;exact this,fun j z hj hz=>h.no (j+1) z (by omega) hz⟩ hk;unfold tD;rw[if_neg (by rw[h0];exact Bool.false_ne_true),this,if_neg (by omega)];simp
theorem idxQ_none {l:List α} (h:IxQ q l l.length):tD q l=-1:=by
 induction l with
 | nil=>rfl
 | cons x l ih =>
  have h0:=h.no 0 x (by simp) rfl;have:=ih ⟨Nat.le_refl _,fun j y hj hy=>h.no (j+1) y (by simpa using hj) hy⟩;unfold tD;rw[if_neg (by rw[h0];exact Bool.false_ne_true),this];rfl
theorem idxQ_ge (l:List α):decide (0≤tD q l)=l.any q:=by
 rw[Bool.eq_iff_iff,decide_eq_true_iff]
 induction l with
 | nil=>simp[tD]
 | cons x l ih =>
  unfold tD;cases h:q x
  ·simp only[Bool.false_eq_true,if_false,List.any_cons,h,Bool.false_or]
   split
   ·rw[← ih];omega
   ·rw[← ih];omega
  ·simp[h]
end Go.Proofs.YtfpkpnkdnammnaaGreatDoor
