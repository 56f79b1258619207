/- Well-formed programs, plainly; the place of what meets a condition. -/
import Derived.Test.YtfpkpnkdnammnaaGreatDoorSyP
namespace Go.Proofs.YtfpkpnkdnammnaaGreatDoor
def unL3 : List Bs := [[45], [126], [33]]
def wN (k : Nat) (s : Bs) (len : Nat) : Bool :=
 if k = 1 ∨ k = 5 then decide (s = []) && decide (len = 0)
 else if k = 2 then xA s && decide (len = 0)
 else if k = 3 then xA s
 else if k = 4 then decide (s = []) && decide (len = 1)
 else if k = 6 then decide (s ∈ unL3) && decide (len = 1)
 else if k = 7 then (levOf s).isSome && decide (len = 2)
 else false
mutual
def xD : Ex → Bool
 | .mk k n s kids => wN k s kids.length && (decide (k = 1) || decide (n = 0)) && tP kids
def tP : List Ex → Bool
 | [] => true
 | x :: l => xD x && tP l
end
theorem sG : ∀ l : List Ex, tP l = l.all xD
 | [] => by simp [tP]
 | x :: l => by simp [tP, sG l]
def okSt (k : Nat) (s : Bs) (es b c : Nat) : Bool :=
 decide (1 ≤ k) && decide (k ≤ 8) && decide (es = if k = 3 then 2 else 1) && (if k = 1 ∨ k = 2 then xA s else decide (s = [])) && (decide (k = 4 ∨ k = 5) || decide (b = 0)) && (decide (k = 4) || decide (c = 0))
mutual
def uB : St → Bool
 | .mk k s es b c => okSt k s es.length b.length c.length && tP es && wG b && wG c
def wG : List St → Bool
 | [] => true
 | x :: l => uB x && wG l
end
theorem rightSts_eq : ∀ l : List St, wG l = l.all uB
 | [] => by simp [wG]
 | x :: l => by simp [wG, rightSts_eq l]
def rightFn (f : Fn) : Bool := f.params.all xA && xA f.name && wG f.body
def tQ (l : List Fn) : Bool := l.all rightFn
/-! ### Places -/
def tI {α : Type} (q : α → Bool) : List α → Int
 | [] => -1
 | x :: r => if q x = true then 0 else if tI q r < 0 then -1 else tI q r + 1
structure IxQ {α : Type} (q : α → Bool) (l : List α) (k : Nat) : Prop where
 le : k ≤ l.length
 no : ∀ j x, j < k → l[j]? = some x → q x = false
variable {α : Type} {q : α → Bool}
theorem idxQ_at {l : List α} {k : Nat} {x : α} (h : IxQ q l k) (hk : l[k]? = some x) (hq : q x = true) : tI q l = k := by
 induction k generalizing l with
 | zero =>
  cases l with
  | nil => cases hk
  | cons y l => cases hk; simp [tI, hq]
 | succ k ih =>
  cases l with
  | nil => cases hk
  | cons y l =>
   have h0 := h.no 0 y (by omega) rfl; have := ih (l := l) ⟨by have := h.le; simp at this; exact this, fun j z hj hz => h.no (j + 1) z (by omega) hz⟩ hk; unfold tI; rw [if_neg (by rw [h0]; exact Bool.false_ne_true), this, if_neg (by omega)]; simp
theorem idxQ_none {l : List α} (h : IxQ q l l.length) : tI q l = -1 := by
 induction l with
 | nil => rfl
 | cons x l ih =>
  have h0 := h.no 0 x (by simp) rfl; have := ih ⟨Nat.le_refl _, fun j y hj hy => h.no (j + 1) y (by simpa using hj) hy⟩; unfold tI; rw [if_neg (by rw [h0]; exact Bool.false_ne_true), this]; rfl
theorem idxQ_ge (l : List α) : decide (0 ≤ tI q l) = l.any q := by
 rw [Bool.eq_iff_iff, decide_eq_true_iff]
 induction l with
 | nil => simp [tI]
 | cons x l ih =>
  unfold tI; cases h : q x
  ·simp only [Bool.false_eq_true, if_false, List.any_cons, h, Bool.false_or]
   split
   ·rw [← ih]; omega
   ·rw [← ih]; omega
  ·simp [h]
end Go.Proofs.YtfpkpnkdnammnaaGreatDoor
