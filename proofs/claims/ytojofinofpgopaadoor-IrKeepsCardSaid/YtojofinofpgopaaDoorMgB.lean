/- Contracts of the reference: ShapeOf, Writes, MayLeave, Reads, size, ends, guest, variable. -/
import Derived.Test.YtojofinofpgopaaDoorIrB
import Derived.Test.YtojofinofpgopaaDoorIrE
import Derived.Test.YtojofinofpgopaaDoorIrF0
import Derived.Outline
import Derived.Deep.RegionHeld3
namespace Go.Proofs.YtojofinofpgopaaDoor
open Go.RowKit

def rfV (c : Int) : Array Value := #[.bool (shI c), .bool (shD c), .bool (shA c), .bool (shB c), .bool (shN c), .bool (shL c)]
theorem rf_low (c : Int) (h : c < 3) (h1 : ¬ c = 1) (h2 : ¬ c = 2) : rfV c = #[.bool false, .bool false, .bool false, .bool false, .bool false, .bool false] := by
  simp only [rfV, shD, shA, shB, shN, shL, shI]
  have h3 : ¬ (3 ≤ c) := by omega
  have h4 : ¬ (1 ≤ c) := by omega
  simp [h1, h2, h3, h4]; omega
theorem rf_mid (c : Int) (h : 3 ≤ c) (h15 : c ≤ 15) : rfV c = #[.bool true, .bool true, .bool true, .bool true, .bool false, .bool false] := by
  simp only [rfV, shD, shA, shB, shN, shL, shI]
  simp [*]; omega
theorem rf_high (c : Int) (h : 15 < c) (hn : c ≠ 16 ∧ c ≠ 17 ∧ c ≠ 18 ∧ c ≠ 19 ∧ c ≠ 20 ∧ c ≠ 21 ∧ c ≠ 22 ∧ c ≠ 23 ∧ c ≠ 24 ∧ c ≠ 25) : rfV c = #[.bool false, .bool false, .bool false, .bool false, .bool false, .bool false] := by
  obtain ⟨a, b, d, e, f, g, i, j, k, l⟩ := hn
  have h1 : ¬ c = 1 := by omega
  have h2 : ¬ c = 2 := by omega
  have h15 : ¬ c ≤ 15 := by omega
  simp only [rfV, shD, shA, shB, shN, shL, shI]
  simp [*]; omega
abbrev rfW (c : Int) : Array Value := #[.bool (shI c), .bool (shD c), .bool (shA c), .bool (shB c), .bool (shN c), .bool (shL c)]
def guestL (v : Int) : Bool := decide (0 ≤ v) && decide (v ≤ 18)
end Go.Proofs.YtojofinofpgopaaDoor
/- Contracts of the reference: formed, first, ordered. -/
namespace Go.Proofs.YtojofinofpgopaaDoor
open Go.RowKit
attribute [local go_sem ↓] Go.wp_at_zero Go.wp_at_succ

theorem formed_split {o : IOp} : okForm o = (shI o.code && fieldL (shD o.code) o.d && fieldL (shA o.code) o.a && fieldL (shB o.code) o.b && (shN o.code || o.n == 0)) := rfl
/-- The last mark at or before place i. -/
def firstL (ops : List IOp) : Nat → Nat
  | 0 => 0
  | i + 1 => if (ops.getD (i + 1) noOp).code == 20 then i + 1 else firstL ops i
theorem firstL_le (ops : List IOp) : ∀ i, firstL ops i ≤ i
  | 0 => Nat.le_refl _
  | i + 1 => by
    unfold firstL; split
    · exact Nat.le_refl _
    · exact Nat.le_succ_of_le (firstL_le ops i)
theorem firstL_self {ops : List IOp} {i : Nat} (h : (ops.getD i noOp).code = 20) : firstL ops i = i := by
  cases i with
  | zero => rfl
  | succ i => unfold firstL; rw [if_pos (by rw [h]; rfl)]
theorem firstL_step {ops : List IOp} {k : Nat} (h : ¬ (ops.getD (k + 1) noOp).code = 20) : firstL ops (k + 1) = firstL ops k := by
  rw [firstL, if_neg (by simpa using h)]
end Go.Proofs.YtojofinofpgopaaDoor
