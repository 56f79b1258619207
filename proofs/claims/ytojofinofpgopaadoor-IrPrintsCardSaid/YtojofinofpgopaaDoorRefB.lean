/- Contracts of the reference: formed, first, ordered. -/
import Derived.Test.YtojofinofpgopaaDoorRefA
import Derived.Test.YtojofinofpgopaaDoorIrE
import Derived.Test.YtojofinofpgopaaDoorIrF0
import Derived.Deep.RegionHeld3
namespace Go.Proofs.YtojofinofpgopaaDoor
open Go.RowKit
attribute [local go_sem ↓] Go.wp_at_zero Go.wp_at_succ

theorem formed_split {o : IOp} : okForm o = (shI o.code && fieldL (shD o.code) o.d && fieldL (shA o.code) o.a && fieldL (shB o.code) o.b && (shN o.code || o.n == 0)) := rfl
/-- The last mark at or before place i. -/
def firstL (ops : List IOp) : Nat → Nat
  | 0 => 0
  | i + 1 => if (ops.getD (i + 1) noOp).code == 20 then i + 1 else firstL ops i
theorem firstL_le (ops : List IOp) : ∀ i, firstL ops i ≤ i
  | 0 => Nat.le_refl _
  | i + 1 => by
    unfold firstL; split
    · exact Nat.le_refl _
    · exact Nat.le_succ_of_le (firstL_le ops i)
theorem firstL_self {ops : List IOp} {i : Nat} (h : (ops.getD i noOp).code = 20) : firstL ops i = i := by
  cases i with
  | zero => rfl
  | succ i => unfold firstL; rw [if_pos (by rw [h]; rfl)]
theorem firstL_step {ops : List IOp} {k : Nat} (h : ¬ (ops.getD (k + 1) noOp).code = 20) : firstL ops (k + 1) = firstL ops k := by
  rw [firstL, if_neg (by simpa using h)]
end Go.Proofs.YtojofinofpgopaaDoor
