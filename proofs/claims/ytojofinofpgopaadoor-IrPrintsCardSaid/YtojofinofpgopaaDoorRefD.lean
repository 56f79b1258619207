/- Contract of the reference: Valid. -/
import Derived.Test.YtojofinofpgopaaDoorRefC
namespace Go.Proofs.YtojofinofpgopaaDoor
open Go.RowKit
attribute [local go_sem ↓] Go.wp_at_zero Go.wp_at_succ

/-- The memory of a call of the reference's Valid. -/
structure RvW (w : World) (aA aP aO : Option Addr) (cA cP cO : Nat) (b : IBlk) (wx : World) : Prop where
  below : Below w.heap.size w wx
  box : wx.heap[w.heap.size]? = some (.cells #[.slice aA b.at_.length cA, .slice aP b.pages.length cP, .slice aO b.ops.length cO] 28 (0, 0))
theorem RvW.after {w : World} {aA aP aO : Option Addr} {cA cP cO : Nat} {b : IBlk} {wx w' : World} (h : RvW w aA aP aO cA cP cO b wx) (hx : Ext wx w') : RvW w aA aP aO cA cP cO b w' :=
  ⟨h.below.trans (Below.mono hx h.below.size), hx.block h.box⟩
theorem RvW.start {w : World} {aA aP aO : Option Addr} {cA cP cO : Nat} {b : IBlk} : RvW w aA aP aO cA cP cO b (w.alloc (.cells #[.slice aA b.at_.length cA, .slice aP b.pages.length cP, .slice aO b.ops.length cO] 28)) :=
  ⟨(Below.refl _ _).alloc (Nat.le_refl _) _, heap_alloc_new _ _⟩
def headOk (b : IBlk) : Bool := decide (1 ≤ b.at_.length) && decide (b.at_.length ≤ 64) && decide (1 ≤ b.ops.length) && decide (b.ops.length ≤ 2000) && (b.ops.getD 0 noOp).code == 20
theorem header_head (b : IBlk) : headerL b = (pagesOk b.pages && headOk b) := rfl
theorem ref_head {b : IBlk} (h : headOk b = false) : false = refValidL b := by unfold refValidL; rw [header_head, h]; simp
theorem ref_page {b : IBlk} {k : Nat} (hk : k < b.pages.length) (h : pageBad b.pages k = true) : false = refValidL b := by
  unfold refValidL; rw [← header_bad hk h]; rfl
theorem ref_scan {b : IBlk} {k : Nat} (hk : k < b.ops.length) (h : scanOk b.ops k = false) : false = refValidL b := by
  have : (List.range b.ops.length).all (scanOk b.ops) = false := by rw [List.all_eq_false]; exact ⟨k, by simpa using hk, by simp [h]⟩
  unfold refValidL; rw [this]; simp
theorem ref_ord {b : IBlk} {k : Nat} (hk : k < b.ops.length) (h : orderedL b.ops k = false) : false = refValidL b := by
  have : (List.range b.ops.length).all (orderedL b.ops) = false := by rw [List.all_eq_false]; exact ⟨k, by simpa using hk, by simp [h]⟩
  unfold refValidL; rw [this]; simp
theorem range_all {p : Nat → Bool} {n : Nat} (h : ∀ j, j < n → p j = true) : (List.range n).all p = true := by
  rw [List.all_eq_true]; intro i hi; exact h i (by simpa using hi)
theorem ref_good {b : IBlk} (h1 : headOk b = true) (h2 : pagesOk b.pages = true) (h3 : ∀ j, j < b.ops.length → scanOk b.ops j = true) (h4 : ∀ j, j < b.ops.length → orderedL b.ops j = true) : (marksL b.ops b.ops.length == (b.at_.length : Int)) = refValidL b := by
  unfold refValidL; rw [header_head, h1, h2, range_all h3, range_all h4]; rfl
theorem marks_bd (ops : List IOp) : ∀ k, 0 ≤ marksL ops k ∧ marksL ops k ≤ k
  | 0 => by simp [marksL]
  | k + 1 => by
    have := marks_bd ops k
    unfold marksL; split <;> omega
theorem scan_eq {ops : List IOp} {i : Nat} {o : IOp} {cc : Int} (ho : ops.getD i noOp = o) (hc : (ops.getD (i + 1) noOp).code = cc) :
    scanOk ops i = (okForm o && (!(o.code == 20) || o.n == marksL ops i) && (endsL o.code == decide (i + 1 = ops.length)) && (!(o.code == 23) || (!decide (i + 1 = ops.length) && cc == 24))) := by
  unfold scanOk isExit; rw [ho, hc]
end Go.Proofs.YtojofinofpgopaaDoor
