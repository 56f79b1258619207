/- Contract of the reference: ordered. -/
import Derived.Test.YtojofinofpgopaaDoorPlValid
import Derived.Test.YtojofinofpgopaaDoorReg
import Derived.Deep.RegionHeld3
import Derived.Deep.QuietTactic
import Derived.BigQuiet
namespace Go.Proofs.YtojofinofpgopaaDoor
open Go.RowKit
attribute [local go_sem ↓] Go.wp_at_zero Go.wp_at_succ

/-- The memory of a call of ordered. -/
structure OrdW (w : World) (aA aP aO : Option Addr) (cA cP cO : Nat) (b : IBlk) (o : IOp) (A : Option Addr) (l : List Int) (wx : World) : Prop where
  below : Below w.heap.size w wx
  box : wx.heap[w.heap.size]? = some (.cells #[.slice aA b.at_.length cA, .slice aP b.pages.length cP, .slice aO b.ops.length cO] 28 (0, 0))
  op : wx.heap[w.heap.size + 1]? = some (.cells o.v 53 (0, 0))
  arr : 0 < l.length → ∃ bR, A = some ⟨bR, 0, none⟩ ∧ bR < wx.heap.size ∧ ∀ i, i < l.length → wx.cell? ⟨bR, i, none⟩ = some (.int .i64 (l.getD i 0))
theorem OrdW.after {w : World} {aA aP aO : Option Addr} {cA cP cO : Nat} {b : IBlk} {o : IOp} {A : Option Addr} {l : List Int} {wx w' : World} (h : OrdW w aA aP aO cA cP cO b o A l wx) (hx : Ext wx w') : OrdW w aA aP aO cA cP cO b o A l w' :=
  ⟨h.below.trans (Below.mono hx h.below.size), hx.block h.box, hx.block h.op, fun h0 => by
    obtain ⟨bR, hA, hb, hc⟩ := h.arr h0
    exact ⟨bR, hA, Nat.lt_of_lt_of_le hb hx.size, fun i hi => (Below.cell hx (p := ⟨bR, i, none⟩) hb).trans (hc i hi)⟩⟩
theorem anyUp_succ {p : IOp → Bool} {ops : List IOp} {f j : Nat} (h : f ≤ j) : anyUp p ops f (j + 1 - f) = (anyUp p ops f (j - f) || p (ops.getD j noOp)) := by
  rw [show j + 1 - f = (j - f) + 1 by omega, anyUp, show f + (j - f) = j by omega]
theorem ordered_bad {ops : List IOp} {i k : Nat} {o : IOp} (ho : ops.getD i noOp = o) (hk : k < (readsL o).length) (h : knownL ops i ((readsL o).getD k 0) = false) : orderedL ops i = false := by
  subst ho
  have : (readsL (ops.getD i noOp)).all (knownL ops i) = false := by
    rw [List.all_eq_false]; exact ⟨_, getD_mem hk, by rw [h]; simp⟩
  unfold orderedL; rw [this]; rfl
theorem ordered_reads {ops : List IOp} {i f : Nat} {o : IOp} (ho : ops.getD i noOp = o) (hf : firstL ops i = f) (h : ∀ j, j < (readsL o).length → knownL ops i ((readsL o).getD j 0) = true) : orderedL ops i = (!shL o.code || !anyUp chgL ops f (i - f)) := by
  subst ho hf
  have : (readsL (ops.getD i noOp)).all (knownL ops i) = true := by
    rw [List.all_eq_true]; intro v hv
    obtain ⟨j, hj, rfl⟩ := List.getElem_of_mem hv
    have := h j hj
    rw [getD_at hj] at this
    exact this
  unfold orderedL; rw [this]; rfl
theorem kn_step {a b c kn : Bool} (h : (a || b) = kn) : (a || (b || c)) = (kn || c) := by rw [← Bool.or_assoc, h]
theorem anyUp_true {p : IOp → Bool} {ops : List IOp} {f : Nat} : ∀ {n m : Nat}, n ≤ m → anyUp p ops f n = true → anyUp p ops f m = true
  | n, 0, h, ht => by obtain rfl : n = 0 := by omega
                      exact ht
  | n, m + 1, h, ht => by
    rcases Nat.lt_or_ge n (m + 1) with h1 | h1
    · rw [anyUp, anyUp_true (n := n) (m := m) (by omega) ht]; rfl
    · obtain rfl : n = m + 1 := by omega
      exact ht
theorem ordS_next {w0 w w' : World} {g off H bR k : Nat} {q : IOp} {sl : Value} {v : Int} (h : Below w0.heap.size w0 w ∧ w.cell? ⟨H, 2, none⟩ = some sl ∧ w.cell? ⟨g, off, none⟩ = some (.int .i64 q.code) ∧ w.cell? ⟨g, off + 1, none⟩ = some (.int .i64 q.d) ∧ w.cell? ⟨g, off + 2, none⟩ = some (.int .i64 q.a) ∧ w.cell? ⟨g, off + 3, none⟩ = some (.int .i64 q.b) ∧ w.cell? ⟨g, off + 4, none⟩ = some (.int .u32 q.n) ∧ w.cell? ⟨bR, k, none⟩ = some (.int .i64 v))
    (hb : Below w.heap.size w w') (hH : H < w0.heap.size) (hg : g < w0.heap.size) (hR : bR < w0.heap.size) : Below w0.heap.size w0 w' ∧ w'.cell? ⟨H, 2, none⟩ = some sl ∧ w'.cell? ⟨g, off, none⟩ = some (.int .i64 q.code) ∧ w'.cell? ⟨g, off + 1, none⟩ = some (.int .i64 q.d) ∧ w'.cell? ⟨g, off + 2, none⟩ = some (.int .i64 q.a) ∧ w'.cell? ⟨g, off + 3, none⟩ = some (.int .i64 q.b) ∧ w'.cell? ⟨g, off + 4, none⟩ = some (.int .u32 q.n) ∧ w'.cell? ⟨bR, k, none⟩ = some (.int .i64 v) := by
  obtain ⟨h1, a, c0, c1, c2, c3, c4, d⟩ := h
  have hs := h1.size
  exact ⟨h1.trans (hb.mono h1.size), (hb.cell (p := ⟨H, 2, none⟩) (Nat.lt_of_lt_of_le hH hs)).trans a, (hb.cell (p := ⟨g, _, none⟩) (Nat.lt_of_lt_of_le hg hs)).trans c0, (hb.cell (p := ⟨g, _, none⟩) (Nat.lt_of_lt_of_le hg hs)).trans c1, (hb.cell (p := ⟨g, _, none⟩) (Nat.lt_of_lt_of_le hg hs)).trans c2, (hb.cell (p := ⟨g, _, none⟩) (Nat.lt_of_lt_of_le hg hs)).trans c3, (hb.cell (p := ⟨g, _, none⟩) (Nat.lt_of_lt_of_le hg hs)).trans c4, (hb.cell (p := ⟨bR, _, none⟩) (Nat.lt_of_lt_of_le hR hs)).trans d⟩
end Go.Proofs.YtojofinofpgopaaDoor
/- Contract of the reference: Valid. -/
namespace Go.Proofs.YtojofinofpgopaaDoor
open Go.RowKit
attribute [local go_sem ↓] Go.wp_at_zero Go.wp_at_succ

/-- The memory of a call of the reference's Valid. -/
structure RvW (w : World) (aA aP aO : Option Addr) (cA cP cO : Nat) (b : IBlk) (wx : World) : Prop where
  below : Below w.heap.size w wx
  box : wx.heap[w.heap.size]? = some (.cells #[.slice aA b.at_.length cA, .slice aP b.pages.length cP, .slice aO b.ops.length cO] 28 (0, 0))
theorem RvW.after {w : World} {aA aP aO : Option Addr} {cA cP cO : Nat} {b : IBlk} {wx w' : World} (h : RvW w aA aP aO cA cP cO b wx) (hx : Ext wx w') : RvW w aA aP aO cA cP cO b w' :=
  ⟨h.below.trans (Below.mono hx h.below.size), hx.block h.box⟩
theorem RvW.start {w : World} {aA aP aO : Option Addr} {cA cP cO : Nat} {b : IBlk} : RvW w aA aP aO cA cP cO b (w.alloc (.cells #[.slice aA b.at_.length cA, .slice aP b.pages.length cP, .slice aO b.ops.length cO] 28)) :=
  ⟨(Below.refl _ _).alloc (Nat.le_refl _) _, heap_alloc_new _ _⟩
def headOk (b : IBlk) : Bool := decide (1 ≤ b.at_.length) && decide (b.at_.length ≤ 64) && decide (1 ≤ b.ops.length) && decide (b.ops.length ≤ 2000) && (b.ops.getD 0 noOp).code == 20
theorem header_head (b : IBlk) : headerL b = (pagesOk b.pages && headOk b) := rfl
theorem ref_head {b : IBlk} (h : headOk b = false) : false = refValidL b := by unfold refValidL; rw [header_head, h]; simp
theorem ref_page {b : IBlk} {k : Nat} (hk : k < b.pages.length) (h : pageBad b.pages k = true) : false = refValidL b := by
  unfold refValidL; rw [← header_bad hk h]; rfl
theorem ref_scan {b : IBlk} {k : Nat} (hk : k < b.ops.length) (h : scanOk b.ops k = false) : false = refValidL b := by
  have : (List.range b.ops.length).all (scanOk b.ops) = false := by rw [List.all_eq_false]; exact ⟨k, by simpa using hk, by simp [h]⟩
  unfold refValidL; rw [this]; simp
theorem ref_ord {b : IBlk} {k : Nat} (hk : k < b.ops.length) (h : orderedL b.ops k = false) : false = refValidL b := by
  have : (List.range b.ops.length).all (orderedL b.ops) = false := by rw [List.all_eq_false]; exact ⟨k, by simpa using hk, by simp [h]⟩
  unfold refValidL; rw [this]; simp
theorem range_all {p : Nat → Bool} {n : Nat} (h : ∀ j, j < n → p j = true) : (List.range n).all p = true := by
  rw [List.all_eq_true]; intro i hi; exact h i (by simpa using hi)
theorem ref_good {b : IBlk} (h1 : headOk b = true) (h2 : pagesOk b.pages = true) (h3 : ∀ j, j < b.ops.length → scanOk b.ops j = true) (h4 : ∀ j, j < b.ops.length → orderedL b.ops j = true) : (marksL b.ops b.ops.length == (b.at_.length : Int)) = refValidL b := by
  unfold refValidL; rw [header_head, h1, h2, range_all h3, range_all h4]; rfl
theorem marks_bd (ops : List IOp) : ∀ k, 0 ≤ marksL ops k ∧ marksL ops k ≤ k
  | 0 => by simp [marksL]
  | k + 1 => by
    have := marks_bd ops k
    unfold marksL; split <;> omega
theorem scan_eq {ops : List IOp} {i : Nat} {o : IOp} {cc : Int} (ho : ops.getD i noOp = o) (hc : (ops.getD (i + 1) noOp).code = cc) :
    scanOk ops i = (okForm o && (!(o.code == 20) || o.n == marksL ops i) && (endsL o.code == decide (i + 1 = ops.length)) && (!(o.code == 23) || (!decide (i + 1 = ops.length) && cc == 24))) := by
  unfold scanOk isExit; rw [ho, hc]
end Go.Proofs.YtojofinofpgopaaDoor
