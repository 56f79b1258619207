/- The memory of a call of Eval; the closure that leaves. -/
import Derived.Test.YtojofinofpgopaaDoorIrV
import Derived.Laws.Tables
import Derived.Outline
import Derived.Deep.QuietTactic
import Derived.BigQuiet
import Derived.Deep.DeepCutAuto
import Derived.Deep.CutBlock
namespace Go.Proofs.YtojofinofpgopaaDoor
open Go.RowKit

def outCells (o : EvOut) : Array Value := #[.bool o.lv, .int .i64 o.idx, .int .i64 o.done, .int .u32 o.pc] ++ (o.vars.map (Value.int .u32)).toArray
def zeroOut : EvOut := ⟨false, 0, 0, 0, List.replicate 28 0⟩
def varsV (l : List Int) : Array Value := (l.map (Value.int .u32)).toArray
theorem below_setRow {B : Nat} {a w : World} (h : Below B a w) {g : Nat} (hg : B ≤ g) {cs : Array Value} : Below B a (w.setRow g cs) :=
  h.trans ⟨rfl, rfl, rfl, by simp [World.setRow], fun k hk => by simp only [World.setRow, Array.getElem?_modify]; rw [if_neg (by omega)]⟩
theorem built_out (vars : List Int) (hv : vars.length = 28) (n : Int) : Tryd.prog.built 41 [(4, .agg (varsV vars)), (2, .int .i64 n)] = some (outCells ⟨false, 0, n, 0, vars⟩) := by
  match vars, hv with
  | [v0, v1, v2, v3, v4, v5, v6, v7, v8, v9, v10, v11, v12, v13, v14, v15, v16, v17, v18, v19, v20, v21, v22, v23, v24, v25, v26, v27], _ => (show _ = _; kernel_rfl)
theorem out_all (o : EvOut) : (outCells o).all (·.oneCell') = true := by
  simp [outCells, Value.oneCell']
theorem out_size (o : EvOut) (h : o.vars.length = 28) : (outCells o).size = 32 := by simp [outCells, h]
section
variable {P : Program}
theorem wpList_built2 {ops : Array Oper} {rest : List Oper} {o : Oper} {a : Act} {w : World} {Q : Exit → Act → World → Prop} (hg : o.guard = none) (t : TypeId) (i j : Nat) (x y : Operand) (ho : o.op = .build t #[(i, x), (j, y)])
    (u v : Value) (hx : a.eval x = u) (hy : a.eval y = v) (cs : Array Value) (hb : P.built t [(i, u), (j, v)] = some cs)
    (h : wpList P ops Q rest (a.put o.dst (.agg cs)) w) : wpList P ops Q (o :: rest) a w := by
  subst hx hy
  have e : (#[(i, x), (j, y)].map fun (i, x) => (i, a.eval x)).toList = [(i, a.eval x), (j, a.eval y)] := by simp
  exact wpList_build hg t _ ho (by rw [e, hb]; rfl) (by rw [e, hb]; exact h)
end
theorem heap_lt {w : World} {g : Nat} {o : Obj} (h : w.heap[g]? = some o) : g < w.heap.size := (Array.getElem?_eq_some_iff.1 h).1
theorem heap_new_at (w : World) (o : Obj) {n : Nat} (h : w.heap.size = n) : (w.alloc o).heap[n]? = some o := by subst h; exact heap_alloc_new w o
/-- The memory of a call of Eval ahead of the loop. -/
structure EvW (w : World) (aA aP aO : Option Addr) (cA cP cO : Nat) (b : IBlk) (vars : List Int) (wx : World) : Prop where
  below : Below w.heap.size w wx
  blk : wx.heap[w.heap.size]? = some (.cells #[.slice aA b.at_.length cA, .slice aP b.pages.length cP, .slice aO b.ops.length cO] 28 (0, 0))
  vs : wx.heap[w.heap.size + 1]? = some (.cells (varsV vars) 39 (0, 0))
  res : wx.heap[w.heap.size + 2]? = some (.cells (outCells zeroOut) 41 (0, 0))
  size : w.heap.size + 2 < wx.heap.size
theorem EvW.after3 {w : World} {aA aP aO : Option Addr} {cA cP cO : Nat} {b : IBlk} {vars : List Int} {wx w' : World} (h : EvW w aA aP aO cA cP cO b vars wx) (hb : Below (w.heap.size + 3) wx w') : EvW w aA aP aO cA cP cO b vars w' :=
  ⟨h.below.trans (hb.mono (by omega)), (hb.block _ (by omega)).trans h.blk, (hb.block _ (by omega)).trans h.vs, (hb.block _ (by omega)).trans h.res, Nat.lt_of_lt_of_le h.size hb.size⟩
theorem EvW.after {w : World} {aA aP aO : Option Addr} {cA cP cO : Nat} {b : IBlk} {vars : List Int} {wx w' : World} (h : EvW w aA aP aO cA cP cO b vars wx) (hb : Below wx.heap.size wx w') : EvW w aA aP aO cA cP cO b vars w' :=
  h.after3 (hb.mono (by have := h.size; omega))
/-- The same in the loop: the outcome so far in block G, the number of the instruction in block H. -/
structure EvL (w : World) (aA aP aO : Option Addr) (cA cP cO : Nat) (b : IBlk) (vars : List Int) (G H : Nat) (s : EvOut) (cur : Int) (wx : World) : Prop where
  ew : EvW w aA aP aO cA cP cO b vars wx
  out : wx.heap[G]? = some (.cells (outCells s) 41 (0, 0))
  cur : wx.heap[H]? = some (.cells #[.int .i64 cur] 3 (0, 0))
  hG : w.heap.size + 2 < G
  hH : w.heap.size + 2 < H
  ne : G ≠ H
theorem EvL.after {w : World} {aA aP aO : Option Addr} {cA cP cO : Nat} {b : IBlk} {vars : List Int} {G H : Nat} {s : EvOut} {cur : Int} {wx w' : World} (h : EvL w aA aP aO cA cP cO b vars G H s cur wx) (hb : Below wx.heap.size wx w') :
    EvL w aA aP aO cA cP cO b vars G H s cur w' :=
  ⟨h.ew.after hb, (hb.block _ (heap_lt h.out)).trans h.out, (hb.block _ (heap_lt h.cur)).trans h.cur, h.hG, h.hH, h.ne⟩
theorem EvL.drewN {w : World} {aA aP aO : Option Addr} {cA cP cO : Nat} {b : IBlk} {vars : List Int} {G H : Nat} {s : EvOut} {cur : Int} {wx : World} (h : EvL w aA aP aO cA cP cO b vars G H s cur wx) (n : Nat) :
    EvL w aA aP aO cA cP cO b vars G H s cur (wx.drewN n) := h.after ⟨rfl, rfl, rfl, Nat.le_refl _, fun _ _ => rfl⟩
theorem EvL.setOut {w : World} {aA aP aO : Option Addr} {cA cP cO : Nat} {b : IBlk} {vars : List Int} {G H : Nat} {s s' : EvOut} {cur : Int} {wx : World} (h : EvL w aA aP aO cA cP cO b vars G H s cur wx) (i : Nat) (u : Value)
    (he : (outCells s).setIfInBounds i u = outCells s') : EvL w aA aP aO cA cP cO b vars G H s' cur (wx.setCell ⟨G, i, none⟩ u) :=
  ⟨h.ew.after3 ((Below.refl _ _).setCell (by have := h.hG; show _ ≤ G; omega) _), by rw [← he]; exact set_heap h.out i u,
    (Below.heap_setCell wx _ u _ (by have := h.ne; show H ≠ G; omega)).trans h.cur, h.hG, h.hH, h.ne⟩
theorem EvL.setCur {w : World} {aA aP aO : Option Addr} {cA cP cO : Nat} {b : IBlk} {vars : List Int} {G H : Nat} {s : EvOut} {cur : Int} {wx : World} (h : EvL w aA aP aO cA cP cO b vars G H s cur wx) (n : Int) :
    EvL w aA aP aO cA cP cO b vars G H s n (wx.setCell ⟨H, 0, none⟩ (.int .i64 n)) :=
  ⟨h.ew.after3 ((Below.refl _ _).setCell (by have := h.hH; show _ ≤ H; omega) _), (Below.heap_setCell wx _ _ _ (by have := h.ne; show G ≠ H; omega)).trans h.out,
    set_heap h.cur 0 (.int .i64 n), h.hG, h.hH, h.ne⟩
def U32 (v : Int) : Prop := 0 ≤ v ∧ v < 4294967296
def VarsOk (l : List Int) : Prop := l.length = 28 ∧ ∀ v ∈ l, U32 v
theorem VarsOk.get {s : EvOut} (h : VarsOk s.vars) {a : Int} (h0 : 0 ≤ a) (h1 : a < 28) : U32 (s.get a) := by
  have hl : a.toNat < s.vars.length := by rw [h.1]; omega
  unfold EvOut.get
  rw [getD_at hl]
  exact h.2 _ (List.getElem_mem hl)
theorem VarsOk.set {s : EvOut} (h : VarsOk s.vars) {d v : Int} (hv : U32 v) : VarsOk (s.set d v).vars := by
  refine ⟨by simp [EvOut.set, h.1], fun x hx => ?_⟩
  rcases List.mem_or_eq_of_mem_set hx with h1 | h1
  · exact h.2 x h1
  · rw [h1]; exact hv
theorem outCell {s : EvOut} (h : VarsOk s.vars) {i : Nat} (hi : i < 28) : (outCells s)[4 + i]? = some (.int .u32 (s.vars.getD i 0)) := by
  have hl : i < s.vars.length := by rw [h.1]; exact hi
  unfold outCells
  rw [Array.getElem?_append_right (by simp), getD_at hl]
  simp [hl]
theorem outSet (s : EvOut) (i : Nat) (v : Int) : (outCells s).setIfInBounds (4 + i) (.int .u32 v) = outCells { s with vars := s.vars.set i v } := by
  unfold outCells
  apply Array.ext'
  rw [Nat.add_comm 4 i]
  simp
theorem outPc (s : EvOut) (v : Int) : (outCells s).setIfInBounds 3 (.int .u32 v) = outCells { s with pc := v } := by
  unfold outCells
  apply Array.ext'
  simp

theorem outLv (s : EvOut) (v : Bool) : (outCells s).setIfInBounds 0 (.bool v) = outCells { s with lv := v } := by
  unfold outCells
  apply Array.ext'
  simp
theorem outIdx (s : EvOut) (v : Int) : (outCells s).setIfInBounds 1 (.int .i64 v) = outCells { s with idx := v } := by
  unfold outCells
  apply Array.ext'
  simp
theorem outDone (s : EvOut) (v : Int) : (outCells s).setIfInBounds 2 (.int .i64 v) = outCells { s with done := v } := by
  unfold outCells
  apply Array.ext'
  simp
set_option maxHeartbeats 1000000 in
theorem leave_any {w : World} {aA aP aO : Option Addr} {cA cP cO : Nat} {b : IBlk} {vars : List Int} {G H B : Nat} {s : EvOut} {cur : Int} {wx : World} (hL : EvL w aA aP aO cA cP cO b vars G H s cur wx)
    (hA : Arr w B aA (b.at_.map (Value.int .u32))) (hB : B ≤ w.heap.size) (hc0 : 0 ≤ cur) (hc1 : cur < b.at_.length) :
    Calls Tryd.prog 28 #[.pointer (some ⟨H, 0, none⟩), .pointer (some ⟨w.heap.size, 0, none⟩), .pointer (some ⟨G, 0, none⟩)] wx fun e w' => e = .returned (.tuple #[]) ∧ EvL w aA aP aO cA cP cO b vars G H (s.leave b.at_ cur) cur w' := by
  obtain ⟨c, rfl⟩ := Int.eq_ofNat_of_zero_le hc0
  obtain ⟨gA, oA, rfl, hgA, hcell⟩ := hA.int (by omega)
  have x0 : wx.cell? ⟨H, 0, none⟩ = some (.int .i64 c) := heap_cell hL.cur rfl
  have x1 : wx.cell? ⟨w.heap.size, 0, none⟩ = some (.slice (some ⟨gA, oA, none⟩) b.at_.length cA) := heap_cell hL.ew.blk rfl
  have x2 : wx.cell? ⟨gA, oA + c, none⟩ = some (.int .u32 (b.at_.getD c 0)) := (hL.ew.below.cell (p := ⟨gA, oA + c, none⟩) (by show gA < _; omega)).trans (hcell c (by omega))
  have g0 : wx.cell? ⟨G, 0, none⟩ = some (.bool s.lv) := heap_cell hL.out (by simp [outCells])
  have g1 : wx.cell? ⟨G, 1, none⟩ = some (.int .i64 s.idx) := heap_cell hL.out (by simp [outCells])
  have g2 : wx.cell? ⟨G, 2, none⟩ = some (.int .i64 s.done) := heap_cell hL.out (by simp [outCells])
  have g3 : wx.cell? ⟨G, 3, none⟩ = some (.int .u32 s.pc) := heap_cell hL.out (by simp [outCells])
  have f0 : wx.frozen? ⟨G, 0, none⟩ = false := heap_free hL.out
  have f1 : wx.frozen? ⟨G, 1, none⟩ = false := heap_free hL.out
  have f2 : wx.frozen? ⟨G, 2, none⟩ = false := heap_free hL.out
  have f3 : wx.frozen? ⟨G, 3, none⟩ = false := heap_free hL.out
  have ne1 : G ≠ H := hL.ne
  have ne2 : G ≠ w.heap.size := by have := hL.hG; omega
  have ne3 : G ≠ gA := by have := hL.hG; omega
  have hci : (c : Int) < (b.at_.length : Int) := hc1
  have HL := Lib.hid hL
  have hcl : c < b.at_.length := by omega
  obtain ⟨p, hp⟩ : ∃ p, b.at_.getD c 0 = p := ⟨_, rfl⟩
  rw [hp] at x2
  have HP := Lib.hid hp
  clear hL hA hcell hp
  go_enter Tryd.func28, Tryd.ntmps28
  go_region
  all_goals
    go_light
    go_end0
    refine ⟨rfl, ?_⟩
    have h := ((((HL.out.setOut 0 (.bool true) (outLv _ _)).setOut 1 (.int .i64 c) (outIdx _ _)).setOut 2 (.int .i64 c) (outDone _ _)).setOut 3 (.int .u32 p) (outPc _ _)).drewN 1
    have e : s.leave b.at_ (c : Int) = { s with lv := true, idx := (c : Int), done := (c : Int), pc := p } := by
      unfold EvOut.leave
      rw [Int.toNat_natCast, HP.out]
    rw [e]
    exact h
end Go.Proofs.YtojofinofpgopaaDoor
