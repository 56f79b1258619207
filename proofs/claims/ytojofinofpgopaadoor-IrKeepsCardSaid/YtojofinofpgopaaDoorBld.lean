/- A block that a call builds: a variable of three slices, each slice in memory of the call's own, appended to. -/
import Derived.Test.YtojofinofpgopaaDoorIrH
namespace Go.Proofs.YtojofinofpgopaaDoor
open Go.RowKit
theorem infoU32 : (Tryd.prog.info? 35).map (fun i => (i.zero, i.size, i.bytes)) = some (some (.int .u32 0), 1, 4) := by kernel_rfl
theorem infoOp : (Tryd.prog.info? 53).map (fun i => (i.zero, i.size, i.bytes)) = some (some (.agg #[.int .i64 0, .int .i64 0, .int .i64 0, .int .i64 0, .int .u32 0]), 5, 40) := by kernel_rfl
def opsCells (l : List IOp) : List Value := l.flatMap fun o => o.v.toList
theorem opsCells_len (l : List IOp) : (opsCells l).length = l.length * 5 := by
  induction l with
  | nil => rfl
  | cons o l ih => unfold opsCells at *; rw [List.flatMap_cons, List.length_append, ih]; simp; omega
theorem opsCells_app (l m : List IOp) : opsCells (l ++ m) = opsCells l ++ opsCells m := by unfold opsCells; rw [List.flatMap_append]
theorem opsCells_at (l : List IOp) : ∀ {i j : Nat} {u : Value}, i < l.length → (l.getD i noOp).v[j]? = some u → j < 5 → (opsCells l)[i * 5 + j]? = some u := by
  induction l with
  | nil => intro i j u hi; simp at hi
  | cons o l ih =>
    intro i j u hi hu hj
    unfold opsCells at *
    rw [List.flatMap_cons]
    cases i with
    | zero =>
      rw [List.getElem?_append_left (by simp; omega)]
      simpa using hu
    | succ i =>
      rw [List.getElem?_append_right (by simp; omega)]
      have : (i + 1) * 5 + j - o.v.toList.length = i * 5 + j := by simp; omega
      rw [this]
      exact ih (by simpa using hi) (by simpa using hu) hj
def Sep (u v : Value) : Prop := ∀ g, u.ownBlock = some g → v.ownBlock = some g → False
theorem Sep.symm {u v : Value} (h : Sep u v) : Sep v u := fun g a b => h g b a
theorem Sep.ne {u v : Value} (h : Sep u v) : u.ownBlock = none ∨ u.ownBlock ≠ v.ownBlock := by
  cases hu : u.ownBlock with
  | none => exact .inl rfl
  | some g => exact .inr (fun e => h g hu e.symm)
theorem sep_nil (v : Value) : Sep (.slice none 0 0) v := fun g h => by simp [Value.ownBlock] at h
structure Bld (w : World) (Bb : Nat) (b : IBlk) (vA vP vO : Value) (wx : World) : Prop where
  below : Below w.heap.size w wx
  hB : w.heap.size ≤ Bb
  box : wx.heap[Bb]? = some (.cells #[vA, vP, vO] 28 (0, 0))
  rowA : wx.ownsRow w.heap.size 35 1 vA b.at_.length (b.at_.map (Value.int .u32))
  rowP : wx.ownsRow w.heap.size 3 1 vP b.pages.length (b.pages.map (Value.int .i64))
  rowO : wx.ownsRow w.heap.size 53 5 vO b.ops.length (opsCells b.ops)
  sAP : Sep vA vP
  sAO : Sep vA vO
  sPO : Sep vP vO
  nA : vA.ownBlock ≠ some Bb
  nP : vP.ownBlock ≠ some Bb
  nO : vO.ownBlock ≠ some Bb
section
variable {w : World} {Bb : Nat} {b : IBlk} {vA vP vO : Value} {wx w' : World}
theorem Bld.lt (h : Bld w Bb b vA vP vO wx) : Bb < wx.heap.size := heap_lt h.box
theorem row_setCell {base e size n : Nat} {v : Value} {xs : List Value} (h : wx.ownsRow base e size v n xs) {p : Addr} (hp : v.ownBlock ≠ some p.block) (u : Value) : (wx.setCell p u).ownsRow base e size v n xs := by
  have hg : wx.grownBy (wx.setCell p u) (some p.block) := ⟨rfl, rfl, rfl, by simp [World.setCell], fun k _ hk => Below.heap_setCell wx p u k (fun e => hk (by rw [e]))⟩
  exact h.kept hg (.inr hp)
theorem row_ext {base e size n : Nat} {v : Value} {xs : List Value} (h : wx.ownsRow base e size v n xs) (hx : Ext wx w') : w'.ownsRow base e size v n xs := by
  have hg : wx.grownBy w' none := ⟨hx.os, hx.tape, hx.output, hx.size, fun k hk _ => Below.block hx k hk⟩
  cases ho : v.ownBlock with
  | none => exact h.kept hg (.inl ho)
  | some g => exact h.kept hg (.inr (by rw [ho]; simp))
theorem Bld.after (h : Bld w Bb b vA vP vO wx) (hx : Ext wx w') : Bld w Bb b vA vP vO w' :=
  ⟨h.below.trans (Below.mono hx h.below.size), h.hB, hx.block h.box, row_ext h.rowA hx, row_ext h.rowP hx, row_ext h.rowO hx, h.sAP, h.sAO, h.sPO, h.nA, h.nP, h.nO⟩
theorem new_ne {v : Value} {g n c : Nat} {W : World} (hb : Bb < W.heap.size) (hv : v.ownBlock ≠ some Bb) (ho : v.ownBlock = some g ∨ W.heap.size < g) : (Value.slice (some ⟨g, 0, none⟩) n c).ownBlock ≠ some Bb := fun h => by
  have hk : g = Bb := by simpa [Value.ownBlock] using h
  subst hk
  rcases ho with h1 | h1
  · exact hv h1
  · omega
theorem new_sep {v u : Value} {g n c : Nat} {W : World} {base e size m : Nat} {xs : List Value} (hs : Sep v u) (hu : W.ownsRow base e size u m xs) (ho : v.ownBlock = some g ∨ W.heap.size < g) : Sep (.slice (some ⟨g, 0, none⟩) n c) u := fun k h1 h2 => by
  have hk : k = g := by simpa [Value.ownBlock] using h1.symm
  subst hk
  rcases ho with h | h
  · exact hs _ h h2
  · have := (hu.lt _ h2).2; omega
/-- The variable itself is as it was behind an append to one of its slices. -/
theorem Bld.boxG (h : Bld w Bb b vA vP vO wx) {row : Option Nat} (hgr : wx.grownBy w' row) (hr : row ≠ some Bb) : w'.heap[Bb]? = some (.cells #[vA, vP, vO] 28 (0, 0)) :=
  (hgr.block Bb h.lt (fun e => hr e.symm)).trans h.box
theorem Bld.boxA (h : Bld w Bb b vA vP vO wx) (hgr : wx.grownBy w' vA.ownBlock) (i : Nat) : (∀ u, (#[vA, vP, vO] : Array Value)[i]? = some u → w'.cell? ⟨Bb, i, none⟩ = some u) ∧ w'.frozen? ⟨Bb, i, none⟩ = false :=
  ⟨fun _ hu => heap_cell (h.boxG hgr h.nA) hu, heap_free (h.boxG hgr h.nA)⟩
theorem Bld.boxO (h : Bld w Bb b vA vP vO wx) (hgr : wx.grownBy w' vO.ownBlock) (i : Nat) : (∀ u, (#[vA, vP, vO] : Array Value)[i]? = some u → w'.cell? ⟨Bb, i, none⟩ = some u) ∧ w'.frozen? ⟨Bb, i, none⟩ = false :=
  ⟨fun _ hu => heap_cell (h.boxG hgr h.nO) hu, heap_free (h.boxG hgr h.nO)⟩
/-- Operations were appended. -/
theorem Bld.appO (h : Bld w Bb b vA vP vO wx) {g cap : Nat} {l : List IOp} (hown : w'.ownsRow w.heap.size 53 5 (.slice (some ⟨g, 0, none⟩) (b.ops.length + l.length) cap) (b.ops.length + l.length) (opsCells b.ops ++ opsCells l))
    (hgr : wx.grownBy w' vO.ownBlock) (ho : vO.ownBlock = some g ∨ wx.heap.size < g) : Bld w Bb { b with ops := b.ops ++ l } vA vP (.slice (some ⟨g, 0, none⟩) (b.ops.length + l.length) cap) (w'.setCell ⟨Bb, 2, none⟩ (.slice (some ⟨g, 0, none⟩) (b.ops.length + l.length) cap)) := by
  have hlt := h.lt
  have hle := h.below.size
  have hbb : w'.heap[Bb]? = some (.cells #[vA, vP, vO] 28 (0, 0)) := h.boxG hgr h.nO
  refine ⟨?_, h.hB, ?_, ?_, ?_, ?_, h.sAP, (new_sep h.sAO.symm h.rowA ho).symm, (new_sep h.sPO.symm h.rowP ho).symm, h.nA, h.nP, new_ne hlt h.nO ho⟩
  · exact (h.below.grown hgr hle (fun k hk => (h.rowO.lt k hk).1)).setCell h.hB _
  · exact set_heap hbb 2 _
  · exact row_setCell (h.rowA.kept hgr h.sAO.ne) h.nA _
  · exact row_setCell (h.rowP.kept hgr h.sPO.ne) h.nP _
  · have e1 : (b.ops ++ l).length = b.ops.length + l.length := List.length_append
    show (w'.setCell _ _).ownsRow w.heap.size _ 5 _ (b.ops ++ l).length (opsCells (b.ops ++ l))
    rw [e1, opsCells_app]
    exact row_setCell hown (new_ne hlt h.nO ho) _
/-- Addresses were appended. -/
theorem Bld.appA (h : Bld w Bb b vA vP vO wx) {g cap : Nat} {l : List Int} (hown : w'.ownsRow w.heap.size 35 1 (.slice (some ⟨g, 0, none⟩) (b.at_.length + l.length) cap) (b.at_.length + l.length) (b.at_.map (Value.int .u32) ++ l.map (Value.int .u32)))
    (hgr : wx.grownBy w' vA.ownBlock) (ho : vA.ownBlock = some g ∨ wx.heap.size < g) : Bld w Bb { b with at_ := b.at_ ++ l } (.slice (some ⟨g, 0, none⟩) (b.at_.length + l.length) cap) vP vO (w'.setCell ⟨Bb, 0, none⟩ (.slice (some ⟨g, 0, none⟩) (b.at_.length + l.length) cap)) := by
  have hlt := h.lt
  have hle := h.below.size
  have hbb : w'.heap[Bb]? = some (.cells #[vA, vP, vO] 28 (0, 0)) := h.boxG hgr h.nA
  refine ⟨?_, h.hB, ?_, ?_, ?_, ?_, new_sep h.sAP h.rowP ho, new_sep h.sAO h.rowO ho, h.sPO, new_ne hlt h.nA ho, h.nP, h.nO⟩
  · exact (h.below.grown hgr hle (fun k hk => (h.rowA.lt k hk).1)).setCell h.hB _
  · exact set_heap hbb 0 _
  · have e1 : (b.at_ ++ l).length = b.at_.length + l.length := List.length_append
    show (w'.setCell _ _).ownsRow w.heap.size _ 1 _ (b.at_ ++ l).length ((b.at_ ++ l).map _)
    rw [e1, List.map_append]
    exact row_setCell hown (new_ne hlt h.nA ho) _
  · exact row_setCell (h.rowP.kept hgr h.sAP.symm.ne) h.nP _
  · exact row_setCell (h.rowO.kept hgr h.sAO.symm.ne) h.nO _
/-- The row of a slice, as its reader sees it. -/
theorem row_arr {base e n : Nat} {v : Value} {xs : List Value} (h : wx.ownsRow base e 1 v n xs) (hn : xs.length = n) : ∃ A cap, v = .slice A n cap ∧ Arr wx wx.heap.size A xs := by
  have hlt := h.lt
  have hcs := fun g => h.cells (g := g)
  rcases h.2 with ⟨rfl, h0⟩ | ⟨g, cap, cur, rfl, hb, hg, _, hm, hs, ht⟩
  · exact ⟨none, 0, by rw [h0], fun hp => by omega⟩
  · refine ⟨some ⟨g, 0, none⟩, cap, rfl, fun _ => ⟨g, 0, rfl, (hlt g rfl).2, fun i hi => ?_⟩⟩
    have hi' : xs[i]? = some (xs.getD i undef) := by rw [List.getD_eq_getElem?_getD, List.getElem?_eq_getElem hi]; rfl
    have := hcs g rfl i _ hi'
    rwa [Go.WideShapes.add_plain] at this
theorem row_ops {base n : Nat} {v : Value} {l : List IOp} (h : wx.ownsRow base 53 5 v n (opsCells l)) (hn : l.length = n) : ∃ A cap, v = .slice A n cap ∧ OpsArr wx wx.heap.size A l := by
  have hlt := h.lt
  have hcs := fun g => h.cells (g := g)
  rcases h.2 with ⟨rfl, h0⟩ | ⟨g, cap, cur, rfl, hb, hg, _, hm, hs, ht⟩
  · exact ⟨none, 0, by rw [h0], fun hp => by omega⟩
  · refine ⟨some ⟨g, 0, none⟩, cap, rfl, fun _ => ⟨g, 0, rfl, (hlt g rfl).2, fun i hi => ?_⟩⟩
    have key : ∀ j u, j < 5 → (l.getD i noOp).v[j]? = some u → wx.cell? ⟨g, 0 + i * 5 + j, none⟩ = some u := fun j u hj hu => by
      have := hcs g rfl (i * 5 + j) u (opsCells_at l hi hu hj)
      rw [Go.WideShapes.add_plain] at this
      simpa [Nat.add_assoc] using this
    exact ⟨key 0 _ (by omega) rfl, key 1 _ (by omega) rfl, key 2 _ (by omega) rfl, key 3 _ (by omega) rfl, key 4 _ (by omega) rfl⟩
theorem Bld.isBlk (h : Bld w Bb b vA vP vO wx) (l1 : b.at_.length ≤ maxLen) (l2 : b.pages.length ≤ maxLen) (l3 : b.ops.length ≤ maxLen) :
    IsBlk b (.agg #[vA, vP, vO]) wx := by
  obtain ⟨aA, cA, rfl, h1⟩ := row_arr h.rowA (by simp)
  obtain ⟨aP, cP, rfl, h2⟩ := row_arr h.rowP (by simp)
  obtain ⟨aO, cO, rfl, h3⟩ := row_ops h.rowO rfl
  exact ⟨wx.heap.size, aA, aP, aO, cA, cP, cO, rfl, Nat.le_refl _, h1, h2, h3, l1, l2, l3⟩
end
theorem Bld.facts {w : World} {Bb : Nat} {b : IBlk} {vA vP vO : Value} {wx : World} (h : Bld w Bb b vA vP vO wx) :
    (wx.cell? ⟨Bb, 0, none⟩ = some vA ∧ wx.cell? ⟨Bb, 1, none⟩ = some vP ∧ wx.cell? ⟨Bb, 2, none⟩ = some vO) ∧ wx.frozen? ⟨Bb, 0, none⟩ = false ∧ wx.frozen? ⟨Bb, 2, none⟩ = false ∧ Bb < wx.heap.size ∧ w.heap.size ≤ Bb ∧
      wx.ownsRow w.heap.size 35 1 vA b.at_.length (b.at_.map (Value.int .u32)) ∧ wx.ownsRow w.heap.size 53 5 vO b.ops.length (opsCells b.ops) :=
  ⟨⟨heap_cell h.box rfl, heap_cell h.box rfl, heap_cell h.box rfl⟩, heap_free h.box, heap_free h.box, h.lt, h.hB, h.rowA, h.rowO⟩
theorem isBlk_eval {b : IBlk} {vars : List Int} {v : Value} {w : World} (h : IsBlk b v w) (hN : ∀ k, k < b.ops.length → U32 (b.ops.getD k noOp).n) (hv : vars.length = 28) (hvr : ∀ v ∈ vars, U32 v) :
    Calls Tryd.prog 13 #[v, .agg (varsV vars), .nilIface] w fun e w' => e = .returned (.agg (outCells (evalNil b vars))) ∧ Ext w w' := by
  obtain ⟨B, aA, aP, aO, cA, cP, cO, rfl, hB, hb⟩ := h
  exact eval_nil aA aP aO cA cP cO b vars w B hB hb hv hvr hN
end Go.Proofs.YtojofinofpgopaaDoor
