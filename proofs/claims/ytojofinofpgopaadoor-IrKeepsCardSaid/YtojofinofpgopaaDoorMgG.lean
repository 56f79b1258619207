/- Contracts: example, sanity. -/
import Derived.Test.YtojofinofpgopaaDoorIrF0
namespace Go.Proofs.YtojofinofpgopaaDoor
open Go.RowKit
def exOps (g : Bool) : List IOp := if g then [⟨20, 0, 0, 0, 0⟩, ⟨1, 1, 0, 0, 5⟩, ⟨21, 0, 2, 0, 0⟩, ⟨24, 0, 0, 0, 260⟩] else [⟨20, 0, 0, 0, 0⟩, ⟨1, 1, 0, 0, 5⟩, ⟨20, 0, 0, 0, 1⟩, ⟨21, 0, 2, 0, 0⟩, ⟨24, 0, 0, 0, 260⟩]
def exBlk (g : Bool) : IBlk := ⟨if g then [256] else [256, 258], [1], exOps g⟩
def ExPost (g : Bool) (w : World) (e : Ending) (w' : World) : Prop :=
  ∃ aA aP aO cA cP cO, e = .returned (blkV aA aP aO cA cP cO (exBlk g)) ∧ Below w.heap.size w w' ∧ BlkAt w' w'.heap.size aA aP aO (exBlk g)
theorem ex_at {w : World} {g : Bool} {gA gP gO : Nat} {tA tP tO : TypeId}
    (hA : w.heap[gA]? = some (.cells ((exBlk g).at_.map (Value.int .u32)).toArray tA (0, 0))) (hP : w.heap[gP]? = some (.cells #[.int .i64 1] tP (0, 0)))
    (hO : w.heap[gO]? = some (.cells ((exOps g).flatMap (fun o => o.v.toList)).toArray tO (0, 0))) :
    BlkAt w w.heap.size (some ⟨gA, 0, none⟩) (some ⟨gP, 0, none⟩) (some ⟨gO, 0, none⟩) (exBlk g) := by
  refine ⟨fun _ => ⟨gA, 0, rfl, heap_lt hA, fun i hi => ?_⟩, fun _ => ⟨gP, 0, rfl, heap_lt hP, fun i hi => ?_⟩, fun _ => ⟨gO, 0, rfl, heap_lt hO, fun i hi => ?_⟩, by cases g <;> decide, by cases g <;> decide, by cases g <;> decide⟩
  · rw [Nat.zero_add]
    refine heap_cell hA ?_
    simp only [List.getElem?_toArray, List.getD_eq_getElem?_getD]
    rw [List.getElem?_eq_getElem hi]
    rfl
  · obtain rfl : i = 0 := by have : i < 1 := hi; omega
    exact heap_cell hP rfl
  · cases g
    · have hi : i < 5 := hi
      have : i = 0 ∨ i = 1 ∨ i = 2 ∨ i = 3 ∨ i = 4 := by omega
      rcases this with rfl | rfl | rfl | rfl | rfl <;> exact ⟨heap_cell hO rfl, heap_cell hO rfl, heap_cell hO rfl, heap_cell hO rfl, heap_cell hO rfl⟩
    · have hi : i < 4 := hi
      have : i = 0 ∨ i = 1 ∨ i = 2 ∨ i = 3 := by omega
      rcases this with rfl | rfl | rfl | rfl <;> exact ⟨heap_cell hO rfl, heap_cell hO rfl, heap_cell hO rfl, heap_cell hO rfl, heap_cell hO rfl⟩
theorem ex_post {g : Bool} {w wx : World} {o1 o2 o3 : Obj} {tA tP tO : TypeId} {e : Ending} {cA cP cO : Nat} {cs : Array Value}
    (hw : wx = (((((((w.alloc (.cells cs 28)).alloc o1).alloc o2).alloc o3).alloc (.cells ((exBlk g).at_.map (Value.int .u32)).toArray tA)).alloc (.cells #[.int .i64 1] tP)).alloc (.cells ((exOps g).flatMap (fun o => o.v.toList)).toArray tO)))
    (he : e = .returned (blkV (some ⟨w.heap.size + 4, 0, none⟩) (some ⟨w.heap.size + 5, 0, none⟩) (some ⟨w.heap.size + 6, 0, none⟩) cA cP cO (exBlk g))) :
    ExPost g w e wx := by
  subst hw
  refine ⟨_, _, _, cA, cP, cO, he, ?_, ex_at (tA := tA) (tP := tP) (tO := tO) ?_ ?_ ?_⟩
  · refine ((((((((Below.refl _ _).alloc ?_ _).alloc ?_ _).alloc ?_ _).alloc ?_ _).alloc ?_ _).alloc ?_ _).alloc ?_ _) <;> simp <;> omega
  · rw [Below.heap_alloc _ _ _ (by simp), Below.heap_alloc _ _ _ (by simp)]
    exact heap_new_at _ _ (by simp)
  · rw [Below.heap_alloc _ _ _ (by simp)]
    exact heap_new_at _ _ (by simp)
  · exact heap_new_at _ _ (by simp)
theorem heap_first {w : World} {o0 o1 o2 o3 o4 o5 o6 : Obj} : (((((((w.alloc o0).alloc o1).alloc o2).alloc o3).alloc o4).alloc o5).alloc o6).heap[w.heap.size]? = some o0 := by
  rw [Below.heap_alloc _ _ _ (by simp; omega), Below.heap_alloc _ _ _ (by simp; omega), Below.heap_alloc _ _ _ (by simp; omega), Below.heap_alloc _ _ _ (by simp; omega), Below.heap_alloc _ _ _ (by simp; omega), Below.heap_alloc _ _ _ (by simp)]
  exact heap_alloc_new _ _
set_option maxHeartbeats 1000000 in
theorem example_any (g : Bool) (w : World) : Calls Tryd.prog 16 #[.bool g] w (ExPost g w) := by
  cases g
  · go_enter Tryd.func16, Tryd.ntmps16
    go_wp2_with fail
    go_light
    exact bodyPost_ret (results_cell_row rfl _ _ w.heap.size 28 _ (0, 0) _ rfl heap_first Tryd.underlying28 rfl (by kernel_rfl)) rfl (ex_post rfl rfl)
  · go_enter Tryd.func16, Tryd.ntmps16
    go_wp2_with fail
    go_light
    exact bodyPost_ret (results_cell_row rfl _ _ w.heap.size 28 _ (0, 0) _ rfl heap_first Tryd.underlying28 rfl (by kernel_rfl)) rfl (ex_post rfl rfl)
end Go.Proofs.YtojofinofpgopaaDoor
/- Plain: ranges of words, lengths, the outcome without the guest's temporaries. -/
namespace Go.Proofs.YtojofinofpgopaaDoor
open Go.RowKit
theorem setFar {w : World} {G P i j : Nat} {u v : Value} (h : P ≠ G) (hc : w.cell? ⟨P, j, none⟩ = some v) : (w.setCell ⟨G, i, none⟩ u).cell? ⟨P, j, none⟩ = some v :=
  (World.cell?_of_block (a := ⟨P, j, none⟩) (Below.heap_setCell w ⟨G, i, none⟩ u P h)).trans hc
theorem bits_range (op : BinOp) (x y : Int) : U32 (bits op .u32 x y) := by
  unfold bits U32
  simp only [IntKind.wrap, IntKind.signed, IntKind.bits]
  constructor
  · exact Int.emod_nonneg _ (by decide)
  · exact Int.emod_lt_of_pos _ (by decide)
theorem bitL_range (b : Bool) : U32 (bitL b) := by cases b <;> exact ⟨by decide, by decide⟩
theorem wordOp_range (c a b : Int) (ha : U32 a) (hb : U32 b) : U32 (wordOpL c a b) := by
  obtain ⟨a0, a1⟩ := ha
  have hm : ∀ x : Int, U32 (x % 4294967296) := fun x => ⟨Int.emod_nonneg _ (by decide), Int.emod_lt_of_pos _ (by decide)⟩
  have hd : ∀ d : Int, 0 ≤ d → U32 (a / d) := fun d h => ⟨Int.ediv_nonneg a0 h, Int.lt_of_le_of_lt (Int.ediv_le_self _ a0) a1⟩
  unfold wordOpL
  have hi : ∀ (p : Prop) [Decidable p] (x y : Int), U32 x → U32 y → U32 (if p then x else y) := fun p _ x y hx hy => by by_cases h : p <;> simp [h, hx, hy]
  exact hi _ _ _ (hm _) (hi _ _ _ (hm _) (hi _ _ _ (bits_range _ _ _) (hi _ _ _ (bits_range _ _ _) (hi _ _ _ (bits_range _ _ _) (hi _ _ _ (hm _) (hi _ _ _ (hd _ (Int.pow_nonneg (by decide))) (hi _ _ _ (hm _) (hi _ _ _ (hm _)
    (hi _ _ _ (hi _ _ _ ⟨by decide, by decide⟩ (hd _ hb.1)) (hi _ _ _ (bitL_range _) (hi _ _ _ (bitL_range _) (hi _ _ _ (bitL_range _) ⟨by decide, by decide⟩))))))))))))
theorem evStep_len (at_ : List Int) (o : IOp) (s : EvOut) (cur : Int) : (evStep at_ o s cur).2.1.vars.length = s.vars.length := by
  unfold evStep
  have hi : ∀ (p : Prop) [Decidable p] (x y : Bool × EvOut × Int), x.2.1.vars.length = s.vars.length → y.2.1.vars.length = s.vars.length → (if p then x else y).2.1.vars.length = s.vars.length := fun p _ x y hx hy => by by_cases h : p <;> simp [h, hx, hy]
  have hs : ∀ (d v : Int), (s.set d v).vars.length = s.vars.length := fun d v => by simp [EvOut.set]
  exact hi _ _ _ rfl (hi _ _ _ (hs _ _) (hi _ _ _ (hs _ _) (hi _ _ _ rfl (hi _ _ _ (hi _ _ _ rfl rfl) (hi _ _ _ (hi _ _ _ rfl rfl) (hi _ _ _ rfl (hi _ _ _ rfl (hs _ _))))))))
theorem evGo_len (at_ : List Int) : ∀ (ops : List IOp) (s : EvOut) (cur : Int), (evGo at_ ops s cur).vars.length = s.vars.length := by
  intro ops
  induction ops with
  | nil => intro s cur; rfl
  | cons o rest ih =>
    intro s cur
    have h := evStep_len at_ o s cur
    unfold evGo
    split
    · rename_i h1; rw [h1] at h; exact h
    · rename_i h1; rw [h1] at h; rw [ih]; exact h
/-- The outcome with the temporaries 19 .. 27 at zero. -/
def EvOut.guests (s : EvOut) : EvOut := { s with vars := ((((((((s.vars.set 19 0).set 20 0).set 21 0).set 22 0).set 23 0).set 24 0).set 25 0).set 26 0).set 27 0 }
def evalNil (b : IBlk) (vars : List Int) : EvOut :=
  if validL b then (evGo b.at_ b.ops ⟨false, 0, b.at_.length, 0, vars⟩ 0).guests else zeroOut
theorem EvL.guests {w : World} {aA aP aO : Option Addr} {cA cP cO : Nat} {b : IBlk} {vars : List Int} {G H : Nat} {s : EvOut} {cur : Int} {wx : World} (h : EvL w aA aP aO cA cP cO b vars G H s cur wx) :
    EvL w aA aP aO cA cP cO b vars G H s.guests cur (wx.setCells G 23 (List.replicate 9 (.int .u32 0))) :=
  ((((((((h.setOut (4 + 19) (.int .u32 0) (outSet _ _ _)).setOut (4 + 20) (.int .u32 0) (outSet _ _ _)).setOut (4 + 21) (.int .u32 0) (outSet _ _ _)).setOut (4 + 22) (.int .u32 0) (outSet _ _ _)).setOut (4 + 23) (.int .u32 0) (outSet _ _ _)).setOut (4 + 24) (.int .u32 0) (outSet _ _ _)).setOut (4 + 25) (.int .u32 0) (outSet _ _ _)).setOut (4 + 26) (.int .u32 0) (outSet _ _ _)).setOut (4 + 27) (.int .u32 0) (outSet _ _ _)
theorem zero32 (w : World) : (zeroValue 35).run Tryd.prog w = .ok (.int .u32 0) w := by kernel_rfl
end Go.Proofs.YtojofinofpgopaaDoor
