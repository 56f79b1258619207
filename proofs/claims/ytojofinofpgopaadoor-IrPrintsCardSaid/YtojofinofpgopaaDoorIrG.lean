/- Contracts: example, sanity. -/
import Derived.Test.YtojofinofpgopaaDoorIrF0
namespace Go.Proofs.YtojofinofpgopaaDoor
open Go.RowKit
def exOps (g : Bool) : List IOp := if g then [⟨20, 0, 0, 0, 0⟩, ⟨1, 1, 0, 0, 5⟩, ⟨21, 0, 2, 0, 0⟩, ⟨24, 0, 0, 0, 260⟩] else [⟨20, 0, 0, 0, 0⟩, ⟨1, 1, 0, 0, 5⟩, ⟨20, 0, 0, 0, 1⟩, ⟨21, 0, 2, 0, 0⟩, ⟨24, 0, 0, 0, 260⟩]
def exBlk (g : Bool) : IBlk := ⟨if g then [256] else [256, 258], [1], exOps g⟩
def ExPost (g : Bool) (w : World) (e : Ending) (w' : World) : Prop :=
  ∃ aA aP aO cA cP cO, e = .returned (blkV aA aP aO cA cP cO (exBlk g)) ∧ Below w.heap.size w w' ∧ BlkAt w' w'.heap.size aA aP aO (exBlk g)
theorem ex_at {w : World} {g : Bool} {gA gP gO : Nat} {tA tP tO : TypeId}
    (hA : w.heap[gA]? = some (.cells ((exBlk g).at_.map (Value.int .u32)).toArray tA (0, 0))) (hP : w.heap[gP]? = some (.cells #[.int .i64 1] tP (0, 0)))
    (hO : w.heap[gO]? = some (.cells ((exOps g).flatMap (fun o => o.v.toList)).toArray tO (0, 0))) :
    BlkAt w w.heap.size (some ⟨gA, 0, none⟩) (some ⟨gP, 0, none⟩) (some ⟨gO, 0, none⟩) (exBlk g) := by
  refine ⟨fun _ => ⟨gA, 0, rfl, heap_lt hA, fun i hi => ?_⟩, fun _ => ⟨gP, 0, rfl, heap_lt hP, fun i hi => ?_⟩, fun _ => ⟨gO, 0, rfl, heap_lt hO, fun i hi => ?_⟩, by cases g <;> decide, by cases g <;> decide, by cases g <;> decide⟩
  · rw [Nat.zero_add]
    refine heap_cell hA ?_
    simp only [List.getElem?_toArray, List.getD_eq_getElem?_getD]
    rw [List.getElem?_eq_getElem hi]
    rfl
  · obtain rfl : i = 0 := by have : i < 1 := hi; omega
    exact heap_cell hP rfl
  · cases g
    · have hi : i < 5 := hi
      have : i = 0 ∨ i = 1 ∨ i = 2 ∨ i = 3 ∨ i = 4 := by omega
      rcases this with rfl | rfl | rfl | rfl | rfl <;> exact ⟨heap_cell hO rfl, heap_cell hO rfl, heap_cell hO rfl, heap_cell hO rfl, heap_cell hO rfl⟩
    · have hi : i < 4 := hi
      have : i = 0 ∨ i = 1 ∨ i = 2 ∨ i = 3 := by omega
      rcases this with rfl | rfl | rfl | rfl <;> exact ⟨heap_cell hO rfl, heap_cell hO rfl, heap_cell hO rfl, heap_cell hO rfl, heap_cell hO rfl⟩
theorem ex_post {g : Bool} {w wx : World} {o1 o2 o3 : Obj} {tA tP tO : TypeId} {e : Ending} {cA cP cO : Nat} {cs : Array Value}
    (hw : wx = (((((((w.alloc (.cells cs 28)).alloc o1).alloc o2).alloc o3).alloc (.cells ((exBlk g).at_.map (Value.int .u32)).toArray tA)).alloc (.cells #[.int .i64 1] tP)).alloc (.cells ((exOps g).flatMap (fun o => o.v.toList)).toArray tO)))
    (he : e = .returned (blkV (some ⟨w.heap.size + 4, 0, none⟩) (some ⟨w.heap.size + 5, 0, none⟩) (some ⟨w.heap.size + 6, 0, none⟩) cA cP cO (exBlk g))) :
    ExPost g w e wx := by
  subst hw
  refine ⟨_, _, _, cA, cP, cO, he, ?_, ex_at (tA := tA) (tP := tP) (tO := tO) ?_ ?_ ?_⟩
  · refine ((((((((Below.refl _ _).alloc ?_ _).alloc ?_ _).alloc ?_ _).alloc ?_ _).alloc ?_ _).alloc ?_ _).alloc ?_ _) <;> simp <;> omega
  · rw [Below.heap_alloc _ _ _ (by simp), Below.heap_alloc _ _ _ (by simp)]
    exact heap_new_at _ _ (by simp)
  · rw [Below.heap_alloc _ _ _ (by simp)]
    exact heap_new_at _ _ (by simp)
  · exact heap_new_at _ _ (by simp)
theorem heap_first {w : World} {o0 o1 o2 o3 o4 o5 o6 : Obj} : (((((((w.alloc o0).alloc o1).alloc o2).alloc o3).alloc o4).alloc o5).alloc o6).heap[w.heap.size]? = some o0 := by
  rw [Below.heap_alloc _ _ _ (by simp; omega), Below.heap_alloc _ _ _ (by simp; omega), Below.heap_alloc _ _ _ (by simp; omega), Below.heap_alloc _ _ _ (by simp; omega), Below.heap_alloc _ _ _ (by simp; omega), Below.heap_alloc _ _ _ (by simp)]
  exact heap_alloc_new _ _
set_option maxHeartbeats 1000000 in
theorem example_any (g : Bool) (w : World) : Calls Tryd.prog 16 #[.bool g] w (ExPost g w) := by
  cases g
  · go_enter Tryd.func16, Tryd.ntmps16
    go_wp2_with fail
    go_light
    exact bodyPost_ret (results_cell_row rfl _ _ w.heap.size 28 _ (0, 0) _ rfl heap_first Tryd.underlying28 rfl (by kernel_rfl)) rfl (ex_post rfl rfl)
  · go_enter Tryd.func16, Tryd.ntmps16
    go_wp2_with fail
    go_light
    exact bodyPost_ret (results_cell_row rfl _ _ w.heap.size 28 _ (0, 0) _ rfl heap_first Tryd.underlying28 rfl (by kernel_rfl)) rfl (ex_post rfl rfl)
end Go.Proofs.YtojofinofpgopaaDoor
