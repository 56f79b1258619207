/- The walk of IrValid. -/
import Derived.Test.YtojofinofpgopaaRefD
import Derived.Test.YtojofinofpgopaaIrH
namespace Go.Proofs.Ytojofinofpgopaa
open Go.RowKit
attribute [local go_sem ↓] Go.wp_at_zero Go.wp_at_succ
def smallL (b : IBlk) : IBlk := ⟨b.at_.take 70, b.pages.take 10, b.ops.take 60⟩
set_option maxHeartbeats 2000000 in
theorem small_any (aA aP aO : Option Addr) (cA cP cO : Nat) (b : IBlk) (w : World) (lA : b.at_.length ≤ cA) (lP : b.pages.length ≤ cP) (lO : b.ops.length ≤ cO) :
    Calls Try.prog 16 #[blkV aA aP aO cA cP cO b] w fun e w' => e = .returned (blkV aA aP aO cA cP cO (smallL b)) ∧ Below w.heap.size w w' := by
  go_enter Try.func16, Try.ntmps16
  go_wp2_with fail
  have hb0 : ((w.alloc (.cells #[.slice aA b.at_.length cA, .slice aP b.pages.length cP, .slice aO b.ops.length cO] 26)).alloc (.cells #[.slice none 0 0, .slice none 0 0, .slice none 0 0] 26)).heap[w.heap.size]? = some (.cells #[.slice aA b.at_.length cA, .slice aP b.pages.length cP, .slice aO b.ops.length cO] 26 (0, 0)) := by
    rw [Below.heap_alloc _ _ _ (by simp)]; exact heap_alloc_new _ _
  have hb1 : ((w.alloc (.cells #[.slice aA b.at_.length cA, .slice aP b.pages.length cP, .slice aO b.ops.length cO] 26)).alloc (.cells #[.slice none 0 0, .slice none 0 0, .slice none 0 0] 26)).heap[w.heap.size + 1]? = some (.cells #[.slice none 0 0, .slice none 0 0, .slice none 0 0] 26 (0, 0)) := heap_new_at _ _ (by simp)
  have hbw : Below w.heap.size w ((w.alloc (.cells #[.slice aA b.at_.length cA, .slice aP b.pages.length cP, .slice aO b.ops.length cO] 26)).alloc (.cells #[.slice none 0 0, .slice none 0 0, .slice none 0 0] 26)) := ((Below.refl _ _).alloc (Nat.le_refl _) _).alloc (by simp) _
  generalize ((w.alloc _).alloc _) = w2 at *
  have x0 : w2.cell? ⟨w.heap.size, 0, none⟩ = some (.slice aA b.at_.length cA) := heap_cell hb0 rfl
  have x1 : w2.cell? ⟨w.heap.size, 1, none⟩ = some (.slice aP b.pages.length cP) := heap_cell hb0 rfl
  have x2 : w2.cell? ⟨w.heap.size, 2, none⟩ = some (.slice aO b.ops.length cO) := heap_cell hb0 rfl
  have HB := Lib.hid hbw
  have HB1 := Lib.hid hb1
  clear hb0 hb1 hbw
  obtain ⟨n1, hn1⟩ : ∃ n1, (smallL b).at_.length = n1 := ⟨_, rfl⟩
  obtain ⟨n2, hn2⟩ : ∃ n2, (smallL b).pages.length = n2 := ⟨_, rfl⟩
  obtain ⟨n3, hn3⟩ : ∃ n3, (smallL b).ops.length = n3 := ⟨_, rfl⟩
  have e1 : n1 = min 70 b.at_.length := by rw [← hn1]; simp [smallL]
  have e2 : n2 = min 10 b.pages.length := by rw [← hn2]; simp [smallL]
  have e3 : n3 = min 60 b.ops.length := by rw [← hn3]; simp [smallL]
  have HN1 := Lib.hid hn1
  have HN2 := Lib.hid hn2
  have HN3 := Lib.hid hn3
  have m1 : (if (70 : Int) < (b.at_.length : Int) then (70 : Int) else (b.at_.length : Int)) = (n1 : Int) := by split <;> omega
  have m2 : (if (10 : Int) < (b.pages.length : Int) then (10 : Int) else (b.pages.length : Int)) = (n2 : Int) := by split <;> omega
  have m3 : (if (60 : Int) < (b.ops.length : Int) then (60 : Int) else (b.ops.length : Int)) = (n3 : Int) := by split <;> omega
  have q1 : (n1 : Int) ≤ (cA : Int) := by omega
  have q2 : (n2 : Int) ≤ (cP : Int) := by omega
  have q3 : (n3 : Int) ≤ (cO : Int) := by omega
  have z1 : (0 : Int) ≤ (n1 : Int) := by omega
  have z2 : (0 : Int) ≤ (n2 : Int) := by omega
  have z3 : (0 : Int) ≤ (n3 : Int) := by omega
  clear e1 e2 e3 hn1 hn2 hn3 lA lP lO
  refine wp_still_tail 22 (by kernel_rfl) (by kernel_rfl) (fun KT hKT => ?_)
  simp only [List.take_succ_cons, List.take_zero, List.drop_succ_cons, List.drop_zero] at hKT ⊢
  iterate 22 (refine stillH_step (fun K hK => ?_); go_simp; refine hK _ ?_; clear hK K)
  clear m1 m2 m3 q1 q2 q3 z1 z2 z3 x0 x1 x2
  refine stillH_nil (hKT _ ?_)
  clear hKT KT
  refine wpList_store_row rfl 26 (.tmp 2) (.tmp 24) rfl (w.heap.size + 1) #[.slice aA n1 cA, .slice aP n2 cP, .slice aO n3 cO] rfl rfl 26 #[.slice none 0 0, .slice none 0 0, .slice none 0 0] HB1.out (by kernel_rfl) rfl (by simp [Value.oneCell']) ?_
  go_wp2_with fail
  go_light
  refine bodyPost_ret (results_cell_row rfl _ _ (w.heap.size + 1) 26 #[.slice aA n1 cA, .slice aP n2 cP, .slice aO n3 cO] (0, 0) _ rfl (setRow_heap _ _ _ _ _ _ HB1.out) Try.underlying26 rfl (by kernel_rfl)) rfl ⟨?_, below_setRow HB.out.drew (by omega)⟩
  rw [← HN1.out, ← HN2.out, ← HN3.out]
theorem arr_take {w : World} {B : Nat} {A : Option Addr} {xs : List Value} (h : Arr w B A xs) (n : Nat) : Arr w B A (xs.take n) := fun h0 => by
  have hl := List.length_take_le n xs
  have hn : 0 < n ∧ 0 < xs.length := by
    rw [List.length_take] at h0; omega
  obtain ⟨b, off, hA, hb, hc⟩ := h hn.2
  refine ⟨b, off, hA, hb, fun i hi => ?_⟩
  rw [List.length_take] at hi
  rw [hc i (by omega)]
  simp [List.getD_eq_getElem?_getD, List.getElem?_take_of_lt (show i < n by omega)]
theorem blk_small {w : World} {B : Nat} {aA aP aO : Option Addr} {b : IBlk} (h : BlkAt w B aA aP aO b) : BlkAt w B aA aP aO (smallL b) := by
  have l1 := List.length_take_le 70 b.at_
  have l2 := List.length_take_le 10 b.pages
  have l3 := List.length_take_le 60 b.ops
  refine ⟨?_, ?_, ?_, Nat.le_trans (by exact List.length_take_le' _ _) h.la, Nat.le_trans (by exact List.length_take_le' _ _) h.lp, Nat.le_trans (by exact List.length_take_le' _ _) h.lo⟩
  · have := arr_take h.at_ 70
    rwa [← List.map_take] at this
  · have := arr_take h.pages 10
    rwa [← List.map_take] at this
  · intro h0
    have h1 : 0 < b.ops.length := by
      have : (b.ops.take 60).length ≤ b.ops.length := List.length_take_le' _ _
      exact Nat.lt_of_lt_of_le h0 this
    obtain ⟨g, off, hA, hb, hc⟩ := h.ops h1
    refine ⟨g, off, hA, hb, fun i hi => ?_⟩
    have hi : i < (b.ops.take 60).length := hi
    rw [List.length_take] at hi
    have := hc i (by omega)
    have e : (smallL b).ops.getD i noOp = b.ops.getD i noOp := by
      show (b.ops.take 60).getD i noOp = _
      simp [List.getD_eq_getElem?_getD, List.getElem?_take_of_lt (show i < 60 by omega)]
    rw [e]; exact this
theorem small_n {b : IBlk} (h : ∀ k, k < b.ops.length → U32 (b.ops.getD k noOp).n) : ∀ k, k < (smallL b).ops.length → U32 ((smallL b).ops.getD k noOp).n := fun k hk => by
  have hk : k < (b.ops.take 60).length := hk
  rw [List.length_take] at hk
  have e : (smallL b).ops.getD k noOp = b.ops.getD k noOp := by
    show (b.ops.take 60).getD k noOp = _
    simp [List.getD_eq_getElem?_getD, List.getElem?_take_of_lt (show k < 60 by omega)]
  rw [e]; exact h k (by omega)
theorem boxS_next {w0 w w' : World} {g : Nat} {u0 u1 u2 : Value} (h : Below w0.heap.size w0 w ∧ g < w.heap.size ∧ w.cell? ⟨g, 0, none⟩ = some u0 ∧ w.cell? ⟨g, 1, none⟩ = some u1 ∧ w.cell? ⟨g, 2, none⟩ = some u2) (hb : Below w.heap.size w w') :
    Below w0.heap.size w0 w' ∧ g < w'.heap.size ∧ w'.cell? ⟨g, 0, none⟩ = some u0 ∧ w'.cell? ⟨g, 1, none⟩ = some u1 ∧ w'.cell? ⟨g, 2, none⟩ = some u2 := by
  obtain ⟨h1, h2, c0, c1, c2⟩ := h
  exact ⟨h1.trans (hb.mono h1.size), Nat.lt_of_lt_of_le h2 hb.size, (hb.cell (p := ⟨g, 0, none⟩) h2).trans c0, (hb.cell (p := ⟨g, 1, none⟩) h2).trans c1, (hb.cell (p := ⟨g, 2, none⟩) h2).trans c2⟩
set_option maxRecDepth 100000 in
set_option maxHeartbeats 2000000 in
theorem irValid_any (aA aP aO : Option Addr) (cA cP cO : Nat) (b : IBlk) (w : World) (h : BlkAt w w.heap.size aA aP aO b) (hN : ∀ k, k < b.ops.length → U32 (b.ops.getD k noOp).n)
    (lA : b.at_.length ≤ cA) (lP : b.pages.length ≤ cP) (lO : b.ops.length ≤ cO) :
    Calls Try.prog 3 #[blkV aA aP aO cA cP cO b] w fun e w' => e = .returned (.bool true) ∧ Below w.heap.size w w' := by
  have HV : Hid (∀ W, Below w.heap.size w W → Calls Try.prog 17 #[blkV aA aP aO cA cP cO (smallL b)] W fun e w' => e = .returned (.bool (validL (smallL b))) ∧ Below W.heap.size W w') :=
    Lib.hid fun W hb => valid_any aA aP aO cA cP cO (smallL b) W w.heap.size hb.size (blk_small (h.below hb))
  have HR : Hid (∀ W, Below w.heap.size w W → Calls Try.prog 18 #[blkV aA aP aO cA cP cO (smallL b)] W fun e w' => e = .returned (.bool (validL (smallL b))) ∧ Below W.heap.size W w') :=
    Lib.hid fun W hb => by rw [valid_eq]; exact refValid_any aA aP aO cA cP cO (smallL b) W w.heap.size hb.size (blk_small (h.below hb)) (small_n hN)
  obtain ⟨vd, hvd⟩ : ∃ vd, validL (smallL b) = vd := ⟨_, rfl⟩
  rw [hvd] at HV HR
  have HS := Lib.hid fun W => small_any aA aP aO cA cP cO b W lA lP lO
  clear h hN lA lP lO hvd
  go_enter Try.func3, Try.ntmps3
  go_wp2_with fail
  refine (sanity_any _).mono ?_
  rintro e w1 ⟨rfl, hb1⟩
  have hW := RvW.after (RvW.start (w := w) (aA := aA) (aP := aP) (aO := aO) (cA := cA) (cP := cP) (cO := cO) (b := b)) hb1
  have HW := Lib.hid hW
  have x0 : w1.cell? ⟨w.heap.size, 0, none⟩ = some (.slice aA b.at_.length cA) := heap_cell hW.box rfl
  have x1 : w1.cell? ⟨w.heap.size, 1, none⟩ = some (.slice aP b.pages.length cP) := heap_cell hW.box rfl
  have x2 : w1.cell? ⟨w.heap.size, 2, none⟩ = some (.slice aO b.ops.length cO) := heap_cell hW.box rfl
  clear hW hb1
  go_wp2_with fail
  refine (HS.out _).mono ?_
  rintro e w2 ⟨rfl, hb2⟩
  have hW := HW.out.after hb2
  clear x0 x1 x2 hb2 HW HS
  have hbelow := below_setRow (g := w.heap.size) (cs := #[.slice aA (smallL b).at_.length cA, .slice aP (smallL b).pages.length cP, .slice aO (smallL b).ops.length cO]) hW.below (Nat.le_refl _)
  have hbox := setRow_heap w2 w.heap.size _ #[.slice aA (smallL b).at_.length cA, .slice aP (smallL b).pages.length cP, .slice aO (smallL b).ops.length cO] _ _ hW.box
  go_wp2_with (refine wpList_store_row (o := ⟨none, .store 26 (.tmp 1) (.tmp 6), _, _, _, _⟩) ?_ 26 (.tmp 1) (.tmp 6) ?_ w.heap.size #[.slice aA (smallL b).at_.length cA, .slice aP (smallL b).pages.length cP, .slice aO (smallL b).ops.length cO] ?_ ?_ 26 _ hW.box ?_ ?_ ?_ ?_; (· rfl); (· rfl); (· rfl); (· rfl); (· kernel_rfl); (· rfl); (· simp [Value.oneCell']))
  generalize w2.setRow _ _ = w3 at *
  have hl3 := heap_lt hbox
  have y0 : w3.cell? ⟨w.heap.size, 0, none⟩ = some (.slice aA (smallL b).at_.length cA) := heap_cell hbox rfl
  have y1 : w3.cell? ⟨w.heap.size, 1, none⟩ = some (.slice aP (smallL b).pages.length cP) := heap_cell hbox rfl
  have y2 : w3.cell? ⟨w.heap.size, 2, none⟩ = some (.slice aO (smallL b).ops.length cO) := heap_cell hbox rfl
  have hS0 := boxS_next ⟨hbelow, hl3, y0, y1, y2⟩ (Below.refl _ _)
  clear hW hbelow hbox hl3 y0 y1 y2
  go_region_held3 (fun w' => Below w.heap.size w w' ∧ w.heap.size < w'.heap.size ∧ w'.cell? ⟨w.heap.size, 0, none⟩ = some (.slice aA (smallL b).at_.length cA) ∧ w'.cell? ⟨w.heap.size, 1, none⟩ = some (.slice aP (smallL b).pages.length cP) ∧ w'.cell? ⟨w.heap.size, 2, none⟩ = some (.slice aO (smallL b).ops.length cO)) (first | assumption | (refine boxS_next (by assumption) (by assumption)) | (refine boxS_next (by assumption) (below_drewN (Below.refl _ _) 1))) (first | (go_at_call 17; refine (HV.out _ ?_).mono ?_; (· exact And.left (by assumption)); rintro e w5 ⟨rfl, hb5⟩) | (go_at_call 18; refine (HR.out _ ?_).mono ?_; (· exact And.left (by assumption)); rintro e w6 ⟨rfl, hb6⟩))
  have hb := boxS_next (by assumption) (Below.refl w6.heap.size w6)
  have HB := Lib.hid hb.1
  clear hb hb5 hb6 hS0
  go_wp2_with fail
  go_light
  go_ret
  exact ⟨rfl, HB.out⟩
end Go.Proofs.Ytojofinofpgopaa
