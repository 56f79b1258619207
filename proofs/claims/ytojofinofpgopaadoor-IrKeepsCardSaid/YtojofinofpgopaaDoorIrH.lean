/- Contract: babellaw12.sanity. -/
import Derived.Test.YtojofinofpgopaaDoorReg
import Derived.Test.YtojofinofpgopaaDoorMgG
import Derived.Test.YtojofinofpgopaaDoorIrF
import Derived.Outline
namespace Go.Proofs.YtojofinofpgopaaDoor
open Go.RowKit
attribute [local go_sem ↓] Go.wp_at_zero Go.wp_at_succ
theorem ex_n (g : Bool) : ∀ k, k < (exBlk g).ops.length → U32 ((exBlk g).ops.getD k noOp).n := by
  cases g
  · intro k hk
    have hk : k < 5 := hk
    have : k = 0 ∨ k = 1 ∨ k = 2 ∨ k = 3 ∨ k = 4 := by omega
    rcases this with rfl | rfl | rfl | rfl | rfl <;> exact ⟨by decide, by decide⟩
  · intro k hk
    have hk : k < 4 := hk
    have : k = 0 ∨ k = 1 ∨ k = 2 ∨ k = 3 := by omega
    rcases this with rfl | rfl | rfl | rfl <;> exact ⟨by decide, by decide⟩
/-- A value that is a block, in memory. -/
def IsBlk (b : IBlk) (v : Value) (w : World) : Prop := ∃ B aA aP aO cA cP cO, v = blkV aA aP aO cA cP cO b ∧ B ≤ w.heap.size ∧ BlkAt w B aA aP aO b
theorem IsBlk.ext {b : IBlk} {v : Value} {w w' : World} (h : IsBlk b v w) (hx : Ext w w') : IsBlk b v w' := by
  obtain ⟨B, aA, aP, aO, cA, cP, cO, hv, hB, hb⟩ := h
  exact ⟨B, aA, aP, aO, cA, cP, cO, hv, Nat.le_trans hB hx.size, hb.below (Below.mono hx hB)⟩
/-- A variable of the call's own that holds these cells. -/
def IsVar (t : TypeId) (cs : Array Value) (H : Nat) (v : Value) (w : World) : Prop := ∃ G, v = .pointer (some ⟨G, 0, none⟩) ∧ H ≤ G ∧ w.heap[G]? = some (.cells cs t (0, 0))
theorem IsVar.ext {t : TypeId} {cs : Array Value} {H : Nat} {v : Value} {w w' : World} (h : IsVar t cs H v w) (hx : Ext w w') : IsVar t cs H v w' := by
  obtain ⟨G, hv, hG, hc⟩ := h
  exact ⟨G, hv, hG, hx.block hc⟩
theorem isVar_alloc {t : TypeId} {cs : Array Value} {H : Nat} {w : World} (hH : H ≤ w.heap.size) : IsVar t cs H (.pointer (some ⟨w.heap.size, 0, none⟩)) (w.alloc (.cells cs t)) := ⟨_, rfl, hH, heap_alloc_new _ _⟩
theorem exBlk_isBlk {g : Bool} {w : World} {e : Ending} {w' : World} (h : ExPost g w e w') : ∃ v, e = .returned v ∧ IsBlk (exBlk g) v w' ∧ Ext w w' := by
  obtain ⟨aA, aP, aO, cA, cP, cO, he, hb, hk⟩ := h
  exact ⟨_, he, ⟨_, aA, aP, aO, cA, cP, cO, rfl, Nat.le_refl _, hk⟩, hb⟩
theorem example_is (g : Bool) (w : World) : Calls Tryd.prog 16 #[.bool g] w fun e w' => ∃ v, e = .returned v ∧ IsBlk (exBlk g) v w' ∧ Ext w w' := (example_any g w).mono fun _ _ h => exBlk_isBlk h
theorem ex_eval {g : Bool} {vars : List Int} {v : Value} {w : World} (h : IsBlk (exBlk g) v w) (hv : vars.length = 28) (hvr : ∀ v ∈ vars, U32 v) :
    Calls Tryd.prog 13 #[v, .agg (varsV vars), .nilIface] w fun e w' => e = .returned (.agg (outCells (evalNil (exBlk g) vars))) ∧ Ext w w' := by
  obtain ⟨B, aA, aP, aO, cA, cP, cO, rfl, hB, hb⟩ := h
  exact eval_nil aA aP aO cA cP cO (exBlk g) vars w B hB hb hv hvr (ex_n g)
theorem ex_valid {b : IBlk} {v : Value} {w : World} (h : IsBlk b v w) :
    Calls Tryd.prog 9 #[v] w fun e w' => e = .returned (.bool (validL b)) ∧ Ext w w' := by
  obtain ⟨B, aA, aP, aO, cA, cP, cO, rfl, hB, hb⟩ := h
  exact valid_any aA aP aO cA cP cO b w B hB hb
/-- The facts of 'a := ir.Eval(example(false), v, nil)'. -/
def EvT (V : List Int) (oc : Array Value) (H : Nat) : Nat → Value → World → Prop
  | 0, v, w => IsBlk (exBlk false) v w
  | 1, v, _ => v = .agg (varsV V)
  | 2, v, _ => v = .agg oc
  | 3, v, w => IsVar 41 (outCells zeroOut) H v w
  | _, _, _ => True
theorem EvT.mono {V : List Int} {oc : Array Value} {H : Nat} : ∀ i v w w', EvT V oc H i v w → Ext w w' → EvT V oc H i v w'
  | 0, _, _, _, h, hx => IsBlk.ext h hx
  | 1, _, _, _, h, _ => h
  | 2, _, _, _, h, _ => h
  | 3, _, _, _, h, hx => IsVar.ext h hx
  | _ + 4, _, _, _, h, _ => h
/-- The memory of sanity. -/
structure SanW (w : World) (V : List Int) (wx : World) : Prop where
  below : Below w.heap.size w wx
  v : wx.heap[w.heap.size]? = some (.cells (varsV V) 39 (0, 0))
theorem SanW.lt {w wx : World} {V : List Int} (h : SanW w V wx) : w.heap.size < wx.heap.size := heap_lt h.v
theorem SanW.ext {w wx w' : World} {V : List Int} (h : SanW w V wx) (hx : Ext wx w') : SanW w V w' := ⟨h.below.trans (Below.mono hx (Nat.le_of_lt h.lt)), hx.block h.v⟩
theorem SanW.row {w wx : World} {V : List Int} (h : SanW w V wx) {G : Nat} (hG : w.heap.size < G) (cs : Array Value) : SanW w V (wx.setRow G cs) := by
  refine ⟨below_setRow h.below (by omega), ?_⟩
  have : (wx.setRow G cs).heap[w.heap.size]? = wx.heap[w.heap.size]? := by
    simp only [World.setRow, Array.getElem?_modify]; rw [if_neg (by omega)]
  rw [this]; exact h.v
theorem row_ne {w : World} {F G : Nat} {cs : Array Value} {o : Obj} (h : F ≠ G) (hG : w.heap[G]? = some o) : (w.setRow F cs).heap[G]? = some o := by
  have : (w.setRow F cs).heap[G]? = w.heap[G]? := by
    simp only [World.setRow, Array.getElem?_modify]; rw [if_neg (by omega)]
  rw [this]; exact hG
theorem vars_info {V : List Int} (h : V.length = 28) : (Tryd.prog.info? 39).map (·.size) = some (varsV V).size := by
  rw [show (varsV V).size = 28 by simp [varsV, h]]; kernel_rfl
theorem ev_len (b : IBlk) {V : List Int} (h : V.length = 28) : (evalNil b V).vars.length = 28 := by
  unfold evalNil
  split
  · simp only [EvOut.guests, List.length_set, evGo_len, h]
  · rfl
theorem out_info {o : EvOut} (h : o.vars.length = 28) : (Tryd.prog.info? 41).map (·.size) = some (outCells o).size := by rw [out_size _ h]; kernel_rfl
theorem out_zero {o : EvOut} (h : o.vars.length = 28) : (outCells zeroOut).size = (outCells o).size := by rw [out_size _ h]; rfl
def vs0 : List Int := List.replicate 28 0
def vs1 : List Int := vs0.set 2 1
theorem vs0_u : ∀ v ∈ vs0, U32 v := fun v hv => by rw [List.eq_of_mem_replicate hv]; exact ⟨by decide, by decide⟩
theorem vs1_u : ∀ v ∈ vs1, U32 v := fun v hv => by
  rcases List.mem_or_eq_of_mem_set hv with h | h
  · exact vs0_u v h
  · rw [h]; exact ⟨by decide, by decide⟩
set_option maxRecDepth 100000 in
set_option maxHeartbeats 2000000 in
theorem sanity_any (w : World) : Calls Tryd.prog 5 #[] w (fun e w' => e = .returned (.bool true) ∧ Below w.heap.size w w') := by
  go_enter Tryd.func5, Tryd.ntmps5
  go_upto_region 2 with fail
  have h1 : SanW w vs0 (w.alloc (.cells (varsV vs0) 39)) := ⟨(Below.refl _ _).alloc (Nat.le_refl _) _, heap_alloc_new _ _⟩
  rw [show varsV vs0 = #[(.int .u32 0), (.int .u32 0), (.int .u32 0), (.int .u32 0), (.int .u32 0), (.int .u32 0), (.int .u32 0), (.int .u32 0), (.int .u32 0), (.int .u32 0), (.int .u32 0), (.int .u32 0), (.int .u32 0), (.int .u32 0), (.int .u32 0), (.int .u32 0), (.int .u32 0), (.int .u32 0), (.int .u32 0), (.int .u32 0), (.int .u32 0), (.int .u32 0), (.int .u32 0), (.int .u32 0), (.int .u32 0), (.int .u32 0), (.int .u32 0), (.int .u32 0)] from rfl] at h1
  generalize w.alloc _ = wb at h1 ⊢
  obtain ⟨vv, hvv⟩ : ∃ vv, vs0 = vv := ⟨_, rfl⟩
  have hvl : vv.length = 28 := by rw [← hvv]; rfl
  have hvu : ∀ v ∈ vv, U32 v := by rw [← hvv]; exact vs0_u
  rw [hvv] at h1
  have HVV0 := Lib.hid hvv
  clear hvv
  have hiv := vars_info hvl
  have hlo := ev_len (exBlk false) hvl
  have hall := out_all (evalNil (exBlk false) vv)
  have hio := out_info hlo
  have hzo := out_zero hlo
  have HEV : Hid (∀ (v : Value) (W : World), IsBlk (exBlk false) v W → Calls Tryd.prog 13 #[v, .agg (varsV vv), .nilIface] W fun e w' => e = .returned (.agg (outCells (evalNil (exBlk false) vv))) ∧ Ext W w') := Lib.hid fun v W hb => ex_eval hb hvl hvu
  obtain ⟨oc, hoce⟩ : ∃ oc, outCells (evalNil (exBlk false) vv) = oc := ⟨_, rfl⟩
  rw [hoce] at hall hio hzo HEV
  have HOC0 := Lib.hid hoce
  clear hoce hlo
  go_cut [1, 2] (fun s1 s2 wx => ∃ G, s1 = .pointer (some ⟨w.heap.size, 0, none⟩) ∧ s2 = .pointer (some ⟨G, 0, none⟩) ∧ SanW w vv wx ∧ w.heap.size < G ∧ wx.heap[G]? = some (.cells oc 41 (0, 0)))
  case first =>
    refine wp_region_ext 4 [[], [], [0, 1], []] (EvT vv oc wb.heap.size) (by kernel_rfl) (by kernel_rfl) EvT.mono ((((OpsOk.zero.succ [] rfl rfl ?_).succ [] rfl rfl ?_).succ [0, 1] rfl rfl ?_).succ [] rfl rfl ?_) ?_
    · intro vs w1 hx hd K hK
      simp only [actS, Act.put, List.setIfInBounds_toArray, List.set_cons_zero, List.set_cons_succ] at hK ⊢
      refine wanted_pos rfl ?_
      go_simp
      refine (example_is _ _).mono ?_
      rintro e w2 ⟨v, rfl, hv, hx2⟩
      exact hK _ _ hx2 hv
    · intro vs w1 hx hd K hK
      simp only [actS, Act.put, List.setIfInBounds_toArray, List.set_cons_zero, List.set_cons_succ] at hK ⊢
      refine wanted_pos rfl ?_
      refine wp_load_row 39 (.tmp 1) rfl w.heap.size rfl 39 (varsV vv) (0, 0) _ (hx.block h1.v) Tryd.underlying39 rfl hiv ?_
      exact hK _ _ (Ext.refl _) rfl
    · intro vs w1 hx hd K hK
      have g0 : IsBlk (exBlk false) (vs 0) w1 := hd 0 (by simp)
      have g1 : vs 1 = .agg (varsV vv) := hd 1 (by simp)
      simp only [actS, dstL, List.getElem?_cons_zero, List.getElem?_cons_succ, Option.bind_some, Act.put, List.setIfInBounds_toArray, List.set_cons_zero, List.set_cons_succ, g1] at hK ⊢
      refine wanted_pos rfl ?_
      generalize vs 0 = v0 at *
      clear hd
      go_simp
      refine (HEV.out _ _ g0).mono ?_
      rintro e w2 ⟨rfl, hx2⟩
      exact hK _ _ hx2 rfl
    · intro vs w1 hx hd K hK
      simp only [actS, Act.put, List.setIfInBounds_toArray, List.set_cons_zero, List.set_cons_succ] at hK ⊢
      refine wanted_pos rfl ?_
      go_simp
      exact hK _ _ (Ext.refl _ |>.alloc _) (isVar_alloc (hx.size))
    · intro vs w1 hx hT
      have g2 : vs 2 = .agg oc := hT 2 (by omega)
      obtain ⟨F, g3, hF, hcF⟩ : IsVar 41 (outCells zeroOut) wb.heap.size (vs 3) w1 := hT 3 (by omega)
      simp only [List.range, List.range.loop, actS, dstL, List.getElem?_cons_zero, List.getElem?_cons_succ, Option.bind_some, Act.put, List.setIfInBounds_toArray, List.set_cons_zero, List.set_cons_succ, g2, g3, List.drop_succ_cons, List.drop_zero]
      refine wpList_store_row rfl 41 (.tmp 2) (.tmp 6) rfl F oc rfl rfl 41 (outCells zeroOut) hcF hio hzo hall ?_
      go_wp2_with fail
      go_meet
      case rel =>
        have hS := h1.ext (Ext.trans (b := wb.drew) ((Ext.refl _).drew) hx)
        have := h1.lt
        exact ⟨F, rfl, rfl, hS.row (by omega) _, by omega, setRow_heap _ _ _ _ _ _ hcF⟩
  case rest =>
    obtain ⟨G, rfl, rfl, hS, hG, hoc⟩ := hcut
    obtain rfl : vs0 = vv := HVV0.out
    obtain ⟨oc0, hoc0⟩ : ∃ o, o = oc := ⟨_, rfl⟩
    rw [← hoc0] at hoc HOC0
    clear hall hio hzo HEV hoc0 hiv hvu hvl oc
    have hlt := hS.lt
    have hGl := heap_lt hoc
    have q2 : wc.cell? ⟨w.heap.size, 2, none⟩ = some (.int .u32 0) := heap_cell hS.v rfl
    have f2 : wc.frozen? ⟨w.heap.size, 2, none⟩ = false := heap_free hS.v
    go_upto_region 4 with fail
    have h2 : SanW w vs1 (wc.setCell ⟨w.heap.size, 2, none⟩ (.int .u32 1)) := ⟨hS.below.setCell (Nat.le_refl _) _, set_heap hS.v 2 _⟩
    have hoc2 : (wc.setCell ⟨w.heap.size, 2, none⟩ (.int .u32 1)).heap[G]? = _ := (Below.heap_setCell wc _ _ G (by show G ≠ w.heap.size; omega)).trans hoc
    clear hS q2 f2 hoc
    generalize wc.setCell ⟨w.heap.size, 2, none⟩ (.int .u32 1) = wd at h2 hoc2 ⊢
    obtain ⟨vv, hvv⟩ : ∃ vv, vs1 = vv := ⟨_, rfl⟩
    have hvl : vv.length = 28 := by rw [← hvv]; rfl
    have hvu : ∀ v ∈ vv, U32 v := by rw [← hvv]; exact vs1_u
    rw [hvv] at h2
    have HVV1 := Lib.hid hvv
    clear hvv
    have hiv := vars_info hvl
    have hlo := ev_len (exBlk false) hvl
    have hall := out_all (evalNil (exBlk false) vv)
    have hio := out_info hlo
    have hzo := out_zero hlo
    have HEV : Hid (∀ (v : Value) (W : World), IsBlk (exBlk false) v W → Calls Tryd.prog 13 #[v, .agg (varsV vv), .nilIface] W fun e w' => e = .returned (.agg (outCells (evalNil (exBlk false) vv))) ∧ Ext W w') := Lib.hid fun v W hb => ex_eval hb hvl hvu
    obtain ⟨oc, hoce⟩ : ∃ oc, outCells (evalNil (exBlk false) vv) = oc := ⟨_, rfl⟩
    rw [hoce] at hall hio hzo HEV
    have HOC1 := Lib.hid hoce
    clear hoce hlo
    go_cut [1, 2, 3] (fun s1 s2 s3 wx => ∃ G', s1 = .pointer (some ⟨w.heap.size, 0, none⟩) ∧ s2 = .pointer (some ⟨G, 0, none⟩) ∧ s3 = .pointer (some ⟨G', 0, none⟩) ∧ SanW w vv wx ∧ wx.heap[G]? = some (.cells oc0 41 (0, 0)) ∧ wx.heap[G']? = some (.cells oc 41 (0, 0)))
    case first =>
      refine wp_region_ext 4 [[], [], [0, 1], []] (EvT vv oc wd.heap.size) (by kernel_rfl) (by kernel_rfl) EvT.mono ((((OpsOk.zero.succ [] rfl rfl ?_).succ [] rfl rfl ?_).succ [0, 1] rfl rfl ?_).succ [] rfl rfl ?_) ?_
      · intro vs w1 hx hd K hK
        simp only [actS, Act.put, List.setIfInBounds_toArray, List.set_cons_zero, List.set_cons_succ] at hK ⊢
        refine wanted_pos rfl ?_
        go_simp
        refine (example_is _ _).mono ?_
        rintro e w2 ⟨v, rfl, hv, hx2⟩
        exact hK _ _ hx2 hv
      · intro vs w1 hx hd K hK
        simp only [actS, Act.put, List.setIfInBounds_toArray, List.set_cons_zero, List.set_cons_succ] at hK ⊢
        refine wanted_pos rfl ?_
        refine wp_load_row 39 (.tmp 1) rfl w.heap.size rfl 39 (varsV vv) (0, 0) _ (hx.block h2.v) Tryd.underlying39 rfl hiv ?_
        exact hK _ _ (Ext.refl _) rfl
      · intro vs w1 hx hd K hK
        have g0 : IsBlk (exBlk false) (vs 0) w1 := hd 0 (by simp)
        have g1 : vs 1 = .agg (varsV vv) := hd 1 (by simp)
        simp only [actS, dstL, List.getElem?_cons_zero, List.getElem?_cons_succ, Option.bind_some, Act.put, List.setIfInBounds_toArray, List.set_cons_zero, List.set_cons_succ, g1] at hK ⊢
        refine wanted_pos rfl ?_
        generalize vs 0 = v0 at *
        clear hd
        go_simp
        refine (HEV.out _ _ g0).mono ?_
        rintro e w2 ⟨rfl, hx2⟩
        exact hK _ _ hx2 rfl
      · intro vs w1 hx hd K hK
        simp only [actS, Act.put, List.setIfInBounds_toArray, List.set_cons_zero, List.set_cons_succ] at hK ⊢
        refine wanted_pos rfl ?_
        go_simp
        exact hK _ _ (Ext.refl _ |>.alloc _) (isVar_alloc (hx.size))
      · intro vs w1 hx hT
        have g2 : vs 2 = .agg oc := hT 2 (by omega)
        obtain ⟨F, g3, hF, hcF⟩ : IsVar 41 (outCells zeroOut) wd.heap.size (vs 3) w1 := hT 3 (by omega)
        simp only [List.range, List.range.loop, actS, dstL, List.getElem?_cons_zero, List.getElem?_cons_succ, Option.bind_some, Act.put, List.setIfInBounds_toArray, List.set_cons_zero, List.set_cons_succ, g2, g3, List.drop_succ_cons, List.drop_zero]
        refine wpList_store_row rfl 41 (.tmp 3) (.tmp 10) rfl F oc rfl rfl 41 (outCells zeroOut) hcF hio hzo hall ?_
        go_wp2_with fail
        go_meet
        case rel =>
          have hxx : Ext wd w1 := Ext.trans (b := wd.drew) ((Ext.refl _).drew) hx
          have hS := h2.ext hxx
          have hlt2 := h2.lt
          have hGd := heap_lt hoc2
          exact ⟨F, rfl, rfl, rfl, hS.row (by omega) _, row_ne (by omega) (hxx.block hoc2), setRow_heap _ _ _ _ _ _ hcF⟩
    case rest =>
      obtain ⟨G', rfl, rfl, rfl, hS, hoc, hoc'⟩ := hcut
      obtain rfl : vs1 = vv := HVV1.out
      have hG' := heap_lt hoc'
      rw [← HOC0.out] at hoc
      rw [← HOC1.out] at hoc'
      clear hall hio hzo HEV HOC0 HOC1 hiv hvu hvl hoc2 h2 h1 HVV0 HVV1
      have HOCA := Lib.hid hoc
      have HOCB := Lib.hid hoc'
      clear hoc hoc'
      go_upto_region 5 with fail
      go_wp2_with fail
      refine (example_is _ _).mono ?_
      rintro e w2 ⟨v, rfl, hv, hx2⟩
      go_wp2_with fail
      refine (ex_valid hv).mono ?_
      rw [show validL (exBlk false) = true by kernel_rfl]
      rintro e w3 ⟨rfl, hx3⟩
      go_wp2_with fail
      refine (example_is _ _).mono ?_
      rintro e w4 ⟨v', rfl, hv', hx4⟩
      go_wp2_with fail
      refine (ex_valid hv').mono ?_
      rw [show validL (exBlk true) = false by kernel_rfl]
      rintro e w5 ⟨rfl, hx5⟩
      have hx := ((hx2.trans hx3).trans hx4).trans hx5
      have hb := hS.ext hx
      have hoc := hx.block HOCA.out
      have hoc' := hx.block HOCB.out
      have a0 : w5.cell? ⟨G, 0, none⟩ = some (.bool true) := heap_cell hoc (by kernel_rfl)
      have a1 : w5.cell? ⟨G, 1, none⟩ = some (.int .i64 1) := heap_cell hoc (by kernel_rfl)
      have a2 : w5.cell? ⟨G, 2, none⟩ = some (.int .i64 1) := heap_cell hoc (by kernel_rfl)
      have a3 : w5.cell? ⟨G, 3, none⟩ = some (.int .u32 258) := heap_cell hoc (by kernel_rfl)
      have a5 : w5.cell? ⟨G, 5, none⟩ = some (.int .u32 5) := heap_cell hoc (by kernel_rfl)
      have b0 : w5.cell? ⟨G', 0, none⟩ = some (.bool false) := heap_cell hoc' (by kernel_rfl)
      have b1 : w5.cell? ⟨G', 1, none⟩ = some (.int .i64 0) := heap_cell hoc' (by kernel_rfl)
      have b2 : w5.cell? ⟨G', 2, none⟩ = some (.int .i64 2) := heap_cell hoc' (by kernel_rfl)
      have b3 : w5.cell? ⟨G', 3, none⟩ = some (.int .u32 260) := heap_cell hoc' (by kernel_rfl)
      have b5 : w5.cell? ⟨G', 5, none⟩ = some (.int .u32 5) := heap_cell hoc' (by kernel_rfl)
      have b6 : w5.cell? ⟨G', 6, none⟩ = some (.int .u32 1) := heap_cell hoc' (by kernel_rfl)
      have HX := Lib.hid hb.below
      clear hoc hoc' hx hx2 hx3 hx4 hx5 hv hv' hb HOCA HOCB hS
      go_wp2_with fail
      go_light
      go_ret
      exact ⟨rfl, HX.out⟩
end Go.Proofs.YtojofinofpgopaaDoor
