/- Leave of ir. -/
import Derived.Test.YtojofinofpgopaaStA
import Derived.Deep.MidRow
namespace Go.Proofs.Ytojofinofpgopaa
open Go.RowKit
def z16 : List Int := List.replicate 16 0
def st0 : MSt := ⟨0, z16, 0, [0, 0, 0, 0], 0, 0⟩
def leaveL (k : Int) (s : MSt) (x : List Int) : MSt :=
  if k = 1 then { s with r := x.take 8 ++ z16.drop 8, f := refFlagsL (x.getD 16 0) (x.getD 17 0) (x.getD 18 0) }
  else if k = 2 then { s with r := (x.take 16).set 0 0, f := 0 } else s
/-- The three variables of Leave. -/
structure Lv (w : World) (s : MSt) (x : List Int) (wx : World) : Prop where
  below : Ext w wx
  st : wx.heap[w.heap.size]? = some (.cells (stL s).toArray 75 (0, 0))
  v : wx.heap[w.heap.size + 1]? = some (.cells (u32s x).toArray 37 (0, 0))
  res : wx.heap[w.heap.size + 2]? = some (.cells (stL st0).toArray 75 (0, 0))
theorem setCells_row {w : World} {g o : Nat} {L vs : List Value} {t : TypeId} (hg : w.heap[g]? = some (.cells L.toArray t (0, 0))) (hl : o + vs.length ≤ L.length) (h1 : ∀ v ∈ vs, v.oneCell' = true) :
    w.setCells g o vs = w.setRow g (L.take o ++ (vs ++ L.drop (o + vs.length))).toArray := by
  have a := run_storeCells_cells (P := Try.prog) g o vs 0 w (fun j hj => by rw [show o + 0 + j = o + j by omega, lcell hg (List.getElem?_eq_getElem (by omega))]; rfl) (fun j hj => heap_free hg) h1
  have b := run_storeCells_at Try.prog g o t vs 0 L.toArray w hg (by simpa using hl) h1
  rw [a] at b
  simpa using b
section
variable {w : World} {s : MSt} {x : List Int} {wx w' : World}
theorem Lv.ext (h : Lv w s x wx) (hx : Ext wx w') : Lv w s x w' := ⟨h.below.trans hx, hx.block h.st, hx.block h.v, hx.block h.res⟩
theorem Lv.drew (h : Lv w s x wx) : Lv w s x wx.drew := ⟨h.below.drew, h.st, h.v, h.res⟩
theorem Lv.row (h : Lv w s x wx) (s' : MSt) {L : List Value} (hL : L = stL s') : Lv w s' x (wx.setRow w.heap.size L.toArray) := by
  subst hL
  exact ⟨below_setRow h.below (by omega), setRow_heap _ _ _ _ _ _ h.st, (setRow_other _ _ _ _ (by omega)).trans h.v, (setRow_other _ _ _ _ (by omega)).trans h.res⟩
theorem Lv.putF (h : Lv w s x wx) (h16 : s.r.length = 16) (n : Int) : Lv w { s with f := n } x (wx.setCell ⟨w.heap.size, 17, none⟩ (.int .u32 n)) := by
  have e : (stL s).set 17 (.int .u32 n) = stL { s with f := n } := by
    show Value.int .u32 s.pc :: (u32s s.r ++ _).set 16 _ = _
    rw [List.set_append_right _ _ (by rw [u32s_len, h16]; omega), u32s_len, h16]; rfl
  refine ⟨h.below.setCell (Nat.le_refl _) _, ?_, (Below.heap_setCell wx ⟨w.heap.size, 17, none⟩ _ _ (by show w.heap.size + 1 ≠ w.heap.size; omega)).trans h.v, (Below.heap_setCell wx ⟨w.heap.size, 17, none⟩ _ _ (by show w.heap.size + 2 ≠ w.heap.size; omega)).trans h.res⟩
  have := set_heap h.st 17 (.int .u32 n)
  rw [← e]; simpa using this
theorem Lv.putR (h : Lv w s x wx) (i : Nat) (hi : i < s.r.length) (n : Int) : Lv w { s with r := s.r.set i n } x (wx.setCell ⟨w.heap.size, 1 + i, none⟩ (.int .u32 n)) := by
  have e : (stL s).set (1 + i) (.int .u32 n) = stL { s with r := s.r.set i n } := by
    rw [Nat.add_comm]
    show Value.int .u32 s.pc :: (u32s s.r ++ _).set i _ = Value.int .u32 s.pc :: (u32s (s.r.set i n) ++ _)
    rw [List.set_append_left _ _ (by rw [u32s_len]; omega), show u32s (s.r.set i n) = (u32s s.r).set i (.int .u32 n) from List.map_set ..]
  refine ⟨h.below.setCell (Nat.le_refl _) _, ?_, (Below.heap_setCell wx ⟨w.heap.size, 1 + i, none⟩ _ _ (by show w.heap.size + 1 ≠ w.heap.size; omega)).trans h.v, (Below.heap_setCell wx ⟨w.heap.size, 1 + i, none⟩ _ _ (by show w.heap.size + 2 ≠ w.heap.size; omega)).trans h.res⟩
  have := set_heap h.st (1 + i) (.int .u32 n)
  rw [← e]; simpa using this
theorem stL_seg {s : MSt} (R : List Int) (n : Nat) (hn : R.length = n) (h : n ≤ s.r.length) : (stL s).take 1 ++ (u32s R ++ (stL s).drop (1 + (u32s R).length)) = stL { s with r := R ++ s.r.drop n } := by
  rw [u32s_len, hn, Nat.add_comm 1 n]
  show Value.int .u32 s.pc :: (u32s R ++ (u32s s.r ++ _).drop n) = Value.int .u32 s.pc :: (u32s (R ++ s.r.drop n) ++ _)
  rw [List.drop_append_of_le_length (by rw [u32s_len]; exact h), u32s_app, u32s_drop, List.append_assoc]
end
theorem stL_f' {s : MSt} (h : s.r.length = 16) : (stL s)[17]? = some (.int .u32 s.f) := by
  show (u32s s.r ++ _)[16]? = _
  rw [List.getElem?_append_right (by rw [u32s_len, h]; omega), u32s_len, h]; rfl
theorem u16_info : (Try.prog.info? 72).map (·.size) = some (u32s z16).toArray.size := by kernel_rfl
theorem st_info0 : (Try.prog.info? 75).map (·.size) = some 24 := by kernel_rfl
theorem st_info {s : MSt} (h16 : s.r.length = 16) (h4 : s.c.length = 4) : (Try.prog.info? 75).map (·.size) = some (stL s).toArray.size := by
  have : (stL s).toArray.size = 24 := by simp [stL, u32s_len, h16, h4]
  rw [this]; exact st_info0
theorem st_all (s : MSt) : (stL s).toArray.all (·.oneCell') = true := by
  simp [stL, u32s, Value.oneCell']
theorem st_size {s : MSt} (h16 : s.r.length = 16) (h4 : s.c.length = 4) : (stL st0).toArray.size = (stL s).toArray.size := by
  have : (stL s).toArray.size = 24 := by simp [stL, u32s_len, h16, h4]
  rw [this]; rfl
theorem leaveL_len (k : Int) {s : MSt} {x : List Int} (h : StOk s) (hx : x.length = 28) : (leaveL k s x).r.length = 16 ∧ (leaveL k s x).c.length = 4 := by
  unfold leaveL
  split
  · exact ⟨by simp [hx, z16], h.c4⟩
  · split
    · exact ⟨by simp [hx], h.c4⟩
    · exact ⟨h.r16, h.c4⟩
set_option maxRecDepth 100000 in
theorem irLeave_any (k : Int) (s : MSt) (x : List Int) (w : World) (h : StOk s) (hx : x.length = 28) (hu : ∀ v ∈ x, U32 v) :
    Calls Try.prog 41 #[.int .i64 k, stV s, .agg (u32s x).toArray] w fun e w' => e = .returned (stV (leaveL k s x)) ∧ Ext w w' := by
  have hlv : Lv w s x (((w.alloc (.cells (stL s).toArray 75)).alloc (.cells (u32s x).toArray 37)).alloc (.cells (stL st0).toArray 75)) :=
    ⟨((Ext.refl w).alloc _).alloc _ |>.alloc _, (Ext.alloc (Ext.refl _) _).block ((Ext.alloc (Ext.refl _) _).block (heap_alloc_new _ _)), (Ext.alloc (Ext.refl _) _).block (heap_new_at _ _ (by simp)), heap_new_at _ _ (by simp)⟩
  have HLV := Lib.hid hlv
  clear hlv
  have HST := Lib.hid h
  have HX := Lib.hid hx
  have xg : ∀ j, j < 28 → (u32s x)[j]? = some (.int .u32 (x.getD j 0)) ∧ U32 (x.getD j 0) := fun j hj => by
    have e : x[j]? = some (x.getD j 0) := by rw [List.getD_eq_getElem?_getD, List.getElem?_eq_getElem (by omega)]; rfl
    refine ⟨?_, hu _ (List.mem_of_getElem? e)⟩
    show (x.map _)[j]? = _
    rw [List.getElem?_map, e]; rfl
  have HG := Lib.hid xg
  clear h hx hu xg
  go_enter Try.func41, Try.ntmps41
  rcases (show k = 1 ∨ k = 2 ∨ (k < 1 ∨ 2 < k) by omega) with rfl | rfl | hk
  · go_upto_region 3 with fail
    generalize hw1 : ((w.alloc _).alloc _).alloc _ = w1
    have hE : Lv w s x w1 := by rw [← hw1]; exact HLV.out
    clear hw1 HLV
    have hlt := heap_lt hE.res
    have HE := Lib.hid hE
    clear hE
    go_upto_region 4 with (refine wpList_store_mid (op := ⟨none, .store 72 (.tmp 11) (.tmp 10), _, _, _, _⟩) ?_ 72 (.tmp 11) (.tmp 10) ?_ w.heap.size 1 (u32s z16).toArray ?_ ?_ ?_ u16_info (u28_all z16) ?_; (· rfl); (· rfl); (· rfl); (· rfl); (· exact fun j hj => ⟨by rw [lcell HE.out.st (List.getElem?_eq_getElem (by rw [stL_len HST.out]; have : j < 16 := hj; omega))]; rfl, heap_free HE.out.st⟩))
    have hE1 : Lv w { s with r := z16 } x (w1.setCells w.heap.size 1 (u32s z16)) := by
      rw [setCells_row HE.out.st (by rw [stL_len HST.out, u32s_len]; decide) (u32s_one _)]
      refine HE.out.row _ ?_
      rw [stL_seg z16 16 rfl (by rw [HST.out.r16]; omega), List.drop_of_length_le (by rw [HST.out.r16]; omega), List.append_nil]
    generalize w1.setCells w.heap.size 1 (u32s z16) = w2 at *
    have HE1 := Lib.hid hE1
    have hlt := heap_lt hE1.res
    obtain ⟨s1, hs1⟩ : ∃ s1, ({ s with r := z16 } : MSt) = s1 := ⟨_, rfl⟩
    rw [hs1] at HE1
    have HS1 := Lib.hid hs1
    obtain ⟨X8, hX8⟩ : ∃ X8, x.take 8 = X8 := ⟨_, rfl⟩
    have hX8l : X8.length = 8 := by rw [← hX8, List.length_take, HX.out]; rfl
    have HX8 := Lib.hid hX8
    have HX8L := Lib.hid hX8l
    have HLEN := Lib.hid (show (stL s1).length = 24 by rw [← hs1]; simp [stL, u32s_len, HST.out.c4, z16])
    clear hX8 hX8l hE1 HE hs1
    go_region_law (refine step_copy_row rfl (.tmp 13) (.tmp 14) 22 22 rfl 34 Try.underlying22 (by kernel_rfl) w.heap.size 1 16 16 ⟨w.heap.size + 1, 0, none⟩ 8 28 ?_ ?_ (stL s1).toArray 75 HE1.out.st (u32s X8) ?_ ?_ ?_ ?_ ?_; rfl; rfl; (· (rw [u32s_len, HX8L.out]; try rfl)); exact (lseg HE1.out.v (fun j v hv => by rw [Nat.zero_add]; exact take_sub (by rw [← HX8.out, u32s_take] at hv; exact hv))); (· (rw [u32s_len, HX8L.out, List.size_toArray, HLEN.out]; decide)); exact u32s_one _)
    have hE2 : Lv w { s with r := X8 ++ z16.drop 8 } x _ := HE1.out.drew.row { s with r := X8 ++ z16.drop 8 } (L := (stL s1).take 1 ++ (u32s X8 ++ (stL s1).drop (1 + (u32s X8).length))) (by
      rw [stL_seg X8 8 HX8L.out (by rw [← HS1.out]; show 8 ≤ z16.length; decide), ← HS1.out])
    generalize w2.drew.setRow w.heap.size _ = w3 at *
    obtain ⟨v16, h16⟩ : ∃ v, x.getD 16 0 = v := ⟨_, rfl⟩
    obtain ⟨v17, h17⟩ : ∃ v, x.getD 17 0 = v := ⟨_, rfl⟩
    obtain ⟨v18, h18⟩ : ∃ v, x.getD 18 0 = v := ⟨_, rfl⟩
    obtain ⟨g16, u16⟩ := HG.out 16 (by omega)
    obtain ⟨g17, u17⟩ := HG.out 17 (by omega)
    obtain ⟨g18, u18⟩ := HG.out 18 (by omega)
    rw [h16] at g16 u16
    rw [h17] at g17 u17
    rw [h18] at g18 u18
    have k16 : w3.cell? ⟨w.heap.size + 1, 16, none⟩ = some (.int .u32 v16) := lcell hE2.v g16
    have k17 : w3.cell? ⟨w.heap.size + 1, 17, none⟩ = some (.int .u32 v17) := lcell hE2.v g17
    have k18 : w3.cell? ⟨w.heap.size + 1, 18, none⟩ = some (.int .u32 v18) := lcell hE2.v g18
    have hlt3 := heap_lt hE2.res
    have HU17 := Lib.hid u17
    have HU18 := Lib.hid u18
    obtain ⟨a16, b16⟩ := u16
    have HH := Lib.hid (And.intro h16 (And.intro h17 h18))
    have HE2 := Lib.hid hE2
    clear HE1 HLEN h16 h17 h18 g16 g17 g18 u17 u18 hE2
    go_upto_region 9 with (go_at_call 75; refine (wordFlags_any _ _ _ _ HU17.out HU18.out).mono ?_; rintro e w4 ⟨rfl, hx4⟩; have hE4 := HE2.out.ext hx4; have hlt4 := heap_lt hE4.res; obtain ⟨u17, m17⟩ : ∃ u, w4.cell? ⟨w.heap.size, 17, none⟩ = some u := ⟨_, lcell hE4.st (stL_f' (by simp [HX8L.out, z16]))⟩; have f17 : w4.frozen? ⟨w.heap.size, 17, none⟩ = false := heap_free hE4.st; have HE4 := Lib.hid hE4; clear hE4)
    have hE5 : Lv w (leaveL 1 s x) x (w4.setCell ⟨w.heap.size, 17, none⟩ (.int .u32 (refFlagsL v16 v17 v18))) := by
      have e : leaveL 1 s x = { ({ s with r := X8 ++ z16.drop 8 } : MSt) with f := refFlagsL v16 v17 v18 } := by
        unfold leaveL
        rw [if_pos rfl, HH.out.1, HH.out.2.1, HH.out.2.2, HX8.out]
      rw [e]
      exact HE4.out.putF (by simp [HX8L.out, z16]) (refFlagsL v16 v17 v18)
    generalize w4.setCell _ _ = w5 at *
    clear HE2 HE4 k16 k17 k18 m17 f17
    have HE5 := Lib.hid hE5
    have HL := Lib.hid (leaveL_len 1 HST.out HX.out)
    clear hE5
    obtain ⟨y, hy⟩ : ∃ y, leaveL 1 s x = y := ⟨_, rfl⟩
    rw [hy] at HE5 HL
    have HY := Lib.hid hy
    clear hy
    go_wp2_with (first | (refine wpList_load_row rfl 75 (.tmp 4) rfl w.heap.size rfl 75 (stL y).toArray (0, 0) _ HE5.out.st Try.underlying75 rfl (st_info HL.out.1 HL.out.2) ?_) | (refine wpList_store_row (o := ⟨none, .store 75 (.tmp 6) (.tmp 34), _, _, _, _⟩) ?_ 75 (.tmp 6) (.tmp 34) ?_ (w.heap.size + 2) (stL y).toArray ?_ ?_ 75 (stL st0).toArray HE5.out.res (st_info HL.out.1 HL.out.2) ?_ (st_all y) ?_; (· rfl); (· rfl); (· rfl); (· rfl); (· exact st_size HL.out.1 HL.out.2)))
    refine bodyPost_ret (results_cell_row rfl _ _ (w.heap.size + 2) 75 (stL y).toArray (0, 0) _ rfl (setRow_heap _ _ _ _ _ _ HE5.out.res) Try.underlying75 rfl (st_info HL.out.1 HL.out.2)) rfl ⟨by rw [HY.out]; rfl, below_setRow HE5.out.below (by omega)⟩
  · go_upto_region 7 with fail
    generalize hw1 : ((w.alloc _).alloc _).alloc _ = w1
    have hE : Lv w s x w1 := by rw [← hw1]; exact HLV.out
    clear hw1 HLV
    have hlt := heap_lt hE.res
    have HE := Lib.hid hE
    obtain ⟨X, hX⟩ : ∃ X, x.take 16 = X := ⟨_, rfl⟩
    have hXl : X.length = 16 := by rw [← hX, List.length_take, HX.out]; rfl
    have HXX := Lib.hid hX
    have HXL := Lib.hid hXl
    clear hX hXl hE
    go_region_law (refine step_copy_row rfl (.tmp 28) (.tmp 29) 22 22 rfl 34 Try.underlying22 (by kernel_rfl) w.heap.size 1 16 16 ⟨w.heap.size + 1, 0, none⟩ 16 28 ?_ ?_ (stL s).toArray 75 HE.out.st (u32s X) ?_ ?_ ?_ ?_ ?_; rfl; rfl; (· (rw [u32s_len, HXL.out]; try rfl)); exact (lseg HE.out.v (fun j v hv => by rw [Nat.zero_add]; exact take_sub (by rw [← HXX.out, u32s_take] at hv; exact hv))); (· (rw [u32s_len, HXL.out, List.size_toArray, stL_len HST.out]; decide)); exact u32s_one _)
    have hE2 : Lv w { s with r := X } x _ := HE.out.drew.row { s with r := X } (L := (stL s).take 1 ++ (u32s X ++ (stL s).drop (1 + (u32s X).length))) (by
      rw [stL_seg X 16 HXL.out (by rw [HST.out.r16]; omega), List.drop_of_length_le (by rw [HST.out.r16]; omega), List.append_nil])
    generalize w1.drew.setRow w.heap.size _ = w3 at *
    have hlt3 := heap_lt hE2.res
    obtain ⟨u1, k1⟩ : ∃ u, w3.cell? ⟨w.heap.size, 1, none⟩ = some u := ⟨_, lcell hE2.st (List.getElem?_eq_getElem (by simp [stL, u32s_len, HXL.out]; omega))⟩
    obtain ⟨u17, k17⟩ : ∃ u, w3.cell? ⟨w.heap.size, 17, none⟩ = some u := ⟨_, lcell hE2.st (stL_f' HXL.out)⟩
    have f1 : w3.frozen? ⟨w.heap.size, 1, none⟩ = false := heap_free hE2.st
    have f17 : w3.frozen? ⟨w.heap.size, 17, none⟩ = false := heap_free hE2.st
    have HE2 := Lib.hid hE2
    clear hE2 HE
    go_upto_region 9 with fail
    have hE5 : Lv w (leaveL 2 s x) x ((w3.setCell ⟨w.heap.size, 1, none⟩ (.int .u32 0)).setCell ⟨w.heap.size, 17, none⟩ (.int .u32 0)) := by
      have e : leaveL 2 s x = { ({ s with r := X.set 0 0 } : MSt) with f := 0 } := by
        unfold leaveL
        rw [if_neg (by decide), if_pos rfl, HXX.out]
      rw [e]
      exact (HE2.out.putR 0 (by show 0 < X.length; rw [HXL.out]; decide) 0).putF (by simp [HXL.out]) 0
    generalize (w3.setCell _ _).setCell _ _ = w5 at *
    clear HE2 k1 k17 f1 f17
    have HE5 := Lib.hid hE5
    have HL := Lib.hid (leaveL_len 2 HST.out HX.out)
    clear hE5
    obtain ⟨y, hy⟩ : ∃ y, leaveL 2 s x = y := ⟨_, rfl⟩
    rw [hy] at HE5 HL
    have HY := Lib.hid hy
    clear hy
    go_wp2_with (first | (refine wpList_load_row rfl 75 (.tmp 4) rfl w.heap.size rfl 75 (stL y).toArray (0, 0) _ HE5.out.st Try.underlying75 rfl (st_info HL.out.1 HL.out.2) ?_) | (refine wpList_store_row (o := ⟨none, .store 75 (.tmp 6) (.tmp 34), _, _, _, _⟩) ?_ 75 (.tmp 6) (.tmp 34) ?_ (w.heap.size + 2) (stL y).toArray ?_ ?_ 75 (stL st0).toArray HE5.out.res (st_info HL.out.1 HL.out.2) ?_ (st_all y) ?_; (· rfl); (· rfl); (· rfl); (· rfl); (· exact st_size HL.out.1 HL.out.2)))
    refine bodyPost_ret (results_cell_row rfl _ _ (w.heap.size + 2) 75 (stL y).toArray (0, 0) _ rfl (setRow_heap _ _ _ _ _ _ HE5.out.res) Try.underlying75 rfl (st_info HL.out.1 HL.out.2)) rfl ⟨by rw [HY.out]; rfl, below_setRow HE5.out.below (by omega)⟩
  · rcases hk with hk | hk
    all_goals
      go_upto_region 9 with fail
      generalize hw1 : ((w.alloc _).alloc _).alloc _ = w5
      have hE5 : Lv w (leaveL k s x) x w5 := by
        rw [← hw1]
        have e : leaveL k s x = s := by unfold leaveL; rw [if_neg (by omega), if_neg (by omega)]
        rw [e]; exact HLV.out
      clear hw1 HLV hk
      have hlt := heap_lt hE5.res
      have HE5 := Lib.hid hE5
      have HL := Lib.hid (leaveL_len k HST.out HX.out)
      clear hE5
      obtain ⟨y, hy⟩ : ∃ y, leaveL k s x = y := ⟨_, rfl⟩
      rw [hy] at HE5 HL
      have HY := Lib.hid hy
      clear hy
      go_wp2_with (first | (refine wpList_load_row rfl 75 (.tmp 4) rfl w.heap.size rfl 75 (stL y).toArray (0, 0) _ HE5.out.st Try.underlying75 rfl (st_info HL.out.1 HL.out.2) ?_) | (refine wpList_store_row (o := ⟨none, .store 75 (.tmp 6) (.tmp 34), _, _, _, _⟩) ?_ 75 (.tmp 6) (.tmp 34) ?_ (w.heap.size + 2) (stL y).toArray ?_ ?_ 75 (stL st0).toArray HE5.out.res (st_info HL.out.1 HL.out.2) ?_ (st_all y) ?_; (· rfl); (· rfl); (· rfl); (· rfl); (· exact st_size HL.out.1 HL.out.2)))
      refine bodyPost_ret (results_cell_row rfl _ _ (w.heap.size + 2) 75 (stL y).toArray (0, 0) _ rfl (setRow_heap _ _ _ _ _ _ HE5.out.res) Try.underlying75 rfl (st_info HL.out.1 HL.out.2)) rfl ⟨by rw [HY.out]; rfl, below_setRow HE5.out.below (by omega)⟩
end Go.Proofs.Ytojofinofpgopaa
