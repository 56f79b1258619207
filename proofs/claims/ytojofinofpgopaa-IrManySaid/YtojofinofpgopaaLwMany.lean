/- The walk of IrMany. -/
import Derived.Test.YtojofinofpgopaaBld
import Derived.Test.YtojofinofpgopaaPlMany
import Derived.Deep.RegionHeld3
namespace Go.Proofs.Ytojofinofpgopaa
open Go.RowKit
attribute [local go_sem ↓] Go.wp_at_zero Go.wp_at_succ
theorem Bld.facts {w : World} {Bb : Nat} {b : IBlk} {vA vP vO : Value} {wx : World} (h : Bld w Bb b vA vP vO wx) :
    (wx.cell? ⟨Bb, 0, none⟩ = some vA ∧ wx.cell? ⟨Bb, 1, none⟩ = some vP ∧ wx.cell? ⟨Bb, 2, none⟩ = some vO) ∧ wx.frozen? ⟨Bb, 0, none⟩ = false ∧ wx.frozen? ⟨Bb, 2, none⟩ = false ∧ Bb < wx.heap.size ∧ w.heap.size ≤ Bb ∧
      wx.ownsRow (Bb + 1) 34 1 vA b.at_.length (b.at_.map (Value.int .u32)) ∧ wx.ownsRow (Bb + 1) 36 5 vO b.ops.length (opsCells b.ops) :=
  ⟨⟨heap_cell h.box rfl, heap_cell h.box rfl, heap_cell h.box rfl⟩, heap_free h.box, heap_free h.box, h.lt, h.hB, h.rowA, h.rowO⟩
theorem isBlk_eval {b : IBlk} {vars : List Int} {v : Value} {w : World} (h : IsBlk b v w) (hN : ∀ k, k < b.ops.length → U32 (b.ops.getD k noOp).n) (hv : vars.length = 28) (hvr : ∀ v ∈ vars, U32 v) :
    Calls Try.prog 21 #[v, .agg (varsV vars), .nilIface] w fun e w' => e = .returned (.agg (outCells (evalNil b vars))) ∧ Ext w w' := by
  obtain ⟨B, aA, aP, aO, cA, cP, cO, rfl, hB, hb⟩ := h
  exact eval_nil aA aP aO cA cP cO b vars w B hB hb hv hvr hN
theorem many_n {f m : Nat} (hm : m ≤ 70) (hf : f ≤ 40) : ∀ k, k < (manyBlk f m).ops.length → U32 ((manyBlk f m).ops.getD k noOp).n := by
  intro k hk
  have hmem : (manyBlk f m).ops.getD k noOp ∈ (manyBlk f m).ops := by rw [getD_at hk]; exact List.getElem_mem hk
  generalize (manyBlk f m).ops.getD k noOp = o at hmem
  have hmem : o ∈ manyL f m ++ [exitOp 7] := hmem
  rcases List.mem_append.1 hmem with h | h
  · unfold manyL at h
    rw [List.mem_flatMap] at h
    obtain ⟨i, hi, hi2⟩ := h
    have hi := List.mem_range.1 hi
    rcases List.mem_cons.1 hi2 with h | h
    · rw [h]; exact ⟨by show (0 : Int) ≤ (i : Int); omega, by show (i : Int) < _; omega⟩
    · unfold consts at h
      obtain ⟨j, hj, hj2⟩ := List.mem_map.1 h
      have hj := List.mem_range.1 hj
      rw [← hj2]; exact ⟨by show (0 : Int) ≤ (j : Int); omega, by show (j : Int) < _; omega⟩
  · have : o = exitOp 7 := by simpa using h
    rw [this]; exact ⟨by decide, by decide⟩
set_option maxRecDepth 100000 in
set_option maxHeartbeats 4000000 in
theorem irMany_any (n e : Nat) (hn : n ≤ 255) (he : e ≤ 255) (w : World) : Calls Try.prog 5 #[.int .u8 n, .int .u8 e] w fun e w' => e = .returned (.bool true) ∧ Below w.heap.size w w' := by
  obtain ⟨i0, hi, hz0, hz1, hz2⟩ := info_parts infoOp
  obtain ⟨j0, ji, jz0, jz1, jz2⟩ := info_parts infoU32
  obtain ⟨m, hm⟩ : ∃ m, n % 71 = m := ⟨_, rfl⟩
  obtain ⟨f, hf⟩ : ∃ f, e % 41 = f := ⟨_, rfl⟩
  have hm1 : (n : Int) % 71 = (m : Int) := by omega
  have hf1 : (e : Int) % 41 = (f : Int) := by omega
  have hm70 : m ≤ 70 := by omega
  have hf40 : f ≤ 40 := by omega
  have HM := Lib.hid hm
  have HF := Lib.hid hf
  clear hm hf
  go_enter Try.func5, Try.ntmps5
  go_wp2_with fail
  refine (sanity_any _).mono ?_
  rintro e0 w1 ⟨rfl, hb1⟩
  go_wp2_with fail
  clear hm1 hf1
  obtain ⟨Bb, hBb⟩ : ∃ Bb, w1.heap.size = Bb := ⟨_, rfl⟩
  have hbld : Bld w Bb ⟨[], [], []⟩ (.slice none 0 0) (.slice none 0 0) (.slice none 0 0) (w1.alloc (.cells #[.slice none 0 0, .slice none 0 0, .slice none 0 0] 26)) := by
    subst hBb
    exact ⟨hb1.alloc hb1.size _, hb1.size, heap_alloc_new _ _, World.ownsRow_nil _ _ _ _, World.ownsRow_nil _ _ _ _, World.ownsRow_nil _ _ _ _, sep_nil _, sep_nil _, sep_nil _⟩
  have HBLD := Lib.hid hbld
  clear hbld hb1
  rw [hBb]
  generalize w1.alloc _ = w2 at *
  clear hBb
  go_loopw [9, 10] (fun s9 s10 wr => ∃ i : Nat, i ≤ m ∧ s9 = .int .i64 i ∧ ∃ vA vO, Bld w Bb ⟨ats i, [], manyL f i⟩ vA (.slice none 0 0) vO wr) (fun s9 _ _ => m - (intOf s9).toNat)
  case atStart => exact ⟨0, Nat.zero_le _, rfl, _, _, HBLD.out⟩
  case round =>
    obtain ⟨i, hi9, rfl, vA, vO, hB⟩ := hrel
    have x0 : wr.cell? ⟨Bb, 0, none⟩ = some vA := heap_cell hB.box rfl
    have x2 : wr.cell? ⟨Bb, 2, none⟩ = some vO := heap_cell hB.box rfl
    have f0 : wr.frozen? ⟨Bb, 0, none⟩ = false := heap_free hB.box
    have hlt1 := hB.lt
    have hrow := hB.rowA
    have hsz := hB.hB
    have HB := Lib.hid hB
    clear hB HBLD
    by_cases hlt : i < m
    · have hla : (ats i).length ≤ 70 := by simp [ats]; omega
      go_upto_region 9 with (at_builtin; refine wpList_app wr rfl (.tmp 27) (.tmp 30) 22 rfl (Bb + 1) 34 j0 (.int .u32 0) 1 4 Try.underlying22 ji jz0 jz1 jz2 rfl (by decide) vA (ats i).length _ rfl hrow _ (by simp) 1 1 [.int .u32 i] rfl rfl (by simp [Value.oneCell']) (by omega) (by unfold maxLen; omega) (by omega) (by omega) ?_; intro g cap w3 hg hglt hown hgr hor hsz3; obtain ⟨yy, z0⟩ := HB.out.boxA hgr 0; have y0 := yy _ rfl; clear yy)
      have hB2 : Bld w Bb ⟨ats (i + 1), [], manyL f i⟩ (.slice (some ⟨g, 0, none⟩) ((ats i).length + 1) cap) (.slice none 0 0) vO (w3.setCell ⟨Bb, 0, none⟩ (.slice (some ⟨g, 0, none⟩) ((ats i).length + 1) cap)) := by
        have := HB.out.appA (l := [(i : Int)]) hown hgr hor
        rw [ats_succ]; exact this
      generalize Value.slice (some ⟨g, 0, none⟩) ((ats i).length + 1) cap = vA2 at *
      generalize w3.setCell ⟨Bb, 0, none⟩ vA2 = w4 at *
      clear HB x0 x2 f0 hlt1 hrow hown hgr hor hsz3 y0 z0 hg hglt
      obtain ⟨⟨x0, x1, x2⟩, f0, f2, hlt1, _, _, hrow⟩ := hB2.facts
      have HB := Lib.hid hB2
      have hlo := manyL_le hi9 hm70 hf40
      clear hB2
      go_upto_region 10 with (at_builtin; refine wpList_app w4 rfl (.tmp 34) (.tmp 38) 24 rfl (Bb + 1) 36 i0 _ 5 40 Try.underlying24 hi hz0 hz1 hz2 rfl (by decide) vO (manyL f i).length _ rfl hrow _ (by simp) 1 1 [.int .i64 20, .int .i64 0, .int .i64 0, .int .i64 0, .int .u32 i] rfl rfl (by simp [Value.oneCell']) (by omega) (by unfold maxLen; omega) (by omega) (by omega) ?_; intro g cap w3 hg hglt hown hgr hor hsz3; obtain ⟨yy, z2⟩ := HB.out.boxO hgr 2; have y2 := yy _ rfl; clear yy)
      have hB3 : Bld w Bb ⟨ats (i + 1), [], manyL f i ++ (markOp i :: consts 0)⟩ vA2 (.slice none 0 0) (.slice (some ⟨g, 0, none⟩) ((manyL f i).length + 1) cap) (w3.setCell ⟨Bb, 2, none⟩ (.slice (some ⟨g, 0, none⟩) ((manyL f i).length + 1) cap)) :=
        HB.out.appO (l := [markOp i]) hown hgr hor
      generalize Value.slice (some ⟨g, 0, none⟩) ((manyL f i).length + 1) cap = vO2 at *
      generalize w3.setCell ⟨Bb, 2, none⟩ vO2 = w5 at *
      have HB3 := Lib.hid hB3
      clear HB hB3 x0 x1 x2 f0 f2 hlt1 hrow hown hgr hor hsz3 y2 z2 hg hglt
      go_wp2_with fail
      obtain ⟨wo, hwo⟩ : ∃ wo : World, wo = wr := ⟨_, rfl⟩
      subst hwo
      go_loopw [10] (fun s10 wr => ∃ k : Nat, k ≤ f ∧ s10 = .int .i64 k ∧ ∃ vA vO, Bld w Bb ⟨ats (i + 1), [], manyL f i ++ (markOp i :: consts k)⟩ vA (.slice none 0 0) vO wr) (fun s10 _ => f - (intOf s10).toNat)
      case atStart => exact ⟨0, Nat.zero_le _, rfl, _, _, HB3.out⟩
      case round =>
        obtain ⟨k, hk, rfl, vA, vO, hB⟩ := hrel
        obtain ⟨⟨x0, x1, x2⟩, f0, f2, hlt1, _, _, hrow⟩ := hB.facts
        have HB := Lib.hid hB
        obtain ⟨L, hL⟩ : ∃ L, manyL f i ++ (markOp i :: consts k) = L := ⟨_, rfl⟩
        have hlL : L.length ≤ 3000 := by rw [← hL, List.length_append, List.length_cons, consts_len]; omega
        rw [hL] at hrow HB
        have HL := Lib.hid hL
        clear hB HB3 hL
        by_cases hlk : k < f
        · go_wp2_with (at_builtin; refine wpList_app wr rfl (.tmp 47) (.tmp 53) 24 rfl (Bb + 1) 36 i0 _ 5 40 Try.underlying24 hi hz0 hz1 hz2 rfl (by decide) vO (L).length _ rfl hrow _ (by simp) 1 1 [.int .i64 1, .int .i64 ((k : Int) % 19), .int .i64 0, .int .i64 0, .int .u32 k] rfl rfl (by simp [Value.oneCell']) (by omega) (by unfold maxLen; omega) (by omega) (by omega) ?_; intro g cap w3 hg hglt hown hgr hor hsz3; obtain ⟨yy, z2⟩ := HB.out.boxO hgr 2; have y2 := yy _ rfl; clear yy)
          go_roundw
          case rel =>
            refine ⟨k + 1, by omega, by go_num, vA, .slice (some ⟨g, 0, none⟩) (L.length + 1) cap, ?_⟩
            have hE : manyL f i ++ (markOp i :: consts (k + 1)) = L ++ [constOp k] := by rw [← HL.out, consts_succ]; simp
            rw [hE]
            exact HB.out.appO (l := [constOp k]) hown hgr hor
          case measure => (simp [intOf]; omega)
        · obtain rfl : k = f := by omega
          have HL2 := Lib.hid (show manyL k (i + 1) = L by rw [manyL_succ, HL.out])
          clear x0 x1 x2 f0 f2 hlt1 hrow
          go_wp2_with fail
          go_roundw
          case rel => exact ⟨i + 1, by omega, by go_num, vA, vO, by rw [HL2.out]; exact HB.out⟩
          case measure => (simp [intOf]; omega)
    · obtain rfl : i = m := by omega
      clear x0 x2 f0 hrow
      obtain ⟨⟨x0, x1, x2⟩, f0, f2, hlt1, _, _, hrow⟩ := HB.out.facts
      have hlo := manyL_le hi9 hm70 hf40
      go_upto_region 15 with (at_builtin; refine wpList_app wr rfl (.tmp 57) (.tmp 59) 24 rfl (Bb + 1) 36 i0 _ 5 40 Try.underlying24 hi hz0 hz1 hz2 rfl (by decide) vO (manyL f i).length _ rfl hrow _ (by simp) 1 1 [.int .i64 24, .int .i64 0, .int .i64 0, .int .i64 0, .int .u32 7] rfl rfl (by simp [Value.oneCell']) (by omega) (by unfold maxLen; omega) (by omega) (by omega) ?_; intro g cap w3 hg hglt hown hgr hor hsz3; obtain ⟨yy, z2⟩ := HB.out.boxO hgr 2; have y2 := yy _ rfl; clear yy)
      have hB2 : Bld w Bb (manyBlk f i) vA (.slice none 0 0) (.slice (some ⟨g, 0, none⟩) ((manyL f i).length + 1) cap) (w3.setCell ⟨Bb, 2, none⟩ (.slice (some ⟨g, 0, none⟩) ((manyL f i).length + 1) cap)) :=
        HB.out.appO (l := [exitOp 7]) hown hgr hor
      have hslc : (.slice (some ⟨g, 0, none⟩) ((manyL f i).length + 1) cap : Value) = .slice (some ⟨g, 0, none⟩) (manyBlk f i).ops.length cap := by
        show _ = Value.slice _ (manyL f i ++ [exitOp 7]).length cap
        rw [List.length_append]; rfl
      generalize w3.setCell ⟨Bb, 2, none⟩ _ = w5 at *
      have HB5 := Lib.hid hB2
      have u2 : w5.cell? ⟨Bb, 2, none⟩ = some (.slice (some ⟨g, 0, none⟩) ((manyL f i).length + 1) cap) := heap_cell hB2.box rfl
      clear HB hB2 x0 x1 x2 f0 f2 hlt1 hrow hown hgr hor hsz3 y2 z2 hg hglt hslc
      go_cut [11] (fun s11 wx => s11 = .bool (manyOk f i) ∧ wx = w5)
      case first =>
        go_wp2_with fail
        all_goals (go_meet; case rel => (go_light; refine ⟨congrArg Value.bool ?_, rfl⟩; unfold manyOk; rw [Bool.eq_iff_iff]; simp; omega))
      case rest =>
        obtain ⟨rfl, rfl⟩ := hcut
        obtain ⟨V, hV⟩ : ∃ V, manyOk f i = V := ⟨_, rfl⟩
        rw [hV]
        have hVal := many_valid f i
        rw [hV] at hVal
        have hEv : V = true → (evalNil (manyBlk f i) vs0).done = i ∧ (evalNil (manyBlk f i) vs0).pc = 7 := fun h => many_eval (by rw [hV, h])
        have hlen := ev_len (manyBlk f i) (V := vs0) rfl
        have hall := out_all (evalNil (manyBlk f i) vs0)
        have hio := out_info hlen
        have hzo := out_zero hlen
        have hblk := HB5.out.isBlk (by show (ats i).length ≤ _; rw [ats_len]; unfold maxLen; omega) (by simp [manyBlk]) (by show (manyL f i ++ [exitOp 7]).length ≤ _; rw [List.length_append]; unfold maxLen; simp; omega)
        have HEV : Hid (Calls Try.prog 21 #[.agg #[vA, .slice none 0 0, .slice (some ⟨g, 0, none⟩) ((manyL f i).length + 1) cap], .agg (varsV vs0), .nilIface] wc fun e w' => e = .returned (.agg (outCells (evalNil (manyBlk f i) vs0))) ∧ Ext wc w') := Lib.hid (isBlk_eval hblk (many_n hm70 hf40) rfl vs0_u)
        have HVA := Lib.hid fun (W : World) (hx : Ext wc W) => ex_valid (hblk.ext hx)
        rw [hVal] at HVA
        obtain ⟨R, hR⟩ : ∃ R, evalNil (manyBlk f i) vs0 = R := ⟨_, rfl⟩
        rw [hR] at HEV hEv hlen hall hio hzo
        have rdone : (outCells R)[2]? = some (.int .i64 R.done) := by simp [outCells]
        have rpc : (outCells R)[3]? = some (.int .u32 R.pc) := by simp [outCells]
        obtain ⟨oc, hoc⟩ : ∃ oc, outCells R = oc := ⟨_, rfl⟩
        rw [hoc] at HEV hall hio hzo rdone rpc
        obtain ⟨⟨x0, x1, x2⟩, f0, f2, hlt1, _, _, _⟩ := HB5.out.facts
        have HE := Lib.hid hEv
        have HRD := Lib.hid rdone
        have HRP := Lib.hid rpc
        clear hV hVal hEv hlen hblk hR hoc rdone rpc
        go_wp2_with fail
        refine HEV.out.mono ?_
        rintro e9 w6 ⟨rfl, hx6⟩
        have HB6 := Lib.hid (HB5.out.after hx6)
        clear x0 x1 x2 f0 f2 hlt1
        go_upto_region 17 with (refine wpList_store_row (o := ⟨none, .store 39 (.tmp 12) (.tmp 76), _, _, _, _⟩) ?_ 39 (.tmp 12) (.tmp 76) ?_ w6.heap.size oc ?_ ?_ 39 (outCells zeroOut) (heap_alloc_new w6 _) hio ?_ hall ?_; (· rfl); (· rfl); (· rfl); (· rfl); (· exact hzo))
        generalize hw7 : (w6.alloc _).setRow w6.heap.size oc = w7
        have hx7 : Ext w6 w7 := by rw [← hw7]; exact below_setRow (Ext.alloc (Ext.refl w6) _) (Nat.le_refl _)
        have hox : w7.heap[w6.heap.size]? = some (.cells oc 39 (0, 0)) := by rw [← hw7]; exact setRow_heap _ _ _ _ _ _ (heap_alloc_new w6 _)
        have HX7 := Lib.hid (Ext.trans hx6 hx7)
        clear hw7
        generalize w6.heap.size = G at *
        have HB7 := Lib.hid (HB5.out.after HX7.out)
        have HOX := Lib.hid hox
        obtain ⟨⟨x0, x1, x2⟩, f0, f2, hlt1, _, _, _⟩ := HB7.out.facts
        clear hox hx6 hx7 HB6 hall hio hzo HEV
        go_wp2_with fail
        refine (HVA.out w7 HX7.out).mono ?_
        rintro e10 w8 ⟨rfl, hx8⟩
        have HBW := Lib.hid ((HB7.out.after hx8).below)
        have k2 : w8.cell? ⟨G, 2, none⟩ = some (.int .i64 R.done) := heap_cell (hx8.block HOX.out) HRD.out
        have k3 : w8.cell? ⟨G, 3, none⟩ = some (.int .u32 R.pc) := heap_cell (hx8.block HOX.out) HRP.out
        clear x0 x1 x2 f0 f2 hlt1 hx8 HB7 HOX HRD HRP HVA HX7 HB5
        cases V
        · go_wp2_with fail
          all_goals (go_light; go_ret; exact ⟨rfl, HBW.out⟩)
        · obtain ⟨e1, e2⟩ := HE.out rfl
          rw [e1] at k2
          rw [e2] at k3
          clear e1 e2 HE
          go_wp2_with fail
          all_goals (go_light; go_ret; exact ⟨rfl, HBW.out⟩)
end Go.Proofs.Ytojofinofpgopaa
