/- Contract: Eval with a nil memory. -/
import Derived.Test.YtojofinofpgopaaDoorMgG
import Derived.Lib.SliceRun
import Derived.Deep.RegionHeld3
import Derived.Deep.DrawnRows
namespace Go.Proofs.YtojofinofpgopaaDoor
open Go.RowKit
attribute [local go_sem ↓] Go.wp_at_zero Go.wp_at_succ
set_option maxRecDepth 100000 in
set_option maxHeartbeats 1000000 in
theorem eval_nil (aA aP aO : Option Addr) (cA cP cO : Nat) (b : IBlk) (vars : List Int) (w : World) (B : Nat) (hB : B ≤ w.heap.size) (h : BlkAt w B aA aP aO b) (hv : vars.length = 28) (hvr : ∀ v ∈ vars, U32 v) (hN : ∀ k, k < b.ops.length → U32 (b.ops.getD k noOp).n) :
    Calls Tryd.prog 13 #[blkV aA aP aO cA cP cO b, .agg (varsV vars), .nilIface] w fun e w' => e = .returned (.agg (outCells (evalNil b vars))) ∧ Below w.heap.size w w' := by
  have H := Lib.hid h
  clear h
  have HV := Lib.hid hv
  have HVR := Lib.hid hvr
  have HN := Lib.hid hN
  clear hv hvr hN
  go_enter Tryd.func13, Tryd.ntmps13
  go_upto_region 0 with fail
  go_cut [3, 4, 6] (fun s3 s4 s6 wx => s3 = .pointer (some ⟨w.heap.size, 0, none⟩) ∧ s4 = .pointer (some ⟨w.heap.size + 1, 0, none⟩) ∧ s6 = .pointer (some ⟨w.heap.size + 2, 0, none⟩) ∧ EvW w aA aP aO cA cP cO b vars wx)
  case first =>
    go_wp2_with fail
    go_meet
    case rel =>
      refine ⟨rfl, rfl, rfl, (((Below.refl _ _).alloc (Nat.le_refl _) _).alloc (by simp) _).alloc (by simp; omega) _, ?_, ?_, ?_, by simp⟩
      · rw [Below.heap_alloc _ _ _ (by simp; omega), Below.heap_alloc _ _ _ (by simp)]; exact heap_alloc_new _ _
      · rw [Below.heap_alloc _ _ _ (by simp)]
        exact heap_new_at _ _ (by simp)
      · exact heap_new_at _ (.cells (outCells zeroOut) 41) (by simp)
  case rest =>
    obtain ⟨rfl, rfl, rfl, hW⟩ := hcut
    have HS := Lib.hid hW
    have HB0 := Lib.hid ((H.out.below (hW.below.mono hB)).at_)
    have q : wc.cell? ⟨w.heap.size, 0, none⟩ = some (.slice aA b.at_.length cA) ∧ wc.cell? ⟨w.heap.size, 1, none⟩ = some (.slice aP b.pages.length cP) ∧ wc.cell? ⟨w.heap.size, 2, none⟩ = some (.slice aO b.ops.length cO) :=
      ⟨heap_cell hW.blk rfl, heap_cell hW.blk rfl, heap_cell hW.blk rfl⟩
    obtain ⟨q0, q1, q2⟩ := q
    clear hW
    go_wp2_with fail
    go_step3
    go_wp2_with fail
    refine (valid_any aA aP aO cA cP cO b wc B (by have := HS.out.below.size; omega) (H.out.below (HS.out.below.mono hB))).mono ?_
    rintro e w2 ⟨rfl, hb2⟩
    have hW2 := HS.out.after hb2
    have HS2 := Lib.hid hW2
    have hres := hW2.res
    clear hW2 hb2 q0 q1 q2
    cases hval : validL b
    · go_wp2_with (refine wpList_store_row rfl 41 (.tmp 6) (.tmp 20) rfl (w.heap.size + 2) (outCells zeroOut) rfl rfl 41 (outCells zeroOut) hres (by kernel_rfl) (by rfl) (out_all _) ?_)
      go_light
      rw [Exit.noGoto_ret]
      refine bodyPost_ret (results_cell_row rfl _ _ (w.heap.size + 2) 41 (outCells zeroOut) (0, 0) _ rfl (setRow_heap _ _ _ _ _ _ hres) Tryd.underlying41 rfl (by kernel_rfl)) rfl ⟨by rw [evalNil, hval]; rfl, ?_⟩
      exact below_setRow HS2.out.below (by omega)
    · go_upto_region 3 with fail
      go_cut [7] (fun s7 wx => ∃ G, s7 = .pointer (some ⟨G, 0, none⟩) ∧ EvW w aA aP aO cA cP cO b vars wx ∧ wx.heap[G]? = some (.cells (outCells ⟨false, 0, b.at_.length, 0, vars⟩) 41 (0, 0)) ∧ w.heap.size + 2 < G)
      case first =>
        have q0 : w2.cell? ⟨w.heap.size, 0, none⟩ = some (.slice aA b.at_.length cA) := heap_cell HS2.out.blk rfl
        have hvs := HS2.out.vs
        have hin : (Tryd.prog.info? 39).map (·.size) = some (varsV vars).size := by
          rw [show (varsV vars).size = 28 by simp [varsV, HV.out]]; kernel_rfl
        have hin2 : (Tryd.prog.info? 41).map (·.size) = some (outCells ⟨false, 0, b.at_.length, 0, vars⟩).size := by
          rw [out_size _ HV.out]; kernel_rfl
        have hbd : ∀ W : World, (Instr.build 41 #[(4, .agg (varsV vars)), (2, .int .i64 b.at_.length)]).run Tryd.prog W = .ok (.agg (outCells ⟨false, 0, b.at_.length, 0, vars⟩)) W := fun W => run_build W _ _ _ (built_out vars HV.out b.at_.length)
        go_wp2_with (first
          | (with_reducible refine wpList_load_row rfl 39 (.tmp 4) rfl (w.heap.size + 1) rfl 39 (varsV vars) (0, 0) _ hvs Tryd.underlying39 rfl hin ?_)
          | (refine wpList_built2 (o := ⟨some 25, _, _, _, _, _⟩) ?_ 41 4 2 (.tmp 21) (.tmp 24) ?_ _ _ ?_ ?_ _ (built_out vars HV.out b.at_.length) ?_; (· rfl); (· rfl); (· rfl); (· rfl))
          | (refine wpList_store_row (o := ⟨none, .store 41 (.tmp 7) (.tmp 25), _, _, _, _⟩) ?_ 41 (.tmp 7) (.tmp 25) ?_ w2.heap.size (outCells ⟨false, 0, b.at_.length, 0, vars⟩) ?_ ?_ 41 (outCells zeroOut) (heap_alloc_new w2 _) hin2 ?_ (out_all _) ?_; (· rfl); (· rfl); (· rfl); (· rfl); (· (rw [out_size ⟨false, 0, b.at_.length, 0, vars⟩ HV.out]; rfl))))
        go_meet
        case rel =>
          go_light
          have hs := HS2.out.after (wx := w2) ((Below.refl _ _).alloc (Nat.le_refl _) (.cells (outCells zeroOut) 41))
          have hsz := HS2.out.size
          refine ⟨w2.heap.size, rfl, ?_, setRow_heap _ _ _ _ _ _ (heap_alloc_new w2 (.cells (outCells zeroOut) 41)), hsz⟩
          exact (hs.after3 (below_setRow (Below.refl _ _) (by omega)))
      case rest =>
        obtain ⟨G, rfl, hW3, hout, hG⟩ := hcut
        have HS3 := Lib.hid hW3
        have HOUT := Lib.hid hout
        clear hW3 hout hres
        go_upto_region 7 with fail
        go_step3
        have q2 : wc.cell? ⟨w.heap.size, 2, none⟩ = some (.slice aO b.ops.length cO) := heap_cell HS3.out.blk rfl
        have hsz : w.heap.size < wc.heap.size := by have := HS3.out.size; omega
        go_upto_block 0 with fail
        obtain ⟨R, hR⟩ : ∃ R, evGo b.at_ b.ops ⟨false, 0, b.at_.length, 0, vars⟩ 0 = R := ⟨_, rfl⟩
        have HR := Lib.hid hR
        clear hR
        have F := valid_facts hval
        have HF := Lib.hid F
        have HEV := Lib.hid (show evalNil b vars = (evGo b.at_ b.ops ⟨false, 0, b.at_.length, 0, vars⟩ 0).guests by rw [evalNil, hval, if_pos rfl])
        clear F hval
        have HL : EvL w aA aP aO cA cP cO b vars G wc.heap.size ⟨false, 0, b.at_.length, 0, vars⟩ 0 (wc.alloc (.cells #[.int .i64 0] 3)) :=
          ⟨HS3.out.after ((Below.refl _ _).alloc (Nat.le_refl _) _), (Below.heap_alloc wc _ G (heap_lt HOUT.out)).trans HOUT.out, heap_alloc_new _ _, hG, HS3.out.size, by have := heap_lt HOUT.out; omega⟩
        have HL := Lib.hid HL
        generalize wc.heap.size = Hb at *
        go_cut [] (fun wx => ∃ cur, EvL w aA aP aO cA cP cO b vars G Hb R cur wx)
        case first =>
          go_wp2_with fail
          go_loopw [31] (fun i wr => ∃ (k : Nat) (s : EvOut) (cur : Int), k ≤ b.ops.length ∧ i = .int .i64 k ∧ (k = 0 ∨ 0 ≤ cur ∧ cur < (b.at_.length : Int)) ∧ VarsOk s.vars ∧ evGo b.at_ (b.ops.drop k) s cur = R ∧ EvL w aA aP aO cA cP cO b vars G Hb s cur wr)
            (fun i _ => b.ops.length - (intOf i).toNat)
          case atStart => exact ⟨0, ⟨false, 0, b.at_.length, 0, vars⟩, 0, Nat.zero_le _, rfl, .inl rfl, ⟨HV.out, HVR.out⟩, by simpa using HR.out, HL.out⟩
          case round =>
            obtain ⟨k, s, cur, hk, rfl, hcur, hvo, hgo, hL⟩ := hrel
            have HCUR := Lib.hid hcur
            have HVO := Lib.hid hvo
            have HGO := Lib.hid hgo
            have HE := Lib.hid hL
            clear hcur hvo hgo hL HL q2 hsz
            have hlen := HF.out.le
            by_cases hlt : k < b.ops.length
            · obtain ⟨g, off, rfl, hg0, hc⟩ := H.out.ops (by omega)
              have hg : g < w.heap.size := Nat.lt_of_lt_of_le hg0 hB
              have ck := (hc k hlt).below HE.out.ew.below hg
              obtain ⟨o, ho⟩ : ∃ o, b.ops.getD k noOp = o := ⟨_, rfl⟩
              rw [ho] at ck
              obtain ⟨c0, c1, c2, c3, c4⟩ := ck
              have hgr : g < wr.heap.size := Nat.lt_of_lt_of_le hg HE.out.ew.below.size
              have HO := Lib.hid ho
              clear hc ho
              go_upto_region 10 with fail
              have z0 := heap_alloc_new wr (.cells o.v 53)
              have HZ := Lib.hid (HE.out.after (w' := wr.alloc (.cells o.v 53)) ((Below.refl _ _).alloc (Nat.le_refl _) _))
              generalize wr.alloc (.cells o.v 53) = wz at *
              have HZ0 := Lib.hid z0
              clear z0 c0 c1 c2 c3 c4
              have hfb := form_bd (HF.out.form k hlt)
              rw [HO.out] at hfb
              obtain ⟨⟨d0, d1⟩, ⟨a0, a1⟩, ⟨b0, b1⟩, e0, e1⟩ := hfb
              go_cut [13, 14] (fun s13 s14 wx => s13 = .int .u32 (s.get o.a) ∧ s14 = .int .u32 (s.get o.b) ∧ EvL w aA aP (some ⟨g, off, none⟩) cA cP cO b vars G Hb s cur wx ∧ wx.heap[wr.heap.size]? = some (.cells o.v 53 (0, 0)))
              case first =>
                have y2 : wz.cell? ⟨wr.heap.size, 2, none⟩ = some (.int .i64 o.a) := heap_cell HZ0.out rfl
                have y3 : wz.cell? ⟨wr.heap.size, 3, none⟩ = some (.int .i64 o.b) := heap_cell HZ0.out rfl
                have x1 : wz.cell? ⟨G, 4 + o.a.toNat, none⟩ = some (.int .u32 (s.get o.a)) := heap_cell HZ.out.out (outCell HVO.out (by omega))
                have x2 : wz.cell? ⟨G, 4 + o.b.toNat, none⟩ = some (.int .u32 (s.get o.b)) := heap_cell HZ.out.out (outCell HVO.out (by omega))
                go_quiet (fail)
                go_wp2_with fail
                go_meet
                case rel => exact ⟨rfl, rfl, HZ.out.drewN _, HZ0.out⟩
              case rest =>
                obtain ⟨rfl, rfl, hE2, hop⟩ := hcut
                have n0 : wc.cell? ⟨wr.heap.size, 0, none⟩ = some (.int .i64 o.code) := heap_cell hop rfl
                have n1 : wc.cell? ⟨wr.heap.size, 1, none⟩ = some (.int .i64 o.d) := heap_cell hop rfl
                have n4 : wc.cell? ⟨wr.heap.size, 4, none⟩ = some (.int .u32 o.n) := heap_cell hop rfl
                have m0 : wc.cell? ⟨Hb, 0, none⟩ = some (.int .i64 cur) := heap_cell hE2.cur rfl
                have m1 : wc.frozen? ⟨Hb, 0, none⟩ = false := heap_free hE2.cur
                have x1 : wc.cell? ⟨G, 4 + o.d.toNat, none⟩ = some (.int .u32 (s.vars.getD o.d.toNat 0)) := heap_cell hE2.out (outCell HVO.out (by omega))
                have f1 : wc.frozen? ⟨G, 4 + o.d.toNat, none⟩ = false := heap_free hE2.out
                have x3 : wc.cell? ⟨G, 3, none⟩ = some (.int .u32 s.pc) := heap_cell hE2.out (by simp [outCells])
                have f3 : wc.frozen? ⟨G, 3, none⟩ = false := heap_free hE2.out
                have HE2 := Lib.hid hE2
                have HOP := Lib.hid hop
                have hn := HN.out k hlt
                rw [HO.out] at hn
                obtain ⟨hn0, hn1⟩ := hn
                have hstep : evStep b.at_ (b.ops.getD k noOp) s cur = evStep b.at_ o s cur := by rw [HO.out]
                have HST := Lib.hid hstep
                clear hE2 hop hstep hgr hg0
                have hcs : o.code = 20 ∨ o.code = 1 ∨ o.code = 2 ∨ (3 ≤ o.code ∧ o.code ≤ 15) ∨ o.code = 16 ∨ o.code = 17 ∨ o.code = 18 ∨ o.code = 19 ∨ o.code = 21 ∨ o.code = 22 ∨ o.code = 23 ∨ o.code = 24 ∨ o.code = 25 := by omega
                obtain ⟨cc, hcc⟩ : ∃ cc, o.code = cc := ⟨_, rfl⟩
                rw [hcc] at n0 hcs e0 e1
                have HCC := Lib.hid hcc
                clear hcc
                have hc20 : cc ≠ 20 → 0 ≤ cur ∧ cur < (b.at_.length : Int) := by
                  intro h20
                  rcases HCUR.out with h | h
                  · exfalso
                    subst h
                    have := HF.out.first
                    rw [HO.out, HCC.out] at this
                    exact h20 this
                  · exact h
                have HC20 := Lib.hid hc20
                clear hc20
                rcases hcs with rfl | rfl | rfl | hcs | rfl | rfl | rfl | rfl | rfl | rfl | rfl | rfl | rfl
                · -- a mark
                  go_wp2_with fail
                  have hmk := HF.out.mark k hlt (by rw [HO.out, HCC.out])
                  rw [HO.out] at hmk
                  go_roundw
                  case rel =>
                    go_light
                    exact ⟨k + 1, s, o.n, by omega, by go_num, (.inr hmk), HVO.out, (evGo_cont hlt (HST.out.trans (by simp [evStep, HCC.out]))).symm.trans HGO.out, HE2.out.setCur o.n⟩
                  case measure => (go_light; simp [intOf]; omega)
                · -- a constant
                  go_wp2_with fail
                  go_region
                  all_goals
                    go_wp2_with fail
                    go_roundw
                    case rel =>
                      go_light
                      exact ⟨k + 1, s.set o.d o.n, cur, by omega, by go_num, (.inr (HC20.out (by omega))), HVO.out.set ⟨hn0, hn1⟩, (evGo_cont hlt (HST.out.trans (by simp [evStep, HCC.out]))).symm.trans HGO.out, (HE2.out.setOut (4 + o.d.toNat) (.int .u32 o.n) (outSet _ _ _)).drewN 1⟩
                    case measure => (go_light; simp [intOf]; omega)
                · -- a move
                  go_wp2_with fail
                  go_region
                  all_goals
                    go_wp2_with fail
                    go_roundw
                    case rel =>
                      go_light
                      exact ⟨k + 1, s.set o.d (s.get o.a), cur, by omega, by go_num, (.inr (HC20.out (by omega))), HVO.out.set (HVO.out.get a0 a1), (evGo_cont hlt (HST.out.trans (by simp [evStep, HCC.out]))).symm.trans HGO.out, (HE2.out.setOut (4 + o.d.toNat) (.int .u32 (s.get o.a)) (outSet _ _ _)).drewN 1⟩
                    case measure => (go_light; simp [intOf]; omega)
                · -- an operation on words
                  have ga := HVO.out.get a0 a1
                  have gb := HVO.out.get b0 b1
                  have hwr := wordOp_range cc (s.get o.a) (s.get o.b) ga gb
                  have hGlt := heap_lt HE2.out.out
                  have hPlt := heap_lt HOP.out
                  have hPG : wr.heap.size ≠ G := by have := heap_lt HE.out.out; omega
                  have HWO := Lib.hid (fun W => wordOp_any cc (s.get o.a) (s.get o.b) W ga.1 ga.2 gb.1 gb.2)
                  have HGA := Lib.hid ga
                  have HWR := Lib.hid hwr
                  clear ga gb hwr
                  go_wp2_with fail
                  go_region_held3 (fun w' => w'.cell? ⟨wr.heap.size, 0, none⟩ = some (.int .i64 cc) ∧ w'.cell? ⟨wr.heap.size, 1, none⟩ = some (.int .i64 o.d))
                    (first | exact ⟨n0, n1⟩ | exact ⟨k0, k1⟩ | exact ⟨setFar hPG k0, setFar hPG k1⟩)
                    (first | (go_at_call 30; refine (HWO.out _).mono ?_; rintro e w6 ⟨rfl, hb6⟩; have k0 := (hb6.cell (p := ⟨wr.heap.size, 0, none⟩) hPlt).trans n0; have k1 := (hb6.cell (p := ⟨wr.heap.size, 1, none⟩) hPlt).trans n1; have k2 := (hb6.cell (p := ⟨G, 4 + o.d.toNat, none⟩) hGlt).trans x1; have k3 := (hb6.frozen (p := ⟨G, 4 + o.d.toNat, none⟩) hGlt).trans f1))
                  all_goals
                    go_wp2_with fail
                    go_roundw
                    case rel =>
                      go_light
                      have hbx : Below wc.heap.size wc w6 := (⟨rfl, rfl, rfl, Nat.le_refl _, fun _ _ => rfl⟩ : Below wc.heap.size wc wc.drew).trans hb6
                      have hev : evStep b.at_ o s cur = (false, s.set o.d (wordOpL cc (s.get o.a) (s.get o.b)), cur) := by
                        unfold evStep
                        rw [HCC.out, if_neg (by omega), if_neg (by omega), if_neg (by omega), if_neg (by omega), if_neg (by omega), if_neg (by omega), if_neg (by omega), if_neg (by omega)]
                      exact ⟨k + 1, s.set o.d (wordOpL cc (s.get o.a) (s.get o.b)), cur, by omega, by go_num, (.inr (HC20.out (by omega))), HVO.out.set HWR.out, (evGo_cont hlt (HST.out.trans hev)).symm.trans HGO.out, (HE2.out.after hbx).setOut (4 + o.d.toNat) _ (outSet _ _ _)⟩
                    case measure => (go_light; simp [intOf]; omega)
                · -- a load
                  have HLV := Lib.hid (leave_any HE2.out H.out.at_ hB (HC20.out (by omega)).1 (HC20.out (by omega)).2)
                  go_wp2_with (go_at_call 28; refine HLV.out.mono ?_; rintro e w5 ⟨rfl, hl5⟩)
                  go_meet
                  case rel =>
                    go_light
                    have he : s.leave b.at_ cur = R := (evGo_stop (cur' := cur) hlt (HST.out.trans (by simp [evStep, HCC.out]))).symm.trans HGO.out
                    rw [← he]
                    exact ⟨_, hl5⟩
                · -- a load of a byte
                  have HLV := Lib.hid (leave_any HE2.out H.out.at_ hB (HC20.out (by omega)).1 (HC20.out (by omega)).2)
                  go_wp2_with (go_at_call 28; refine HLV.out.mono ?_; rintro e w5 ⟨rfl, hl5⟩)
                  go_meet
                  case rel =>
                    go_light
                    have he : s.leave b.at_ cur = R := (evGo_stop (cur' := cur) hlt (HST.out.trans (by simp [evStep, HCC.out]))).symm.trans HGO.out
                    rw [← he]
                    exact ⟨_, hl5⟩
                · -- a store
                  have HLV := Lib.hid (leave_any HE2.out H.out.at_ hB (HC20.out (by omega)).1 (HC20.out (by omega)).2)
                  go_wp2_with (go_at_call 28; refine HLV.out.mono ?_; rintro e w5 ⟨rfl, hl5⟩)
                  go_meet
                  case rel =>
                    go_light
                    have he : s.leave b.at_ cur = R := (evGo_stop (cur' := cur) hlt (HST.out.trans (by simp [evStep, HCC.out]))).symm.trans HGO.out
                    rw [← he]
                    exact ⟨_, hl5⟩
                · -- a store of a byte
                  have HLV := Lib.hid (leave_any HE2.out H.out.at_ hB (HC20.out (by omega)).1 (HC20.out (by omega)).2)
                  go_wp2_with (go_at_call 28; refine HLV.out.mono ?_; rintro e w5 ⟨rfl, hl5⟩)
                  go_meet
                  case rel =>
                    go_light
                    have he : s.leave b.at_ cur = R := (evGo_stop (cur' := cur) hlt (HST.out.trans (by simp [evStep, HCC.out]))).symm.trans HGO.out
                    rw [← he]
                    exact ⟨_, hl5⟩
                · -- a guard
                  have HLV := Lib.hid (leave_any HE2.out H.out.at_ hB (HC20.out (by omega)).1 (HC20.out (by omega)).2)
                  cases hx : (s.get o.a != 0)
                  · go_wp2_with (go_at_call 28; refine HLV.out.mono ?_; rintro e w5 ⟨rfl, hl5⟩)
                    have hx0 : s.get o.a = 0 := by simpa using hx
                    go_meet
                    case rel =>
                      go_light
                      have he : s.leave b.at_ cur = R := (evGo_stop (cur' := cur) hlt (HST.out.trans (by simp [evStep, HCC.out, hx0]))).symm.trans HGO.out
                      rw [← he]
                      exact ⟨_, hl5⟩
                  · go_wp2_with fail
                    have hx0 : ¬ s.get o.a = 0 := by simpa using hx
                    go_roundw
                    case rel =>
                      go_light
                      exact ⟨k + 1, s, cur, by omega, by go_num, (.inr (HC20.out (by omega))), HVO.out, (evGo_cont hlt (HST.out.trans (by simp [evStep, HCC.out, hx0]))).symm.trans HGO.out, HE2.out⟩
                    case measure => (go_light; simp [intOf]; omega)
                · -- slow
                  have HLV := Lib.hid (leave_any HE2.out H.out.at_ hB (HC20.out (by omega)).1 (HC20.out (by omega)).2)
                  go_wp2_with (go_at_call 28; refine HLV.out.mono ?_; rintro e w5 ⟨rfl, hl5⟩)
                  go_meet
                  case rel =>
                    go_light
                    have he : s.leave b.at_ cur = R := (evGo_stop (cur' := cur) hlt (HST.out.trans (by simp [evStep, HCC.out]))).symm.trans HGO.out
                    rw [← he]
                    exact ⟨_, hl5⟩
                · -- exit if
                  cases hx : (s.get o.a != 0)
                  · go_wp2_with fail
                    have hx0 : s.get o.a = 0 := by simpa using hx
                    go_roundw
                    case rel =>
                      go_light
                      exact ⟨k + 1, s, cur, by omega, by go_num, (.inr (HC20.out (by omega))), HVO.out, (evGo_cont hlt (HST.out.trans (by simp [evStep, HCC.out, hx0]))).symm.trans HGO.out, HE2.out⟩
                    case measure => (go_light; simp [intOf]; omega)
                  · go_wp2_with fail
                    have hx0 : ¬ s.get o.a = 0 := by simpa using hx
                    go_meet
                    case rel =>
                      go_light
                      have he : { s with pc := o.n } = R := (evGo_stop (cur' := cur) hlt (HST.out.trans (by simp [evStep, HCC.out, hx0]))).symm.trans HGO.out
                      rw [← he]
                      exact ⟨_, HE2.out.setOut 3 (.int .u32 o.n) (outPc _ _)⟩
                · -- exit
                  go_wp2_with fail
                  go_roundw
                  case rel =>
                    go_light
                    exact ⟨k + 1, { s with pc := o.n }, cur, by omega, by go_num, (.inr (HC20.out (by omega))), HVO.out, (evGo_cont hlt (HST.out.trans (by simp [evStep, HCC.out]))).symm.trans HGO.out, HE2.out.setOut 3 (.int .u32 o.n) (outPc _ _)⟩
                  case measure => (go_light; simp [intOf]; omega)
                · -- exit var
                  go_wp2_with fail
                  go_roundw
                  case rel =>
                    go_light
                    exact ⟨k + 1, { s with pc := s.get o.a }, cur, by omega, by go_num, (.inr (HC20.out (by omega))), HVO.out, (evGo_cont hlt (HST.out.trans (by simp [evStep, HCC.out]))).symm.trans HGO.out, HE2.out.setOut 3 (.int .u32 (s.get o.a)) (outPc _ _)⟩
                  case measure => (go_light; simp [intOf]; omega)
            · obtain rfl : k = b.ops.length := by omega
              have he : s = R := by have := HGO.out; rw [List.drop_length] at this; exact this
              go_wp2_with fail
              go_meet
              case rel =>
                go_light
                rw [← he]
                exact ⟨_, HE.out⟩
        case rest =>
          obtain ⟨cur, hL⟩ := hcut
          have hRl : R.guests.vars.length = 28 := by
            have : R.vars.length = 28 := by rw [← HR.out, evGo_len]; exact HV.out
            simp [EvOut.guests, this]
          have hcl : ∀ ty, (Builtin.clear_ #[25] ty #[.slice (some ⟨G, 23, none⟩) 9 9]).run Tryd.prog wc = .ok (.tuple #[]) (wc.setCells G 23 (List.replicate 9 (.int .u32 0))) := by
            have hl2 : R.vars.length = 28 := by rw [← HR.out, evGo_len]; exact HV.out
            have hsz : (outCells R).size = 32 := out_size _ hl2
            refine fun ty => Lib.run_clear_slice wc _ 35 ty (.int .u32 0) Tryd.underlying25 zero32 rfl rfl G 23 9 9 (by decide) (fun j hj => ?_) (fun j hj => heap_free hL.out)
            rw [heap_cell (v := (outCells R)[23 + j]'(by omega)) hL.out (by simp)]
            rfl
          have hL4 := hL.guests
          generalize wc.setCells G 23 (List.replicate 9 (.int .u32 0)) = w4 at hcl hL4
          have hout := hL4.out
          have hres := hL4.ew.res
          have hbel := hL4.ew.below
          have HEVR := Lib.hid (show evalNil b vars = R.guests by rw [HEV.out, HR.out])
          clear hL hL4
          have hin : (Tryd.prog.info? 41).map (·.size) = some (outCells R.guests).size := by
            rw [out_size _ hRl]; kernel_rfl
          have hin2 := out_all R.guests
          have hin3 : (outCells zeroOut).size = (outCells R.guests).size := by rw [out_size _ hRl]; rfl
          generalize hoc : outCells R.guests = oc at *
          go_wp2_with (first
            | (rw [hcl])
            | (with_reducible refine wpList_load_row rfl 41 (.tmp 7) rfl G rfl 41 oc (0, 0) _ hout Tryd.underlying41 rfl hin ?_)
            | (refine wpList_store_row (o := ⟨none, .store 41 (.tmp 6) (.tmp 162), _, _, _, _⟩) ?_ 41 (.tmp 6) (.tmp 162) ?_ (w.heap.size + 2) oc ?_ ?_ 41 (outCells zeroOut) hres hin ?_ hin2 ?_; (· rfl); (· rfl); (· rfl); (· rfl); (· exact hin3)))
          go_light
          rw [Exit.noGoto_ret]
          refine bodyPost_ret (results_cell_row rfl _ _ (w.heap.size + 2) 41 oc (0, 0) _ rfl (setRow_heap _ _ _ _ _ _ hres) Tryd.underlying41 rfl hin) rfl ⟨by rw [HEVR.out, hoc], ?_⟩
          exact below_setRow hbel (by omega)
end Go.Proofs.YtojofinofpgopaaDoor
