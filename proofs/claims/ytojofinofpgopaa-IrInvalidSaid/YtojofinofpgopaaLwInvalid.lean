/- The walk of IrInvalid. -/
import Derived.Test.YtojofinofpgopaaMgV
import Derived.Test.YtojofinofpgopaaTurn
namespace Go.Proofs.Ytojofinofpgopaa
open Go.RowKit
set_option maxRecDepth 100000 in
set_option maxHeartbeats 4000000 in
theorem irInvalid_any (A : Option Addr) (cap : Nat) (s : List Int) (q0 q1 q2 : Int) (x : Su) (hu : ∀ v ∈ x.v, U32 v) (w_0 : World) (hA : X2 A s x w_0.heap.size w_0) (hl : s.length ≤ maxLen) (hc : s.length ≤ cap) :
    Calls Try.prog 9 #[.slice A s.length cap, .agg #[.int .i64 q0, .int .i64 q1, .int .i64 q2], .agg (suC x).toArray] w_0 fun e w' => e = .returned (.bool true) ∧ Below w_0.heap.size w_0 w' := by
  have hm : 200000 ≤ maxLen := by unfold maxLen; omega
  have hvo := suV_ok hu
  obtain ⟨z, hz, hz0⟩ := min_nat s.length
  refine calls_wc (args := [.slice A s.length cap, .agg #[.int .i64 q0, .int .i64 q1, .int .i64 q2], .agg (suC x).toArray]) Try.func9 rfl 64 rfl (Nat.le_of_ble_eq_true rfl) ?_
  refine wc_weak (.cons (i := 0) rfl <| .cons (i := 1) rfl <| .cons (i := 2) rfl <| .nil) ?_
  refine wc_conseq (H' := Hp (fun _ => False) w_0 [] [] (X2 A s x w_0.heap.size)) (fun u hu => ?_) ?_
  · subst hu; exact Hp.start hA.foot
  refine wc_seq ?_
  refine wc_region ?_
  refine wl_new .none rfl (nf_box rfl rfl) (fun b4 => ?_)
  refine wl_new .none rfl (nf_box rfl rfl) (fun b5 => ?_)
  refine wl_free .none rfl (yf_assign rfl) ?_
  refine wl_nil ?_
  refine wq_then ?_
  refine wc_seq ?_
  refine wc_region ?_
  refine wl_pure .none rfl (by kernel_rfl) rfl (fun w hw => sanity_any w) ?_
  refine wl_free .none rfl (yf_assign rfl) ?_
  refine wl_nil ?_
  refine wq_then ?_
  refine wc_seq ?_
  refine wc_weak (.cons (i := 0) rfl <| .cons (i := 1) rfl <| .cons (i := 2) rfl <| .cons (i := 4) rfl <| .cons (i := 5) rfl <| .cons (i := 6) rfl <| .cons (i := 7) rfl <| .nil) ?_
  refine wc_drawTN 9 [0, 1, 2, 3, 4, 5, 6, 7, 8] (Blk b4 (bk 30 [.int .i64 q0, .int .i64 q1, .int .i64 q2])) (by kernel_rfl) (by kernel_rfl) Blk.stab (fun w h => HpG.blk h (k := 1) rfl) (fun n0 hn0 => ?_)
  refine wd_at rfl ?_
  (refine wd_free ?_ .none rfl (yf_move rfl) ?_; (· rfl);  skip)
  refine wd_at rfl ?_
  (refine wd_free ?_ .none rfl (yf_move rfl) ?_; (· rfl);  skip)
  refine wd_at rfl ?_
  (refine wd_free ?_ .none rfl (yf_lenS rfl Try.underlying23) ?_; (· rfl);  skip)
  refine wd_at rfl ?_
  (refine wd_free ?_ .none rfl (yf_min rfl rfl) ?_; (· rfl);  skip)
  refine wd_at rfl ?_
  (refine wd_free ?_ .none rfl (yf_sliceHi (size := 1) rfl rfl Try.underlying23 (by kernel_rfl) hz ?_) ?_; (· rfl); (· omega); skip)
  refine wd_at rfl ?_
  refine wd_callG (C := fun i : BR => i.Ok ∧ validL i.b = true) (val := fun i => i.v) (S' := fun i => HpF (fun k => k < n0) (fun _ => False) w_0 [(b5, bk 50 (suC x)), (b4, bk 30 [.int .i64 q0, .int .i64 q1, .int .i64 q2])] (i.rows ++ []) (X2 A s x w_0.heap.size)) .none rfl (by kernel_rfl) rfl (fun _ _ => HpF.stab) (fun w hw hj => (made_call (HpG.x hw).1 z hz0 hl).mono fun e w' ⟨i, h1, h2, h3⟩ => ⟨i, h1, h2, Keep.of_ext (HpG.ext h3), Blk.onE hj (HpG.ext h3), HpF.callR (HpF.of hw) h3⟩) (fun i hi => ?_)
  obtain ⟨hi, hv⟩ := hi
  refine wd_at rfl ?_
  (refine wd_free ?_ .none rfl (yf_loadRowJ rfl Try.underlying30 rfl (by kernel_rfl)) ?_; (· rfl);  skip)
  refine wd_at rfl ?_
  refine wd_callG (C := fun j : BR => j.OkN 100001) (val := fun j => j.v) (S' := fun j => HpF (fun k => k < n0) (fun _ => False) w_0 [(b5, bk 50 (suC x)), (b4, bk 30 [.int .i64 q0, .int .i64 q1, .int .i64 q2])] (j.rows ++ (i.rows ++ [])) (X2 A s x w_0.heap.size)) .none rfl (by kernel_rfl) rfl (fun _ _ => HpF.stab) (fun w hw hj => (turned_any q0 q1 q2 i 100000 w (BRd.of hw.hp fun r hr => List.mem_append_left _ hr) hi.n (by decide)).mono fun e w' ⟨j, h1, h2, h3⟩ => ⟨j, h1, h2, Keep.of_ext (HpG.ext h3), Blk.onE hj (HpG.ext h3), HpF.callR hw h3⟩) (fun j hj => ?_)
  refine wd_at rfl ?_
  refine wd_newF rfl .none rfl (fun k hk => Nat.lt_of_lt_of_le hk hn0) (nf_alloc (z := .agg #[.slice none 0 0, .slice none 0 0, .slice none 0 0]) (cs := [.slice none 0 0, .slice none 0 0, .slice none 0 0]) (by kernel_rfl) rfl) (no_cons rfl (no_cons rfl (fun p hp => by cases hp))) (no_appR (rows_no ⟨rfl, rfl, rfl⟩) (no_appR (rows_no ⟨rfl, rfl, rfl⟩) no_nilR)) (fun b8 _ => ?_)
  refine wd_endTF ?_
  simp only [List.drop_succ_cons, List.drop_zero]
  first | refine wl_chain0 .none (cf_storeRow 0 rfl rfl rfl rfl rfl (by kernel_rfl)) (fun _ => ?_) | refine wl_chain0 .none (cf_storeRow 1 rfl rfl rfl rfl rfl (by kernel_rfl)) (fun _ => ?_) | refine wl_chain0 .none (cf_storeRow 2 rfl rfl rfl rfl rfl (by kernel_rfl)) (fun _ => ?_) | refine wl_chain0 .none (cf_storeRow 3 rfl rfl rfl rfl rfl (by kernel_rfl)) (fun _ => ?_) | refine wl_chain0 .none (cf_storeRow 4 rfl rfl rfl rfl rfl (by kernel_rfl)) (fun _ => ?_) | refine wl_chain0 .none (cf_storeRow 5 rfl rfl rfl rfl rfl (by kernel_rfl)) (fun _ => ?_)
  refine wl_nil ?_
  refine wq_then ?_
  refine wc_seq ?_
  refine wc_weak (.cons (i := 0) rfl <| .cons (i := 1) rfl <| .cons (i := 2) rfl <| .cons (i := 4) rfl <| .cons (i := 5) rfl <| .cons (i := 6) rfl <| .cons (i := 7) rfl <| .cons (i := 8) rfl <| .nil) ?_
  refine wc_region ?_
  first | refine wl_free .none rfl (yf_loadAllL 0 rfl rfl Try.underlying26 rfl (by kernel_rfl)) ?_ | refine wl_free .none rfl (yf_loadAllL 1 rfl rfl Try.underlying26 rfl (by kernel_rfl)) ?_ | refine wl_free .none rfl (yf_loadAllL 2 rfl rfl Try.underlying26 rfl (by kernel_rfl)) ?_ | refine wl_free .none rfl (yf_loadAllL 3 rfl rfl Try.underlying26 rfl (by kernel_rfl)) ?_ | refine wl_free .none rfl (yf_loadAllL 4 rfl rfl Try.underlying26 rfl (by kernel_rfl)) ?_ | refine wl_free .none rfl (yf_loadAllL 5 rfl rfl Try.underlying26 rfl (by kernel_rfl)) ?_
  refine wl_pure .none rfl (by kernel_rfl) rfl (fun w hw => refValid_call (BRd.of hw fun r hr => List.mem_append_left _ hr) hj (by omega)) ?_
  refine wl_free .none rfl (yf_assign rfl) ?_
  refine wl_nil ?_
  refine wq_then ?_
  refine wc_seq ?_
  refine wc_weak (.cons (i := 0) rfl <| .cons (i := 1) rfl <| .cons (i := 2) rfl <| .cons (i := 4) rfl <| .cons (i := 5) rfl <| .cons (i := 6) rfl <| .cons (i := 7) rfl <| .cons (i := 8) rfl <| .cons (i := 9) rfl <| .nil) ?_
  refine wc_region ?_
  first | refine wl_free .none rfl (yf_loadAllL 0 rfl rfl Try.underlying50 rfl (by kernel_rfl)) ?_ | refine wl_free .none rfl (yf_loadAllL 1 rfl rfl Try.underlying50 rfl (by kernel_rfl)) ?_ | refine wl_free .none rfl (yf_loadAllL 2 rfl rfl Try.underlying50 rfl (by kernel_rfl)) ?_ | refine wl_free .none rfl (yf_loadAllL 3 rfl rfl Try.underlying50 rfl (by kernel_rfl)) ?_ | refine wl_free .none rfl (yf_loadAllL 4 rfl rfl Try.underlying50 rfl (by kernel_rfl)) ?_ | refine wl_free .none rfl (yf_loadAllL 5 rfl rfl Try.underlying50 rfl (by kernel_rfl)) ?_
  refine wl_callN .none rfl (by kernel_rfl) rfl (fun w hw => memory_any x w) (fun μ hμ => ?_)
  obtain ⟨ok, hby, hr⟩ := hμ
  refine wl_free .none rfl (yf_assign rfl) ?_
  refine wl_nil ?_
  refine wq_then ?_
  refine wc_seq ?_
  refine wc_weak (.cons (i := 0) rfl <| .cons (i := 1) rfl <| .cons (i := 2) rfl <| .cons (i := 4) rfl <| .cons (i := 5) rfl <| .cons (i := 6) rfl <| .cons (i := 7) rfl <| .cons (i := 8) rfl <| .cons (i := 9) rfl <| .cons (i := 10) rfl <| .nil) ?_
  refine wc_drawTN 7 [0, 1, 2, 3, 4, 5, 6] (J2 b8 b5 (bk 26 (blkC j)) (bk 50 (suC x))) (by kernel_rfl) (by kernel_rfl) J2.stab (fun _ h => ⟨HpG.blk h (k := 0) rfl, HpG.blk h (k := 1) rfl⟩) (fun n0 hn0 => ?_)
  refine wd_at rfl ?_
  (refine wd_free ?_ .none rfl (YF.anti (yf_loadRowJ rfl Try.underlying26 rfl (by kernel_rfl)) (fun _ h => h.1)) ?_; (· rfl);  skip)
  refine wd_at rfl ?_
  (refine wd_free ?_ .none rfl (YF.anti (yf_loadRowJ rfl Try.underlying50 rfl (by kernel_rfl)) (fun _ h => h.2)) ?_; (· rfl);  skip)
  refine wd_at rfl ?_
  refine wd_pure .none rfl (by kernel_rfl) rfl J2.ext (fun w hw => vars_any x w (HpG.x hw).2) ?_
  refine wd_at rfl ?_
  (refine wd_free ?_ .none rfl (yf_move rfl) ?_; (· rfl);  skip)
  refine wd_at rfl ?_
  (refine wd_free ?_ .none rfl (yf_makeIface rfl Try.underlying51 rfl) ?_; (· rfl);  skip)
  refine wd_at rfl ?_
  refine wd_callG (C := fun μ' : Mm => μ'.Ok ∧ μ.Same μ' ∧ μ'.pm = (evalM j.b (suV x) μ.pm).2) (val := fun _ => .agg (ouL (evalM j.b (suV x) μ.pm).1).toArray) (S' := fun μ' => HpF (fun k => k < n0) (fun _ => False) w_0 ([(b8, bk 26 (blkC j)), (b5, bk 50 (suC x)), (b4, bk 30 [.int .i64 q0, .int .i64 q1, .int .i64 q2])] ++ memL μ') (j.rows ++ (i.rows ++ [])) (X2 A s x w_0.heap.size)) .none rfl (by kernel_rfl) rfl (fun _ _ => HpF.stab) (fun w hw hj' => by
    have hw : HpG (fun k => k < n0) (fun _ => False) w_0 ([(b8, bk 26 (blkC j)), (b5, bk 50 (suC x)), (b4, bk 30 [.int .i64 q0, .int .i64 q1, .int .i64 q2])] ++ memL μ) (j.rows ++ (i.rows ++ [])) (X2 A s x w_0.heap.size) w := hw
    exact (irEval_call j hj (by omega) hvo ok (fun p hp => HpG.own hw p (List.mem_append_right _ hp)) (BRd.ofR hw fun r hr => List.mem_append_left _ hr)).mono fun e w' ⟨μ', h1, h2, h3⟩ => ⟨μ', h1, h2, (HpG.keep h3).mono fun q _ hq => hw.inG q (List.mem_append_left _ (by rw [List.map_append]; exact List.mem_append_right _ hq)), ⟨Blk.keep hj'.1 (HpG.keep h3) (HpG.notin hw (p := (b8, _)) (List.mem_cons_self ..)), Blk.keep hj'.2 (HpG.keep h3) (HpG.notin hw (p := (b5, _)) (List.mem_cons_of_mem _ (List.mem_cons_self ..)))⟩, HpF.callM (HpF.of hw) h3⟩) (fun μ' hμ' => ?_)
  obtain ⟨ok', same', hpm'⟩ := hμ'
  refine wd_at rfl ?_
  refine wd_newF rfl .none rfl (fun k hk => Nat.lt_of_lt_of_le hk hn0) (nf_alloc (z := .agg (ouL zeroOut).toArray) (cs := ouL zeroOut) (by kernel_rfl) rfl) (no_append (no_cons rfl (no_cons rfl (no_cons rfl (fun p hp => by cases hp)))) (memL_no ⟨rfl, rfl, rfl⟩)) (no_appR (rows_no ⟨rfl, rfl, rfl⟩) (no_appR (rows_no ⟨rfl, rfl, rfl⟩) no_nilR)) (fun b11 _ => ?_)
  refine wd_endTF ?_
  simp only [List.drop_succ_cons, List.drop_zero]
  refine wl_chain0 .none (cf_storeAll (seg := ouL (evalM j.b (suV x) μ.pm).1) 0 rfl rfl rfl (fun v hv => List.all_eq_true.1 (ouL_all _) v hv) (by rw [ouL_len, evalM_len hvo.1]; rfl) (ou32 (evalM_len hvo.1 _ _))) (fun _ => ?_)
  refine wl_nil ?_
  refine wq_then ?_
  refine wc_seq ?_
  refine wc_weak (.cons (i := 0) rfl <| .cons (i := 1) rfl <| .cons (i := 2) rfl <| .cons (i := 4) rfl <| .cons (i := 5) rfl <| .cons (i := 6) rfl <| .cons (i := 7) rfl <| .cons (i := 8) rfl <| .cons (i := 9) rfl <| .cons (i := 10) rfl <| .cons (i := 11) rfl <| .nil) ?_
  refine wc_drawTN 5 [0, 1, 2, 3, 4] (J2 b8 b5 (bk 26 (blkC j)) (bk 50 (suC x))) (by kernel_rfl) (by kernel_rfl) J2.stab (fun _ h => ⟨HpG.blk h (k := 1) rfl, HpG.blk h (k := 2) rfl⟩) (fun n0 hn0 => ?_)
  refine wd_at rfl ?_
  (refine wd_free ?_ .none rfl (YF.anti (yf_loadRowJ rfl Try.underlying26 rfl (by kernel_rfl)) (fun _ h => h.1)) ?_; (· rfl);  skip)
  refine wd_at rfl ?_
  (refine wd_free ?_ .none rfl (YF.anti (yf_loadRowJ rfl Try.underlying50 rfl (by kernel_rfl)) (fun _ h => h.2)) ?_; (· rfl);  skip)
  refine wd_at rfl ?_
  refine wd_pure .none rfl (by kernel_rfl) rfl J2.ext (fun w hw => vars_any x w (HpG.x hw).2) ?_
  refine wd_at rfl ?_
  refine wd_pure .none rfl (by kernel_rfl) rfl J2.ext (fun w hw => irEvalNil_call j hj (by omega) hvo (BRd.of hw fun r hr => List.mem_append_left _ hr)) ?_
  refine wd_at rfl ?_
  refine wd_newH ?_ .none rfl (fun k hk => Nat.lt_of_lt_of_le hk hn0) (nf_alloc (z := .agg #[.bool false, .int .i64 0, .int .i64 0, .int .u32 0, .int .u32 0, .int .u32 0, .int .u32 0, .int .u32 0, .int .u32 0, .int .u32 0, .int .u32 0, .int .u32 0, .int .u32 0, .int .u32 0, .int .u32 0, .int .u32 0, .int .u32 0, .int .u32 0, .int .u32 0, .int .u32 0, .int .u32 0, .int .u32 0, .int .u32 0, .int .u32 0, .int .u32 0, .int .u32 0, .int .u32 0, .int .u32 0, .int .u32 0, .int .u32 0, .int .u32 0, .int .u32 0]) (cs := [.bool false, .int .i64 0, .int .i64 0, .int .u32 0, .int .u32 0, .int .u32 0, .int .u32 0, .int .u32 0, .int .u32 0, .int .u32 0, .int .u32 0, .int .u32 0, .int .u32 0, .int .u32 0, .int .u32 0, .int .u32 0, .int .u32 0, .int .u32 0, .int .u32 0, .int .u32 0, .int .u32 0, .int .u32 0, .int .u32 0, .int .u32 0, .int .u32 0, .int .u32 0, .int .u32 0, .int .u32 0, .int .u32 0, .int .u32 0, .int .u32 0, .int .u32 0]) (by kernel_rfl) rfl) (fun b12 hb12 => ?_)
  · rfl
  refine wd_endTH ?_
  simp only [List.drop_succ_cons, List.drop_zero]
  refine wl_chain0 .none (cf_storeAll (seg := ouL (evalM j.b (suV x) none).1) 0 rfl rfl rfl (fun v hv => List.all_eq_true.1 (ouL_all _) v hv) (by rw [ouL_len, evalM_len hvo.1]; rfl) (ou32 (evalM_len hvo.1 _ _))) (fun _ => ?_)
  refine wl_nil ?_
  refine wq_then ?_
  refine wc_seq ?_
  refine wc_seq ?_
  refine wc_weak (.cons (i := 0) rfl <| .cons (i := 1) rfl <| .cons (i := 2) rfl <| .cons (i := 4) rfl <| .cons (i := 5) rfl <| .cons (i := 6) rfl <| .cons (i := 7) rfl <| .cons (i := 8) rfl <| .cons (i := 9) rfl <| .cons (i := 10) rfl <| .cons (i := 11) rfl <| .cons (i := 12) rfl <| .nil) ?_
  refine wc_region ?_
  refine wl_free .none rfl (yf_move rfl) ?_
  refine wl_free .none rfl (yf_not rfl) ?_
  refine wl_nil ?_
  refine wq_then ?_
  refine wc_cond rfl (fun hc => ?_) (fun hc => ?_)
  · skip
    have hval : validL j.b = false := by simpa using hc
    have hE : ∀ m, evalM j.b (suV x) m = (zeroOut, m) := fun m => by rw [evalM, hval]; rfl
    have hpm2 : μ'.pm = suM x := by rw [hpm', hE]; exact su_pm hby hr
    refine wc_seq ?_
    refine wc_weak (.cons (i := 0) rfl <| .cons (i := 1) rfl <| .cons (i := 2) rfl <| .cons (i := 4) rfl <| .cons (i := 5) rfl <| .cons (i := 6) rfl <| .cons (i := 7) rfl <| .cons (i := 8) rfl <| .cons (i := 9) rfl <| .cons (i := 10) rfl <| .cons (i := 11) rfl <| .cons (i := 12) rfl <| .cons (i := 37) rfl <| .nil) ?_
    refine wc_region ?_
    refine wl_free .none rfl (yf_move rfl) ?_
    refine wl_free .none rfl (yf_move rfl) ?_
    refine wl_split 39 rfl (fun hb => ?_) (fun hb => ?_)
    · skip
      refine wl_free (.some rfl rfl) rfl (yf_loadAllL 1 rfl rfl Try.underlying39 rfl (ou32 (evalM_len hvo.1 _ _))) ?_
      refine wl_free (.some rfl rfl) rfl (yf_buildS [.bool false, .int .i64 0, .int .i64 0, .int .u32 0, .int .u32 0, .int .u32 0, .int .u32 0, .int .u32 0, .int .u32 0, .int .u32 0, .int .u32 0, .int .u32 0, .int .u32 0, .int .u32 0, .int .u32 0, .int .u32 0, .int .u32 0, .int .u32 0, .int .u32 0, .int .u32 0, .int .u32 0, .int .u32 0, .int .u32 0, .int .u32 0, .int .u32 0, .int .u32 0, .int .u32 0, .int .u32 0, .int .u32 0, .int .u32 0, .int .u32 0, .int .u32 0] [(0, 1), (1, 1), (2, 1), (3, 1), (4, 28)] rfl (by kernel_rfl) (by kernel_rfl) rfl) ?_
      refine wl_free (.some rfl rfl) rfl (yf_eqlAgg (r := true) rfl rfl (by kernel_rfl) (fun W => by rw [hE]; exact eqOut (s := zeroOut) rfl W)) ?_
      refine wl_free .none rfl (yf_pickT rfl rfl) ?_
      refine wl_free .none rfl (yf_move rfl) ?_
      refine wl_split 44 rfl (fun hb => ?_) (fun hb => ?_)
      · skip
        refine wl_free (.some rfl rfl) rfl (yf_loadAllL 0 rfl rfl Try.underlying39 rfl (ou32 (evalM_len hvo.1 _ _))) ?_
        refine wl_free (.some rfl rfl) rfl (yf_buildS [.bool false, .int .i64 0, .int .i64 0, .int .u32 0, .int .u32 0, .int .u32 0, .int .u32 0, .int .u32 0, .int .u32 0, .int .u32 0, .int .u32 0, .int .u32 0, .int .u32 0, .int .u32 0, .int .u32 0, .int .u32 0, .int .u32 0, .int .u32 0, .int .u32 0, .int .u32 0, .int .u32 0, .int .u32 0, .int .u32 0, .int .u32 0, .int .u32 0, .int .u32 0, .int .u32 0, .int .u32 0, .int .u32 0, .int .u32 0, .int .u32 0, .int .u32 0] [(0, 1), (1, 1), (2, 1), (3, 1), (4, 28)] rfl (by kernel_rfl) (by kernel_rfl) rfl) ?_
        refine wl_free (.some rfl rfl) rfl (yf_eqlAgg (r := true) rfl rfl (by kernel_rfl) (fun W => by rw [hE]; exact eqOut (s := zeroOut) rfl W)) ?_
        refine wl_free .none rfl (yf_pickT rfl rfl) ?_
        refine wl_free .none rfl (yf_move rfl) ?_
        refine wl_split 49 rfl (fun hb => ?_) (fun hb => ?_)
        · skip
          refine wl_free (.some rfl rfl) rfl (yf_move rfl) ?_
          first | refine wl_free (.some rfl rfl) rfl (yf_loadAllL 0 rfl rfl Try.underlying50 rfl (by kernel_rfl)) ?_ | refine wl_free (.some rfl rfl) rfl (yf_loadAllL 1 rfl rfl Try.underlying50 rfl (by kernel_rfl)) ?_ | refine wl_free (.some rfl rfl) rfl (yf_loadAllL 2 rfl rfl Try.underlying50 rfl (by kernel_rfl)) ?_ | refine wl_free (.some rfl rfl) rfl (yf_loadAllL 3 rfl rfl Try.underlying50 rfl (by kernel_rfl)) ?_ | refine wl_free (.some rfl rfl) rfl (yf_loadAllL 4 rfl rfl Try.underlying50 rfl (by kernel_rfl)) ?_ | refine wl_free (.some rfl rfl) rfl (yf_loadAllL 5 rfl rfl Try.underlying50 rfl (by kernel_rfl)) ?_
          refine wl_callN (.some rfl rfl) rfl (by kernel_rfl) rfl (fun w hw => model_any x w) (fun ν hν => ?_)
          obtain ⟨okν, hbν, hrν⟩ := hν
          refine wl_pure (.some rfl rfl) rfl (by kernel_rfl) rfl (fun w hw => by
            rw [← same'.M]
            refine bytes_any μ' ok'.toWf ν okν ?_ w ⟨fun p hp => HpG.own hw p (List.mem_append_left _ (List.mem_cons_of_mem _ (List.mem_cons_of_mem _ (List.mem_cons_of_mem _ (List.mem_cons_of_mem _ (List.mem_cons_of_mem _ hp)))))), fun p hp => HpG.own hw p (List.mem_append_right _ hp)⟩
            exact congrArg (fun q : PM => match q with | some r => r.2 | none => []) (hpm2.trans (su_rm hbν hrν).symm)) ?_
          refine wl_free .none rfl (yf_pickT rfl rfl) ?_
          refine wl_free .none rfl (yf_assign rfl) ?_
          refine wl_nil ?_
          refine wq_then ?_
          refine wc_ret ?_
          refine wq_then_ret ?_
          refine wq_ret1 rfl rfl (fun w hw => ?_)
          exact ⟨rfl, (HpG.keep hw).ext⟩
        · skip
          cases hb
      · skip
        cases hb
    · skip
      cases hb
  · skip
    refine wc_skip ?_
    refine wq_then ?_
    refine wc_seq ?_
    refine wc_weak (.cons (i := 0) rfl <| .cons (i := 1) rfl <| .cons (i := 2) rfl <| .cons (i := 4) rfl <| .cons (i := 5) rfl <| .cons (i := 6) rfl <| .cons (i := 7) rfl <| .cons (i := 8) rfl <| .cons (i := 9) rfl <| .cons (i := 10) rfl <| .cons (i := 11) rfl <| .cons (i := 12) rfl <| .cons (i := 37) rfl <| .nil) ?_
    refine wc_drawN [0, 1, 2, 3, 4, 5, 6, 7, 8, 9] _ (by kernel_rfl) (by kernel_rfl) HpG.stab (fun _ h => h) (fun n0 hn0 => ?_)
    refine wd_at rfl ?_
    (refine wd_free ?_ .none rfl (yf_move rfl) ?_; (· rfl);  skip)
    refine wd_at rfl ?_
    (refine wd_free ?_ .none rfl (yf_move rfl) ?_; (· rfl);  skip)
    refine wd_split 56 rfl (fun hb => ?_) (fun hb => ?_)
    · skip
      refine wd_at rfl ?_
      (refine wd_free ?_ (.some rfl rfl) rfl (yf_loadAllL 0 rfl rfl Try.underlying39 rfl (ou32 (evalM_len hvo.1 _ _))) ?_; (· rfl);  skip)
      refine wd_at rfl ?_
      first | (refine wd_free ?_ (.some rfl rfl) rfl (yf_loadAllL 0 rfl rfl Try.underlying26 rfl (by kernel_rfl)) ?_; (· rfl);  skip) | (refine wd_free ?_ (.some rfl rfl) rfl (yf_loadAllL 1 rfl rfl Try.underlying26 rfl (by kernel_rfl)) ?_; (· rfl);  skip) | (refine wd_free ?_ (.some rfl rfl) rfl (yf_loadAllL 2 rfl rfl Try.underlying26 rfl (by kernel_rfl)) ?_; (· rfl);  skip) | (refine wd_free ?_ (.some rfl rfl) rfl (yf_loadAllL 3 rfl rfl Try.underlying26 rfl (by kernel_rfl)) ?_; (· rfl);  skip) | (refine wd_free ?_ (.some rfl rfl) rfl (yf_loadAllL 4 rfl rfl Try.underlying26 rfl (by kernel_rfl)) ?_; (· rfl);  skip) | (refine wd_free ?_ (.some rfl rfl) rfl (yf_loadAllL 5 rfl rfl Try.underlying26 rfl (by kernel_rfl)) ?_; (· rfl);  skip)
      refine wd_at rfl ?_
      first | (refine wd_free ?_ (.some rfl rfl) rfl (yf_loadAllL 0 rfl rfl Try.underlying50 rfl (by kernel_rfl)) ?_; (· rfl);  skip) | (refine wd_free ?_ (.some rfl rfl) rfl (yf_loadAllL 1 rfl rfl Try.underlying50 rfl (by kernel_rfl)) ?_; (· rfl);  skip) | (refine wd_free ?_ (.some rfl rfl) rfl (yf_loadAllL 2 rfl rfl Try.underlying50 rfl (by kernel_rfl)) ?_; (· rfl);  skip) | (refine wd_free ?_ (.some rfl rfl) rfl (yf_loadAllL 3 rfl rfl Try.underlying50 rfl (by kernel_rfl)) ?_; (· rfl);  skip) | (refine wd_free ?_ (.some rfl rfl) rfl (yf_loadAllL 4 rfl rfl Try.underlying50 rfl (by kernel_rfl)) ?_; (· rfl);  skip) | (refine wd_free ?_ (.some rfl rfl) rfl (yf_loadAllL 5 rfl rfl Try.underlying50 rfl (by kernel_rfl)) ?_; (· rfl);  skip)
      refine wd_at rfl ?_
      refine wd_pure (.some rfl rfl) rfl (by kernel_rfl) rfl (fun _ _ hj hx => HpG.onE hj hx) (fun w hw => vars_any x w (HpG.x hw).2) ?_
      refine wd_at rfl ?_
      refine wd_pure (.some rfl rfl) rfl (by kernel_rfl) rfl (fun _ _ hj hx => HpG.onE hj hx) (fun w hw => refEvalNil_call j hj (by omega) hvo (BRd.of hw fun r hr => List.mem_append_left _ hr)) ?_
      refine wd_at rfl ?_
      refine wd_pure (.some rfl rfl) rfl (by kernel_rfl) rfl (fun _ _ hj hx => HpG.onE hj hx) (fun w hw => equal_any (evalM j.b (suV x) none).1 (evalM_len hvo.1 _ _) w) ?_
      refine wd_at rfl ?_
      (refine wd_free ?_ .none rfl (yf_pickT rfl rfl) ?_; (· rfl);  skip)
      refine wd_at rfl ?_
      (refine wd_free ?_ .none rfl (yf_assign rfl) ?_; (· rfl);  skip)
      refine wd_endH ?_
      refine wq_then ?_
      refine wc_ret ?_
      refine wq_ret1 rfl rfl (fun w hw => ?_)
      exact ⟨rfl, (HpG.keep hw).ext⟩
    · skip
      cases hb
end Go.Proofs.Ytojofinofpgopaa
