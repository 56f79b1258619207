/- The walk of IrTemporaries. -/
import Derived.Test.YtojofinofpgopaaMgV
import Derived.Test.YtojofinofpgopaaPlTmp
namespace Go.Proofs.Ytojofinofpgopaa
open Go.RowKit
theorem rd_blk {g T : Nat} {cs : List Value} {w : World} (h : w.heap[g]? = some (bk T cs)) : Rd (some ⟨g, 0, none⟩) cs w := fun h0 => ⟨g, 0, rfl, fun i hi => by
  rw [Nat.zero_add, cell_of_row w g i _ _ _ h, List.getElem?_toArray, List.getElem?_eq_getElem hi, List.getD_eq_getElem?_getD, List.getElem?_eq_getElem hi]; rfl⟩
def tmpV (v ot : List Int) : List Int := v.take 19 ++ ot
theorem tmpV_len {v ot : List Int} (hv : v.length = 28) (ho : ot.length = 9) : (tmpV v ot).length = 28 := by simp [tmpV, hv, ho]
theorem tmpV_row {v ot : List Int} (hv : v.length = 28) (ho : ot.length = 9) : (u32s v).take 19 ++ u32s ot ++ (u32s v).drop (19 + (u32s ot).length) = u32s (tmpV v ot) := by
  rw [us_len, ho, List.drop_of_length_le (by rw [us_len, hv]; omega), List.append_nil]
  simp [u32s, tmpV]
theorem tmpV_ok {v ot : List Int} (hv : VarsOk v) (ho : ot.length = 9) (hu : ∀ n ∈ ot, U32 n) : VarsOk (tmpV v ot) := by
  refine ⟨tmpV_len hv.1 ho, fun n hn => ?_⟩
  rcases List.mem_append.1 hn with hn | hn
  · exact hv.2 n (List.mem_of_mem_take hn)
  · exact hu n hn
theorem tmpV_low {v ot : List Int} (hv : v.length = 28) (i : Nat) (hi : i < 19) : v.getD i 0 = (tmpV v ot).getD i 0 := by
  rw [List.getD_eq_getElem?_getD, List.getD_eq_getElem?_getD, tmpV, List.getElem?_append_left (by rw [List.length_take]; omega), List.getElem?_take_of_lt hi]
theorem pm_eq {μ μ' : Mm} (h : μ.pm = μ'.pm) : μ.rs = μ'.rs ∧ μ.bytes = μ'.bytes := by
  injection h with h
  injection h with h1 h2
  exact ⟨h1, h2⟩
set_option maxRecDepth 100000 in
set_option maxHeartbeats 4000000 in
theorem irTemporaries_any (A : Option Addr) (cap : Nat) (s : List Int) (x : Su) (hu : ∀ v ∈ x.v, U32 v) (ot : List Int) (hot : ot.length = 9) (hou : ∀ v ∈ ot, U32 v) (w_0 : World) (hA : X2 A s x w_0.heap.size w_0) (hl : s.length ≤ maxLen) (hc : s.length ≤ cap) :
    Calls Try.prog 11 #[.slice A s.length cap, .agg (suC x).toArray, .agg (u32s ot).toArray] w_0 fun e w' => e = .returned (.bool true) ∧ Below w_0.heap.size w_0 w' := by
  have hm : 200000 ≤ maxLen := by unfold maxLen; omega
  have hvo := suV_ok hu
  have hto := tmpV_ok hvo hot hou
  obtain ⟨z, hz, hz0⟩ := min_nat s.length
  refine calls_wc (args := [.slice A s.length cap, .agg (suC x).toArray, .agg (u32s ot).toArray]) Try.func11 rfl 62 rfl (Nat.le_of_ble_eq_true rfl) ?_
  refine wc_weak (.cons (i := 0) rfl <| .cons (i := 1) rfl <| .cons (i := 2) rfl <| .nil) ?_
  refine wc_conseq (H' := Hp (fun _ => False) w_0 [] [] (X2 A s x w_0.heap.size)) (fun u hu => ?_) ?_
  · subst hu; exact Hp.start hA.foot
  refine wc_seq ?_
  refine wc_region ?_
  refine wl_new .none rfl (nf_box rfl rfl) (fun b4 => ?_)
  refine wl_new .none rfl (nf_box rfl rfl) (fun b5 => ?_)
  refine wl_free .none rfl (yf_assign rfl) ?_
  refine wl_nil ?_
  refine wq_then ?_
  refine wc_seq ?_
  refine wc_region ?_
  refine wl_pure .none rfl (by kernel_rfl) rfl (fun w hw => sanity_any w) ?_
  refine wl_free .none rfl (yf_assign rfl) ?_
  refine wl_nil ?_
  refine wq_then ?_
  refine wc_seq ?_
  refine wc_weak (.cons (i := 0) rfl <| .cons (i := 1) rfl <| .cons (i := 2) rfl <| .cons (i := 4) rfl <| .cons (i := 5) rfl <| .cons (i := 6) rfl <| .cons (i := 7) rfl <| .nil) ?_
  refine wc_region ?_
  refine wl_free .none rfl (yf_move rfl) ?_
  refine wl_free .none rfl (yf_move rfl) ?_
  refine wl_free .none rfl (yf_lenS rfl Try.underlying23) ?_
  refine wl_free .none rfl (yf_min rfl rfl) ?_
  (refine wl_free .none rfl (yf_sliceHi (size := 1) rfl rfl Try.underlying23 (by kernel_rfl) hz ?_) ?_; (· omega); skip)
  refine wl_callR .none rfl (by kernel_rfl) rfl (fun w hw => made_call (HpG.x hw).1 z hz0 hl) (fun i hi => ?_)
  obtain ⟨hi, hv⟩ := hi
  refine wl_new .none rfl (nf_alloc (z := .agg #[.slice none 0 0, .slice none 0 0, .slice none 0 0]) (cs := [.slice none 0 0, .slice none 0 0, .slice none 0 0]) (by kernel_rfl) rfl) (fun b8 => ?_)
  first | refine wl_chain0 .none (cf_storeRow 0 rfl rfl rfl rfl rfl (by kernel_rfl)) (fun _ => ?_) | refine wl_chain0 .none (cf_storeRow 1 rfl rfl rfl rfl rfl (by kernel_rfl)) (fun _ => ?_) | refine wl_chain0 .none (cf_storeRow 2 rfl rfl rfl rfl rfl (by kernel_rfl)) (fun _ => ?_) | refine wl_chain0 .none (cf_storeRow 3 rfl rfl rfl rfl rfl (by kernel_rfl)) (fun _ => ?_) | refine wl_chain0 .none (cf_storeRow 4 rfl rfl rfl rfl rfl (by kernel_rfl)) (fun _ => ?_) | refine wl_chain0 .none (cf_storeRow 5 rfl rfl rfl rfl rfl (by kernel_rfl)) (fun _ => ?_)
  refine wl_nil ?_
  refine wq_then ?_
  refine wc_seq ?_
  refine wc_weak (.cons (i := 0) rfl <| .cons (i := 1) rfl <| .cons (i := 2) rfl <| .cons (i := 4) rfl <| .cons (i := 5) rfl <| .cons (i := 6) rfl <| .cons (i := 7) rfl <| .cons (i := 8) rfl <| .nil) ?_
  refine wc_region ?_
  first | refine wl_free .none rfl (yf_loadAllL 0 rfl rfl Try.underlying50 rfl (by kernel_rfl)) ?_ | refine wl_free .none rfl (yf_loadAllL 1 rfl rfl Try.underlying50 rfl (by kernel_rfl)) ?_ | refine wl_free .none rfl (yf_loadAllL 2 rfl rfl Try.underlying50 rfl (by kernel_rfl)) ?_ | refine wl_free .none rfl (yf_loadAllL 3 rfl rfl Try.underlying50 rfl (by kernel_rfl)) ?_ | refine wl_free .none rfl (yf_loadAllL 4 rfl rfl Try.underlying50 rfl (by kernel_rfl)) ?_ | refine wl_free .none rfl (yf_loadAllL 5 rfl rfl Try.underlying50 rfl (by kernel_rfl)) ?_
  refine wl_pure .none rfl (by kernel_rfl) rfl (fun w hw => vars_any x w (HpG.x hw).2) ?_
  refine wl_new .none rfl (nf_alloc (z := .agg #[.int .u32 0, .int .u32 0, .int .u32 0, .int .u32 0, .int .u32 0, .int .u32 0, .int .u32 0, .int .u32 0, .int .u32 0, .int .u32 0, .int .u32 0, .int .u32 0, .int .u32 0, .int .u32 0, .int .u32 0, .int .u32 0, .int .u32 0, .int .u32 0, .int .u32 0, .int .u32 0, .int .u32 0, .int .u32 0, .int .u32 0, .int .u32 0, .int .u32 0, .int .u32 0, .int .u32 0, .int .u32 0]) (cs := [.int .u32 0, .int .u32 0, .int .u32 0, .int .u32 0, .int .u32 0, .int .u32 0, .int .u32 0, .int .u32 0, .int .u32 0, .int .u32 0, .int .u32 0, .int .u32 0, .int .u32 0, .int .u32 0, .int .u32 0, .int .u32 0, .int .u32 0, .int .u32 0, .int .u32 0, .int .u32 0, .int .u32 0, .int .u32 0, .int .u32 0, .int .u32 0, .int .u32 0, .int .u32 0, .int .u32 0, .int .u32 0]) (by kernel_rfl) rfl) (fun b9 => ?_)
  refine wl_chain0 .none (cf_storeAll (seg := u32s (suV x)) 0 rfl rfl rfl (ints_one' _) (by rw [us_len, hvo.1]; rfl) (u28l hvo.1)) (fun _ => ?_)
  refine wl_nil ?_
  refine wq_then ?_
  refine wc_seq ?_
  refine wc_weak (.cons (i := 0) rfl <| .cons (i := 1) rfl <| .cons (i := 2) rfl <| .cons (i := 4) rfl <| .cons (i := 5) rfl <| .cons (i := 6) rfl <| .cons (i := 7) rfl <| .cons (i := 8) rfl <| .cons (i := 9) rfl <| .nil) ?_
  refine wc_still 2 (by kernel_rfl) (by kernel_rfl) (fun _ h => HpG.drew h) ?_
  refine wt_free .none rfl (yf_sliceArrLo (i := 19) (size := 1) rfl rfl Try.underlying37 (by kernel_rfl) rfl (by decide) rfl rfl) ?_
  refine wt_free .none rfl (yf_sliceArrAll (size := 1) rfl Try.underlying64 (by kernel_rfl) (by decide)) ?_
  refine wt_tail ?_
  refine wl_chain .none rfl (cf_copy (xs := u32s ot) 0 rfl rfl rfl Try.underlying22 (by kernel_rfl) (by rw [us_len, hot]; rfl) (fun w h => rd_blk (HpG.own h (b5, bk 64 (u32s ot)) (List.mem_cons_of_mem _ (List.mem_cons_of_mem _ (List.mem_cons_self ..))))) (ints_one' _) (by rw [us_len, us_len, hot, hvo.1]; decide)) (fun _ => ?_)
  refine wl_conseq (H' := Hp (fun _ => False) w_0 [(b9, bk 37 (u32s (tmpV (suV x) ot))), (b8, bk 26 (blkC i)), (b5, bk 64 (u32s ot)), (b4, bk 50 (suC x))] (i.rows ++ []) (X2 A s x w_0.heap.size)) (fun u hu => ?_) ?_
  · rw [← tmpV_row hvo.1 hot]; exact hu
  refine wl_nil ?_
  refine wq_then ?_
  refine wc_seq ?_
  refine wc_weak (.cons (i := 0) rfl <| .cons (i := 1) rfl <| .cons (i := 2) rfl <| .cons (i := 4) rfl <| .cons (i := 5) rfl <| .cons (i := 6) rfl <| .cons (i := 7) rfl <| .cons (i := 8) rfl <| .cons (i := 9) rfl <| .nil) ?_
  refine wc_region ?_
  first | refine wl_free .none rfl (yf_loadAllL 0 rfl rfl Try.underlying50 rfl (by kernel_rfl)) ?_ | refine wl_free .none rfl (yf_loadAllL 1 rfl rfl Try.underlying50 rfl (by kernel_rfl)) ?_ | refine wl_free .none rfl (yf_loadAllL 2 rfl rfl Try.underlying50 rfl (by kernel_rfl)) ?_ | refine wl_free .none rfl (yf_loadAllL 3 rfl rfl Try.underlying50 rfl (by kernel_rfl)) ?_ | refine wl_free .none rfl (yf_loadAllL 4 rfl rfl Try.underlying50 rfl (by kernel_rfl)) ?_ | refine wl_free .none rfl (yf_loadAllL 5 rfl rfl Try.underlying50 rfl (by kernel_rfl)) ?_
  refine wl_callN .none rfl (by kernel_rfl) rfl (fun w hw => memory_any x w) (fun μ hμ => ?_)
  obtain ⟨ok, hby, hr⟩ := hμ
  refine wl_free .none rfl (yf_assign rfl) ?_
  refine wl_nil ?_
  refine wq_then ?_
  refine wc_seq ?_
  refine wc_weak (.cons (i := 0) rfl <| .cons (i := 1) rfl <| .cons (i := 2) rfl <| .cons (i := 4) rfl <| .cons (i := 5) rfl <| .cons (i := 6) rfl <| .cons (i := 7) rfl <| .cons (i := 8) rfl <| .cons (i := 9) rfl <| .cons (i := 10) rfl <| .nil) ?_
  refine wc_region ?_
  first | refine wl_free .none rfl (yf_loadAllL 0 rfl rfl Try.underlying50 rfl (by kernel_rfl)) ?_ | refine wl_free .none rfl (yf_loadAllL 1 rfl rfl Try.underlying50 rfl (by kernel_rfl)) ?_ | refine wl_free .none rfl (yf_loadAllL 2 rfl rfl Try.underlying50 rfl (by kernel_rfl)) ?_ | refine wl_free .none rfl (yf_loadAllL 3 rfl rfl Try.underlying50 rfl (by kernel_rfl)) ?_ | refine wl_free .none rfl (yf_loadAllL 4 rfl rfl Try.underlying50 rfl (by kernel_rfl)) ?_ | refine wl_free .none rfl (yf_loadAllL 5 rfl rfl Try.underlying50 rfl (by kernel_rfl)) ?_
  refine wl_callN .none rfl (by kernel_rfl) rfl (fun w hw => memory_any x w) (fun μ2 hμ2 => ?_)
  obtain ⟨ok2, hby2, hr2⟩ := hμ2
  refine wl_free .none rfl (yf_assign rfl) ?_
  refine wl_nil ?_
  refine wq_then ?_
  refine wc_seq ?_
  refine wc_weak (.cons (i := 0) rfl <| .cons (i := 1) rfl <| .cons (i := 2) rfl <| .cons (i := 4) rfl <| .cons (i := 5) rfl <| .cons (i := 6) rfl <| .cons (i := 7) rfl <| .cons (i := 8) rfl <| .cons (i := 9) rfl <| .cons (i := 10) rfl <| .cons (i := 11) rfl <| .nil) ?_
  have hpm := su_pm hby hr
  have hpm2 := su_pm hby2 hr2
  have hEE : evalM i.b (tmpV (suV x) ot) μ2.pm = evalM i.b (suV x) μ.pm := by rw [hpm, hpm2]; exact evalM_tmp i.b hvo.1 hto.1 (tmpV_low hvo.1) _
  have hE28 : (evalM i.b (suV x) μ.pm).1.vars.length = 28 := evalM_len hvo.1 _ _
  refine wc_conseq (H' := Hp (fun _ => False) w_0 (([(b9, bk 37 (u32s (tmpV (suV x) ot))), (b8, bk 26 (blkC i)), (b5, bk 64 (u32s ot)), (b4, bk 50 (suC x))] ++ memL μ2) ++ memL μ) (i.rows ++ []) (X2 A s x w_0.heap.size)) (fun u hu => Hp.permL hu (perm_swap3 [(b9, bk 37 (u32s (tmpV (suV x) ot))), (b8, bk 26 (blkC i)), (b5, bk 64 (u32s ot)), (b4, bk 50 (suC x))] (memL μ) (memL μ2))) ?_
  refine wc_drawTN 7 [0, 1, 2, 3, 4, 5, 6] (J2 b8 b4 (bk 26 (blkC i)) (bk 50 (suC x))) (by kernel_rfl) (by kernel_rfl) J2.stab (fun _ h => ⟨HpG.blk h (k := 1) rfl, HpG.blk h (k := 3) rfl⟩) (fun n0 hn0 => ?_)
  refine wd_at rfl ?_
  (refine wd_free ?_ .none rfl (YF.anti (yf_loadRowJ rfl Try.underlying26 rfl (by kernel_rfl)) (fun _ h => h.1)) ?_; (· rfl);  skip)
  refine wd_at rfl ?_
  (refine wd_free ?_ .none rfl (YF.anti (yf_loadRowJ rfl Try.underlying50 rfl (by kernel_rfl)) (fun _ h => h.2)) ?_; (· rfl);  skip)
  refine wd_at rfl ?_
  refine wd_pure .none rfl (by kernel_rfl) rfl J2.ext (fun w hw => vars_any x w (HpG.x hw).2) ?_
  refine wd_at rfl ?_
  (refine wd_free ?_ .none rfl (yf_move rfl) ?_; (· rfl);  skip)
  refine wd_at rfl ?_
  (refine wd_free ?_ .none rfl (yf_makeIface rfl Try.underlying51 rfl) ?_; (· rfl);  skip)
  refine wd_at rfl ?_
  refine wd_callG (C := fun μ' : Mm => μ'.Ok ∧ μ.Same μ' ∧ μ'.pm = (evalM i.b (suV x) μ.pm).2) (val := fun _ => .agg (ouL (evalM i.b (suV x) μ.pm).1).toArray) (S' := fun μ' => HpF (fun k => k < n0) (fun _ => False) w_0 (([(b9, bk 37 (u32s (tmpV (suV x) ot))), (b8, bk 26 (blkC i)), (b5, bk 64 (u32s ot)), (b4, bk 50 (suC x))] ++ memL μ2) ++ memL μ') (i.rows ++ []) (X2 A s x w_0.heap.size)) .none rfl (by kernel_rfl) rfl (fun _ _ => HpF.stab) (fun w hw hj' => (irEval_call i hi.n (by omega) hvo ok (fun p hp => HpG.own hw p (List.mem_append_right _ hp)) (BRd.ofR hw fun r hr => List.mem_append_left _ hr)).mono fun e w' ⟨μ', h1, h2, h3⟩ => ⟨μ', h1, h2, (HpG.keep h3).mono fun q _ hq => hw.inG q (List.mem_append_left _ (by rw [List.map_append]; exact List.mem_append_right _ hq)), ⟨Blk.keep hj'.1 (HpG.keep h3) (HpG.notin hw (p := (b8, _)) (List.mem_cons_of_mem _ (List.mem_cons_self ..))), Blk.keep hj'.2 (HpG.keep h3) (HpG.notin hw (p := (b4, _)) (List.mem_cons_of_mem _ (List.mem_cons_of_mem _ (List.mem_cons_of_mem _ (List.mem_cons_self ..)))))⟩, HpF.callM (HpF.of hw) h3⟩) (fun μ' hμ' => ?_)
  obtain ⟨ok', same', hpm'⟩ := hμ'
  refine wd_at rfl ?_
  refine wd_newF rfl .none rfl (fun k hk => Nat.lt_of_lt_of_le hk hn0) (nf_alloc (z := .agg (ouL zeroOut).toArray) (cs := ouL zeroOut) (by kernel_rfl) rfl) (no_append (no_append (no_cons rfl (no_cons rfl (no_cons rfl (no_cons rfl (fun p hp => by cases hp))))) (memL_no ⟨rfl, rfl, rfl⟩)) (memL_no ⟨rfl, rfl, rfl⟩)) (no_appR (rows_no ⟨rfl, rfl, rfl⟩) no_nilR) (fun b12 _ => ?_)
  refine wd_endTF ?_
  simp only [List.drop_succ_cons, List.drop_zero]
  refine wl_chain0 .none (cf_storeAll (seg := ouL (evalM i.b (suV x) μ.pm).1) 0 rfl rfl rfl (fun v hv => List.all_eq_true.1 (ouL_all _) v hv) (by rw [ouL_len, hE28]; rfl) (ou32 hE28)) (fun _ => ?_)
  refine wl_nil ?_
  refine wq_then ?_
  refine wc_seq ?_
  refine wc_weak (.cons (i := 0) rfl <| .cons (i := 1) rfl <| .cons (i := 2) rfl <| .cons (i := 4) rfl <| .cons (i := 5) rfl <| .cons (i := 6) rfl <| .cons (i := 7) rfl <| .cons (i := 8) rfl <| .cons (i := 9) rfl <| .cons (i := 10) rfl <| .cons (i := 11) rfl <| .cons (i := 12) rfl <| .nil) ?_
  refine wc_conseq (H' := Hp (fun _ => False) w_0 (((b12, bk 39 (ouL (evalM i.b (suV x) μ.pm).1)) :: [(b9, bk 37 (u32s (tmpV (suV x) ot))), (b8, bk 26 (blkC i)), (b5, bk 64 (u32s ot)), (b4, bk 50 (suC x))] ++ memL μ') ++ memL μ2) (i.rows ++ []) (X2 A s x w_0.heap.size)) (fun u hu => Hp.permL hu (perm_swap3 ((b12, bk 39 (ouL (evalM i.b (suV x) μ.pm).1)) :: [(b9, bk 37 (u32s (tmpV (suV x) ot))), (b8, bk 26 (blkC i)), (b5, bk 64 (u32s ot)), (b4, bk 50 (suC x))]) (memL μ2) (memL μ'))) ?_
  refine wc_region ?_
  first | refine wl_free .none rfl (yf_loadAllL 0 rfl rfl Try.underlying26 rfl (by kernel_rfl)) ?_ | refine wl_free .none rfl (yf_loadAllL 1 rfl rfl Try.underlying26 rfl (by kernel_rfl)) ?_ | refine wl_free .none rfl (yf_loadAllL 2 rfl rfl Try.underlying26 rfl (by kernel_rfl)) ?_ | refine wl_free .none rfl (yf_loadAllL 3 rfl rfl Try.underlying26 rfl (by kernel_rfl)) ?_ | refine wl_free .none rfl (yf_loadAllL 4 rfl rfl Try.underlying26 rfl (by kernel_rfl)) ?_ | refine wl_free .none rfl (yf_loadAllL 5 rfl rfl Try.underlying26 rfl (by kernel_rfl)) ?_
  refine wl_free .none rfl (yf_loadAllL 1 rfl rfl Try.underlying37 rfl (u28l hto.1)) ?_
  refine wl_free .none rfl (yf_move rfl) ?_
  refine wl_free .none rfl (yf_makeIface rfl Try.underlying51 rfl) ?_
  refine wl_callM ((b12, bk 39 (ouL (evalM i.b (suV x) μ.pm).1)) :: [(b9, bk 37 (u32s (tmpV (suV x) ot))), (b8, bk 26 (blkC i)), (b5, bk 64 (u32s ot)), (b4, bk 50 (suC x))] ++ memL μ') (memL μ2) .none rfl (by kernel_rfl) rfl (fun w hm hw => by
    have := irEval_call i hi.n (by omega) hto ok2 hm (BRd.ofR hw fun r hr => List.mem_append_left _ hr)
    rw [hEE] at this
    exact this) (fun μ3 hμ3 => ?_)
  obtain ⟨ok3, same3, hpm3⟩ := hμ3
  refine wl_new .none rfl (nf_alloc (z := .agg #[.bool false, .int .i64 0, .int .i64 0, .int .u32 0, .int .u32 0, .int .u32 0, .int .u32 0, .int .u32 0, .int .u32 0, .int .u32 0, .int .u32 0, .int .u32 0, .int .u32 0, .int .u32 0, .int .u32 0, .int .u32 0, .int .u32 0, .int .u32 0, .int .u32 0, .int .u32 0, .int .u32 0, .int .u32 0, .int .u32 0, .int .u32 0, .int .u32 0, .int .u32 0, .int .u32 0, .int .u32 0, .int .u32 0, .int .u32 0, .int .u32 0, .int .u32 0]) (cs := [.bool false, .int .i64 0, .int .i64 0, .int .u32 0, .int .u32 0, .int .u32 0, .int .u32 0, .int .u32 0, .int .u32 0, .int .u32 0, .int .u32 0, .int .u32 0, .int .u32 0, .int .u32 0, .int .u32 0, .int .u32 0, .int .u32 0, .int .u32 0, .int .u32 0, .int .u32 0, .int .u32 0, .int .u32 0, .int .u32 0, .int .u32 0, .int .u32 0, .int .u32 0, .int .u32 0, .int .u32 0, .int .u32 0, .int .u32 0, .int .u32 0, .int .u32 0]) (by kernel_rfl) rfl) (fun b13 => ?_)
  refine wl_chain0 .none (cf_storeAll (seg := ouL (evalM i.b (suV x) μ.pm).1) 0 rfl rfl rfl (fun v hv => List.all_eq_true.1 (ouL_all _) v hv) (by rw [ouL_len, hE28]; rfl) (ou32 hE28)) (fun _ => ?_)
  refine wl_nil ?_
  refine wq_then ?_
  refine wc_seq ?_
  refine wc_seq ?_
  refine wc_weak (.cons (i := 0) rfl <| .cons (i := 1) rfl <| .cons (i := 2) rfl <| .cons (i := 4) rfl <| .cons (i := 5) rfl <| .cons (i := 6) rfl <| .cons (i := 7) rfl <| .cons (i := 8) rfl <| .cons (i := 9) rfl <| .cons (i := 10) rfl <| .cons (i := 11) rfl <| .cons (i := 12) rfl <| .cons (i := 13) rfl <| .nil) ?_
  refine wc_region ?_
  refine wl_free .none rfl (yf_assign rfl) ?_
  refine wl_nil ?_
  refine wq_then ?_
  refine wc_block ?_
  refine wc_loop (ι := {j : Nat // j ≤ 9}) (fun j => [(7, .bool true), (10, ptrV μ.M), (11, ptrV μ2.M), (12, ptrV b12), (13, ptrV b13), (14, .int .i64 ((19 + j.1 : Nat) : Int))]) (fun _ => Hp (fun _ => False) w_0 ((b13, bk 39 (ouL (evalM i.b (suV x) μ.pm).1)) :: (((b12, bk 39 (ouL (evalM i.b (suV x) μ.pm).1)) :: [(b9, bk 37 (u32s (tmpV (suV x) ot))), (b8, bk 26 (blkC i)), (b5, bk 64 (u32s ot)), (b4, bk 50 (suC x))] ++ memL μ') ++ memL μ3)) (i.rows ++ []) (X2 A s x w_0.heap.size)) (fun j => 9 - j.1) ⟨0, by omega⟩ ?_ ?_ (fun j => ?_)
  · exact .cons rfl <| .cons rfl <| .cons rfl <| .cons rfl <| .cons rfl <| .consE rfl rfl <| .nil
  · exact fun w h => h
  obtain ⟨j, hj⟩ := j
  dsimp only at hj ⊢
  refine wc_seq ?_
  refine wc_seq ?_
  refine wc_region ?_
  refine wl_free .none rfl (yf_move rfl) ?_
  refine wl_free .none rfl (yf_lss rfl rfl) ?_
  refine wl_nil ?_
  refine wq_then ?_
  refine wc_cond rfl (fun hc => ?_) (fun hc => ?_)
  · replace hc := of_decide_eq_true hc
    refine wc_skip ?_
    refine wq_then ?_
    refine wc_seq ?_
    refine wc_block ?_
    refine wc_seq ?_
    refine wc_weak (.cons (i := 7) rfl <| .cons (i := 10) rfl <| .cons (i := 11) rfl <| .cons (i := 12) rfl <| .cons (i := 13) rfl <| .cons (i := 14) rfl <| .cons (i := 43) rfl <| .nil) ?_
    refine wc_region ?_
    refine wl_free .none rfl (yf_move rfl) ?_
    refine wl_free .none rfl (yf_fieldAddr (off := 4) (sz := 27) rfl Try.underlying39 (by kernel_rfl) rfl) ?_
    (refine wl_free .none rfl (yf_indexAddrA (es := 1) rfl rfl Try.underlying37 (by kernel_rfl) rfl ?_ rfl) ?_; (· first | decide | omega | (simp; omega)); skip)
    refine wl_free .none rfl (yf_loadL (v := .int .u32 0) 1 rfl rfl (by rw [ouL_at hE28 (i := 19 + j) (by omega) (by omega), evalM_zero i.b hvo.1 _ _ (by omega)]) Try.underlying34 rfl) ?_
    refine wl_free .none rfl (yf_neq rfl rfl) ?_
    refine wl_nil ?_
    refine wq_then ?_
    refine wc_cond rfl (fun hc => ?_) (fun hc => ?_)
    · replace hc := bne_yes hc
      exact absurd rfl hc
    · replace hc := bne_no hc
      refine wc_skip ?_
      refine wq_block ?_
      refine wq_then ?_
      refine wc_weak (.cons (i := 7) rfl <| .cons (i := 10) rfl <| .cons (i := 11) rfl <| .cons (i := 12) rfl <| .cons (i := 13) rfl <| .cons (i := 14) rfl <| .cons (i := 43) rfl <| .cons (i := 50) rfl <| .nil) ?_
      refine wc_region ?_
      refine wl_free .none rfl (yf_move rfl) ?_
      first | (refine wl_free .none rfl (yf_add rfl rfl (i64_in _ ?_ ?_)) ?_; (· omega); (· omega); skip) | refine wl_free .none rfl (yf_add rfl rfl rfl) ?_
      refine wl_free .none rfl (yf_assign rfl) ?_
      refine wl_nil ?_
      refine wq_round (ι := {j : Nat // j ≤ 9}) ⟨j + 1, by omega⟩ ?_ ?_ (fun u h => h)
      · show 9 - (j + 1) < 9 - j; omega
      · exact .cons rfl <| .cons rfl <| .cons rfl <| .cons rfl <| .cons rfl <| .consE rfl (congrArg (Value.int .i64) (show ((19 + j : Nat) : Int) + 1 = ((19 + (j + 1) : Nat) : Int) by omega)) <| .nil
  · replace hc := of_decide_eq_false hc
    refine wc_exit ?_
    refine wq_then_exit ?_
    refine wq_then_exit ?_
    refine wq_here ?_
    refine wq_then ?_
    refine wc_seq ?_
    refine wc_weak (.cons (i := 7) rfl <| .cons (i := 10) rfl <| .cons (i := 11) rfl <| .cons (i := 12) rfl <| .cons (i := 13) rfl <| .cons (i := 14) rfl <| .cons (i := 43) rfl <| .nil) ?_
    refine wc_region ?_
    refine wl_free .none rfl (yf_move rfl) ?_
    refine wl_free .none rfl (yf_move rfl) ?_
    refine wl_split 52 rfl (fun hb => ?_) (fun hb => ?_)
    · skip
      refine wl_free (.some rfl rfl) rfl (yf_loadAllL 1 rfl rfl Try.underlying39 rfl (ou32 hE28)) ?_
      refine wl_free (.some rfl rfl) rfl (yf_loadAllL 0 rfl rfl Try.underlying39 rfl (ou32 hE28)) ?_
      refine wl_free (.some rfl rfl) rfl (yf_eqlAgg (r := true) rfl rfl (by kernel_rfl) (fun W => eqOut hE28 W)) ?_
      refine wl_free .none rfl (yf_pickT rfl rfl) ?_
      refine wl_free .none rfl (yf_move rfl) ?_
      refine wl_split 57 rfl (fun hb => ?_) (fun hb => ?_)
      · skip
        refine wl_free (.some rfl rfl) rfl (yf_move rfl) ?_
        refine wl_free (.some rfl rfl) rfl (yf_move rfl) ?_
        refine wl_pure (.some rfl rfl) rfl (by kernel_rfl) rfl (fun w hw => by
          have hpq := pm_eq (hpm'.trans hpm3.symm)
          rw [← same'.M, ← same3.M]
          exact memEqual_any μ' μ3 ok'.toWf ok3.toWf hpq.1 hpq.2 w ⟨fun p hp => HpG.own hw p (List.mem_cons_of_mem _ (List.mem_append_left _ (List.mem_append_right _ hp))), fun p hp => HpG.own hw p (List.mem_cons_of_mem _ (List.mem_append_right _ hp))⟩) ?_
        refine wl_free .none rfl (yf_pickT rfl rfl) ?_
        refine wl_free .none rfl (yf_assign rfl) ?_
        refine wl_nil ?_
        refine wq_then ?_
        refine wc_ret ?_
        refine wq_ret1 rfl rfl (fun w hw => ?_)
        exact ⟨rfl, (HpG.keep hw).ext⟩
      · skip
        cases hb
    · skip
      cases hb
end Go.Proofs.Ytojofinofpgopaa
