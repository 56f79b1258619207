/- The walk of IrEvals. -/
import Derived.Test.YtojofinofpgopaaMgV
namespace Go.Proofs.Ytojofinofpgopaa
open Go.RowKit
abbrev blkC (i : BR) : List Value := [.slice i.aA i.b.at_.length i.cA, .slice i.aP i.b.pages.length i.cP, .slice i.aO i.b.ops.length i.cO]
set_option maxRecDepth 100000 in
set_option maxHeartbeats 4000000 in
theorem irEvals_any (A : Option Addr) (cap : Nat) (s : List Int) (x : Su) (hu : ∀ v ∈ x.v, U32 v) (w_0 : World) (hA : X2 A s x w_0.heap.size w_0) (hl : s.length ≤ maxLen) (hc : s.length ≤ cap) :
    Calls Try.prog 8 #[.slice A s.length cap, .agg (suC x).toArray] w_0 fun e w' => e = .returned (.bool true) ∧ Below w_0.heap.size w_0 w' := by
  have hm : 200000 ≤ maxLen := by unfold maxLen; omega
  have hvo := suV_ok hu
  obtain ⟨z, hz, hz0⟩ := min_nat s.length
  refine calls_wc (args := [.slice A s.length cap, .agg (suC x).toArray]) Try.func8 rfl 40 rfl (Nat.le_of_ble_eq_true rfl) ?_
  refine wc_weak (.cons (i := 0) rfl <| .cons (i := 1) rfl <| .nil) ?_
  refine wc_conseq (H' := Hp (fun _ => False) w_0 [] [] (X2 A s x w_0.heap.size)) (fun u hu => ?_) ?_
  · subst hu; exact Hp.start hA.foot
  refine wc_seq ?_
  refine wc_region ?_
  refine wl_new .none rfl (nf_box rfl rfl) (fun b3 => ?_)
  refine wl_free .none rfl (yf_assign rfl) ?_
  refine wl_nil ?_
  refine wq_then ?_
  refine wc_seq ?_
  refine wc_region ?_
  refine wl_pure .none rfl (by kernel_rfl) rfl (fun w hw => sanity_any w) ?_
  refine wl_free .none rfl (yf_assign rfl) ?_
  refine wl_nil ?_
  refine wq_then ?_
  refine wc_seq ?_
  refine wc_weak (.cons (i := 0) rfl <| .cons (i := 1) rfl <| .cons (i := 3) rfl <| .cons (i := 4) rfl <| .cons (i := 5) rfl <| .nil) ?_
  refine wc_region ?_
  refine wl_free .none rfl (yf_move rfl) ?_
  refine wl_free .none rfl (yf_move rfl) ?_
  refine wl_free .none rfl (yf_lenS rfl Try.underlying23) ?_
  refine wl_free .none rfl (yf_min rfl rfl) ?_
  (refine wl_free .none rfl (yf_sliceHi (size := 1) rfl rfl Try.underlying23 (by kernel_rfl) hz ?_) ?_; (· omega); skip)
  refine wl_callR .none rfl (by kernel_rfl) rfl (fun w hw => made_call (HpG.x hw).1 z hz0 hl) (fun i hi => ?_)
  obtain ⟨hi, hv⟩ := hi
  refine wl_new .none rfl (nf_alloc (z := .agg #[.slice none 0 0, .slice none 0 0, .slice none 0 0]) (cs := [.slice none 0 0, .slice none 0 0, .slice none 0 0]) (by kernel_rfl) rfl) (fun b6 => ?_)
  first | refine wl_chain0 .none (cf_storeRow 0 rfl rfl rfl rfl rfl (by kernel_rfl)) (fun _ => ?_) | refine wl_chain0 .none (cf_storeRow 1 rfl rfl rfl rfl rfl (by kernel_rfl)) (fun _ => ?_) | refine wl_chain0 .none (cf_storeRow 2 rfl rfl rfl rfl rfl (by kernel_rfl)) (fun _ => ?_) | refine wl_chain0 .none (cf_storeRow 3 rfl rfl rfl rfl rfl (by kernel_rfl)) (fun _ => ?_) | refine wl_chain0 .none (cf_storeRow 4 rfl rfl rfl rfl rfl (by kernel_rfl)) (fun _ => ?_) | refine wl_chain0 .none (cf_storeRow 5 rfl rfl rfl rfl rfl (by kernel_rfl)) (fun _ => ?_)
  refine wl_nil ?_
  refine wq_then ?_
  refine wc_seq ?_
  refine wc_weak (.cons (i := 0) rfl <| .cons (i := 1) rfl <| .cons (i := 3) rfl <| .cons (i := 4) rfl <| .cons (i := 5) rfl <| .cons (i := 6) rfl <| .nil) ?_
  refine wc_region ?_
  first | refine wl_free .none rfl (yf_loadAllL 0 rfl rfl Try.underlying50 rfl (by kernel_rfl)) ?_ | refine wl_free .none rfl (yf_loadAllL 1 rfl rfl Try.underlying50 rfl (by kernel_rfl)) ?_ | refine wl_free .none rfl (yf_loadAllL 2 rfl rfl Try.underlying50 rfl (by kernel_rfl)) ?_ | refine wl_free .none rfl (yf_loadAllL 3 rfl rfl Try.underlying50 rfl (by kernel_rfl)) ?_ | refine wl_free .none rfl (yf_loadAllL 4 rfl rfl Try.underlying50 rfl (by kernel_rfl)) ?_ | refine wl_free .none rfl (yf_loadAllL 5 rfl rfl Try.underlying50 rfl (by kernel_rfl)) ?_
  refine wl_callN .none rfl (by kernel_rfl) rfl (fun w hw => memory_any x w) (fun μ hμ => ?_)
  obtain ⟨ok, hby, hr⟩ := hμ
  refine wl_free .none rfl (yf_assign rfl) ?_
  refine wl_nil ?_
  refine wq_then ?_
  refine wc_seq ?_
  refine wc_weak (.cons (i := 0) rfl <| .cons (i := 1) rfl <| .cons (i := 3) rfl <| .cons (i := 4) rfl <| .cons (i := 5) rfl <| .cons (i := 6) rfl <| .cons (i := 7) rfl <| .nil) ?_
  refine wc_region ?_
  first | refine wl_free .none rfl (yf_loadAllL 0 rfl rfl Try.underlying50 rfl (by kernel_rfl)) ?_ | refine wl_free .none rfl (yf_loadAllL 1 rfl rfl Try.underlying50 rfl (by kernel_rfl)) ?_ | refine wl_free .none rfl (yf_loadAllL 2 rfl rfl Try.underlying50 rfl (by kernel_rfl)) ?_ | refine wl_free .none rfl (yf_loadAllL 3 rfl rfl Try.underlying50 rfl (by kernel_rfl)) ?_ | refine wl_free .none rfl (yf_loadAllL 4 rfl rfl Try.underlying50 rfl (by kernel_rfl)) ?_ | refine wl_free .none rfl (yf_loadAllL 5 rfl rfl Try.underlying50 rfl (by kernel_rfl)) ?_
  refine wl_callN .none rfl (by kernel_rfl) rfl (fun w hw => model_any x w) (fun ν hν => ?_)
  obtain ⟨okν, hbν, hrν⟩ := hν
  refine wl_free .none rfl (yf_assign rfl) ?_
  refine wl_nil ?_
  refine wq_then ?_
  refine wc_seq ?_
  refine wc_weak (.cons (i := 0) rfl <| .cons (i := 1) rfl <| .cons (i := 3) rfl <| .cons (i := 4) rfl <| .cons (i := 5) rfl <| .cons (i := 6) rfl <| .cons (i := 7) rfl <| .cons (i := 8) rfl <| .nil) ?_
  have h7 : ∀ v ∈ ν.r, 0 ≤ v ∧ v ≤ 7 := by rw [hrν]; exact rlL_7 x
  have hpm := su_pm hby hr
  have hpν := su_rm hbν hrν
  refine wc_conseq (H' := Hp (fun _ => False) w_0 ((((b6, bk 26 (blkC i)) :: (b3, bk 50 (suC x)) :: refL ν)) ++ memL μ) (i.rows ++ []) (X2 A s x w_0.heap.size)) (fun u hu => Hp.permL hu (perm_swap3 [(b6, bk 26 (blkC i)), (b3, bk 50 (suC x))] (memL μ) (refL ν))) ?_
  refine wc_drawN [0, 1, 2, 3, 4, 5, 6, 7, 8, 9, 10, 11, 12, 13, 14, 15, 16, 17, 18, 19, 20] (J2 b6 b3 (bk 26 (blkC i)) (bk 50 (suC x))) (by kernel_rfl) (by kernel_rfl) J2.stab (fun _ h => ⟨HpG.blk h (k := 0) rfl, HpG.blk h (k := 1) rfl⟩) (fun n0 hn0 => ?_)
  refine wd_at rfl ?_
  (refine wd_free ?_ .none rfl (yf_move rfl) ?_; (· rfl);  skip)
  refine wd_at rfl ?_
  (refine wd_free ?_ .none rfl (yf_move rfl) ?_; (· rfl);  skip)
  refine wd_split 21 rfl (fun hb => ?_) (fun hb => ?_)
  · skip
    refine wd_at rfl ?_
    (refine wd_free ?_ (.some rfl rfl) rfl (YF.anti (yf_loadRowJ rfl Try.underlying26 rfl (by kernel_rfl)) (fun _ h => h.1)) ?_; (· rfl);  skip)
    refine wd_at rfl ?_
    (refine wd_free ?_ (.some rfl rfl) rfl (YF.anti (yf_loadRowJ rfl Try.underlying50 rfl (by kernel_rfl)) (fun _ h => h.2)) ?_; (· rfl);  skip)
    refine wd_at rfl ?_
    refine wd_pure (.some rfl rfl) rfl (by kernel_rfl) rfl J2.ext (fun w hw => vars_any x w (HpG.x hw).2) ?_
    refine wd_at rfl ?_
    (refine wd_free ?_ (.some rfl rfl) rfl (yf_move rfl) ?_; (· rfl);  skip)
    refine wd_at rfl ?_
    (refine wd_free ?_ (.some rfl rfl) rfl (yf_makeIface rfl Try.underlying51 rfl) ?_; (· rfl);  skip)
    refine wd_at rfl ?_
    refine wd_callG (C := fun μ' : Mm => μ'.Ok ∧ μ.Same μ' ∧ μ'.pm = (evalM i.b (suV x) μ.pm).2) (val := fun _ => .agg (ouL (evalM i.b (suV x) μ.pm).1).toArray) (S' := fun μ' => HpO (fun k => k < n0) (fun _ => False) w_0 ((((b6, bk 26 (blkC i)) :: (b3, bk 50 (suC x)) :: refL ν)) ++ memL μ') (refL ν) (i.rows ++ []) (X2 A s x w_0.heap.size)) (.some rfl rfl) rfl (by kernel_rfl) rfl (fun _ _ => HpO.stab) (fun w hw hj => (irEval_call i hi.n (by omega) hvo ok (fun p hp => HpG.own hw p (List.mem_append_right _ hp)) (BRd.ofR hw fun r hr => List.mem_append_left _ hr)).mono fun e w' ⟨μ', h1, h2, h3⟩ => ⟨μ', h1, h2, (HpG.keep h3).mono fun j _ hj' => hw.inG j (List.mem_append_left _ (by rw [List.map_append]; exact List.mem_append_right _ hj')), ⟨Blk.keep hj.1 (HpG.keep h3) (HpG.notin hw (p := (b6, _)) (List.mem_cons_self ..)), Blk.keep hj.2 (HpG.keep h3) (HpG.notin hw (p := (b3, _)) (List.mem_cons_of_mem _ (List.mem_cons_self ..)))⟩, Hp.callM hw.hp h3, fun p hp => hw.inG p.1 (List.mem_append_left _ (List.mem_map.2 ⟨p, List.mem_append_left _ (List.mem_cons_of_mem _ (List.mem_cons_of_mem _ hp)), rfl⟩))⟩) (fun μ' hμ' => ?_)
    obtain ⟨ok', same', hpm'⟩ := hμ'
    refine wd_at rfl ?_
    (refine wd_free ?_ (.some rfl rfl) rfl (YF.anti (yf_loadRowJ rfl Try.underlying26 rfl (by kernel_rfl)) (fun _ h => h.1)) ?_; (· rfl);  skip)
    refine wd_at rfl ?_
    (refine wd_free ?_ (.some rfl rfl) rfl (YF.anti (yf_loadRowJ rfl Try.underlying50 rfl (by kernel_rfl)) (fun _ h => h.2)) ?_; (· rfl);  skip)
    refine wd_at rfl ?_
    refine wd_pureG (.some rfl rfl) rfl (by kernel_rfl) rfl HpO.ext J2.ext (fun w hw => vars_any x w (HpG.x hw.1).2) ?_
    refine wd_at rfl ?_
    (refine wd_free ?_ (.some rfl rfl) rfl (yf_move rfl) ?_; (· rfl);  skip)
    refine wd_at rfl ?_
    refine wd_callG (C := fun ν' : Rm => ν'.Ok ∧ ν'.M = ν.M ∧ some (ν'.r, ν'.b) = (evalM i.b (suV x) (some (ν.r, ν.b))).2) (val := fun _ => .agg (ouL (evalM i.b (suV x) (some (ν.r, ν.b))).1).toArray) (S' := fun ν' => Hp (fun _ => False) w_0 ((((b6, bk 26 (blkC i)) :: (b3, bk 50 (suC x)) :: memL μ')) ++ refL ν') (i.rows ++ []) (X2 A s x w_0.heap.size)) (.some rfl rfl) rfl (by kernel_rfl) rfl (fun _ _ => Hp.stab) (fun w hw' hj => by
      have hw : Hp (fun _ => False) w_0 ((((b6, bk 26 (blkC i)) :: (b3, bk 50 (suC x)) :: memL μ')) ++ refL ν) (i.rows ++ []) (X2 A s x w_0.heap.size) w := Hp.permL hw'.1 (perm_swap3 [(b6, bk 26 (blkC i)), (b3, bk 50 (suC x))] (refL ν) (memL μ'))
      exact (refEval_call i hi.n (by omega) hvo okν h7 (fun p hp => HpG.own hw p (List.mem_append_right _ hp)) (BRd.ofR hw fun r hr => List.mem_append_left _ hr)).mono fun e w' ⟨ν', h1, h2, h3⟩ => ⟨ν', h1, h2, (HpG.keep h3).mono fun j _ hj' => by
        obtain ⟨p, hp, rfl⟩ := List.mem_map.1 hj'
        exact hw'.2 p hp, ⟨Blk.keep hj.1 (HpG.keep h3) (HpG.notin hw (p := (b6, _)) (List.mem_cons_self ..)), Blk.keep hj.2 (HpG.keep h3) (HpG.notin hw (p := (b3, _)) (List.mem_cons_of_mem _ (List.mem_cons_self ..)))⟩, Hp.callM hw h3⟩) (fun ν' hν' => ?_)
    obtain ⟨okν', Mν', hpν'⟩ := hν'
    rw [hpν, ← hpm] at hpν'
    refine wd_at rfl ?_
    refine wd_pureG (.some rfl rfl) rfl (by kernel_rfl) rfl (fun _ _ h hx => HpG.onE h hx) J2.ext (fun w hw => by rw [hpν, ← hpm]; exact equal_any (evalM i.b (suV x) μ.pm).1 (evalM_len hvo.1 _ _) w) ?_
    refine wd_at rfl ?_
    (refine wd_free ?_ .none rfl (yf_pickT rfl rfl) ?_; (· rfl);  skip)
    refine wd_at rfl ?_
    (refine wd_free ?_ .none rfl (yf_move rfl) ?_; (· rfl);  skip)
    refine wd_split 35 rfl (fun hb => ?_) (fun hb => ?_)
    · skip
      refine wd_at rfl ?_
      (refine wd_free ?_ (.some rfl rfl) rfl (yf_move rfl) ?_; (· rfl);  skip)
      refine wd_at rfl ?_
      (refine wd_free ?_ (.some rfl rfl) rfl (yf_move rfl) ?_; (· rfl);  skip)
      refine wd_at rfl ?_
      refine wd_pureG (.some rfl rfl) rfl (by kernel_rfl) rfl (fun _ _ h hx => HpG.onE h hx) J2.ext (fun w hw => by
        rw [← same'.M, ← Mν']
        refine bytes_any μ' ok'.toWf ν' okν' ?_ w ⟨fun p hp => HpG.own hw p (List.mem_append_left _ (List.mem_cons_of_mem _ (List.mem_cons_of_mem _ hp))), fun p hp => HpG.own hw p (List.mem_append_right _ hp)⟩
        have := hpm'.trans hpν'.symm
        exact congrArg (fun q : PM => match q with | some r => r.2 | none => []) this) ?_
      refine wd_at rfl ?_
      (refine wd_free ?_ .none rfl (yf_pickT rfl rfl) ?_; (· rfl);  skip)
      refine wd_at rfl ?_
      (refine wd_free ?_ .none rfl (yf_assign rfl) ?_; (· rfl);  skip)
      refine wd_endH ?_
      skip
      refine wq_then ?_
      refine wc_ret ?_
      refine wq_ret1 rfl rfl (fun w hw => ?_)
      exact ⟨rfl, (HpG.keep hw).ext⟩
    · skip
      cases hb
  · skip
    cases hb
end Go.Proofs.Ytojofinofpgopaa
