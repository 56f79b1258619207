/- The walk of IrFlags. -/
import Derived.Test.YtojofinofpgopaaSxJ
import Derived.Test.YtojofinofpgopaaStB
import Derived.Test.YtojofinofpgopaaIrH
namespace Go.Proofs.Ytojofinofpgopaa
open Go.RowKit
attribute [local go_sem ↓] Go.wp_at_zero Go.wp_at_succ
def fgX (k a b : Int) : List Int := [0, 0, 0, 0, 0, 0, 0, 0, 0, 0, 0, 0, 0, 0, 0, 0, k, a, b, 0, 0, 0, 0, 0, 0, 0, 0, 0]
def fgK : MSt := ⟨0, [0, 0, 0, 0, 0, 0, 0, 0, 0, 7, 0, 0, 0, 0, 0, 0], 15, [0, 0, 0, 0], 0, 0⟩
def fgQ : MSt := ⟨0, z16, 15, [0, 0, 0, 0], 0, 0⟩
def fgR (f : Int) : MSt := ⟨0, z16, f, [0, 0, 0, 0], 0, 0⟩
theorem fg_k (k a b : Int) : leaveL 1 fgK (fgX k a b) = fgR (refFlagsL k a b) := rfl
theorem fg_q (k a b : Int) : leaveL 2 fgQ (fgX k a b) = fgR 0 := rfl
theorem z_u32 : U32 0 := ⟨by decide, by decide⟩
theorem fgX_u {k a b : Int} (hk : U32 k) (ha : U32 a) (hb : U32 b) : ∀ v ∈ fgX k a b, U32 v := by
  intro v hv
  simp [fgX] at hv
  rcases hv with h | h | h | h | h
  all_goals (rw [h]; first | exact z_u32 | assumption)
theorem fgK_ok : StOk fgK := ⟨rfl, rfl, fun v hv => by simp [fgK] at hv; rcases hv with h | h | h <;> (rw [h]; exact ⟨by decide, by decide⟩), ⟨by decide, by decide⟩⟩
theorem fgR_ok {f : Int} (h0 : 0 ≤ f) (h1 : f < 16) : StOk (fgR f) := ⟨rfl, rfl, fun v hv => by simp [fgR, z16] at hv; rw [hv]; exact z_u32, ⟨h0, by show f < _; omega⟩⟩
abbrev fgE (F : Int) : List Value := [.int .u32 0, .int .u32 0, .int .u32 0, .int .u32 0, .int .u32 0, .int .u32 0, .int .u32 0, .int .u32 0, .int .u32 0, .int .u32 0, .int .u32 0, .int .u32 0, .int .u32 0, .int .u32 0, .int .u32 0, .int .u32 0, .int .u32 0, .int .u32 F, .int .u32 0, .int .u32 0, .int .u32 0, .int .u32 0, .int .u32 0, .int .u32 0, .int .u32 0, .int .u32 0, .int .u32 0, .int .u32 0]
theorem fg_enter {F : Int} (h0 : 0 ≤ F) (h1 : F < 16) : (u32s (enterL 1 (fgR F))).toArray = #[.int .u32 0, .int .u32 0, .int .u32 0, .int .u32 0, .int .u32 0, .int .u32 0, .int .u32 0, .int .u32 0, .int .u32 0, .int .u32 0, .int .u32 0, .int .u32 0, .int .u32 0, .int .u32 0, .int .u32 0, .int .u32 0, .int .u32 0, .int .u32 F, .int .u32 0, .int .u32 0, .int .u32 0, .int .u32 0, .int .u32 0, .int .u32 0, .int .u32 0, .int .u32 0, .int .u32 0, .int .u32 0] := by
  have e : bits .and .u32 F 15 = F := by rw [and15 ⟨h0, by omega⟩]; omega
  have e2 : enterL 1 (fgR F) = [0, 0, 0, 0, 0, 0, 0, 0, 0, 0, 0, 0, 0, 0, 0, 0, 0, bits .and .u32 F 15, 0, 0, 0, 0, 0, 0, 0, 0, 0, 0] := rfl
  rw [e2, e]; rfl
theorem fg_ix (F : Int) (W : World) : Sem.run Try.prog (Instr.index 37 (.agg #[.int .u32 0, .int .u32 0, .int .u32 0, .int .u32 0, .int .u32 0, .int .u32 0, .int .u32 0, .int .u32 0, .int .u32 0, .int .u32 0, .int .u32 0, .int .u32 0, .int .u32 0, .int .u32 0, .int .u32 0, .int .u32 0, .int .u32 0, .int .u32 F, .int .u32 0, .int .u32 0, .int .u32 0, .int .u32 0, .int .u32 0, .int .u32 0, .int .u32 0, .int .u32 0, .int .u32 0, .int .u32 0]) (.int .i64 17)) W = .ok (.int .u32 F) W := by kernel_rfl
theorem fg_eq (W : World) : Sem.run Try.prog (Op.equalIn 10000 72 (.agg #[.int .u32 0, .int .u32 0, .int .u32 0, .int .u32 0, .int .u32 0, .int .u32 0, .int .u32 0, .int .u32 0, .int .u32 0, .int .u32 0, .int .u32 0, .int .u32 0, .int .u32 0, .int .u32 0, .int .u32 0, .int .u32 0]) (.agg #[.int .u32 0, .int .u32 0, .int .u32 0, .int .u32 0, .int .u32 0, .int .u32 0, .int .u32 0, .int .u32 0, .int .u32 0, .int .u32 0, .int .u32 0, .int .u32 0, .int .u32 0, .int .u32 0, .int .u32 0, .int .u32 0])) W = .ok true W := by kernel_rfl
theorem fgQ_ok : StOk fgQ := ⟨rfl, rfl, fun v hv => by simp [fgQ, z16] at hv; rw [hv]; exact z_u32, ⟨by decide, by decide⟩⟩
set_option maxRecDepth 100000 in
set_option maxHeartbeats 4000000 in
theorem irFlags_any (k a b : Int) (w : World) (hk : U32 k) (ha : U32 a) (hb : U32 b) :
    Calls Try.prog 14 #[.int .u32 k, .int .u32 a, .int .u32 b] w fun e w' => e = .returned (.bool true) ∧ Below w.heap.size w w' := by
  have hX := fgX_u hk ha hb
  obtain ⟨F, hF⟩ : ∃ F, refFlagsL k a b = F := ⟨_, rfl⟩
  have hFr := flags_range k a b ha
  rw [hF] at hFr
  have hk1 := hk.1
  have hk2 := hk.2
  have hL1 : ∀ W, Calls Try.prog 41 #[.int .i64 1, stV fgK, .agg (u32s (fgX k a b)).toArray] W fun e w' => e = .returned (.agg (stL (fgR F)).toArray) ∧ Ext W w' := fun W =>
    (irLeave_any 1 fgK (fgX k a b) W fgK_ok rfl hX).mono fun e w' h => ⟨by rw [h.1, fg_k, hF]; rfl, h.2⟩
  have hL2 : ∀ W, Calls Try.prog 41 #[.int .i64 2, stV fgQ, .agg (u32s (fgX k a b)).toArray] W fun e w' => e = .returned (.agg (stL (fgR 0)).toArray) ∧ Ext W w' := fun W =>
    (irLeave_any 2 fgQ (fgX k a b) W fgQ_ok rfl hX).mono fun e w' h => ⟨by rw [h.1, fg_q]; rfl, h.2⟩
  have hRF : ∀ W : World, Calls Try.prog 44 #[.int .i64 k, .int .u32 a, .int .u32 b] W fun e w' => e = .returned (.int .u32 F) ∧ Ext W w' := fun W =>
    (refFlags_any k a b W ha hb).mono fun e w' h => ⟨by rw [h.1, hF], by rw [← h.2]; exact Below.refl _ _⟩
  have hEN : ∀ W : World, Calls Try.prog 40 #[.int .i64 1, .agg (stL (fgR F)).toArray] W fun e w' => e = .returned (.agg (fgE F).toArray) ∧ Ext W w' := fun W =>
    (enter_any 1 (fgR F) W (fgR_ok hFr.1 hFr.2)).mono fun e w' h => ⟨by rw [h.1, fg_enter hFr.1 hFr.2], h.2⟩
  refine calls_wc (args := [.int .u32 k, .int .u32 a, .int .u32 b]) Try.func14 rfl 55 rfl (Nat.le_of_ble_eq_true rfl) ?_
  refine wc_weak (.cons (i := 0) rfl <| .cons (i := 1) rfl <| .cons (i := 2) rfl <| .nil) ?_
  refine wc_conseq (H' := Hp (fun _ => False) w [] [] (fun _ => True)) (fun u hu => ?_) ?_
  · subst hu; exact Hp.start0
  refine wc_seq ?_
  refine wc_region ?_
  refine wl_free .none rfl (yf_assign rfl) ?_
  refine wl_nil ?_
  refine wq_then ?_
  refine wc_seq ?_
  refine wc_region ?_
  refine wl_pure .none rfl (by kernel_rfl) rfl (fun w hw => sanity_any w) ?_
  refine wl_free .none rfl (yf_assign rfl) ?_
  refine wl_nil ?_
  refine wq_then ?_
  refine wc_seq ?_
  refine wc_weak (.cons (i := 0) rfl <| .cons (i := 1) rfl <| .cons (i := 2) rfl <| .cons (i := 6) rfl <| .cons (i := 7) rfl <| .nil) ?_
  refine wc_region ?_
  refine wl_new .none rfl (nf_alloc (z := .agg #[.int .u32 0, .int .u32 0, .int .u32 0, .int .u32 0, .int .u32 0, .int .u32 0, .int .u32 0, .int .u32 0, .int .u32 0, .int .u32 0, .int .u32 0, .int .u32 0, .int .u32 0, .int .u32 0, .int .u32 0, .int .u32 0, .int .u32 0, .int .u32 0, .int .u32 0, .int .u32 0, .int .u32 0, .int .u32 0, .int .u32 0, .int .u32 0, .int .u32 0, .int .u32 0, .int .u32 0, .int .u32 0]) (cs := [.int .u32 0, .int .u32 0, .int .u32 0, .int .u32 0, .int .u32 0, .int .u32 0, .int .u32 0, .int .u32 0, .int .u32 0, .int .u32 0, .int .u32 0, .int .u32 0, .int .u32 0, .int .u32 0, .int .u32 0, .int .u32 0, .int .u32 0, .int .u32 0, .int .u32 0, .int .u32 0, .int .u32 0, .int .u32 0, .int .u32 0, .int .u32 0, .int .u32 0, .int .u32 0, .int .u32 0, .int .u32 0]) (by kernel_rfl) rfl) (fun b8 => ?_)
  refine wl_nil ?_
  refine wq_then ?_
  refine wc_seq ?_
  refine wc_region ?_
  refine wl_free .none rfl (yf_move rfl) ?_
  refine wl_free .none rfl (yf_move rfl) ?_
  refine wl_free .none rfl (yf_move rfl) ?_
  first | (refine wl_free .none rfl (yf_indexAddrA (j := 16) (es := 1) rfl rfl Try.underlying37 (by kernel_rfl) rfl ?_ rfl) ?_; (· first | decide | omega | (simp; omega)); skip) | (refine wl_free .none rfl (yf_indexAddrA (es := 1) rfl rfl Try.underlying37 (by kernel_rfl) (Int.toNat_of_nonneg ?_).symm ?_ rfl) ?_; (· omega); (· first | decide | omega | (simp; omega)); skip)
  first | refine wl_chain0 .none (cf_store 0 rfl rfl rfl rfl rfl (by kernel_rfl)) (fun _ => ?_) | refine wl_chain0 .none (cf_store 1 rfl rfl rfl rfl rfl (by kernel_rfl)) (fun _ => ?_) | refine wl_chain0 .none (cf_store 2 rfl rfl rfl rfl rfl (by kernel_rfl)) (fun _ => ?_) | refine wl_chain0 .none (cf_store 3 rfl rfl rfl rfl rfl (by kernel_rfl)) (fun _ => ?_) | refine wl_chain0 .none (cf_store 4 rfl rfl rfl rfl rfl (by kernel_rfl)) (fun _ => ?_) | refine wl_chain0 .none (cf_store 5 rfl rfl rfl rfl rfl (by kernel_rfl)) (fun _ => ?_)
  first | (refine wl_free .none rfl (yf_indexAddrA (j := 17) (es := 1) rfl rfl Try.underlying37 (by kernel_rfl) rfl ?_ rfl) ?_; (· first | decide | omega | (simp; omega)); skip) | (refine wl_free .none rfl (yf_indexAddrA (es := 1) rfl rfl Try.underlying37 (by kernel_rfl) (Int.toNat_of_nonneg ?_).symm ?_ rfl) ?_; (· omega); (· first | decide | omega | (simp; omega)); skip)
  first | refine wl_chain0 .none (cf_store 0 rfl rfl rfl rfl rfl (by kernel_rfl)) (fun _ => ?_) | refine wl_chain0 .none (cf_store 1 rfl rfl rfl rfl rfl (by kernel_rfl)) (fun _ => ?_) | refine wl_chain0 .none (cf_store 2 rfl rfl rfl rfl rfl (by kernel_rfl)) (fun _ => ?_) | refine wl_chain0 .none (cf_store 3 rfl rfl rfl rfl rfl (by kernel_rfl)) (fun _ => ?_) | refine wl_chain0 .none (cf_store 4 rfl rfl rfl rfl rfl (by kernel_rfl)) (fun _ => ?_) | refine wl_chain0 .none (cf_store 5 rfl rfl rfl rfl rfl (by kernel_rfl)) (fun _ => ?_)
  first | (refine wl_free .none rfl (yf_indexAddrA (j := 18) (es := 1) rfl rfl Try.underlying37 (by kernel_rfl) rfl ?_ rfl) ?_; (· first | decide | omega | (simp; omega)); skip) | (refine wl_free .none rfl (yf_indexAddrA (es := 1) rfl rfl Try.underlying37 (by kernel_rfl) (Int.toNat_of_nonneg ?_).symm ?_ rfl) ?_; (· omega); (· first | decide | omega | (simp; omega)); skip)
  first | refine wl_chain0 .none (cf_store 0 rfl rfl rfl rfl rfl (by kernel_rfl)) (fun _ => ?_) | refine wl_chain0 .none (cf_store 1 rfl rfl rfl rfl rfl (by kernel_rfl)) (fun _ => ?_) | refine wl_chain0 .none (cf_store 2 rfl rfl rfl rfl rfl (by kernel_rfl)) (fun _ => ?_) | refine wl_chain0 .none (cf_store 3 rfl rfl rfl rfl rfl (by kernel_rfl)) (fun _ => ?_) | refine wl_chain0 .none (cf_store 4 rfl rfl rfl rfl rfl (by kernel_rfl)) (fun _ => ?_) | refine wl_chain0 .none (cf_store 5 rfl rfl rfl rfl rfl (by kernel_rfl)) (fun _ => ?_)
  refine wl_nil ?_
  refine wq_then ?_
  refine wc_seq ?_
  refine wc_weak (.cons (i := 0) rfl <| .cons (i := 1) rfl <| .cons (i := 2) rfl <| .cons (i := 6) rfl <| .cons (i := 7) rfl <| .cons (i := 8) rfl <| .nil) ?_
  refine wc_region ?_
  refine wl_free .none rfl (yf_build (cells := #[.int .u32 0, .int .u32 0, .int .u32 0, .int .u32 0, .int .u32 0, .int .u32 0, .int .u32 0, .int .u32 0, .int .u32 0, .int .u32 7, .int .u32 0, .int .u32 0, .int .u32 0, .int .u32 0, .int .u32 0, .int .u32 0]) rfl (by kernel_rfl)) ?_
  refine wl_free .none rfl (yf_buildS [.int .u32 0, .int .u32 0, .int .u32 0, .int .u32 0, .int .u32 0, .int .u32 0, .int .u32 0, .int .u32 0, .int .u32 0, .int .u32 0, .int .u32 0, .int .u32 0, .int .u32 0, .int .u32 0, .int .u32 0, .int .u32 0, .int .u32 0, .int .u32 0, .int .u32 0, .int .u32 0, .int .u32 0, .int .u32 0, .int .i64 0, .int .i64 0] [(0, 1), (1, 16), (17, 1), (18, 4), (22, 1), (23, 1)] rfl (by kernel_rfl) (by kernel_rfl) rfl) ?_
  first | refine wl_free .none rfl (yf_loadAllL 0 rfl rfl Try.underlying37 rfl (by kernel_rfl)) ?_ | refine wl_free .none rfl (yf_loadAllL 1 rfl rfl Try.underlying37 rfl (by kernel_rfl)) ?_ | refine wl_free .none rfl (yf_loadAllL 2 rfl rfl Try.underlying37 rfl (by kernel_rfl)) ?_ | refine wl_free .none rfl (yf_loadAllL 3 rfl rfl Try.underlying37 rfl (by kernel_rfl)) ?_ | refine wl_free .none rfl (yf_loadAllL 4 rfl rfl Try.underlying37 rfl (by kernel_rfl)) ?_ | refine wl_free .none rfl (yf_loadAllL 5 rfl rfl Try.underlying37 rfl (by kernel_rfl)) ?_
  refine wl_pure (vs := [.int .i64 1, stV fgK, .agg (u32s (fgX k a b)).toArray]) .none rfl (by kernel_rfl) rfl (fun w hw => hL1 w) ?_
  refine wl_new .none rfl (nf_alloc (z := .agg #[.int .u32 0, .int .u32 0, .int .u32 0, .int .u32 0, .int .u32 0, .int .u32 0, .int .u32 0, .int .u32 0, .int .u32 0, .int .u32 0, .int .u32 0, .int .u32 0, .int .u32 0, .int .u32 0, .int .u32 0, .int .u32 0, .int .u32 0, .int .u32 0, .int .u32 0, .int .u32 0, .int .u32 0, .int .u32 0, .int .i64 0, .int .i64 0]) (cs := [.int .u32 0, .int .u32 0, .int .u32 0, .int .u32 0, .int .u32 0, .int .u32 0, .int .u32 0, .int .u32 0, .int .u32 0, .int .u32 0, .int .u32 0, .int .u32 0, .int .u32 0, .int .u32 0, .int .u32 0, .int .u32 0, .int .u32 0, .int .u32 0, .int .u32 0, .int .u32 0, .int .u32 0, .int .u32 0, .int .i64 0, .int .i64 0]) (by kernel_rfl) rfl) (fun b9 => ?_)
  first | refine wl_chain0 .none (cf_storeRow 0 rfl rfl rfl rfl rfl (by kernel_rfl)) (fun _ => ?_) | refine wl_chain0 .none (cf_storeRow 1 rfl rfl rfl rfl rfl (by kernel_rfl)) (fun _ => ?_) | refine wl_chain0 .none (cf_storeRow 2 rfl rfl rfl rfl rfl (by kernel_rfl)) (fun _ => ?_) | refine wl_chain0 .none (cf_storeRow 3 rfl rfl rfl rfl rfl (by kernel_rfl)) (fun _ => ?_) | refine wl_chain0 .none (cf_storeRow 4 rfl rfl rfl rfl rfl (by kernel_rfl)) (fun _ => ?_) | refine wl_chain0 .none (cf_storeRow 5 rfl rfl rfl rfl rfl (by kernel_rfl)) (fun _ => ?_)
  refine wl_nil ?_
  refine wq_then ?_
  refine wc_seq ?_
  refine wc_weak (.cons (i := 0) rfl <| .cons (i := 1) rfl <| .cons (i := 2) rfl <| .cons (i := 6) rfl <| .cons (i := 7) rfl <| .cons (i := 8) rfl <| .cons (i := 9) rfl <| .nil) ?_
  refine wc_region ?_
  refine wl_free .none rfl (yf_buildS [.int .u32 0, .int .u32 0, .int .u32 0, .int .u32 0, .int .u32 0, .int .u32 0, .int .u32 0, .int .u32 0, .int .u32 0, .int .u32 0, .int .u32 0, .int .u32 0, .int .u32 0, .int .u32 0, .int .u32 0, .int .u32 0, .int .u32 0, .int .u32 0, .int .u32 0, .int .u32 0, .int .u32 0, .int .u32 0, .int .i64 0, .int .i64 0] [(0, 1), (1, 16), (17, 1), (18, 4), (22, 1), (23, 1)] rfl (by kernel_rfl) (by kernel_rfl) rfl) ?_
  first | refine wl_free .none rfl (yf_loadAllL 0 rfl rfl Try.underlying37 rfl (by kernel_rfl)) ?_ | refine wl_free .none rfl (yf_loadAllL 1 rfl rfl Try.underlying37 rfl (by kernel_rfl)) ?_ | refine wl_free .none rfl (yf_loadAllL 2 rfl rfl Try.underlying37 rfl (by kernel_rfl)) ?_ | refine wl_free .none rfl (yf_loadAllL 3 rfl rfl Try.underlying37 rfl (by kernel_rfl)) ?_ | refine wl_free .none rfl (yf_loadAllL 4 rfl rfl Try.underlying37 rfl (by kernel_rfl)) ?_ | refine wl_free .none rfl (yf_loadAllL 5 rfl rfl Try.underlying37 rfl (by kernel_rfl)) ?_
  refine wl_pure (vs := [.int .i64 2, stV fgQ, .agg (u32s (fgX k a b)).toArray]) .none rfl (by kernel_rfl) rfl (fun w hw => hL2 w) ?_
  refine wl_new .none rfl (nf_alloc (z := .agg #[.int .u32 0, .int .u32 0, .int .u32 0, .int .u32 0, .int .u32 0, .int .u32 0, .int .u32 0, .int .u32 0, .int .u32 0, .int .u32 0, .int .u32 0, .int .u32 0, .int .u32 0, .int .u32 0, .int .u32 0, .int .u32 0, .int .u32 0, .int .u32 0, .int .u32 0, .int .u32 0, .int .u32 0, .int .u32 0, .int .i64 0, .int .i64 0]) (cs := [.int .u32 0, .int .u32 0, .int .u32 0, .int .u32 0, .int .u32 0, .int .u32 0, .int .u32 0, .int .u32 0, .int .u32 0, .int .u32 0, .int .u32 0, .int .u32 0, .int .u32 0, .int .u32 0, .int .u32 0, .int .u32 0, .int .u32 0, .int .u32 0, .int .u32 0, .int .u32 0, .int .u32 0, .int .u32 0, .int .i64 0, .int .i64 0]) (by kernel_rfl) rfl) (fun b10 => ?_)
  first | refine wl_chain0 .none (cf_storeRow 0 rfl rfl rfl rfl rfl (by kernel_rfl)) (fun _ => ?_) | refine wl_chain0 .none (cf_storeRow 1 rfl rfl rfl rfl rfl (by kernel_rfl)) (fun _ => ?_) | refine wl_chain0 .none (cf_storeRow 2 rfl rfl rfl rfl rfl (by kernel_rfl)) (fun _ => ?_) | refine wl_chain0 .none (cf_storeRow 3 rfl rfl rfl rfl rfl (by kernel_rfl)) (fun _ => ?_) | refine wl_chain0 .none (cf_storeRow 4 rfl rfl rfl rfl rfl (by kernel_rfl)) (fun _ => ?_) | refine wl_chain0 .none (cf_storeRow 5 rfl rfl rfl rfl rfl (by kernel_rfl)) (fun _ => ?_)
  refine wl_nil ?_
  refine wq_then ?_
  refine wc_seq ?_
  refine wc_weak (.cons (i := 0) rfl <| .cons (i := 1) rfl <| .cons (i := 2) rfl <| .cons (i := 6) rfl <| .cons (i := 7) rfl <| .cons (i := 8) rfl <| .cons (i := 9) rfl <| .cons (i := 10) rfl <| .nil) ?_
  refine wc_drawN [0, 1, 2, 3, 4, 5, 6, 7, 8, 9, 10, 11, 12, 13, 14, 15, 16, 17, 18, 19, 20, 21, 22, 23, 24, 25, 26, 27, 28, 29, 30] (J2 b9 b10 (bk 75 (stL (fgR F))) (bk 75 (stL (fgR 0)))) (by kernel_rfl) (by kernel_rfl) J2.stab (fun _ h => ⟨HpG.blk h (k := 1) rfl, HpG.blk h (k := 0) rfl⟩) (fun n0 hn0 => ?_)
  refine wd_at rfl ?_
  (refine wd_free ?_ .none rfl (yf_move rfl) ?_; (· rfl);  skip)
  refine wd_at rfl ?_
  (refine wd_free ?_ .none rfl (yf_move rfl) ?_; (· rfl);  skip)
  refine wd_split 26 rfl (fun hb => ?_) (fun hb => ?_)
  · skip
    refine wd_at rfl ?_
    (refine wd_free ?_ (.some rfl rfl) rfl (yf_fieldAddr (off := 17) (sz := 0) rfl Try.underlying75 (by kernel_rfl) rfl) ?_; (· rfl);  skip)
    refine wd_at rfl ?_
    (refine wd_free ?_ (.some rfl rfl) rfl (YF.anti (yf_loadJ rfl rfl Try.underlying34 rfl) (fun _ h => h.1)) ?_; (· rfl);  skip)
    refine wd_at rfl ?_
    (refine wd_free ?_ (.some rfl rfl) rfl (yf_move rfl) ?_; (· rfl);  skip)
    refine wd_at rfl ?_
    (refine wd_free ?_ (.some rfl rfl) rfl (yf_conv rfl (by kernel_rfl) Try.underlying3 (i64_in k (by omega) (by omega))) ?_; (· rfl);  skip)
    refine wd_at rfl ?_
    (refine wd_free ?_ (.some rfl rfl) rfl (yf_move rfl) ?_; (· rfl);  skip)
    refine wd_at rfl ?_
    (refine wd_free ?_ (.some rfl rfl) rfl (yf_move rfl) ?_; (· rfl);  skip)
    refine wd_at rfl ?_
    refine wd_pure (.some rfl rfl) rfl (by kernel_rfl) rfl J2.ext (fun w hw => hRF w) ?_
    refine wd_at rfl ?_
    (refine wd_free ?_ (.some rfl rfl) rfl (yf_eql rfl rfl) ?_; (· rfl);  skip)
    refine wd_at rfl ?_
    (refine wd_free ?_ .none rfl (yf_pickT rfl rfl) ?_; (· rfl);  skip)
    refine wd_at rfl ?_
    (refine wd_free ?_ .none rfl (yf_move rfl) ?_; (· rfl);  skip)
    refine wd_split 36 rfl (fun hb => ?_) (fun hb => ?_)
    · replace hb := eq_of_beq hb
      refine wd_at rfl ?_
      (refine wd_free ?_ (.some rfl rfl) rfl (yf_fieldAddr (off := 1) (sz := 15) rfl Try.underlying75 (by kernel_rfl) rfl) ?_; (· rfl);  skip)
      refine wd_at rfl ?_
      (refine wd_free ?_ (.some rfl rfl) rfl (YF.anti (yf_loadSegJ (seg := [.int .u32 0, .int .u32 0, .int .u32 0, .int .u32 0, .int .u32 0, .int .u32 0, .int .u32 0, .int .u32 0, .int .u32 0, .int .u32 0, .int .u32 0, .int .u32 0, .int .u32 0, .int .u32 0, .int .u32 0, .int .u32 0]) rfl (fun j v hj => stL_r (s := fgR F) hj) Try.underlying72 rfl (by kernel_rfl)) (fun _ h => h.1)) ?_; (· rfl);  skip)
      refine wd_at rfl ?_
      (refine wd_free ?_ (.some rfl rfl) rfl (yf_build (vs := []) (cells := #[.int .u32 0, .int .u32 0, .int .u32 0, .int .u32 0, .int .u32 0, .int .u32 0, .int .u32 0, .int .u32 0, .int .u32 0, .int .u32 0, .int .u32 0, .int .u32 0, .int .u32 0, .int .u32 0, .int .u32 0, .int .u32 0]) rfl (by kernel_rfl)) ?_; (· rfl);  skip)
      refine wd_at rfl ?_
      (refine wd_free ?_ (.some rfl rfl) rfl (yf_eqlAgg (r := true) rfl rfl (by kernel_rfl) (fun W => fg_eq W)) ?_; (· rfl);  skip)
      refine wd_at rfl ?_
      (refine wd_free ?_ .none rfl (yf_pickT rfl rfl) ?_; (· rfl);  skip)
      refine wd_at rfl ?_
      (refine wd_free ?_ .none rfl (yf_move rfl) ?_; (· rfl);  skip)
      refine wd_split 42 rfl (fun hb => ?_) (fun hb => ?_)
      · skip
        refine wd_at rfl ?_
        (refine wd_free ?_ (.some rfl rfl) rfl (yf_fieldAddr (off := 17) (sz := 0) rfl Try.underlying75 (by kernel_rfl) rfl) ?_; (· rfl);  skip)
        refine wd_at rfl ?_
        (refine wd_free ?_ (.some rfl rfl) rfl (YF.anti (yf_loadJ rfl rfl Try.underlying34 rfl) (fun _ h => h.2)) ?_; (· rfl);  skip)
        refine wd_at rfl ?_
        (refine wd_free ?_ (.some rfl rfl) rfl (yf_eql rfl rfl) ?_; (· rfl);  skip)
        refine wd_at rfl ?_
        (refine wd_free ?_ .none rfl (yf_pickT rfl rfl) ?_; (· rfl);  skip)
        refine wd_at rfl ?_
        (refine wd_free ?_ .none rfl (yf_move rfl) ?_; (· rfl);  skip)
        refine wd_split 47 rfl (fun hb => ?_) (fun hb => ?_)
        · replace hb := eq_of_beq hb
          refine wd_at rfl ?_
          (refine wd_free ?_ (.some rfl rfl) rfl (YF.anti (yf_loadRowJ rfl Try.underlying75 rfl (by kernel_rfl)) (fun _ h => h.1)) ?_; (· rfl);  skip)
          refine wd_at rfl ?_
          refine wd_pure (.some rfl rfl) rfl (by kernel_rfl) rfl J2.ext (fun w hw => hEN w) ?_
          refine wd_at rfl ?_
          (refine wd_free ?_ (.some rfl rfl) rfl (yf_index (r := .int .u32 F) rfl rfl (fun W => fg_ix F W)) ?_; (· rfl);  skip)
          refine wd_at rfl ?_
          (refine wd_free ?_ (.some rfl rfl) rfl (yf_fieldAddr (off := 17) (sz := 0) rfl Try.underlying75 (by kernel_rfl) rfl) ?_; (· rfl);  skip)
          refine wd_at rfl ?_
          (refine wd_free ?_ (.some rfl rfl) rfl (YF.anti (yf_loadJ rfl rfl Try.underlying34 rfl) (fun _ h => h.1)) ?_; (· rfl);  skip)
          refine wd_at rfl ?_
          (refine wd_free ?_ (.some rfl rfl) rfl (yf_eql rfl rfl) ?_; (· rfl);  skip)
          refine wd_at rfl ?_
          (refine wd_free ?_ .none rfl (yf_pickT rfl rfl) ?_; (· rfl);  skip)
          refine wd_at rfl ?_
          (refine wd_free ?_ .none rfl (yf_assign rfl) ?_; (· rfl);  skip)
          refine wd_endH ?_
          refine wq_then ?_
          refine wc_ret ?_
          refine wq_ret1 rfl rfl (fun w hw => ?_)
          exact ⟨by simp [fgR], (HpG.keep hw).ext⟩
        · replace hb := beq_no hb
          simp [fgR] at hb
      · skip
        cases hb
    · replace hb := beq_no hb
      simp [fgR] at hb
  · skip
    cases hb
end Go.Proofs.Ytojofinofpgopaa
