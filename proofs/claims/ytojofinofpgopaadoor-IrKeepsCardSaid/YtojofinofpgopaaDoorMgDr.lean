/- The reference's numerals. -/
import Derived.Test.YtojofinofpgopaaDoorStr
import Derived.Test.YtojofinofpgopaaDoorDPl
import Derived.Test.YtojofinofpgopaaDoorMgT
import Derived.Test.YtojofinofpgopaaDoorMgF
import Derived.Test.YtojofinofpgopaaDoorMgM
import Derived.Laws.BitsAllLaws
namespace Go.Proofs.YtojofinofpgopaaDoor
open Go.RowKit
theorem quo10 (v : Nat) : (v : Int).tdiv 10 = ((v / 10 : Nat) : Int) := (Int.ofNat_tdiv v 10).symm
theorem digC_at (u : Nat) : ∀ j (hj : j < [digC u].length), [Value.int .u8 (48 + ((u % 10 : Nat) : Int))][0 + j]? = some (.int .u8 (([digC u][j]).toNat : Int)) := fun j hj => by
  have h0 : j = 0 := by simp at hj; exact hj
  subst h0
  have : (digC u).toNat = 48 + u % 10 := by
    unfold digC
    rw [UInt8.toNat_ofNat']; omega
  show some _ = some _
  rw [List.getElem_cons_zero, this]
  rfl
set_option maxRecDepth 100000 in
theorem decimal_any (u : Nat) (hu0 : u < 4294967296) (w_0 : World) : Calls Tryd.prog 51 #[.int .u32 u] w_0 fun e w' => e = .returned (.string ⟨(Lib.decDigits u).toArray⟩) ∧ Ext w_0 w' := by
  have hD : (Lib.decDigits u).length ≤ 20 := dec_len (by omega) (by decide)
  refine calls_wc (args := [.int .u32 u]) Tryd.func51 rfl 23 rfl (Nat.le_of_ble_eq_true rfl) ?_
  refine wc_weak (.cons (i := 0) rfl <| .nil) ?_
  refine wc_conseq (H' := Hp (fun _ => False) w_0 [] [] (fun _ => True)) (fun u hu => ?_) ?_
  · subst hu; exact Hp.start0
  refine wc_seq ?_
  refine wc_region ?_
  refine wl_free .none rfl (yf_assign rfl) ?_
  refine wl_nil ?_
  refine wq_then ?_
  refine wc_seq ?_
  refine wc_region ?_
  refine wl_free .none rfl (yf_move rfl) ?_
  (refine wl_free .none rfl (yf_rem rfl rfl ?_ (Int.ofNat_tmod u 10).symm) ?_; (· first | decide | omega); skip)
  (refine wl_free .none rfl (yf_add rfl rfl (u32_in _ ?_ ?_)) ?_; (· omega); (· omega); skip)
  (refine wl_free .none rfl (yf_conv rfl (by kernel_rfl) Tryd.underlying5 (u8_in _ ?_ ?_)) ?_; (· omega); (· omega); skip)
  refine wl_new .none rfl (nf_bs1 (z := .int .u8 0) rfl rfl Tryd.underlying56 (by kernel_rfl) (by kernel_rfl) rfl rfl) (fun b8 => ?_)
  refine wl_free .none rfl (yf_convL 0 [digC u] rfl rfl Tryd.underlying56 Tryd.underlying5 Tryd.underlying9 rfl (digC_at u)) ?_
  refine wl_free .none rfl (yf_assign rfl) ?_
  refine wl_nil ?_
  refine wq_then ?_
  refine wc_seq ?_
  refine wc_block ?_
  refine wc_loop (ι := {j : Nat × List UInt8 // Lib.decDigits u = decPre j.1 ++ j.2 ∧ j.1 ≤ u}) (fun j => [(0, .int .u32 j.1.1), (3, .string ⟨j.1.2.toArray⟩)]) (fun _ => Hp (fun _ => False) w_0 [] [] (fun _ => True)) (fun j => j.1.1) ⟨(u, [digC u]), dec_pre u, Nat.le_refl _⟩ ?_ ?_ (fun j => ?_)
  · exact .cons rfl <| .cons rfl <| .nil
  · exact fun w h => Hp.drop h (List.nil_sublist _) (List.nil_sublist _)
  obtain ⟨⟨v, l⟩, hj, hv⟩ := j
  dsimp only at hj hv ⊢
  have hl : l.length ≤ 20 := by rw [hj, List.length_append] at hD; omega
  refine wc_seq ?_
  refine wc_seq ?_
  refine wc_region ?_
  refine wl_free .none rfl (yf_move rfl) ?_
  refine wl_free .none rfl (yf_geq rfl rfl) ?_
  refine wl_nil ?_
  refine wq_then ?_
  refine wc_cond rfl (fun hc => ?_) (fun hc => ?_)
  · replace hc := of_decide_eq_true hc
    refine wc_skip ?_
    refine wq_then ?_
    refine wc_block ?_
    refine wc_seq ?_
    refine wc_weak (.cons (i := 0) rfl <| .cons (i := 3) rfl <| .cons (i := 11) rfl <| .nil) ?_
    refine wc_region ?_
    refine wl_free .none rfl (yf_move rfl) ?_
    (refine wl_free .none rfl (yf_quo rfl rfl ?_ (show IntKind.u32.wrap ((v : Int).tdiv 10) = ((v / 10 : Nat) : Int) from by rw [quo10]; exact u32_in _ (by omega) (by omega))) ?_; (· first | decide | omega); skip)
    refine wl_free .none rfl (yf_assign rfl) ?_
    refine wl_nil ?_
    refine wq_then ?_
    refine wc_weak (.cons (i := 0) rfl <| .cons (i := 3) rfl <| .cons (i := 11) rfl <| .nil) ?_
    refine wc_region ?_
    refine wl_free .none rfl (yf_move rfl) ?_
    (refine wl_free .none rfl (yf_rem rfl rfl ?_ (Int.ofNat_tmod (v / 10) 10).symm) ?_; (· first | decide | omega); skip)
    (refine wl_free .none rfl (yf_add rfl rfl (u32_in _ ?_ ?_)) ?_; (· omega); (· omega); skip)
    (refine wl_free .none rfl (yf_conv rfl (by kernel_rfl) Tryd.underlying5 (u8_in _ ?_ ?_)) ?_; (· omega); (· omega); skip)
    refine wl_new .none rfl (nf_bs1 (z := .int .u8 0) rfl rfl Tryd.underlying56 (by kernel_rfl) (by kernel_rfl) rfl rfl) (fun b18 => ?_)
    refine wl_free .none rfl (yf_convL 0 [digC (v / 10)] rfl rfl Tryd.underlying56 Tryd.underlying5 Tryd.underlying9 rfl (digC_at (v / 10))) ?_
    refine wl_free .none rfl (yf_move rfl) ?_
    (refine wl_free .none rfl (yf_str_add rfl rfl ?_) ?_; (· (simp only [List.length_singleton]; omega)); skip)
    refine wl_free .none rfl (yf_assign rfl) ?_
    refine wl_nil ?_
    refine wq_block ?_
    refine wq_round (ι := {j : Nat × List UInt8 // Lib.decDigits u = decPre j.1 ++ j.2 ∧ j.1 ≤ u}) ⟨(v / 10, [digC (v / 10)] ++ l), by rw [hj, pre_step (by omega), List.append_assoc], by show v / 10 ≤ u; omega⟩ (by show v / 10 < v; omega) (.cons rfl <| .cons rfl <| .nil) (fun w h => Hp.drop h (List.nil_sublist _) (List.nil_sublist _))
  · replace hc := of_decide_eq_false hc
    refine wc_exit ?_
    refine wq_then_exit ?_
    refine wq_then_exit ?_
    refine wq_here ?_
    refine wq_then ?_
    refine wc_seq ?_
    refine wc_weak (.cons (i := 0) rfl <| .cons (i := 3) rfl <| .cons (i := 11) rfl <| .nil) ?_
    refine wc_region ?_
    refine wl_free .none rfl (yf_move rfl) ?_
    refine wl_free .none rfl (yf_assign rfl) ?_
    refine wl_nil ?_
    refine wq_then ?_
    refine wc_ret ?_
    refine wq_ret1 rfl rfl (fun w hw => ?_)
    exact ⟨by rw [hj, decPre, if_pos (by omega)]; rfl, (HpG.keep hw).ext⟩
set_option maxRecDepth 100000 in
theorem wide_any (u : Nat) (hu0 : u < 18446744073709551616) (w_0 : World) : Calls Tryd.prog 49 #[.int .u64 u] w_0 fun e w' => e = .returned (.string ⟨(Lib.decDigits u).toArray⟩) ∧ Ext w_0 w' := by
  have hD : (Lib.decDigits u).length ≤ 20 := dec_len (by omega) (by decide)
  refine calls_wc (args := [.int .u64 u]) Tryd.func49 rfl 23 rfl (Nat.le_of_ble_eq_true rfl) ?_
  refine wc_weak (.cons (i := 0) rfl <| .nil) ?_
  refine wc_conseq (H' := Hp (fun _ => False) w_0 [] [] (fun _ => True)) (fun u hu => ?_) ?_
  · subst hu; exact Hp.start0
  refine wc_seq ?_
  refine wc_region ?_
  refine wl_free .none rfl (yf_assign rfl) ?_
  refine wl_nil ?_
  refine wq_then ?_
  refine wc_seq ?_
  refine wc_region ?_
  refine wl_free .none rfl (yf_move rfl) ?_
  (refine wl_free .none rfl (yf_rem rfl rfl ?_ (Int.ofNat_tmod u 10).symm) ?_; (· first | decide | omega); skip)
  (refine wl_free .none rfl (yf_add rfl rfl (u64_in _ ?_ ?_)) ?_; (· omega); (· omega); skip)
  (refine wl_free .none rfl (yf_conv rfl (by kernel_rfl) Tryd.underlying5 (u8_in _ ?_ ?_)) ?_; (· omega); (· omega); skip)
  refine wl_new .none rfl (nf_bs1 (z := .int .u8 0) rfl rfl Tryd.underlying56 (by kernel_rfl) (by kernel_rfl) rfl rfl) (fun b8 => ?_)
  refine wl_free .none rfl (yf_convL 0 [digC u] rfl rfl Tryd.underlying56 Tryd.underlying5 Tryd.underlying9 rfl (digC_at u)) ?_
  refine wl_free .none rfl (yf_assign rfl) ?_
  refine wl_nil ?_
  refine wq_then ?_
  refine wc_seq ?_
  refine wc_block ?_
  refine wc_loop (ι := {j : Nat × List UInt8 // Lib.decDigits u = decPre j.1 ++ j.2 ∧ j.1 ≤ u}) (fun j => [(0, .int .u64 j.1.1), (3, .string ⟨j.1.2.toArray⟩)]) (fun _ => Hp (fun _ => False) w_0 [] [] (fun _ => True)) (fun j => j.1.1) ⟨(u, [digC u]), dec_pre u, Nat.le_refl _⟩ ?_ ?_ (fun j => ?_)
  · exact .cons rfl <| .cons rfl <| .nil
  · exact fun w h => Hp.drop h (List.nil_sublist _) (List.nil_sublist _)
  obtain ⟨⟨v, l⟩, hj, hv⟩ := j
  dsimp only at hj hv ⊢
  have hl : l.length ≤ 20 := by rw [hj, List.length_append] at hD; omega
  refine wc_seq ?_
  refine wc_seq ?_
  refine wc_region ?_
  refine wl_free .none rfl (yf_move rfl) ?_
  refine wl_free .none rfl (yf_geq rfl rfl) ?_
  refine wl_nil ?_
  refine wq_then ?_
  refine wc_cond rfl (fun hc => ?_) (fun hc => ?_)
  · replace hc := of_decide_eq_true hc
    refine wc_skip ?_
    refine wq_then ?_
    refine wc_block ?_
    refine wc_seq ?_
    refine wc_weak (.cons (i := 0) rfl <| .cons (i := 3) rfl <| .cons (i := 11) rfl <| .nil) ?_
    refine wc_region ?_
    refine wl_free .none rfl (yf_move rfl) ?_
    (refine wl_free .none rfl (yf_quo rfl rfl ?_ (show IntKind.u64.wrap ((v : Int).tdiv 10) = ((v / 10 : Nat) : Int) from by rw [quo10]; exact u64_in _ (by omega) (by omega))) ?_; (· first | decide | omega); skip)
    refine wl_free .none rfl (yf_assign rfl) ?_
    refine wl_nil ?_
    refine wq_then ?_
    refine wc_weak (.cons (i := 0) rfl <| .cons (i := 3) rfl <| .cons (i := 11) rfl <| .nil) ?_
    refine wc_region ?_
    refine wl_free .none rfl (yf_move rfl) ?_
    (refine wl_free .none rfl (yf_rem rfl rfl ?_ (Int.ofNat_tmod (v / 10) 10).symm) ?_; (· first | decide | omega); skip)
    (refine wl_free .none rfl (yf_add rfl rfl (u64_in _ ?_ ?_)) ?_; (· omega); (· omega); skip)
    (refine wl_free .none rfl (yf_conv rfl (by kernel_rfl) Tryd.underlying5 (u8_in _ ?_ ?_)) ?_; (· omega); (· omega); skip)
    refine wl_new .none rfl (nf_bs1 (z := .int .u8 0) rfl rfl Tryd.underlying56 (by kernel_rfl) (by kernel_rfl) rfl rfl) (fun b18 => ?_)
    refine wl_free .none rfl (yf_convL 0 [digC (v / 10)] rfl rfl Tryd.underlying56 Tryd.underlying5 Tryd.underlying9 rfl (digC_at (v / 10))) ?_
    refine wl_free .none rfl (yf_move rfl) ?_
    (refine wl_free .none rfl (yf_str_add rfl rfl ?_) ?_; (· (simp only [List.length_singleton]; omega)); skip)
    refine wl_free .none rfl (yf_assign rfl) ?_
    refine wl_nil ?_
    refine wq_block ?_
    refine wq_round (ι := {j : Nat × List UInt8 // Lib.decDigits u = decPre j.1 ++ j.2 ∧ j.1 ≤ u}) ⟨(v / 10, [digC (v / 10)] ++ l), by rw [hj, pre_step (by omega), List.append_assoc], by show v / 10 ≤ u; omega⟩ (by show v / 10 < v; omega) (.cons rfl <| .cons rfl <| .nil) (fun w h => Hp.drop h (List.nil_sublist _) (List.nil_sublist _))
  · replace hc := of_decide_eq_false hc
    refine wc_exit ?_
    refine wq_then_exit ?_
    refine wq_then_exit ?_
    refine wq_here ?_
    refine wq_then ?_
    refine wc_seq ?_
    refine wc_weak (.cons (i := 0) rfl <| .cons (i := 3) rfl <| .cons (i := 11) rfl <| .nil) ?_
    refine wc_region ?_
    refine wl_free .none rfl (yf_move rfl) ?_
    refine wl_free .none rfl (yf_assign rfl) ?_
    refine wl_nil ?_
    refine wq_then ?_
    refine wc_ret ?_
    refine wq_ret1 rfl rfl (fun w hw => ?_)
    exact ⟨by rw [hj, decPre, if_pos (by omega)]; rfl, (HpG.keep hw).ext⟩
end Go.Proofs.YtojofinofpgopaaDoor
/- The reference's names, cells, hexadecimal numerals. -/
namespace Go.Proofs.YtojofinofpgopaaDoor
open Go.RowKit
set_option maxRecDepth 100000 in
theorem refName_any (v : Int) (w_0 : World) : Calls Tryd.prog 50 #[.int .i64 v] w_0 fun e w' => e = .returned (.string ⟨(nameL v).toArray⟩) ∧ Ext w_0 w' := by
  have hD1 : 0 ≤ v → v < 16 → (Lib.decDigits v.toNat).length ≤ 2 := fun h1 h2 => dec_len (by omega) (by decide)
  have hD2 : 20 ≤ v → v < 28 → (Lib.decDigits (v - 20).toNat).length ≤ 2 := fun h1 h2 => dec_len (by omega) (by decide)
  refine calls_wc (args := [.int .i64 v]) Tryd.func50 rfl 33 rfl (Nat.le_of_ble_eq_true rfl) ?_
  refine wc_weak (.cons (i := 0) rfl <| .nil) ?_
  refine wc_conseq (H' := Hp (fun _ => False) w_0 [] [] (fun _ => True)) (fun u hu => ?_) ?_
  · subst hu; exact Hp.start0
  refine wc_seq ?_
  refine wc_region ?_
  refine wl_free .none rfl (yf_assign rfl) ?_
  refine wl_nil ?_
  refine wq_then ?_
  refine wc_seq ?_
  refine wc_seq ?_
  refine wc_region ?_
  refine wl_free .none rfl (yf_move rfl) ?_
  refine wl_free .none rfl (yf_geq rfl rfl) ?_
  refine wl_free .none rfl (yf_move rfl) ?_
  refine wl_split 5 rfl (fun hb => ?_) (fun hb => ?_)
  · replace hb := of_decide_eq_true hb
    refine wl_free (.some rfl rfl) rfl (yf_move rfl) ?_
    refine wl_free (.some rfl rfl) rfl (yf_lss rfl rfl) ?_
    refine wl_free .none rfl (yf_pickT rfl rfl) ?_
    refine wl_nil ?_
    refine wq_then ?_
    refine wc_cond rfl (fun hc => ?_) (fun hc => ?_)
    · replace hc := of_decide_eq_true hc
      refine wc_seq ?_
      refine wc_weak (.cons (i := 0) rfl <| .cons (i := 2) rfl <| .cons (i := 8) rfl <| .nil) ?_
      refine wc_region ?_
      refine wl_free .none rfl (yf_move rfl) ?_
      (refine wl_free .none rfl (yf_conv rfl (by kernel_rfl) Tryd.underlying35 (u32_in _ ?_ ?_)) ?_; (· omega); (· omega); skip)
      refine wl_pure .none rfl (by kernel_rfl) rfl (fun w hw => by
        have := decimal_any v.toNat (by omega) w
        rw [Int.toNat_of_nonneg (by omega)] at this
        exact this) ?_
      (refine wl_free .none rfl (yf_str_add rfl rfl ?_) ?_; (· (first | (simp only [List.length_append, List.length_cons, List.length_nil]; omega) | (simp <;> omega))); skip)
      refine wl_free .none rfl (yf_assign rfl) ?_
      refine wl_nil ?_
      refine wq_then ?_
      refine wc_ret ?_
      refine wq_then_ret ?_
      refine wq_ret1 rfl rfl (fun w hw => ?_)
      exact ⟨by first | (subst hc; first | rw [nameL16] | rw [nameL17] | rw [nameL18] | rw [nameL19]) | (rw [nameL_r] <;> assumption) | (rw [nameL_t] <;> assumption) | (rw [nameL_q] <;> omega), (HpG.keep hw).ext⟩
    · replace hc := of_decide_eq_false hc
      refine wc_skip ?_
      refine wq_then ?_
      refine wc_seq ?_
      refine wc_seq ?_
      refine wc_weak (.cons (i := 0) rfl <| .cons (i := 2) rfl <| .cons (i := 8) rfl <| .nil) ?_
      refine wc_region ?_
      refine wl_free .none rfl (yf_move rfl) ?_
      refine wl_free .none rfl (yf_geq rfl rfl) ?_
      refine wl_free .none rfl (yf_move rfl) ?_
      refine wl_split 15 rfl (fun hb => ?_) (fun hb => ?_)
      · replace hb := of_decide_eq_true hb
        refine wl_free (.some rfl rfl) rfl (yf_move rfl) ?_
        refine wl_free (.some rfl rfl) rfl (yf_lss rfl rfl) ?_
        refine wl_free .none rfl (yf_pickT rfl rfl) ?_
        refine wl_nil ?_
        refine wq_then ?_
        refine wc_cond rfl (fun hc => ?_) (fun hc => ?_)
        · replace hc := of_decide_eq_true hc
          refine wc_seq ?_
          refine wc_weak (.cons (i := 0) rfl <| .cons (i := 2) rfl <| .cons (i := 8) rfl <| .cons (i := 18) rfl <| .nil) ?_
          refine wc_region ?_
          refine wl_free .none rfl (yf_move rfl) ?_
          (refine wl_free .none rfl (yf_sub rfl rfl (i64_in _ ?_ ?_)) ?_; (· omega); (· omega); skip)
          (refine wl_free .none rfl (yf_conv rfl (by kernel_rfl) Tryd.underlying35 (u32_in _ ?_ ?_)) ?_; (· omega); (· omega); skip)
          refine wl_pure .none rfl (by kernel_rfl) rfl (fun w hw => by
            have := decimal_any (v - 20).toNat (by omega) w
            rw [Int.toNat_of_nonneg (by omega)] at this
            exact this) ?_
          (refine wl_free .none rfl (yf_str_add rfl rfl ?_) ?_; (· (first | (simp only [List.length_append, List.length_cons, List.length_nil]; omega) | (simp <;> omega))); skip)
          refine wl_free .none rfl (yf_assign rfl) ?_
          refine wl_nil ?_
          refine wq_then ?_
          refine wc_ret ?_
          refine wq_then_ret ?_
          refine wq_ret1 rfl rfl (fun w hw => ?_)
          exact ⟨by first | (subst hc; first | rw [nameL16] | rw [nameL17] | rw [nameL18] | rw [nameL19]) | (rw [nameL_r] <;> assumption) | (rw [nameL_t] <;> assumption) | (rw [nameL_q] <;> omega), (HpG.keep hw).ext⟩
        · replace hc := of_decide_eq_false hc
          refine wc_skip ?_
          refine wq_then ?_
          refine wc_seq ?_
          refine wc_seq ?_
          refine wc_weak (.cons (i := 0) rfl <| .cons (i := 2) rfl <| .cons (i := 8) rfl <| .cons (i := 18) rfl <| .nil) ?_
          refine wc_region ?_
          refine wl_free .none rfl (yf_move rfl) ?_
          refine wl_nil ?_
          refine wq_then ?_
          refine wc_block ?_
          refine wc_seq ?_
          refine wc_region ?_
          refine wl_free .none rfl (yf_eql rfl rfl) ?_
          refine wl_free .none rfl (yf_assign rfl) ?_
          refine wl_nil ?_
          refine wq_then ?_
          refine wc_cond rfl (fun hc => ?_) (fun hc => ?_)
          · replace hc := eq_of_beq hc
            refine wc_seq ?_
            refine wc_weak (.cons (i := 0) rfl <| .cons (i := 2) rfl <| .cons (i := 8) rfl <| .cons (i := 18) rfl <| .cons (i := 24) rfl <| .cons (i := 25) rfl <| .nil) ?_
            refine wc_region ?_
            refine wl_free .none rfl (yf_assign rfl) ?_
            refine wl_nil ?_
            refine wq_then ?_
            refine wc_ret ?_
            refine wq_block_ret ?_
            refine wq_then_ret ?_
            refine wq_ret1 rfl rfl (fun w hw => ?_)
            exact ⟨by first | (subst hc; first | rw [nameL16] | rw [nameL17] | rw [nameL18] | rw [nameL19]) | (rw [nameL_r] <;> assumption) | (rw [nameL_t] <;> assumption) | (rw [nameL_q] <;> omega), (HpG.keep hw).ext⟩
          · replace hc := beq_no hc
            refine wc_seq ?_
            refine wc_weak (.cons (i := 0) rfl <| .cons (i := 2) rfl <| .cons (i := 8) rfl <| .cons (i := 18) rfl <| .cons (i := 24) rfl <| .cons (i := 25) rfl <| .nil) ?_
            refine wc_region ?_
            refine wl_free .none rfl (yf_eql rfl rfl) ?_
            refine wl_free .none rfl (yf_assign rfl) ?_
            refine wl_nil ?_
            refine wq_then ?_
            refine wc_cond rfl (fun hc => ?_) (fun hc => ?_)
            · replace hc := eq_of_beq hc
              refine wc_seq ?_
              refine wc_weak (.cons (i := 0) rfl <| .cons (i := 2) rfl <| .cons (i := 8) rfl <| .cons (i := 18) rfl <| .cons (i := 24) rfl <| .cons (i := 25) rfl <| .cons (i := 27) rfl <| .nil) ?_
              refine wc_region ?_
              refine wl_free .none rfl (yf_assign rfl) ?_
              refine wl_nil ?_
              refine wq_then ?_
              refine wc_ret ?_
              refine wq_block_ret ?_
              refine wq_then_ret ?_
              refine wq_ret1 rfl rfl (fun w hw => ?_)
              exact ⟨by first | (subst hc; first | rw [nameL16] | rw [nameL17] | rw [nameL18] | rw [nameL19]) | (rw [nameL_r] <;> assumption) | (rw [nameL_t] <;> assumption) | (rw [nameL_q] <;> omega), (HpG.keep hw).ext⟩
            · replace hc := beq_no hc
              refine wc_seq ?_
              refine wc_weak (.cons (i := 0) rfl <| .cons (i := 2) rfl <| .cons (i := 8) rfl <| .cons (i := 18) rfl <| .cons (i := 24) rfl <| .cons (i := 25) rfl <| .cons (i := 27) rfl <| .nil) ?_
              refine wc_region ?_
              refine wl_free .none rfl (yf_eql rfl rfl) ?_
              refine wl_free .none rfl (yf_assign rfl) ?_
              refine wl_nil ?_
              refine wq_then ?_
              refine wc_cond rfl (fun hc => ?_) (fun hc => ?_)
              · replace hc := eq_of_beq hc
                refine wc_seq ?_
                refine wc_weak (.cons (i := 0) rfl <| .cons (i := 2) rfl <| .cons (i := 8) rfl <| .cons (i := 18) rfl <| .cons (i := 24) rfl <| .cons (i := 25) rfl <| .cons (i := 27) rfl <| .cons (i := 29) rfl <| .nil) ?_
                refine wc_region ?_
                refine wl_free .none rfl (yf_assign rfl) ?_
                refine wl_nil ?_
                refine wq_then ?_
                refine wc_ret ?_
                refine wq_block_ret ?_
                refine wq_then_ret ?_
                refine wq_ret1 rfl rfl (fun w hw => ?_)
                exact ⟨by first | (subst hc; first | rw [nameL16] | rw [nameL17] | rw [nameL18] | rw [nameL19]) | (rw [nameL_r] <;> assumption) | (rw [nameL_t] <;> assumption) | (rw [nameL_q] <;> omega), (HpG.keep hw).ext⟩
              · replace hc := beq_no hc
                refine wc_seq ?_
                refine wc_weak (.cons (i := 0) rfl <| .cons (i := 2) rfl <| .cons (i := 8) rfl <| .cons (i := 18) rfl <| .cons (i := 24) rfl <| .cons (i := 25) rfl <| .cons (i := 27) rfl <| .cons (i := 29) rfl <| .nil) ?_
                refine wc_region ?_
                refine wl_free .none rfl (yf_eql rfl rfl) ?_
                refine wl_free .none rfl (yf_assign rfl) ?_
                refine wl_nil ?_
                refine wq_then ?_
                refine wc_cond rfl (fun hc => ?_) (fun hc => ?_)
                · replace hc := eq_of_beq hc
                  refine wc_seq ?_
                  refine wc_weak (.cons (i := 0) rfl <| .cons (i := 2) rfl <| .cons (i := 8) rfl <| .cons (i := 18) rfl <| .cons (i := 24) rfl <| .cons (i := 25) rfl <| .cons (i := 27) rfl <| .cons (i := 29) rfl <| .cons (i := 31) rfl <| .nil) ?_
                  refine wc_region ?_
                  refine wl_free .none rfl (yf_assign rfl) ?_
                  refine wl_nil ?_
                  refine wq_then ?_
                  refine wc_ret ?_
                  refine wq_block_ret ?_
                  refine wq_then_ret ?_
                  refine wq_ret1 rfl rfl (fun w hw => ?_)
                  exact ⟨by first | (subst hc; first | rw [nameL16] | rw [nameL17] | rw [nameL18] | rw [nameL19]) | (rw [nameL_r] <;> assumption) | (rw [nameL_t] <;> assumption) | (rw [nameL_q] <;> omega), (HpG.keep hw).ext⟩
                · replace hc := beq_no hc
                  refine wc_skip ?_
                  refine wq_block ?_
                  refine wq_then ?_
                  refine wc_seq ?_
                  refine wc_weak (.cons (i := 0) rfl <| .cons (i := 2) rfl <| .cons (i := 8) rfl <| .cons (i := 18) rfl <| .cons (i := 24) rfl <| .cons (i := 25) rfl <| .cons (i := 27) rfl <| .cons (i := 29) rfl <| .cons (i := 31) rfl <| .nil) ?_
                  refine wc_region ?_
                  refine wl_free .none rfl (yf_assign rfl) ?_
                  refine wl_nil ?_
                  refine wq_then ?_
                  refine wc_ret ?_
                  refine wq_ret1 rfl rfl (fun w hw => ?_)
                  exact ⟨by first | (subst hc; first | rw [nameL16] | rw [nameL17] | rw [nameL18] | rw [nameL19]) | (rw [nameL_r] <;> assumption) | (rw [nameL_t] <;> assumption) | (rw [nameL_q] <;> omega), (HpG.keep hw).ext⟩
      · replace hb := of_decide_eq_false hb
        refine wl_pass (.some rfl rfl rfl) rfl ?_
        refine wl_pass (.some rfl rfl rfl) rfl ?_
        refine wl_free .none rfl (yf_pickF rfl rfl) ?_
        refine wl_nil ?_
        refine wq_then ?_
        refine wc_false rfl ?_
        refine wc_skip ?_
        refine wq_then ?_
        refine wc_seq ?_
        refine wc_seq ?_
        refine wc_weak (.cons (i := 0) rfl <| .cons (i := 2) rfl <| .cons (i := 8) rfl <| .cons (i := 18) rfl <| .nil) ?_
        refine wc_region ?_
        refine wl_free .none rfl (yf_move rfl) ?_
        refine wl_nil ?_
        refine wq_then ?_
        refine wc_block ?_
        refine wc_seq ?_
        refine wc_region ?_
        refine wl_free .none rfl (yf_eql rfl rfl) ?_
        refine wl_free .none rfl (yf_assign rfl) ?_
        refine wl_nil ?_
        refine wq_then ?_
        refine wc_cond rfl (fun hc => ?_) (fun hc => ?_)
        · replace hc := eq_of_beq hc
          refine wc_seq ?_
          refine wc_weak (.cons (i := 0) rfl <| .cons (i := 2) rfl <| .cons (i := 8) rfl <| .cons (i := 18) rfl <| .cons (i := 24) rfl <| .cons (i := 25) rfl <| .nil) ?_
          refine wc_region ?_
          refine wl_free .none rfl (yf_assign rfl) ?_
          refine wl_nil ?_
          refine wq_then ?_
          refine wc_ret ?_
          refine wq_block_ret ?_
          refine wq_then_ret ?_
          refine wq_ret1 rfl rfl (fun w hw => ?_)
          exact ⟨by first | (subst hc; first | rw [nameL16] | rw [nameL17] | rw [nameL18] | rw [nameL19]) | (rw [nameL_r] <;> assumption) | (rw [nameL_t] <;> assumption) | (rw [nameL_q] <;> omega), (HpG.keep hw).ext⟩
        · replace hc := beq_no hc
          refine wc_seq ?_
          refine wc_weak (.cons (i := 0) rfl <| .cons (i := 2) rfl <| .cons (i := 8) rfl <| .cons (i := 18) rfl <| .cons (i := 24) rfl <| .cons (i := 25) rfl <| .nil) ?_
          refine wc_region ?_
          refine wl_free .none rfl (yf_eql rfl rfl) ?_
          refine wl_free .none rfl (yf_assign rfl) ?_
          refine wl_nil ?_
          refine wq_then ?_
          refine wc_cond rfl (fun hc => ?_) (fun hc => ?_)
          · replace hc := eq_of_beq hc
            refine wc_seq ?_
            refine wc_weak (.cons (i := 0) rfl <| .cons (i := 2) rfl <| .cons (i := 8) rfl <| .cons (i := 18) rfl <| .cons (i := 24) rfl <| .cons (i := 25) rfl <| .cons (i := 27) rfl <| .nil) ?_
            refine wc_region ?_
            refine wl_free .none rfl (yf_assign rfl) ?_
            refine wl_nil ?_
            refine wq_then ?_
            refine wc_ret ?_
            refine wq_block_ret ?_
            refine wq_then_ret ?_
            refine wq_ret1 rfl rfl (fun w hw => ?_)
            exact ⟨by first | (subst hc; first | rw [nameL16] | rw [nameL17] | rw [nameL18] | rw [nameL19]) | (rw [nameL_r] <;> assumption) | (rw [nameL_t] <;> assumption) | (rw [nameL_q] <;> omega), (HpG.keep hw).ext⟩
          · replace hc := beq_no hc
            refine wc_seq ?_
            refine wc_weak (.cons (i := 0) rfl <| .cons (i := 2) rfl <| .cons (i := 8) rfl <| .cons (i := 18) rfl <| .cons (i := 24) rfl <| .cons (i := 25) rfl <| .cons (i := 27) rfl <| .nil) ?_
            refine wc_region ?_
            refine wl_free .none rfl (yf_eql rfl rfl) ?_
            refine wl_free .none rfl (yf_assign rfl) ?_
            refine wl_nil ?_
            refine wq_then ?_
            refine wc_cond rfl (fun hc => ?_) (fun hc => ?_)
            · replace hc := eq_of_beq hc
              refine wc_seq ?_
              refine wc_weak (.cons (i := 0) rfl <| .cons (i := 2) rfl <| .cons (i := 8) rfl <| .cons (i := 18) rfl <| .cons (i := 24) rfl <| .cons (i := 25) rfl <| .cons (i := 27) rfl <| .cons (i := 29) rfl <| .nil) ?_
              refine wc_region ?_
              refine wl_free .none rfl (yf_assign rfl) ?_
              refine wl_nil ?_
              refine wq_then ?_
              refine wc_ret ?_
              refine wq_block_ret ?_
              refine wq_then_ret ?_
              refine wq_ret1 rfl rfl (fun w hw => ?_)
              exact ⟨by first | (subst hc; first | rw [nameL16] | rw [nameL17] | rw [nameL18] | rw [nameL19]) | (rw [nameL_r] <;> assumption) | (rw [nameL_t] <;> assumption) | (rw [nameL_q] <;> omega), (HpG.keep hw).ext⟩
            · replace hc := beq_no hc
              refine wc_seq ?_
              refine wc_weak (.cons (i := 0) rfl <| .cons (i := 2) rfl <| .cons (i := 8) rfl <| .cons (i := 18) rfl <| .cons (i := 24) rfl <| .cons (i := 25) rfl <| .cons (i := 27) rfl <| .cons (i := 29) rfl <| .nil) ?_
              refine wc_region ?_
              refine wl_free .none rfl (yf_eql rfl rfl) ?_
              refine wl_free .none rfl (yf_assign rfl) ?_
              refine wl_nil ?_
              refine wq_then ?_
              refine wc_cond rfl (fun hc => ?_) (fun hc => ?_)
              · replace hc := eq_of_beq hc
                refine wc_seq ?_
                refine wc_weak (.cons (i := 0) rfl <| .cons (i := 2) rfl <| .cons (i := 8) rfl <| .cons (i := 18) rfl <| .cons (i := 24) rfl <| .cons (i := 25) rfl <| .cons (i := 27) rfl <| .cons (i := 29) rfl <| .cons (i := 31) rfl <| .nil) ?_
                refine wc_region ?_
                refine wl_free .none rfl (yf_assign rfl) ?_
                refine wl_nil ?_
                refine wq_then ?_
                refine wc_ret ?_
                refine wq_block_ret ?_
                refine wq_then_ret ?_
                refine wq_ret1 rfl rfl (fun w hw => ?_)
                exact ⟨by first | (subst hc; first | rw [nameL16] | rw [nameL17] | rw [nameL18] | rw [nameL19]) | (rw [nameL_r] <;> assumption) | (rw [nameL_t] <;> assumption) | (rw [nameL_q] <;> omega), (HpG.keep hw).ext⟩
              · replace hc := beq_no hc
                refine wc_skip ?_
                refine wq_block ?_
                refine wq_then ?_
                refine wc_seq ?_
                refine wc_weak (.cons (i := 0) rfl <| .cons (i := 2) rfl <| .cons (i := 8) rfl <| .cons (i := 18) rfl <| .cons (i := 24) rfl <| .cons (i := 25) rfl <| .cons (i := 27) rfl <| .cons (i := 29) rfl <| .cons (i := 31) rfl <| .nil) ?_
                refine wc_region ?_
                refine wl_free .none rfl (yf_assign rfl) ?_
                refine wl_nil ?_
                refine wq_then ?_
                refine wc_ret ?_
                refine wq_ret1 rfl rfl (fun w hw => ?_)
                exact ⟨by first | (subst hc; first | rw [nameL16] | rw [nameL17] | rw [nameL18] | rw [nameL19]) | (rw [nameL_r] <;> assumption) | (rw [nameL_t] <;> assumption) | (rw [nameL_q] <;> omega), (HpG.keep hw).ext⟩
  · replace hb := of_decide_eq_false hb
    refine wl_pass (.some rfl rfl rfl) rfl ?_
    refine wl_pass (.some rfl rfl rfl) rfl ?_
    refine wl_free .none rfl (yf_pickF rfl rfl) ?_
    refine wl_nil ?_
    refine wq_then ?_
    refine wc_false rfl ?_
    refine wc_skip ?_
    refine wq_then ?_
    refine wc_seq ?_
    refine wc_seq ?_
    refine wc_weak (.cons (i := 0) rfl <| .cons (i := 2) rfl <| .cons (i := 8) rfl <| .nil) ?_
    refine wc_region ?_
    refine wl_free .none rfl (yf_move rfl) ?_
    refine wl_free .none rfl (yf_geq rfl rfl) ?_
    refine wl_free .none rfl (yf_move rfl) ?_
    refine wl_split 15 rfl (fun hb => ?_) (fun hb => ?_)
    · replace hb := of_decide_eq_true hb
      refine wl_free (.some rfl rfl) rfl (yf_move rfl) ?_
      refine wl_free (.some rfl rfl) rfl (yf_lss rfl rfl) ?_
      refine wl_free .none rfl (yf_pickT rfl rfl) ?_
      refine wl_nil ?_
      refine wq_then ?_
      refine wc_cond rfl (fun hc => ?_) (fun hc => ?_)
      · replace hc := of_decide_eq_true hc
        refine wc_seq ?_
        refine wc_weak (.cons (i := 0) rfl <| .cons (i := 2) rfl <| .cons (i := 8) rfl <| .cons (i := 18) rfl <| .nil) ?_
        refine wc_region ?_
        refine wl_free .none rfl (yf_move rfl) ?_
        (refine wl_free .none rfl (yf_sub rfl rfl (i64_in _ ?_ ?_)) ?_; (· omega); (· omega); skip)
        (refine wl_free .none rfl (yf_conv rfl (by kernel_rfl) Tryd.underlying35 (u32_in _ ?_ ?_)) ?_; (· omega); (· omega); skip)
        refine wl_pure .none rfl (by kernel_rfl) rfl (fun w hw => by
          have := decimal_any (v - 20).toNat (by omega) w
          rw [Int.toNat_of_nonneg (by omega)] at this
          exact this) ?_
        (refine wl_free .none rfl (yf_str_add rfl rfl ?_) ?_; (· (first | (simp only [List.length_append, List.length_cons, List.length_nil]; omega) | (simp <;> omega))); skip)
        refine wl_free .none rfl (yf_assign rfl) ?_
        refine wl_nil ?_
        refine wq_then ?_
        refine wc_ret ?_
        refine wq_then_ret ?_
        refine wq_ret1 rfl rfl (fun w hw => ?_)
        exact ⟨by first | (subst hc; first | rw [nameL16] | rw [nameL17] | rw [nameL18] | rw [nameL19]) | (rw [nameL_r] <;> assumption) | (rw [nameL_t] <;> assumption) | (rw [nameL_q] <;> omega), (HpG.keep hw).ext⟩
      · replace hc := of_decide_eq_false hc
        refine wc_skip ?_
        refine wq_then ?_
        refine wc_seq ?_
        refine wc_seq ?_
        refine wc_weak (.cons (i := 0) rfl <| .cons (i := 2) rfl <| .cons (i := 8) rfl <| .cons (i := 18) rfl <| .nil) ?_
        refine wc_region ?_
        refine wl_free .none rfl (yf_move rfl) ?_
        refine wl_nil ?_
        refine wq_then ?_
        refine wc_block ?_
        refine wc_seq ?_
        refine wc_region ?_
        refine wl_free .none rfl (yf_eql rfl rfl) ?_
        refine wl_free .none rfl (yf_assign rfl) ?_
        refine wl_nil ?_
        refine wq_then ?_
        refine wc_cond rfl (fun hc => ?_) (fun hc => ?_)
        · replace hc := eq_of_beq hc
          refine wc_seq ?_
          refine wc_weak (.cons (i := 0) rfl <| .cons (i := 2) rfl <| .cons (i := 8) rfl <| .cons (i := 18) rfl <| .cons (i := 24) rfl <| .cons (i := 25) rfl <| .nil) ?_
          refine wc_region ?_
          refine wl_free .none rfl (yf_assign rfl) ?_
          refine wl_nil ?_
          refine wq_then ?_
          refine wc_ret ?_
          refine wq_block_ret ?_
          refine wq_then_ret ?_
          refine wq_ret1 rfl rfl (fun w hw => ?_)
          exact ⟨by first | (subst hc; first | rw [nameL16] | rw [nameL17] | rw [nameL18] | rw [nameL19]) | (rw [nameL_r] <;> assumption) | (rw [nameL_t] <;> assumption) | (rw [nameL_q] <;> omega), (HpG.keep hw).ext⟩
        · replace hc := beq_no hc
          refine wc_seq ?_
          refine wc_weak (.cons (i := 0) rfl <| .cons (i := 2) rfl <| .cons (i := 8) rfl <| .cons (i := 18) rfl <| .cons (i := 24) rfl <| .cons (i := 25) rfl <| .nil) ?_
          refine wc_region ?_
          refine wl_free .none rfl (yf_eql rfl rfl) ?_
          refine wl_free .none rfl (yf_assign rfl) ?_
          refine wl_nil ?_
          refine wq_then ?_
          refine wc_cond rfl (fun hc => ?_) (fun hc => ?_)
          · replace hc := eq_of_beq hc
            refine wc_seq ?_
            refine wc_weak (.cons (i := 0) rfl <| .cons (i := 2) rfl <| .cons (i := 8) rfl <| .cons (i := 18) rfl <| .cons (i := 24) rfl <| .cons (i := 25) rfl <| .cons (i := 27) rfl <| .nil) ?_
            refine wc_region ?_
            refine wl_free .none rfl (yf_assign rfl) ?_
            refine wl_nil ?_
            refine wq_then ?_
            refine wc_ret ?_
            refine wq_block_ret ?_
            refine wq_then_ret ?_
            refine wq_ret1 rfl rfl (fun w hw => ?_)
            exact ⟨by first | (subst hc; first | rw [nameL16] | rw [nameL17] | rw [nameL18] | rw [nameL19]) | (rw [nameL_r] <;> assumption) | (rw [nameL_t] <;> assumption) | (rw [nameL_q] <;> omega), (HpG.keep hw).ext⟩
          · replace hc := beq_no hc
            refine wc_seq ?_
            refine wc_weak (.cons (i := 0) rfl <| .cons (i := 2) rfl <| .cons (i := 8) rfl <| .cons (i := 18) rfl <| .cons (i := 24) rfl <| .cons (i := 25) rfl <| .cons (i := 27) rfl <| .nil) ?_
            refine wc_region ?_
            refine wl_free .none rfl (yf_eql rfl rfl) ?_
            refine wl_free .none rfl (yf_assign rfl) ?_
            refine wl_nil ?_
            refine wq_then ?_
            refine wc_cond rfl (fun hc => ?_) (fun hc => ?_)
            · replace hc := eq_of_beq hc
              refine wc_seq ?_
              refine wc_weak (.cons (i := 0) rfl <| .cons (i := 2) rfl <| .cons (i := 8) rfl <| .cons (i := 18) rfl <| .cons (i := 24) rfl <| .cons (i := 25) rfl <| .cons (i := 27) rfl <| .cons (i := 29) rfl <| .nil) ?_
              refine wc_region ?_
              refine wl_free .none rfl (yf_assign rfl) ?_
              refine wl_nil ?_
              refine wq_then ?_
              refine wc_ret ?_
              refine wq_block_ret ?_
              refine wq_then_ret ?_
              refine wq_ret1 rfl rfl (fun w hw => ?_)
              exact ⟨by first | (subst hc; first | rw [nameL16] | rw [nameL17] | rw [nameL18] | rw [nameL19]) | (rw [nameL_r] <;> assumption) | (rw [nameL_t] <;> assumption) | (rw [nameL_q] <;> omega), (HpG.keep hw).ext⟩
            · replace hc := beq_no hc
              refine wc_seq ?_
              refine wc_weak (.cons (i := 0) rfl <| .cons (i := 2) rfl <| .cons (i := 8) rfl <| .cons (i := 18) rfl <| .cons (i := 24) rfl <| .cons (i := 25) rfl <| .cons (i := 27) rfl <| .cons (i := 29) rfl <| .nil) ?_
              refine wc_region ?_
              refine wl_free .none rfl (yf_eql rfl rfl) ?_
              refine wl_free .none rfl (yf_assign rfl) ?_
              refine wl_nil ?_
              refine wq_then ?_
              refine wc_cond rfl (fun hc => ?_) (fun hc => ?_)
              · replace hc := eq_of_beq hc
                refine wc_seq ?_
                refine wc_weak (.cons (i := 0) rfl <| .cons (i := 2) rfl <| .cons (i := 8) rfl <| .cons (i := 18) rfl <| .cons (i := 24) rfl <| .cons (i := 25) rfl <| .cons (i := 27) rfl <| .cons (i := 29) rfl <| .cons (i := 31) rfl <| .nil) ?_
                refine wc_region ?_
                refine wl_free .none rfl (yf_assign rfl) ?_
                refine wl_nil ?_
                refine wq_then ?_
                refine wc_ret ?_
                refine wq_block_ret ?_
                refine wq_then_ret ?_
                refine wq_ret1 rfl rfl (fun w hw => ?_)
                exact ⟨by first | (subst hc; first | rw [nameL16] | rw [nameL17] | rw [nameL18] | rw [nameL19]) | (rw [nameL_r] <;> assumption) | (rw [nameL_t] <;> assumption) | (rw [nameL_q] <;> omega), (HpG.keep hw).ext⟩
              · replace hc := beq_no hc
                refine wc_skip ?_
                refine wq_block ?_
                refine wq_then ?_
                refine wc_seq ?_
                refine wc_weak (.cons (i := 0) rfl <| .cons (i := 2) rfl <| .cons (i := 8) rfl <| .cons (i := 18) rfl <| .cons (i := 24) rfl <| .cons (i := 25) rfl <| .cons (i := 27) rfl <| .cons (i := 29) rfl <| .cons (i := 31) rfl <| .nil) ?_
                refine wc_region ?_
                refine wl_free .none rfl (yf_assign rfl) ?_
                refine wl_nil ?_
                refine wq_then ?_
                refine wc_ret ?_
                refine wq_ret1 rfl rfl (fun w hw => ?_)
                exact ⟨by first | (subst hc; first | rw [nameL16] | rw [nameL17] | rw [nameL18] | rw [nameL19]) | (rw [nameL_r] <;> assumption) | (rw [nameL_t] <;> assumption) | (rw [nameL_q] <;> omega), (HpG.keep hw).ext⟩
    · replace hb := of_decide_eq_false hb
      refine wl_pass (.some rfl rfl rfl) rfl ?_
      refine wl_pass (.some rfl rfl rfl) rfl ?_
      refine wl_free .none rfl (yf_pickF rfl rfl) ?_
      refine wl_nil ?_
      refine wq_then ?_
      refine wc_false rfl ?_
      refine wc_skip ?_
      refine wq_then ?_
      refine wc_seq ?_
      refine wc_seq ?_
      refine wc_weak (.cons (i := 0) rfl <| .cons (i := 2) rfl <| .cons (i := 8) rfl <| .cons (i := 18) rfl <| .nil) ?_
      refine wc_region ?_
      refine wl_free .none rfl (yf_move rfl) ?_
      refine wl_nil ?_
      refine wq_then ?_
      refine wc_block ?_
      refine wc_seq ?_
      refine wc_region ?_
      refine wl_free .none rfl (yf_eql rfl rfl) ?_
      refine wl_free .none rfl (yf_assign rfl) ?_
      refine wl_nil ?_
      refine wq_then ?_
      refine wc_cond rfl (fun hc => ?_) (fun hc => ?_)
      · replace hc := eq_of_beq hc
        refine wc_seq ?_
        refine wc_weak (.cons (i := 0) rfl <| .cons (i := 2) rfl <| .cons (i := 8) rfl <| .cons (i := 18) rfl <| .cons (i := 24) rfl <| .cons (i := 25) rfl <| .nil) ?_
        refine wc_region ?_
        refine wl_free .none rfl (yf_assign rfl) ?_
        refine wl_nil ?_
        refine wq_then ?_
        refine wc_ret ?_
        refine wq_block_ret ?_
        refine wq_then_ret ?_
        refine wq_ret1 rfl rfl (fun w hw => ?_)
        exact ⟨by first | (subst hc; first | rw [nameL16] | rw [nameL17] | rw [nameL18] | rw [nameL19]) | (rw [nameL_r] <;> assumption) | (rw [nameL_t] <;> assumption) | (rw [nameL_q] <;> omega), (HpG.keep hw).ext⟩
      · replace hc := beq_no hc
        refine wc_seq ?_
        refine wc_weak (.cons (i := 0) rfl <| .cons (i := 2) rfl <| .cons (i := 8) rfl <| .cons (i := 18) rfl <| .cons (i := 24) rfl <| .cons (i := 25) rfl <| .nil) ?_
        refine wc_region ?_
        refine wl_free .none rfl (yf_eql rfl rfl) ?_
        refine wl_free .none rfl (yf_assign rfl) ?_
        refine wl_nil ?_
        refine wq_then ?_
        refine wc_cond rfl (fun hc => ?_) (fun hc => ?_)
        · replace hc := eq_of_beq hc
          refine wc_seq ?_
          refine wc_weak (.cons (i := 0) rfl <| .cons (i := 2) rfl <| .cons (i := 8) rfl <| .cons (i := 18) rfl <| .cons (i := 24) rfl <| .cons (i := 25) rfl <| .cons (i := 27) rfl <| .nil) ?_
          refine wc_region ?_
          refine wl_free .none rfl (yf_assign rfl) ?_
          refine wl_nil ?_
          refine wq_then ?_
          refine wc_ret ?_
          refine wq_block_ret ?_
          refine wq_then_ret ?_
          refine wq_ret1 rfl rfl (fun w hw => ?_)
          exact ⟨by first | (subst hc; first | rw [nameL16] | rw [nameL17] | rw [nameL18] | rw [nameL19]) | (rw [nameL_r] <;> assumption) | (rw [nameL_t] <;> assumption) | (rw [nameL_q] <;> omega), (HpG.keep hw).ext⟩
        · replace hc := beq_no hc
          refine wc_seq ?_
          refine wc_weak (.cons (i := 0) rfl <| .cons (i := 2) rfl <| .cons (i := 8) rfl <| .cons (i := 18) rfl <| .cons (i := 24) rfl <| .cons (i := 25) rfl <| .cons (i := 27) rfl <| .nil) ?_
          refine wc_region ?_
          refine wl_free .none rfl (yf_eql rfl rfl) ?_
          refine wl_free .none rfl (yf_assign rfl) ?_
          refine wl_nil ?_
          refine wq_then ?_
          refine wc_cond rfl (fun hc => ?_) (fun hc => ?_)
          · replace hc := eq_of_beq hc
            refine wc_seq ?_
            refine wc_weak (.cons (i := 0) rfl <| .cons (i := 2) rfl <| .cons (i := 8) rfl <| .cons (i := 18) rfl <| .cons (i := 24) rfl <| .cons (i := 25) rfl <| .cons (i := 27) rfl <| .cons (i := 29) rfl <| .nil) ?_
            refine wc_region ?_
            refine wl_free .none rfl (yf_assign rfl) ?_
            refine wl_nil ?_
            refine wq_then ?_
            refine wc_ret ?_
            refine wq_block_ret ?_
            refine wq_then_ret ?_
            refine wq_ret1 rfl rfl (fun w hw => ?_)
            exact ⟨by first | (subst hc; first | rw [nameL16] | rw [nameL17] | rw [nameL18] | rw [nameL19]) | (rw [nameL_r] <;> assumption) | (rw [nameL_t] <;> assumption) | (rw [nameL_q] <;> omega), (HpG.keep hw).ext⟩
          · replace hc := beq_no hc
            refine wc_seq ?_
            refine wc_weak (.cons (i := 0) rfl <| .cons (i := 2) rfl <| .cons (i := 8) rfl <| .cons (i := 18) rfl <| .cons (i := 24) rfl <| .cons (i := 25) rfl <| .cons (i := 27) rfl <| .cons (i := 29) rfl <| .nil) ?_
            refine wc_region ?_
            refine wl_free .none rfl (yf_eql rfl rfl) ?_
            refine wl_free .none rfl (yf_assign rfl) ?_
            refine wl_nil ?_
            refine wq_then ?_
            refine wc_cond rfl (fun hc => ?_) (fun hc => ?_)
            · replace hc := eq_of_beq hc
              refine wc_seq ?_
              refine wc_weak (.cons (i := 0) rfl <| .cons (i := 2) rfl <| .cons (i := 8) rfl <| .cons (i := 18) rfl <| .cons (i := 24) rfl <| .cons (i := 25) rfl <| .cons (i := 27) rfl <| .cons (i := 29) rfl <| .cons (i := 31) rfl <| .nil) ?_
              refine wc_region ?_
              refine wl_free .none rfl (yf_assign rfl) ?_
              refine wl_nil ?_
              refine wq_then ?_
              refine wc_ret ?_
              refine wq_block_ret ?_
              refine wq_then_ret ?_
              refine wq_ret1 rfl rfl (fun w hw => ?_)
              exact ⟨by first | (subst hc; first | rw [nameL16] | rw [nameL17] | rw [nameL18] | rw [nameL19]) | (rw [nameL_r] <;> assumption) | (rw [nameL_t] <;> assumption) | (rw [nameL_q] <;> omega), (HpG.keep hw).ext⟩
            · replace hc := beq_no hc
              refine wc_skip ?_
              refine wq_block ?_
              refine wq_then ?_
              refine wc_seq ?_
              refine wc_weak (.cons (i := 0) rfl <| .cons (i := 2) rfl <| .cons (i := 8) rfl <| .cons (i := 18) rfl <| .cons (i := 24) rfl <| .cons (i := 25) rfl <| .cons (i := 27) rfl <| .cons (i := 29) rfl <| .cons (i := 31) rfl <| .nil) ?_
              refine wc_region ?_
              refine wl_free .none rfl (yf_assign rfl) ?_
              refine wl_nil ?_
              refine wq_then ?_
              refine wc_ret ?_
              refine wq_ret1 rfl rfl (fun w hw => ?_)
              exact ⟨by first | (subst hc; first | rw [nameL16] | rw [nameL17] | rw [nameL18] | rw [nameL19]) | (rw [nameL_r] <;> assumption) | (rw [nameL_t] <;> assumption) | (rw [nameL_q] <;> omega), (HpG.keep hw).ext⟩
theorem rszD_any (c : Int) (w_0 : World) : Calls Tryd.prog 63 #[.int .i64 c] w_0 fun e w' => e = .returned (.int .i64 (if c = 17 ∨ c = 19 then 1 else 4)) ∧ Ext w_0 w' := by
  refine calls_wc (args := [.int .i64 c]) Tryd.func63 rfl 9 rfl (Nat.le_of_ble_eq_true rfl) ?_
  refine wc_weak (.cons (i := 0) rfl <| .nil) ?_
  refine wc_conseq (H' := Hp (fun _ => False) w_0 [] [] (fun _ => True)) (fun u hu => ?_) ?_
  · subst hu; exact Hp.start0
  refine wc_seq ?_
  refine wc_region ?_
  refine wl_free .none rfl (yf_assign rfl) ?_
  refine wl_nil ?_
  refine wq_then ?_
  refine wc_seq ?_
  refine wc_seq ?_
  refine wc_region ?_
  refine wl_free .none rfl (yf_move rfl) ?_
  refine wl_free .none rfl (yf_eql rfl rfl) ?_
  refine wl_free .none rfl (yf_move rfl) ?_
  refine wl_split 5 rfl (fun hb => ?_) (fun hb => ?_)
  · replace hb := eq_of_beq hb
    refine wl_pass (.some rfl rfl rfl) rfl ?_
    refine wl_pass (.some rfl rfl rfl) rfl ?_
    refine wl_free .none rfl (yf_pickT rfl rfl) ?_
    refine wl_nil ?_
    refine wq_then ?_
    refine wc_true rfl ?_
    refine wc_seq ?_
    refine wc_weak (.cons (i := 0) rfl <| .cons (i := 2) rfl <| .cons (i := 8) rfl <| .nil) ?_
    refine wc_region ?_
    refine wl_free .none rfl (yf_assign rfl) ?_
    refine wl_nil ?_
    refine wq_then ?_
    refine wc_ret ?_
    refine wq_then_ret ?_
    refine wq_ret1 rfl rfl (fun w hw => ?_)
    exact ⟨by rw [if_pos (by omega)], (HpG.keep hw).ext⟩
  · replace hb := beq_no hb
    refine wl_free (.some rfl rfl) rfl (yf_move rfl) ?_
    refine wl_free (.some rfl rfl) rfl (yf_eql rfl rfl) ?_
    refine wl_free .none rfl (yf_pickF rfl rfl) ?_
    refine wl_nil ?_
    refine wq_then ?_
    refine wc_cond rfl (fun hc => ?_) (fun hc => ?_)
    · replace hc := eq_of_beq hc
      refine wc_seq ?_
      refine wc_weak (.cons (i := 0) rfl <| .cons (i := 2) rfl <| .cons (i := 8) rfl <| .nil) ?_
      refine wc_region ?_
      refine wl_free .none rfl (yf_assign rfl) ?_
      refine wl_nil ?_
      refine wq_then ?_
      refine wc_ret ?_
      refine wq_then_ret ?_
      refine wq_ret1 rfl rfl (fun w hw => ?_)
      exact ⟨by first | rw [if_pos (by omega)] | rw [if_neg (by omega)], (HpG.keep hw).ext⟩
    · replace hc := beq_no hc
      refine wc_skip ?_
      refine wq_then ?_
      refine wc_seq ?_
      refine wc_weak (.cons (i := 0) rfl <| .cons (i := 2) rfl <| .cons (i := 8) rfl <| .nil) ?_
      refine wc_region ?_
      refine wl_free .none rfl (yf_assign rfl) ?_
      refine wl_nil ?_
      refine wq_then ?_
      refine wc_ret ?_
      refine wq_ret1 rfl rfl (fun w hw => ?_)
      exact ⟨by rw [if_neg (by omega)], (HpG.keep hw).ext⟩
def refCellL (o : IOp) : List UInt8 := (if o.code = 17 ∨ o.code = 19 then [98, 121, 116, 101] else [119, 111, 114, 100]) ++ ([91] ++ nameL o.a ++ [32, 43, 32] ++ Lib.decDigits o.n.toNat ++ [93])
theorem refCellL_eq {o : IOp} (h : o.code = 16 ∨ o.code = 17 ∨ o.code = 18 ∨ o.code = 19) : refCellL o = cellL o.code o.a o.n := by
  unfold refCellL cellL
  rcases h with h | h | h | h <;> simp [h]
set_option maxRecDepth 100000 in
theorem refCell_any (o : IOp) (hn : 0 ≤ o.n ∧ o.n < 4294967296) (w_0 : World) : Calls Tryd.prog 52 #[.agg o.v] w_0 fun e w' => e = .returned (.string ⟨(refCellL o).toArray⟩) ∧ Ext w_0 w' := by
  have hD1 := nameL_len o.a
  have hD2 : (Lib.decDigits o.n.toNat).length ≤ 10 := dec_len (by have := hn.2; omega) (by decide)
  have hdec := fun w => decimal_any o.n.toNat (by have := hn.2; omega) w
  rw [Int.toNat_of_nonneg hn.1] at hdec
  refine calls_wc (args := [.agg o.v]) Tryd.func52 rfl 22 rfl (Nat.le_of_ble_eq_true rfl) ?_
  refine wc_weak (.cons (i := 0) rfl <| .nil) ?_
  refine wc_conseq (H' := Hp (fun _ => False) w_0 [] [] (fun _ => True)) (fun u hu => ?_) ?_
  · subst hu; exact Hp.start0
  refine wc_seq ?_
  refine wc_region ?_
  refine wl_new .none rfl (nf_box rfl rfl) (fun b1 => ?_)
  refine wl_free .none rfl (yf_assign rfl) ?_
  refine wl_nil ?_
  refine wq_then ?_
  refine wc_seq ?_
  refine wc_drawN [0, 1, 2, 3, 4, 5, 6, 7, 8, 9, 10] _ (by kernel_rfl) (by kernel_rfl) HpG.stab (fun _ h => h) (fun n0 hn0 => ?_)
  refine wd_at rfl ?_
  (refine wd_free ?_ .none rfl (yf_fieldAddr (off := 2) (sz := 0) rfl Tryd.underlying53 (by kernel_rfl) rfl) ?_; (· rfl);  skip)
  refine wd_at rfl ?_
  (refine wd_free ?_ .none rfl (yf_loadL 0 rfl rfl rfl Tryd.underlying3 rfl) ?_; (· rfl);  skip)
  refine wd_at rfl ?_
  refine wd_pure .none rfl (by kernel_rfl) rfl (fun _ _ hj hx => HpG.onE hj hx) (fun w hw => refName_any o.a w) ?_
  refine wd_at rfl ?_
  (refine wd_free ?_ .none rfl (yf_str_add rfl rfl ?_) ?_; (· rfl); (· (first | (simp only [List.length_append, List.length_cons, List.length_nil]; omega) | (simp <;> omega))); skip)
  refine wd_at rfl ?_
  (refine wd_free ?_ .none rfl (yf_str_add rfl rfl ?_) ?_; (· rfl); (· (first | (simp only [List.length_append, List.length_cons, List.length_nil]; omega) | (simp <;> omega))); skip)
  refine wd_at rfl ?_
  (refine wd_free ?_ .none rfl (yf_fieldAddr (off := 4) (sz := 0) rfl Tryd.underlying53 (by kernel_rfl) rfl) ?_; (· rfl);  skip)
  refine wd_at rfl ?_
  (refine wd_free ?_ .none rfl (yf_loadL 0 rfl rfl rfl Tryd.underlying35 rfl) ?_; (· rfl);  skip)
  refine wd_at rfl ?_
  refine wd_pure .none rfl (by kernel_rfl) rfl (fun _ _ hj hx => HpG.onE hj hx) (fun w hw => hdec w) ?_
  refine wd_at rfl ?_
  (refine wd_free ?_ .none rfl (yf_str_add rfl rfl ?_) ?_; (· rfl); (· (first | (simp only [List.length_append, List.length_cons, List.length_nil]; omega) | (simp <;> omega))); skip)
  refine wd_at rfl ?_
  (refine wd_free ?_ .none rfl (yf_str_add rfl rfl ?_) ?_; (· rfl); (· (first | (simp only [List.length_append, List.length_cons, List.length_nil]; omega) | (simp <;> omega))); skip)
  refine wd_at rfl ?_
  (refine wd_free ?_ .none rfl (yf_assign rfl) ?_; (· rfl);  skip)
  refine wd_endH ?_
  refine wq_then ?_
  refine wc_seq ?_
  refine wc_seq ?_
  refine wc_weak (.cons (i := 0) rfl <| .cons (i := 1) rfl <| .cons (i := 2) rfl <| .cons (i := 3) rfl <| .nil) ?_
  refine wc_region ?_
  refine wl_free .none rfl (yf_fieldAddr (off := 0) (sz := 0) rfl Tryd.underlying53 (by kernel_rfl) rfl) ?_
  refine wl_free .none rfl (yf_loadL 0 rfl rfl rfl Tryd.underlying3 rfl) ?_
  refine wl_pure .none rfl (by kernel_rfl) rfl (fun w hw => rszD_any o.code w) ?_
  refine wl_free .none rfl (yf_eql rfl rfl) ?_
  refine wl_nil ?_
  refine wq_then ?_
  refine wc_cond rfl (fun hc => ?_) (fun hc => ?_)
  · replace hc := eq_of_beq hc
    refine wc_seq ?_
    refine wc_weak (.cons (i := 0) rfl <| .cons (i := 1) rfl <| .cons (i := 2) rfl <| .cons (i := 3) rfl <| .cons (i := 17) rfl <| .nil) ?_
    refine wc_region ?_
    refine wl_free .none rfl (yf_move rfl) ?_
    (refine wl_free .none rfl (yf_str_add rfl rfl ?_) ?_; (· (first | (simp only [List.length_append, List.length_cons, List.length_nil]; omega) | (simp <;> omega))); skip)
    refine wl_free .none rfl (yf_assign rfl) ?_
    refine wl_nil ?_
    refine wq_then ?_
    refine wc_ret ?_
    refine wq_then_ret ?_
    refine wq_ret1 rfl rfl (fun w hw => ?_)
    exact ⟨by rw [refCellL, if_pos (by revert hc; split <;> simp_all)], (HpG.keep hw).ext⟩
  · replace hc := beq_no hc
    refine wc_skip ?_
    refine wq_then ?_
    refine wc_seq ?_
    refine wc_weak (.cons (i := 0) rfl <| .cons (i := 1) rfl <| .cons (i := 2) rfl <| .cons (i := 3) rfl <| .cons (i := 17) rfl <| .nil) ?_
    refine wc_region ?_
    refine wl_free .none rfl (yf_move rfl) ?_
    (refine wl_free .none rfl (yf_str_add rfl rfl ?_) ?_; (· (first | (simp only [List.length_append, List.length_cons, List.length_nil]; omega) | (simp <;> omega))); skip)
    refine wl_free .none rfl (yf_assign rfl) ?_
    refine wl_nil ?_
    refine wq_then ?_
    refine wc_ret ?_
    refine wq_ret1 rfl rfl (fun w hw => ?_)
    exact ⟨by rw [refCellL, if_neg (by revert hc; split <;> simp_all)], (HpG.keep hw).ext⟩
end Go.Proofs.YtojofinofpgopaaDoor
/- The reference's hexadecimal and signed numerals, its line. -/
namespace Go.Proofs.YtojofinofpgopaaDoor
open Go.RowKit
theorem hex_shr (a i : Nat) (hi : i < 8) : (a : Int).fdiv (2 ^ (min (28 - 4 * (i : Int)).toNat IntKind.u32.bits)) = ((a / 16 ^ (7 - i) : Nat) : Int) := by
  rw [Int.fdiv_eq_ediv_of_nonneg _ (Int.le_of_lt (Int.pow_pos (by decide)))]
  have h : i = 0 ∨ i = 1 ∨ i = 2 ∨ i = 3 ∨ i = 4 ∨ i = 5 ∨ i = 6 ∨ i = 7 := by omega
  rcases h with rfl | rfl | rfl | rfl | rfl | rfl | rfl | rfl
  · show (a : Int) / 268435456 = ((a / 268435456 : Nat) : Int); omega
  · show (a : Int) / 16777216 = ((a / 16777216 : Nat) : Int); omega
  · show (a : Int) / 1048576 = ((a / 1048576 : Nat) : Int); omega
  · show (a : Int) / 65536 = ((a / 65536 : Nat) : Int); omega
  · show (a : Int) / 4096 = ((a / 4096 : Nat) : Int); omega
  · show (a : Int) / 256 = ((a / 256 : Nat) : Int); omega
  · show (a : Int) / 16 = ((a / 16 : Nat) : Int); omega
  · show (a : Int) / 1 = ((a / 1 : Nat) : Int); omega
theorem hex_and {q : Nat} (h : q < 4294967296) : bits .and .u32 (q : Int) 15 = ((q % 16 : Nat) : Int) := by
  rw [show (15 : Int) = ((15 : Nat) : Int) from rfl, u32_and_nat q 15 h (by omega), Nat.and_two_pow_sub_one_eq_mod q 4]
def hexS : List UInt8 := [48, 49, 50, 51, 52, 53, 54, 55, 56, 57, 97, 98, 99, 100, 101, 102]
theorem hexS_at : ∀ d : Fin 16, (hexS.drop d.val).take 1 = [hexD d.val] := by decide
theorem hexS_cut {d : Nat} (h : d < 16) : (hexS.drop ((d : Int)).toNat).take (((d : Int) + 1).toNat - ((d : Int)).toNat) = [hexD d] := by
  rw [show ((d : Int) + 1).toNat - ((d : Int)).toNat = 1 by omega, show ((d : Int)).toNat = d by omega]
  exact hexS_at ⟨d, h⟩
theorem hex_step (a i : Nat) (hi : i < 8) : hexN (a / 16 ^ (8 - i)) i ++ [hexD (a / 16 ^ (7 - i) % 16)] = hexN (a / 16 ^ (8 - (i + 1))) (i + 1) := by
  rw [hexN, show 8 - (i + 1) = 7 - i by omega, Nat.div_div_eq_div_mul, ← Nat.pow_succ, show 8 - i = (7 - i).succ by omega]
set_option maxRecDepth 100000 in
theorem hex_any (a : Nat) (ha : a < 4294967296) (w_0 : World) : Calls Tryd.prog 53 #[.int .u32 a] w_0 fun e w' => e = .returned (.string ⟨(hexN a 8).toArray⟩) ∧ Ext w_0 w' := by
  refine calls_wc (args := [.int .u32 a]) Tryd.func53 rfl 27 rfl (Nat.le_of_ble_eq_true rfl) ?_
  refine wc_weak (.cons (i := 0) rfl <| .nil) ?_
  refine wc_conseq (H' := Hp (fun _ => False) w_0 [] [] (fun _ => True)) (fun u hu => ?_) ?_
  · subst hu; exact Hp.start0
  refine wc_seq ?_
  refine wc_region ?_
  refine wl_free .none rfl (yf_assign rfl) ?_
  refine wl_nil ?_
  refine wq_then ?_
  refine wc_seq ?_
  refine wc_region ?_
  refine wl_free .none rfl (yf_assign rfl) ?_
  refine wl_nil ?_
  refine wq_then ?_
  refine wc_seq ?_
  refine wc_region ?_
  refine wl_free .none rfl (yf_assign rfl) ?_
  refine wl_nil ?_
  refine wq_then ?_
  refine wc_seq ?_
  refine wc_seq ?_
  refine wc_region ?_
  refine wl_free .none rfl (yf_assign rfl) ?_
  refine wl_nil ?_
  refine wq_then ?_
  refine wc_block ?_
  refine wc_loop (ι := {i : Nat // i ≤ 8}) (fun i => [(0, .int .u32 a), (3, .string ⟨(hexN (a / 16 ^ (8 - i.1)) i.1).toArray⟩), (4, .string ⟨hexS.toArray⟩), (5, .int .i64 i.1)]) (fun _ => Hp (fun _ => False) w_0 [] [] (fun _ => True)) (fun i => 8 - i.1) ⟨0, by omega⟩ ?_ ?_ (fun i => ?_)
  · exact .cons rfl <| .cons rfl <| .cons rfl <| .cons rfl <| .nil
  · exact fun w h => h
  obtain ⟨i, hi⟩ := i
  dsimp only
  have hl := hexN_len (a / 16 ^ (8 - i)) i
  obtain ⟨q, hq⟩ : ∃ q, a / 16 ^ (7 - i) = q := ⟨_, rfl⟩
  have hqa : q ≤ a := by rw [← hq]; exact Nat.div_le_self _ _
  refine wc_seq ?_
  refine wc_seq ?_
  refine wc_region ?_
  refine wl_free .none rfl (yf_move rfl) ?_
  refine wl_free .none rfl (yf_lss rfl rfl) ?_
  refine wl_nil ?_
  refine wq_then ?_
  refine wc_cond rfl (fun hc => ?_) (fun hc => ?_)
  · replace hc := of_decide_eq_true hc
    refine wc_skip ?_
    refine wq_then ?_
    refine wc_seq ?_
    refine wc_block ?_
    refine wc_seq ?_
    refine wc_weak (.cons (i := 0) rfl <| .cons (i := 3) rfl <| .cons (i := 4) rfl <| .cons (i := 5) rfl <| .cons (i := 8) rfl <| .nil) ?_
    have hsh := hex_shr a i (by omega)
    rw [hq] at hsh
    refine wc_region ?_
    refine wl_free .none rfl (yf_move rfl) ?_
    refine wl_free .none rfl (yf_move rfl) ?_
    (refine wl_free .none rfl (yf_mul rfl rfl (i64_in _ ?_ ?_)) ?_; (· omega); (· omega); skip)
    (refine wl_free .none rfl (yf_sub rfl rfl (i64_in _ ?_ ?_)) ?_; (· omega); (· omega); skip)
    (refine wl_free .none rfl (yf_conv rfl (by kernel_rfl) Tryd.underlying120 (u64_in _ ?_ ?_)) ?_; (· omega); (· omega); skip)
    (refine wl_free .none rfl (yf_shr rfl rfl ?_ hsh) ?_; (· first | decide | omega); skip)
    refine wl_free .none rfl (yf_and rfl rfl (hex_and (by omega))) ?_
    (refine wl_free .none rfl (yf_conv rfl (by kernel_rfl) Tryd.underlying3 (i64_in _ ?_ ?_)) ?_; (· omega); (· omega); skip)
    refine wl_free .none rfl (yf_assign rfl) ?_
    refine wl_nil ?_
    refine wq_then ?_
    refine wc_weak (.cons (i := 0) rfl <| .cons (i := 3) rfl <| .cons (i := 4) rfl <| .cons (i := 5) rfl <| .cons (i := 6) rfl <| .cons (i := 8) rfl <| .nil) ?_
    refine wc_region ?_
    refine wl_free .none rfl (yf_move rfl) ?_
    refine wl_free .none rfl (yf_move rfl) ?_
    refine wl_free .none rfl (yf_move rfl) ?_
    refine wl_free .none rfl (yf_move rfl) ?_
    (refine wl_free .none rfl (yf_add rfl rfl (i64_in _ ?_ ?_)) ?_; (· omega); (· omega); skip)
    (refine wl_free .none rfl (yf_strSlice rfl rfl rfl Tryd.underlying9 ?_ ?_ ?_ (hexS_cut (by omega))) ?_; (· (first | omega | (show _ ≤ ((16 : Nat) : Int); omega))); (· (first | omega | (show _ ≤ ((16 : Nat) : Int); omega))); (· (first | omega | (show _ ≤ ((16 : Nat) : Int); omega))); skip)
    (refine wl_free .none rfl (yf_str_add rfl rfl ?_) ?_; (· (rw [hl]; show i + 1 ≤ _; omega)); skip)
    refine wl_free .none rfl (yf_assign rfl) ?_
    refine wl_nil ?_
    refine wq_block ?_
    refine wq_then ?_
    refine wc_weak (.cons (i := 0) rfl <| .cons (i := 3) rfl <| .cons (i := 4) rfl <| .cons (i := 5) rfl <| .cons (i := 6) rfl <| .cons (i := 8) rfl <| .nil) ?_
    refine wc_region ?_
    refine wl_free .none rfl (yf_move rfl) ?_
    (refine wl_free .none rfl (yf_add rfl rfl (i64_in _ ?_ ?_)) ?_; (· omega); (· omega); skip)
    refine wl_free .none rfl (yf_assign rfl) ?_
    refine wl_nil ?_
    refine wq_round (ι := {i : Nat // i ≤ 8}) ⟨i + 1, by omega⟩ (by show 8 - (i + 1) < 8 - i; omega) (.cons rfl <| .consE rfl (by rw [← hex_step a i (by omega), hq]) <| .cons rfl <| .consE rfl rfl <| .nil) (fun w h => h)
  · replace hc := of_decide_eq_false hc
    refine wc_exit ?_
    refine wq_then_exit ?_
    refine wq_then_exit ?_
    refine wq_here ?_
    refine wq_then ?_
    refine wc_seq ?_
    refine wc_weak (.cons (i := 0) rfl <| .cons (i := 3) rfl <| .cons (i := 4) rfl <| .cons (i := 5) rfl <| .cons (i := 8) rfl <| .nil) ?_
    refine wc_region ?_
    refine wl_free .none rfl (yf_move rfl) ?_
    refine wl_free .none rfl (yf_assign rfl) ?_
    refine wl_nil ?_
    refine wq_then ?_
    refine wc_ret ?_
    refine wq_ret1 rfl rfl (fun w hw => ?_)
    exact ⟨by rw [show i = 8 by omega, Nat.sub_self, Nat.pow_zero, Nat.div_one], (HpG.keep hw).ext⟩
set_option maxRecDepth 100000 in
theorem signed_any (n : Int) (hn : -9223372036854775808 ≤ n ∧ n ≤ 9223372036854775807) (w_0 : World) : Calls Tryd.prog 26 #[.int .i64 n] w_0 fun e w' => e = .returned (.string ⟨(Lib.itoa n).toArray⟩) ∧ Ext w_0 w' := by
  have hD : (Lib.decDigits n.natAbs).length ≤ 20 := dec_len (by omega) (by decide)
  refine calls_wc (args := [.int .i64 n]) Tryd.func26 rfl 15 rfl (Nat.le_of_ble_eq_true rfl) ?_
  refine wc_weak (.cons (i := 0) rfl <| .nil) ?_
  refine wc_conseq (H' := Hp (fun _ => False) w_0 [] [] (fun _ => True)) (fun u hu => ?_) ?_
  · subst hu; exact Hp.start0
  refine wc_seq ?_
  refine wc_region ?_
  refine wl_free .none rfl (yf_assign rfl) ?_
  refine wl_nil ?_
  refine wq_then ?_
  refine wc_seq ?_
  refine wc_seq ?_
  refine wc_region ?_
  refine wl_free .none rfl (yf_move rfl) ?_
  refine wl_free .none rfl (yf_lss rfl rfl) ?_
  refine wl_nil ?_
  refine wq_then ?_
  refine wc_cond rfl (fun hc => ?_) (fun hc => ?_)
  · replace hc := of_decide_eq_true hc
    refine wc_seq ?_
    refine wc_weak (.cons (i := 0) rfl <| .cons (i := 2) rfl <| .cons (i := 4) rfl <| .nil) ?_
    refine wc_region ?_
    refine wl_free .none rfl (yf_move rfl) ?_
    (refine wl_free .none rfl (yf_add rfl rfl (i64_in _ ?_ ?_)) ?_; (· omega); (· omega); skip)
    (refine wl_free .none rfl (yf_neg rfl (i64_in _ ?_ ?_)) ?_; (· omega); (· omega); skip)
    (refine wl_free .none rfl (yf_conv rfl (by kernel_rfl) Tryd.underlying89 (u64_in _ ?_ ?_)) ?_; (· omega); (· omega); skip)
    refine wl_free .none rfl (yf_add rfl rfl (show IntKind.u64.wrap (0 - (n + 1) + 1) = ((n.natAbs : Nat) : Int) from by rw [u64_in _ (by omega) (by omega)]; omega)) ?_
    refine wl_pure .none rfl (by kernel_rfl) rfl (fun w hw => wide_any n.natAbs (by omega) w) ?_
    (refine wl_free .none rfl (yf_str_add rfl rfl ?_) ?_; (· (first | (simp only [List.length_append, List.length_cons, List.length_nil]; omega) | (simp <;> omega))); skip)
    refine wl_free .none rfl (yf_assign rfl) ?_
    refine wl_nil ?_
    refine wq_then ?_
    refine wc_ret ?_
    refine wq_then_ret ?_
    refine wq_ret1 rfl rfl (fun w hw => ?_)
    exact ⟨by rw [Lib.itoa, if_pos (by omega)]; rfl, (HpG.keep hw).ext⟩
  · replace hc := of_decide_eq_false hc
    refine wc_skip ?_
    refine wq_then ?_
    refine wc_seq ?_
    refine wc_weak (.cons (i := 0) rfl <| .cons (i := 2) rfl <| .cons (i := 4) rfl <| .nil) ?_
    refine wc_region ?_
    refine wl_free .none rfl (yf_move rfl) ?_
    refine wl_free .none rfl (yf_conv rfl (by kernel_rfl) Tryd.underlying89 (show IntKind.u64.wrap n = ((n.toNat : Nat) : Int) from by rw [u64_in _ (by omega) (by omega)]; omega)) ?_
    refine wl_pure .none rfl (by kernel_rfl) rfl (fun w hw => wide_any n.toNat (by omega) w) ?_
    refine wl_free .none rfl (yf_assign rfl) ?_
    refine wl_nil ?_
    refine wq_then ?_
    refine wc_ret ?_
    refine wq_ret1 rfl rfl (fun w hw => ?_)
    exact ⟨by rw [Lib.itoa, if_neg (by omega)], (HpG.keep hw).ext⟩
def symV : List Value := symL.map fun l => .string ⟨l.toArray⟩
theorem symV_at {c : Int} (h : 3 ≤ c ∧ c ≤ 15) : symV[(c - 3).toNat]? = some (.string ⟨(symL.getD (c - 3).toNat []).toArray⟩) := by
  obtain ⟨k, hk⟩ : ∃ k, (c - 3).toNat = k := ⟨_, rfl⟩
  rw [hk]
  have : k < 13 := by omega
  unfold symV
  rw [List.getElem?_map, List.getD_eq_getElem?_getD, List.getElem?_eq_getElem (show k < symL.length from this)]
  rfl
set_option maxRecDepth 100000 in
set_option maxHeartbeats 4000000 in
theorem refLine_any {Bad : Nat → Prop} (o : IOp) (t : List Int) (A : Option Addr) (cap : Nat) (hn : U32 o.n) (ht : ∀ v ∈ t, U32 v) (hlt : t.length ≤ 200000) (w_0 : World) (h : RdIn Bad A (u32s t) w_0) : Calls Tryd.prog 27 #[.agg o.v, .slice A t.length cap] w_0 fun e w' => e = .returned (.string ⟨(lineL o t).toArray⟩) ∧ Ext w_0 w' := by
  have h := h.weak (Bad' := fun _ => False) (fun _ hk => hk.elim)
  have hD1 := nameL_len o.a
  have hD2 := nameL_len o.b
  have hD3 := nameL_len o.d
  have hD4 : (Lib.decDigits o.n.toNat).length ≤ 10 := dec_len (by have := hn.2; omega) (by decide)
  have hD5 := cellL_len o.code o.a o.n (by have := hn.2; have := hn.1; omega)
  have hD6 := symL_len (o.code - 3).toNat
  have hdec := fun w => decimal_any o.n.toNat (by have := hn.2; omega) w
  rw [Int.toNat_of_nonneg hn.1] at hdec
  have hn0 := hn.1
  have hn1 := hn.2
  refine calls_wc (args := [.agg o.v, .slice A t.length cap]) Tryd.func27 rfl 124 rfl (Nat.le_of_ble_eq_true rfl) ?_
  refine wc_weak (.cons (i := 0) rfl <| .cons (i := 1) rfl <| .nil) ?_
  refine wc_conseq (H' := Hp (fun _ => False) w_0 [] [] (Rd A (u32s t))) (fun u hu => ?_) ?_
  · subst hu; exact Hp.start (RdIn.foot h)
  refine wc_seq ?_
  refine wc_region ?_
  refine wl_new .none rfl (nf_box rfl rfl) (fun b2 => ?_)
  refine wl_free .none rfl (yf_assign rfl) ?_
  refine wl_nil ?_
  refine wq_then ?_
  refine wc_seq ?_
  refine wc_region ?_
  refine wl_free .none rfl (yf_fieldAddr (off := 1) (sz := 0) rfl Tryd.underlying53 (by kernel_rfl) rfl) ?_
  refine wl_free .none rfl (yf_loadL 0 rfl rfl rfl Tryd.underlying3 rfl) ?_
  refine wl_pure .none rfl (by kernel_rfl) rfl (fun w hw => refName_any o.d w) ?_
  (refine wl_free .none rfl (yf_str_add rfl rfl ?_) ?_; (· (first | (simp only [List.length_append, List.length_cons, List.length_nil]; omega) | (simp <;> omega))); skip)
  refine wl_free .none rfl (yf_assign rfl) ?_
  refine wl_nil ?_
  refine wq_then ?_
  refine wc_seq ?_
  refine wc_weak (.cons (i := 0) rfl <| .cons (i := 1) rfl <| .cons (i := 2) rfl <| .cons (i := 4) rfl <| .cons (i := 5) rfl <| .nil) ?_
  refine wc_region ?_
  refine wl_free .none rfl (yf_build (cells := symV.toArray) rfl (by kernel_rfl)) ?_
  refine wl_new .none rfl (nf_alloc (z := .agg #[.string ⟨#[]⟩, .string ⟨#[]⟩, .string ⟨#[]⟩, .string ⟨#[]⟩, .string ⟨#[]⟩, .string ⟨#[]⟩, .string ⟨#[]⟩, .string ⟨#[]⟩, .string ⟨#[]⟩, .string ⟨#[]⟩, .string ⟨#[]⟩, .string ⟨#[]⟩, .string ⟨#[]⟩]) (cs := [.string ⟨#[]⟩, .string ⟨#[]⟩, .string ⟨#[]⟩, .string ⟨#[]⟩, .string ⟨#[]⟩, .string ⟨#[]⟩, .string ⟨#[]⟩, .string ⟨#[]⟩, .string ⟨#[]⟩, .string ⟨#[]⟩, .string ⟨#[]⟩, .string ⟨#[]⟩, .string ⟨#[]⟩]) (by kernel_rfl) rfl) (fun b6 => ?_)
  refine wl_chain0 .none (cf_storeRow 0 rfl rfl rfl rfl rfl (by kernel_rfl)) (fun _ => ?_)
  refine wl_nil ?_
  refine wq_then ?_
  refine wc_seq ?_
  refine wc_seq ?_
  refine wc_weak (.cons (i := 0) rfl <| .cons (i := 1) rfl <| .cons (i := 2) rfl <| .cons (i := 4) rfl <| .cons (i := 5) rfl <| .cons (i := 6) rfl <| .nil) ?_
  refine wc_region ?_
  refine wl_free .none rfl (yf_fieldAddr (off := 0) (sz := 0) rfl Tryd.underlying53 (by kernel_rfl) rfl) ?_
  refine wl_free .none rfl (yf_loadL 1 rfl rfl rfl Tryd.underlying3 rfl) ?_
  refine wl_nil ?_
  refine wq_then ?_
  refine wc_block ?_
  refine wc_seq ?_
  refine wc_weak (.cons (i := 0) rfl <| .cons (i := 1) rfl <| .cons (i := 2) rfl <| .cons (i := 4) rfl <| .cons (i := 5) rfl <| .cons (i := 6) rfl <| .cons (i := 13) rfl <| .nil) ?_
  refine wc_region ?_
  refine wl_free .none rfl (yf_eql rfl rfl) ?_
  refine wl_free .none rfl (yf_assign rfl) ?_
  refine wl_nil ?_
  refine wq_then ?_
  refine wc_cond rfl (fun hc => ?_) (fun hc => ?_)
  · replace hc := eq_of_beq hc
    refine wc_seq ?_
    refine wc_weak (.cons (i := 0) rfl <| .cons (i := 1) rfl <| .cons (i := 2) rfl <| .cons (i := 4) rfl <| .cons (i := 5) rfl <| .cons (i := 6) rfl <| .cons (i := 13) rfl <| .cons (i := 14) rfl <| .nil) ?_
    refine wc_region ?_
    refine wl_free .none rfl (yf_move rfl) ?_
    refine wl_free .none rfl (yf_fieldAddr (off := 4) (sz := 0) rfl Tryd.underlying53 (by kernel_rfl) rfl) ?_
    refine wl_free .none rfl (yf_loadL 1 rfl rfl rfl Tryd.underlying35 rfl) ?_
    refine wl_pure .none rfl (by kernel_rfl) rfl (fun w hw => hdec w) ?_
    (refine wl_free .none rfl (yf_str_add rfl rfl ?_) ?_; (· (simp only [List.length_append, List.length_cons, List.length_nil]; omega)); skip)
    refine wl_free .none rfl (yf_assign rfl) ?_
    refine wl_nil ?_
    refine wq_then ?_
    refine wc_ret ?_
    refine wq_block_ret ?_
    refine wq_then_ret ?_
    refine wq_ret1 rfl rfl (fun w hw => ?_)
    exact ⟨by rw [lineL1 hc], (HpG.keep hw).ext⟩
  · replace hc := beq_no hc
    refine wc_seq ?_
    refine wc_weak (.cons (i := 0) rfl <| .cons (i := 1) rfl <| .cons (i := 2) rfl <| .cons (i := 4) rfl <| .cons (i := 5) rfl <| .cons (i := 6) rfl <| .cons (i := 13) rfl <| .cons (i := 14) rfl <| .nil) ?_
    refine wc_region ?_
    refine wl_free .none rfl (yf_eql rfl rfl) ?_
    refine wl_free .none rfl (yf_assign rfl) ?_
    refine wl_nil ?_
    refine wq_then ?_
    refine wc_cond rfl (fun hc => ?_) (fun hc => ?_)
    · replace hc := eq_of_beq hc
      refine wc_seq ?_
      refine wc_weak (.cons (i := 0) rfl <| .cons (i := 1) rfl <| .cons (i := 2) rfl <| .cons (i := 4) rfl <| .cons (i := 5) rfl <| .cons (i := 6) rfl <| .cons (i := 13) rfl <| .cons (i := 14) rfl <| .cons (i := 21) rfl <| .nil) ?_
      refine wc_region ?_
      refine wl_free .none rfl (yf_move rfl) ?_
      refine wl_free .none rfl (yf_fieldAddr (off := 2) (sz := 0) rfl Tryd.underlying53 (by kernel_rfl) rfl) ?_
      refine wl_free .none rfl (yf_loadL 1 rfl rfl rfl Tryd.underlying3 rfl) ?_
      refine wl_pure .none rfl (by kernel_rfl) rfl (fun w hw => refName_any o.a w) ?_
      (refine wl_free .none rfl (yf_str_add rfl rfl ?_) ?_; (· (first | (simp only [List.length_append, List.length_cons, List.length_nil]; omega) | (simp <;> omega))); skip)
      refine wl_free .none rfl (yf_assign rfl) ?_
      refine wl_nil ?_
      refine wq_then ?_
      refine wc_ret ?_
      refine wq_block_ret ?_
      refine wq_then_ret ?_
      refine wq_ret1 rfl rfl (fun w hw => ?_)
      exact ⟨by rw [lineL2 hc], (HpG.keep hw).ext⟩
    · replace hc := beq_no hc
      refine wc_cut (ι := {x : Bool // x = true ↔ o.code = 16 ∨ o.code = 17}) (fun x => [(1, .slice A t.length cap), (2, ptrV b2), (5, .string ⟨(nameL o.d ++ [32, 61, 32]).toArray⟩), (6, ptrV b6), (13, .int .i64 o.code), (28, .bool x.1)]) (fun _ => Hp (fun _ => False) w_0 [(b6, bk 103 symV), (b2, bk 53 (opC o))] [] (Rd A (u32s t))) ?_ (fun x => ?_)
      · skip
        refine wc_seq ?_
        refine wc_weak (.cons (i := 0) rfl <| .cons (i := 1) rfl <| .cons (i := 2) rfl <| .cons (i := 4) rfl <| .cons (i := 5) rfl <| .cons (i := 6) rfl <| .cons (i := 13) rfl <| .cons (i := 14) rfl <| .cons (i := 21) rfl <| .nil) ?_
        refine wc_region ?_
        refine wl_free .none rfl (yf_eql rfl rfl) ?_
        refine wl_free .none rfl (yf_assign rfl) ?_
        refine wl_nil ?_
        refine wq_then ?_
        refine wc_cond rfl (fun hc => ?_) (fun hc => ?_)
        · replace hc := eq_of_beq hc
          first | have hcc := hx.1 hc | skip
          refine wc_skip ?_
          refine wq_meet (ι := {x : Bool // x = true ↔ o.code = 16 ∨ o.code = 17}) ⟨(o.code == 16), by simp [hc]⟩ ?_ (fun w h => h)
          · (repeat (refine .cons rfl ?_)); exact .nil
        · replace hc := beq_no hc
          first | have hcc : ¬ (o.code = 16 ∨ o.code = 17) := (fun h => by rw [hx.2 h] at hc; cases hc) | skip
          refine wc_weak (.cons (i := 0) rfl <| .cons (i := 1) rfl <| .cons (i := 2) rfl <| .cons (i := 4) rfl <| .cons (i := 5) rfl <| .cons (i := 6) rfl <| .cons (i := 13) rfl <| .cons (i := 14) rfl <| .cons (i := 21) rfl <| .cons (i := 28) rfl <| .nil) ?_
          refine wc_region ?_
          refine wl_free .none rfl (yf_eql rfl rfl) ?_
          refine wl_free .none rfl (yf_assign rfl) ?_
          refine wl_nil ?_
          refine wq_meet (ι := {x : Bool // x = true ↔ o.code = 16 ∨ o.code = 17}) ⟨(o.code == 17), by simp; omega⟩ ?_ (fun w h => h)
          · (repeat (refine .cons rfl ?_)); exact .nil
      · obtain ⟨x, hx⟩ := x
        dsimp only
        refine wc_cond rfl (fun hc => ?_) (fun hc => ?_)
        · skip
          first | have hcc := hx.1 hc | skip
          refine wc_seq ?_
          refine wc_region ?_
          refine wl_free .none rfl (yf_move rfl) ?_
          refine wl_free .none rfl (yf_loadAllL 1 rfl rfl Tryd.underlying53 rfl (by kernel_rfl)) ?_
          refine wl_pure .none rfl (by kernel_rfl) rfl (fun w hw => by
            have := refCell_any o hn w
            rw [refCellL_eq (by omega)] at this
            exact this) ?_
          (refine wl_free .none rfl (yf_str_add rfl rfl ?_) ?_; (· (first | (simp only [List.length_append, List.length_cons, List.length_nil]; omega) | (simp <;> omega))); skip)
          refine wl_free .none rfl (yf_assign rfl) ?_
          refine wl_nil ?_
          refine wq_then ?_
          refine wc_ret ?_
          refine wq_block_ret ?_
          refine wq_then_ret ?_
          refine wq_ret1 rfl rfl (fun w hw => ?_)
          exact ⟨by rw [lineLl hcc], (HpG.keep hw).ext⟩
        · skip
          first | have hcc : ¬ (o.code = 16 ∨ o.code = 17) := (fun h => by rw [hx.2 h] at hc; cases hc) | skip
          refine wc_cut (ι := {x : Bool // x = true ↔ o.code = 18 ∨ o.code = 19}) (fun x => [(1, .slice A t.length cap), (2, ptrV b2), (5, .string ⟨(nameL o.d ++ [32, 61, 32]).toArray⟩), (6, ptrV b6), (13, .int .i64 o.code), (35, .bool x.1)]) (fun _ => Hp (fun _ => False) w_0 [(b6, bk 103 symV), (b2, bk 53 (opC o))] [] (Rd A (u32s t))) ?_ (fun x => ?_)
          · skip
            refine wc_seq ?_
            refine wc_region ?_
            refine wl_free .none rfl (yf_eql rfl rfl) ?_
            refine wl_free .none rfl (yf_assign rfl) ?_
            refine wl_nil ?_
            refine wq_then ?_
            refine wc_cond rfl (fun hc => ?_) (fun hc => ?_)
            · replace hc := eq_of_beq hc
              first | have hcd := hx.1 hc | skip
              refine wc_skip ?_
              refine wq_meet (ι := {x : Bool // x = true ↔ o.code = 18 ∨ o.code = 19}) ⟨(o.code == 18), by simp [hc]⟩ ?_ (fun w h => h)
              · (repeat (refine .cons rfl ?_)); exact .nil
            · replace hc := beq_no hc
              first | have hcd : ¬ (o.code = 18 ∨ o.code = 19) := (fun h => by rw [hx.2 h] at hc; cases hc) | skip
              refine wc_weak (.cons (i := 1) rfl <| .cons (i := 2) rfl <| .cons (i := 5) rfl <| .cons (i := 6) rfl <| .cons (i := 13) rfl <| .cons (i := 28) rfl <| .cons (i := 35) rfl <| .nil) ?_
              refine wc_region ?_
              refine wl_free .none rfl (yf_eql rfl rfl) ?_
              refine wl_free .none rfl (yf_assign rfl) ?_
              refine wl_nil ?_
              refine wq_meet (ι := {x : Bool // x = true ↔ o.code = 18 ∨ o.code = 19}) ⟨(o.code == 19), by simp; omega⟩ ?_ (fun w h => h)
              · (repeat (refine .cons rfl ?_)); exact .nil
          · obtain ⟨x, hx⟩ := x
            dsimp only
            refine wc_cond rfl (fun hc => ?_) (fun hc => ?_)
            · skip
              first | have hcd := hx.1 hc | skip
              refine wc_seq ?_
              refine wc_drawN [0, 1, 2, 3, 4, 5, 6, 7] _ (by kernel_rfl) (by kernel_rfl) HpG.stab (fun _ h => h) (fun n0 hn0 => ?_)
              refine wd_at rfl ?_
              (refine wd_free ?_ .none rfl (yf_loadAllL 1 rfl rfl Tryd.underlying53 rfl (by kernel_rfl)) ?_; (· rfl);  skip)
              refine wd_at rfl ?_
              refine wd_pure .none rfl (by kernel_rfl) rfl (fun _ _ hj hx => HpG.onE hj hx) (fun w hw => by
                have := refCell_any o hn w
                rw [refCellL_eq (by omega)] at this
                exact this) ?_
              refine wd_at rfl ?_
              (refine wd_free ?_ .none rfl (yf_str_add rfl rfl ?_) ?_; (· rfl); (· (first | (simp only [List.length_append, List.length_cons, List.length_nil]; omega) | (simp <;> omega))); skip)
              refine wd_at rfl ?_
              (refine wd_free ?_ .none rfl (yf_fieldAddr (off := 3) (sz := 0) rfl Tryd.underlying53 (by kernel_rfl) rfl) ?_; (· rfl);  skip)
              refine wd_at rfl ?_
              (refine wd_free ?_ .none rfl (yf_loadL 1 rfl rfl rfl Tryd.underlying3 rfl) ?_; (· rfl);  skip)
              refine wd_at rfl ?_
              refine wd_pure .none rfl (by kernel_rfl) rfl (fun _ _ hj hx => HpG.onE hj hx) (fun w hw => refName_any o.b w) ?_
              refine wd_at rfl ?_
              (refine wd_free ?_ .none rfl (yf_str_add rfl rfl ?_) ?_; (· rfl); (· (first | (simp only [List.length_append, List.length_cons, List.length_nil]; omega) | (simp <;> omega))); skip)
              refine wd_at rfl ?_
              (refine wd_free ?_ .none rfl (yf_assign rfl) ?_; (· rfl);  skip)
              refine wd_endH ?_
              refine wq_then ?_
              refine wc_ret ?_
              refine wq_block_ret ?_
              refine wq_then_ret ?_
              refine wq_ret1 rfl rfl (fun w hw => ?_)
              exact ⟨by rw [lineLs hcd], (HpG.keep hw).ext⟩
            · skip
              first | have hcd : ¬ (o.code = 18 ∨ o.code = 19) := (fun h => by rw [hx.2 h] at hc; cases hc) | skip
              refine wc_seq ?_
              refine wc_region ?_
              refine wl_free .none rfl (yf_eql rfl rfl) ?_
              refine wl_free .none rfl (yf_assign rfl) ?_
              refine wl_nil ?_
              refine wq_then ?_
              refine wc_cond rfl (fun hc => ?_) (fun hc => ?_)
              · replace hc := eq_of_beq hc
                refine wc_seq ?_
                refine wc_seq ?_
                refine wc_weak (.cons (i := 1) rfl <| .cons (i := 2) rfl <| .cons (i := 5) rfl <| .cons (i := 6) rfl <| .cons (i := 13) rfl <| .cons (i := 35) rfl <| .cons (i := 45) rfl <| .nil) ?_
                refine wc_region ?_
                refine wl_free .none rfl (yf_fieldAddr (off := 4) (sz := 0) rfl Tryd.underlying53 (by kernel_rfl) rfl) ?_
                refine wl_free .none rfl (yf_loadL 1 rfl rfl rfl Tryd.underlying35 rfl) ?_
                (refine wl_free .none rfl (yf_conv rfl (by kernel_rfl) Tryd.underlying3 (i64_in _ ?_ ?_)) ?_; (· omega); (· omega); skip)
                refine wl_free .none rfl (yf_move rfl) ?_
                refine wl_free .none rfl (yf_lenS rfl Tryd.underlying25) ?_
                refine wl_free .none rfl (yf_lss rfl rfl) ?_
                refine wl_nil ?_
                refine wq_then ?_
                refine wc_cond rfl (fun hc => ?_) (fun hc => ?_)
                · replace hc := of_decide_eq_true hc
                  refine wc_seq ?_
                  refine wc_weak (.cons (i := 1) rfl <| .cons (i := 2) rfl <| .cons (i := 5) rfl <| .cons (i := 6) rfl <| .cons (i := 13) rfl <| .cons (i := 35) rfl <| .cons (i := 45) rfl <| .cons (i := 52) rfl <| .nil) ?_
                  have hlt : o.n.toNat < t.length := by have := hn.1; omega
                  obtain ⟨gA, oA, hA, _⟩ := h (by rw [show (u32s t).length = t.length from List.length_map ..]; omega)
                  subst hA
                  have hN : o.n = ((o.n.toNat : Nat) : Int) := (Int.toNat_of_nonneg hn.1).symm
                  obtain ⟨x, hxv⟩ : ∃ x, t.getD o.n.toNat 0 = x := ⟨_, rfl⟩
                  have hxm : U32 x := by rw [← hxv, getD_at hlt]; exact ht _ (List.getElem_mem _)
                  have hh8 := hexN_len x.toNat 8
                  refine wc_drawN [0, 1, 2, 3, 4, 5, 6, 7, 8, 9, 10, 11] _ (by kernel_rfl) (by kernel_rfl) HpG.stab (fun _ h => h) (fun n0 hn0 => ?_)
                  refine wd_at rfl ?_
                  (refine wd_free ?_ .none rfl (yf_fieldAddr (off := 4) (sz := 0) rfl Tryd.underlying53 (by kernel_rfl) rfl) ?_; (· rfl);  skip)
                  refine wd_at rfl ?_
                  (refine wd_free ?_ .none rfl (yf_loadL 1 rfl rfl rfl Tryd.underlying35 rfl) ?_; (· rfl);  skip)
                  refine wd_at rfl ?_
                  refine wd_pure .none rfl (by kernel_rfl) rfl (fun _ _ hj hx => HpG.onE hj hx) (fun w hw => hdec w) ?_
                  refine wd_at rfl ?_
                  (refine wd_free ?_ .none rfl (yf_str_add rfl rfl ?_) ?_; (· rfl); (· (first | (simp only [List.length_append, List.length_cons, List.length_nil]; omega) | (simp <;> omega))); skip)
                  refine wd_at rfl ?_
                  (refine wd_free ?_ .none rfl (yf_move rfl) ?_; (· rfl);  skip)
                  refine wd_at rfl ?_
                  (refine wd_free ?_ .none rfl (yf_fieldAddr (off := 4) (sz := 0) rfl Tryd.underlying53 (by kernel_rfl) rfl) ?_; (· rfl);  skip)
                  refine wd_at rfl ?_
                  (refine wd_free ?_ .none rfl (yf_loadL 1 rfl rfl rfl Tryd.underlying35 rfl) ?_; (· rfl);  skip)
                  refine wd_at rfl ?_
                  (refine wd_free ?_ .none rfl (yf_indexAddrS (g := gA) (o := oA) (j := o.n.toNat) (es := 1) rfl rfl Tryd.underlying25 (by kernel_rfl) hN hlt rfl) ?_; (· rfl);  skip)
                  refine wd_at rfl ?_
                  (refine wd_free ?_ .none rfl (yf_load (v := .int .u32 x) rfl Tryd.underlying35 rfl (fun w h => Rd.at (HpG.x h) (i := o.n.toNat) (by rw [show (u32s t).length = t.length from List.length_map ..]; omega) (by rw [Nat.mul_one]) (by rw [u32s, List.getElem?_map, List.getElem?_eq_getElem hlt, ← hxv, getD_at hlt]; rfl))) ?_; (· rfl);  skip)
                  refine wd_at rfl ?_
                  refine wd_pure .none rfl (by kernel_rfl) rfl (fun _ _ hj hx => HpG.onE hj hx) (fun w hw => by
                    have := hex_any x.toNat (by have := hxm.2; omega) w
                    rw [Int.toNat_of_nonneg hxm.1] at this
                    exact this) ?_
                  refine wd_at rfl ?_
                  (refine wd_free ?_ .none rfl (yf_str_add rfl rfl ?_) ?_; (· rfl); (· (first | (simp only [List.length_append, List.length_cons, List.length_nil]; omega) | (simp <;> omega))); skip)
                  refine wd_at rfl ?_
                  (refine wd_free ?_ .none rfl (yf_assign rfl) ?_; (· rfl);  skip)
                  refine wd_endH ?_
                  refine wq_then ?_
                  refine wc_ret ?_
                  refine wq_then_ret ?_
                  refine wq_block_ret ?_
                  refine wq_then_ret ?_
                  refine wq_ret1 rfl rfl (fun w hw => ?_)
                  exact ⟨by rw [lineL20 (by assumption) (by omega), hxv], (HpG.keep hw).ext⟩
                · replace hc := of_decide_eq_false hc
                  refine wc_skip ?_
                  refine wq_then ?_
                  refine wc_seq ?_
                  refine wc_weak (.cons (i := 1) rfl <| .cons (i := 2) rfl <| .cons (i := 5) rfl <| .cons (i := 6) rfl <| .cons (i := 13) rfl <| .cons (i := 35) rfl <| .cons (i := 45) rfl <| .cons (i := 52) rfl <| .nil) ?_
                  refine wc_region ?_
                  refine wl_free .none rfl (yf_fieldAddr (off := 4) (sz := 0) rfl Tryd.underlying53 (by kernel_rfl) rfl) ?_
                  refine wl_free .none rfl (yf_loadL 1 rfl rfl rfl Tryd.underlying35 rfl) ?_
                  refine wl_pure .none rfl (by kernel_rfl) rfl (fun w hw => hdec w) ?_
                  (refine wl_free .none rfl (yf_str_add rfl rfl ?_) ?_; (· (first | (simp only [List.length_append, List.length_cons, List.length_nil]; omega) | (simp <;> omega))); skip)
                  refine wl_free .none rfl (yf_assign rfl) ?_
                  refine wl_nil ?_
                  refine wq_then ?_
                  refine wc_ret ?_
                  refine wq_block_ret ?_
                  refine wq_then_ret ?_
                  refine wq_ret1 rfl rfl (fun w hw => ?_)
                  exact ⟨by rw [lineL20q (by assumption) (by omega)], (HpG.keep hw).ext⟩
              · replace hc := beq_no hc
                refine wc_seq ?_
                refine wc_weak (.cons (i := 1) rfl <| .cons (i := 2) rfl <| .cons (i := 5) rfl <| .cons (i := 6) rfl <| .cons (i := 13) rfl <| .cons (i := 35) rfl <| .cons (i := 45) rfl <| .nil) ?_
                refine wc_region ?_
                refine wl_free .none rfl (yf_eql rfl rfl) ?_
                refine wl_free .none rfl (yf_assign rfl) ?_
                refine wl_nil ?_
                refine wq_then ?_
                refine wc_cond rfl (fun hc => ?_) (fun hc => ?_)
                · replace hc := eq_of_beq hc
                  refine wc_seq ?_
                  refine wc_weak (.cons (i := 1) rfl <| .cons (i := 2) rfl <| .cons (i := 5) rfl <| .cons (i := 6) rfl <| .cons (i := 13) rfl <| .cons (i := 35) rfl <| .cons (i := 45) rfl <| .cons (i := 68) rfl <| .nil) ?_
                  refine wc_region ?_
                  refine wl_free .none rfl (yf_fieldAddr (off := 2) (sz := 0) rfl Tryd.underlying53 (by kernel_rfl) rfl) ?_
                  refine wl_free .none rfl (yf_loadL 1 rfl rfl rfl Tryd.underlying3 rfl) ?_
                  refine wl_pure .none rfl (by kernel_rfl) rfl (fun w hw => refName_any o.a w) ?_
                  (refine wl_free .none rfl (yf_str_add rfl rfl ?_) ?_; (· (first | (simp only [List.length_append, List.length_cons, List.length_nil]; omega) | (simp <;> omega))); skip)
                  refine wl_free .none rfl (yf_assign rfl) ?_
                  refine wl_nil ?_
                  refine wq_then ?_
                  refine wc_ret ?_
                  refine wq_block_ret ?_
                  refine wq_then_ret ?_
                  refine wq_ret1 rfl rfl (fun w hw => ?_)
                  exact ⟨by rw [lineL21 hc], (HpG.keep hw).ext⟩
                · replace hc := beq_no hc
                  refine wc_seq ?_
                  refine wc_weak (.cons (i := 1) rfl <| .cons (i := 2) rfl <| .cons (i := 5) rfl <| .cons (i := 6) rfl <| .cons (i := 13) rfl <| .cons (i := 35) rfl <| .cons (i := 45) rfl <| .cons (i := 68) rfl <| .nil) ?_
                  refine wc_region ?_
                  refine wl_free .none rfl (yf_eql rfl rfl) ?_
                  refine wl_free .none rfl (yf_assign rfl) ?_
                  refine wl_nil ?_
                  refine wq_then ?_
                  refine wc_cond rfl (fun hc => ?_) (fun hc => ?_)
                  · replace hc := eq_of_beq hc
                    refine wc_seq ?_
                    refine wc_weak (.cons (i := 1) rfl <| .cons (i := 2) rfl <| .cons (i := 5) rfl <| .cons (i := 6) rfl <| .cons (i := 13) rfl <| .cons (i := 35) rfl <| .cons (i := 45) rfl <| .cons (i := 68) rfl <| .cons (i := 74) rfl <| .nil) ?_
                    refine wc_region ?_
                    refine wl_free .none rfl (yf_assign rfl) ?_
                    refine wl_nil ?_
                    refine wq_then ?_
                    refine wc_ret ?_
                    refine wq_block_ret ?_
                    refine wq_then_ret ?_
                    refine wq_ret1 rfl rfl (fun w hw => ?_)
                    exact ⟨by rw [lineL22 hc], (HpG.keep hw).ext⟩
                  · replace hc := beq_no hc
                    refine wc_seq ?_
                    refine wc_weak (.cons (i := 1) rfl <| .cons (i := 2) rfl <| .cons (i := 5) rfl <| .cons (i := 6) rfl <| .cons (i := 13) rfl <| .cons (i := 35) rfl <| .cons (i := 45) rfl <| .cons (i := 68) rfl <| .cons (i := 74) rfl <| .nil) ?_
                    refine wc_region ?_
                    refine wl_free .none rfl (yf_eql rfl rfl) ?_
                    refine wl_free .none rfl (yf_assign rfl) ?_
                    refine wl_nil ?_
                    refine wq_then ?_
                    refine wc_cond rfl (fun hc => ?_) (fun hc => ?_)
                    · replace hc := eq_of_beq hc
                      refine wc_seq ?_
                      refine wc_weak (.cons (i := 1) rfl <| .cons (i := 2) rfl <| .cons (i := 5) rfl <| .cons (i := 6) rfl <| .cons (i := 13) rfl <| .cons (i := 35) rfl <| .cons (i := 45) rfl <| .cons (i := 68) rfl <| .cons (i := 74) rfl <| .cons (i := 76) rfl <| .nil) ?_
                      refine wc_drawN [0, 1, 2, 3, 4, 5, 6, 7, 8, 9] _ (by kernel_rfl) (by kernel_rfl) HpG.stab (fun _ h => h) (fun n0 hn0 => ?_)
                      refine wd_at rfl ?_
                      (refine wd_free ?_ .none rfl (yf_fieldAddr (off := 2) (sz := 0) rfl Tryd.underlying53 (by kernel_rfl) rfl) ?_; (· rfl);  skip)
                      refine wd_at rfl ?_
                      (refine wd_free ?_ .none rfl (yf_loadL 1 rfl rfl rfl Tryd.underlying3 rfl) ?_; (· rfl);  skip)
                      refine wd_at rfl ?_
                      refine wd_pure .none rfl (by kernel_rfl) rfl (fun _ _ hj hx => HpG.onE hj hx) (fun w hw => refName_any o.a w) ?_
                      refine wd_at rfl ?_
                      (refine wd_free ?_ .none rfl (yf_str_add rfl rfl ?_) ?_; (· rfl); (· (first | (simp only [List.length_append, List.length_cons, List.length_nil]; omega) | (simp <;> omega))); skip)
                      refine wd_at rfl ?_
                      (refine wd_free ?_ .none rfl (yf_str_add rfl rfl ?_) ?_; (· rfl); (· (first | (simp only [List.length_append, List.length_cons, List.length_nil]; omega) | (simp <;> omega))); skip)
                      refine wd_at rfl ?_
                      (refine wd_free ?_ .none rfl (yf_fieldAddr (off := 4) (sz := 0) rfl Tryd.underlying53 (by kernel_rfl) rfl) ?_; (· rfl);  skip)
                      refine wd_at rfl ?_
                      (refine wd_free ?_ .none rfl (yf_loadL 1 rfl rfl rfl Tryd.underlying35 rfl) ?_; (· rfl);  skip)
                      refine wd_at rfl ?_
                      refine wd_pure .none rfl (by kernel_rfl) rfl (fun _ _ hj hx => HpG.onE hj hx) (fun w hw => hdec w) ?_
                      refine wd_at rfl ?_
                      (refine wd_free ?_ .none rfl (yf_str_add rfl rfl ?_) ?_; (· rfl); (· (first | (simp only [List.length_append, List.length_cons, List.length_nil]; omega) | (simp <;> omega))); skip)
                      refine wd_at rfl ?_
                      (refine wd_free ?_ .none rfl (yf_assign rfl) ?_; (· rfl);  skip)
                      refine wd_endH ?_
                      refine wq_then ?_
                      refine wc_ret ?_
                      refine wq_block_ret ?_
                      refine wq_then_ret ?_
                      refine wq_ret1 rfl rfl (fun w hw => ?_)
                      exact ⟨by rw [lineL23 hc], (HpG.keep hw).ext⟩
                    · replace hc := beq_no hc
                      refine wc_seq ?_
                      refine wc_weak (.cons (i := 1) rfl <| .cons (i := 2) rfl <| .cons (i := 5) rfl <| .cons (i := 6) rfl <| .cons (i := 13) rfl <| .cons (i := 35) rfl <| .cons (i := 45) rfl <| .cons (i := 68) rfl <| .cons (i := 74) rfl <| .cons (i := 76) rfl <| .nil) ?_
                      refine wc_region ?_
                      refine wl_free .none rfl (yf_eql rfl rfl) ?_
                      refine wl_free .none rfl (yf_assign rfl) ?_
                      refine wl_nil ?_
                      refine wq_then ?_
                      refine wc_cond rfl (fun hc => ?_) (fun hc => ?_)
                      · replace hc := eq_of_beq hc
                        refine wc_seq ?_
                        refine wc_weak (.cons (i := 1) rfl <| .cons (i := 2) rfl <| .cons (i := 5) rfl <| .cons (i := 6) rfl <| .cons (i := 13) rfl <| .cons (i := 35) rfl <| .cons (i := 45) rfl <| .cons (i := 68) rfl <| .cons (i := 74) rfl <| .cons (i := 76) rfl <| .cons (i := 87) rfl <| .nil) ?_
                        refine wc_region ?_
                        refine wl_free .none rfl (yf_fieldAddr (off := 4) (sz := 0) rfl Tryd.underlying53 (by kernel_rfl) rfl) ?_
                        refine wl_free .none rfl (yf_loadL 1 rfl rfl rfl Tryd.underlying35 rfl) ?_
                        refine wl_pure .none rfl (by kernel_rfl) rfl (fun w hw => hdec w) ?_
                        (refine wl_free .none rfl (yf_str_add rfl rfl ?_) ?_; (· (first | (simp only [List.length_append, List.length_cons, List.length_nil]; omega) | (simp <;> omega))); skip)
                        refine wl_free .none rfl (yf_assign rfl) ?_
                        refine wl_nil ?_
                        refine wq_then ?_
                        refine wc_ret ?_
                        refine wq_block_ret ?_
                        refine wq_then_ret ?_
                        refine wq_ret1 rfl rfl (fun w hw => ?_)
                        exact ⟨by rw [lineL24 hc], (HpG.keep hw).ext⟩
                      · replace hc := beq_no hc
                        refine wc_seq ?_
                        refine wc_weak (.cons (i := 1) rfl <| .cons (i := 2) rfl <| .cons (i := 5) rfl <| .cons (i := 6) rfl <| .cons (i := 13) rfl <| .cons (i := 35) rfl <| .cons (i := 45) rfl <| .cons (i := 68) rfl <| .cons (i := 74) rfl <| .cons (i := 76) rfl <| .cons (i := 87) rfl <| .nil) ?_
                        refine wc_region ?_
                        refine wl_free .none rfl (yf_eql rfl rfl) ?_
                        refine wl_free .none rfl (yf_assign rfl) ?_
                        refine wl_nil ?_
                        refine wq_then ?_
                        refine wc_cond rfl (fun hc => ?_) (fun hc => ?_)
                        · replace hc := eq_of_beq hc
                          refine wc_seq ?_
                          refine wc_weak (.cons (i := 1) rfl <| .cons (i := 2) rfl <| .cons (i := 5) rfl <| .cons (i := 6) rfl <| .cons (i := 13) rfl <| .cons (i := 35) rfl <| .cons (i := 45) rfl <| .cons (i := 68) rfl <| .cons (i := 74) rfl <| .cons (i := 76) rfl <| .cons (i := 87) rfl <| .cons (i := 93) rfl <| .nil) ?_
                          refine wc_region ?_
                          refine wl_free .none rfl (yf_fieldAddr (off := 2) (sz := 0) rfl Tryd.underlying53 (by kernel_rfl) rfl) ?_
                          refine wl_free .none rfl (yf_loadL 1 rfl rfl rfl Tryd.underlying3 rfl) ?_
                          refine wl_pure .none rfl (by kernel_rfl) rfl (fun w hw => refName_any o.a w) ?_
                          (refine wl_free .none rfl (yf_str_add rfl rfl ?_) ?_; (· (first | (simp only [List.length_append, List.length_cons, List.length_nil]; omega) | (simp <;> omega))); skip)
                          refine wl_free .none rfl (yf_assign rfl) ?_
                          refine wl_nil ?_
                          refine wq_then ?_
                          refine wc_ret ?_
                          refine wq_block_ret ?_
                          refine wq_then_ret ?_
                          refine wq_ret1 rfl rfl (fun w hw => ?_)
                          exact ⟨by rw [lineL25 hc], (HpG.keep hw).ext⟩
                        · replace hc := beq_no hc
                          refine wc_skip ?_
                          refine wq_block ?_
                          refine wq_then ?_
                          refine wc_seq ?_
                          refine wc_seq ?_
                          refine wc_weak (.cons (i := 1) rfl <| .cons (i := 2) rfl <| .cons (i := 5) rfl <| .cons (i := 6) rfl <| .cons (i := 13) rfl <| .cons (i := 35) rfl <| .cons (i := 45) rfl <| .cons (i := 68) rfl <| .cons (i := 74) rfl <| .cons (i := 76) rfl <| .cons (i := 87) rfl <| .cons (i := 93) rfl <| .nil) ?_
                          refine wc_region ?_
                          refine wl_free .none rfl (yf_fieldAddr (off := 0) (sz := 0) rfl Tryd.underlying53 (by kernel_rfl) rfl) ?_
                          refine wl_free .none rfl (yf_loadL 1 rfl rfl rfl Tryd.underlying3 rfl) ?_
                          refine wl_free .none rfl (yf_geq rfl rfl) ?_
                          refine wl_free .none rfl (yf_move rfl) ?_
                          refine wl_split 102 rfl (fun hb => ?_) (fun hb => ?_)
                          · replace hb := of_decide_eq_true hb
                            refine wl_free (.some rfl rfl) rfl (yf_fieldAddr (off := 0) (sz := 0) rfl Tryd.underlying53 (by kernel_rfl) rfl) ?_
                            refine wl_free (.some rfl rfl) rfl (yf_loadL 1 rfl rfl rfl Tryd.underlying3 rfl) ?_
                            refine wl_free (.some rfl rfl) rfl (yf_leq rfl rfl) ?_
                            refine wl_free .none rfl (yf_pickT rfl rfl) ?_
                            refine wl_nil ?_
                            refine wq_then ?_
                            refine wc_cond rfl (fun hc => ?_) (fun hc => ?_)
                            · replace hc := of_decide_eq_true hc
                              refine wc_seq ?_
                              refine wc_weak (.cons (i := 1) rfl <| .cons (i := 2) rfl <| .cons (i := 5) rfl <| .cons (i := 6) rfl <| .cons (i := 13) rfl <| .cons (i := 35) rfl <| .cons (i := 45) rfl <| .cons (i := 68) rfl <| .cons (i := 74) rfl <| .cons (i := 76) rfl <| .cons (i := 87) rfl <| .cons (i := 93) rfl <| .cons (i := 106) rfl <| .nil) ?_
                              refine wc_drawN [0, 1, 2, 3, 4, 5, 6, 7, 8, 9, 10, 11, 12, 13, 14, 15, 16, 17] _ (by kernel_rfl) (by kernel_rfl) HpG.stab (fun _ h => h) (fun n0 hn0 => ?_)
                              refine wd_at rfl ?_
                              (refine wd_free ?_ .none rfl (yf_move rfl) ?_; (· rfl);  skip)
                              refine wd_at rfl ?_
                              (refine wd_free ?_ .none rfl (yf_fieldAddr (off := 2) (sz := 0) rfl Tryd.underlying53 (by kernel_rfl) rfl) ?_; (· rfl);  skip)
                              refine wd_at rfl ?_
                              (refine wd_free ?_ .none rfl (yf_loadL 1 rfl rfl rfl Tryd.underlying3 rfl) ?_; (· rfl);  skip)
                              refine wd_at rfl ?_
                              refine wd_pure .none rfl (by kernel_rfl) rfl (fun _ _ hj hx => HpG.onE hj hx) (fun w hw => refName_any o.a w) ?_
                              refine wd_at rfl ?_
                              (refine wd_free ?_ .none rfl (yf_str_add rfl rfl ?_) ?_; (· rfl); (· (first | (simp only [List.length_append, List.length_cons, List.length_nil]; omega) | (simp <;> omega))); skip)
                              refine wd_at rfl ?_
                              (refine wd_free ?_ .none rfl (yf_str_add rfl rfl ?_) ?_; (· rfl); (· (first | (simp only [List.length_append, List.length_cons, List.length_nil]; omega) | (simp <;> omega))); skip)
                              refine wd_at rfl ?_
                              (refine wd_free ?_ .none rfl (yf_fieldAddr (off := 0) (sz := 0) rfl Tryd.underlying53 (by kernel_rfl) rfl) ?_; (· rfl);  skip)
                              refine wd_at rfl ?_
                              (refine wd_free ?_ .none rfl (yf_loadL 1 rfl rfl rfl Tryd.underlying3 rfl) ?_; (· rfl);  skip)
                              refine wd_at rfl ?_
                              (refine wd_free ?_ .none rfl (yf_sub rfl rfl (i64_in _ ?_ ?_)) ?_; (· rfl); (· omega); (· omega); skip)
                              refine wd_at rfl ?_
                              (refine wd_free ?_ .none rfl (yf_indexAddrA (j := (o.code - 3).toNat) (es := 1) rfl rfl Tryd.underlying103 (by kernel_rfl) (Int.toNat_of_nonneg (by omega)).symm (by omega) rfl) ?_; (· rfl);  skip)
                              refine wd_at rfl ?_
                              (refine wd_free ?_ .none rfl (yf_loadL 0 rfl rfl (by rw [Nat.mul_one, Nat.zero_add]; exact symV_at (by omega)) Tryd.underlying9 rfl) ?_; (· rfl);  skip)
                              refine wd_at rfl ?_
                              (refine wd_free ?_ .none rfl (yf_str_add rfl rfl ?_) ?_; (· rfl); (· (first | (simp only [List.length_append, List.length_cons, List.length_nil]; omega) | (simp <;> omega))); skip)
                              refine wd_at rfl ?_
                              (refine wd_free ?_ .none rfl (yf_str_add rfl rfl ?_) ?_; (· rfl); (· (first | (simp only [List.length_append, List.length_cons, List.length_nil]; omega) | (simp <;> omega))); skip)
                              refine wd_at rfl ?_
                              (refine wd_free ?_ .none rfl (yf_fieldAddr (off := 3) (sz := 0) rfl Tryd.underlying53 (by kernel_rfl) rfl) ?_; (· rfl);  skip)
                              refine wd_at rfl ?_
                              (refine wd_free ?_ .none rfl (yf_loadL 1 rfl rfl rfl Tryd.underlying3 rfl) ?_; (· rfl);  skip)
                              refine wd_at rfl ?_
                              refine wd_pure .none rfl (by kernel_rfl) rfl (fun _ _ hj hx => HpG.onE hj hx) (fun w hw => refName_any o.b w) ?_
                              refine wd_at rfl ?_
                              (refine wd_free ?_ .none rfl (yf_str_add rfl rfl ?_) ?_; (· rfl); (· (first | (simp only [List.length_append, List.length_cons, List.length_nil]; omega) | (simp <;> omega))); skip)
                              refine wd_at rfl ?_
                              (refine wd_free ?_ .none rfl (yf_assign rfl) ?_; (· rfl);  skip)
                              refine wd_endH ?_
                              refine wq_then ?_
                              refine wc_ret ?_
                              refine wq_then_ret ?_
                              refine wq_ret1 rfl rfl (fun w hw => ?_)
                              exact ⟨by rw [lineLb (by omega)], (HpG.keep hw).ext⟩
                            · replace hc := of_decide_eq_false hc
                              refine wc_skip ?_
                              refine wq_then ?_
                              refine wc_seq ?_
                              refine wc_weak (.cons (i := 1) rfl <| .cons (i := 2) rfl <| .cons (i := 5) rfl <| .cons (i := 6) rfl <| .cons (i := 13) rfl <| .cons (i := 35) rfl <| .cons (i := 45) rfl <| .cons (i := 68) rfl <| .cons (i := 74) rfl <| .cons (i := 76) rfl <| .cons (i := 87) rfl <| .cons (i := 93) rfl <| .cons (i := 106) rfl <| .nil) ?_
                              refine wc_region ?_
                              refine wl_free .none rfl (yf_assign rfl) ?_
                              refine wl_nil ?_
                              refine wq_then ?_
                              refine wc_ret ?_
                              refine wq_ret1 rfl rfl (fun w hw => ?_)
                              exact ⟨by rw [lineLq (by omega)], (HpG.keep hw).ext⟩
                          · replace hb := of_decide_eq_false hb
                            refine wl_pass (.some rfl rfl rfl) rfl ?_
                            refine wl_pass (.some rfl rfl rfl) rfl ?_
                            refine wl_pass (.some rfl rfl rfl) rfl ?_
                            refine wl_free .none rfl (yf_pickF rfl rfl) ?_
                            refine wl_nil ?_
                            refine wq_then ?_
                            refine wc_false rfl ?_
                            refine wc_skip ?_
                            refine wq_then ?_
                            refine wc_seq ?_
                            refine wc_weak (.cons (i := 1) rfl <| .cons (i := 2) rfl <| .cons (i := 5) rfl <| .cons (i := 6) rfl <| .cons (i := 13) rfl <| .cons (i := 35) rfl <| .cons (i := 45) rfl <| .cons (i := 68) rfl <| .cons (i := 74) rfl <| .cons (i := 76) rfl <| .cons (i := 87) rfl <| .cons (i := 93) rfl <| .cons (i := 106) rfl <| .nil) ?_
                            refine wc_region ?_
                            refine wl_free .none rfl (yf_assign rfl) ?_
                            refine wl_nil ?_
                            refine wq_then ?_
                            refine wc_ret ?_
                            refine wq_ret1 rfl rfl (fun w hw => ?_)
                            exact ⟨by rw [lineLq (by omega)], (HpG.keep hw).ext⟩
end Go.Proofs.YtojofinofpgopaaDoor
/- The reference's Print. -/
namespace Go.Proofs.YtojofinofpgopaaDoor
open Go.RowKit
abbrev hdB (aA aP aO : Option Addr) (cA cP cO : Nat) (b : IBlk) : List Value := [.slice aA b.at_.length cA, .slice aP b.pages.length cP, .slice aO b.ops.length cO]
theorem flatB_len {α : Type} {f : α → List UInt8} {c : Nat} : ∀ (l : List α), (∀ x ∈ l, (f x).length ≤ c) → (l.map f).flatten.length ≤ l.length * c
  | [], _ => by simp
  | x :: r, h => by
    have h1 := h x (List.mem_cons_self ..)
    have h2 := flatB_len r fun y hy => h y (List.mem_cons_of_mem _ hy)
    rw [List.map_cons, List.flatten_cons, List.length_append, List.length_cons, Nat.succ_mul]
    omega
theorem flat_snoc {α : Type} (f : α → List UInt8) (l : List α) (d : α) {k : Nat} (hk : k < l.length) : ((l.take k).map f).flatten ++ f (l.getD k d) = ((l.take (k + 1)).map f).flatten := by
  rw [List.take_succ_eq_append_getElem hk, List.map_append, List.flatten_append, List.getD_eq_getElem?_getD, List.getElem?_eq_getElem hk]
  simp
theorem itoa_len {n : Int} (hn : -9223372036854775808 ≤ n ∧ n ≤ 9223372036854775807) : (Lib.itoa n).length ≤ 20 := by
  unfold Lib.itoa
  split
  · have := dec_len (u := n.natAbs) (k := 19) (by omega) (by decide)
    rw [List.length_cons]; omega
  · exact Nat.le_trans (dec_len (u := n.toNat) (k := 19) (by omega) (by decide)) (by decide)
def pgF (p : Int) : List UInt8 := [32] ++ Lib.itoa p
def lnF (t : List Int) (o : IOp) : List UInt8 := lineL o t ++ [10]
def PgOk (b : IBlk) : Prop := ∀ p ∈ b.pages, -9223372036854775808 ≤ p ∧ p ≤ 9223372036854775807
theorem pg_len {b : IBlk} (hp : PgOk b) : ∀ p ∈ b.pages, (pgF p).length ≤ 21 := fun p h => by
  have := itoa_len (hp p h)
  rw [pgF, List.length_append]; simp; omega
theorem ln_len {b : IBlk} (hu : ∀ o ∈ b.ops, U32 o.n) : ∀ o ∈ b.ops, (lnF b.at_ o).length ≤ 41 := fun o h => by
  have h1 := (hu o h).2
  have h0 := (hu o h).1
  have := lineL_len o b.at_ (by omega)
  rw [lnF, List.length_append]; simp; omega
theorem Rd.pg {g o k : Nat} {l : List Int} {w : World} (h : Rd (some ⟨g, o, none⟩) (l.map (Value.int .i64)) w) (hk : k < l.length) : w.cell? ⟨g, o + k * 1, none⟩ = some (.int .i64 (l.getD k 0)) :=
  Rd.at h (i := k) (by rw [List.length_map]; exact hk) (by rw [Nat.mul_one]) (by rw [List.getElem?_map, List.getElem?_eq_getElem hk, getD_at hk]; rfl)
theorem RdIn.opR {Bad : Nat → Prop} {g o k c : Nat} {l : List IOp} {w : World} (h : RdIn Bad (some ⟨g, o, none⟩) (opsCells l) w) (hk : k < l.length) (hc : c = o + k * 5) : w.rangeAt g c (opC (l.getD k noOp)) := fun j v hj => by
  have hl := opsCells_len l
  have h2 := ops_row hk j v hj
  rw [Nat.zero_add] at h2
  have hlt := (List.getElem?_eq_some_iff.1 h2).1
  have := (h.rd).at (i := k * 5 + j) hlt (o := c + j) (by omega) h2
  exact this
set_option maxRecDepth 100000 in
set_option maxHeartbeats 4000000 in
theorem refPrint_any (i : BR) (w_0 : World) (hb : BRd (fun k => w_0.heap.size ≤ k) i w_0) (hi : i.OkN 200000) (hp : PgOk i.b) : Calls Tryd.prog 11 #[i.v] w_0 fun e w' => e = .returned (.string ⟨(printL i.b).toArray⟩) ∧ Ext w_0 w' := by
  obtain ⟨b, aA, aP, aO, cA, cP, cO⟩ := i
  obtain ⟨uA, uO, lA, lP, lO, hcA, hcP, hcO⟩ := hi
  dsimp only at uA uO lA lP lO hcA hcP hcO hp
  have hpl : ∀ k, ((b.pages.take k).map pgF).flatten.length ≤ 4200000 := fun k => by
    have := flatB_len (b.pages.take k) fun p h => pg_len hp p (List.mem_of_mem_take h)
    rw [List.length_take] at this; omega
  have hll : ∀ k, ((b.ops.take k).map (lnF b.at_)).flatten.length ≤ 8200000 := fun k => by
    have := flatB_len (b.ops.take k) fun p h => ln_len uO p (List.mem_of_mem_take h)
    rw [List.length_take] at this; omega
  refine calls_wc (args := [blkV aA aP aO cA cP cO b]) Tryd.func11 rfl 43 rfl (Nat.le_of_ble_eq_true rfl) ?_
  refine wc_weak (.cons (i := 0) rfl <| .nil) ?_
  refine wc_conseq (H' := Hp (fun _ => False) w_0 [] [] (BRd (fun k => w_0.heap.size ≤ k) ⟨b, aA, aP, aO, cA, cP, cO⟩)) (fun u hu => ?_) ?_
  · subst hu; exact Hp.start hb.foot0
  refine wc_seq ?_
  refine wc_region ?_
  refine wl_new .none rfl (nf_box rfl rfl) (fun b1 => ?_)
  refine wl_free .none rfl (yf_assign rfl) ?_
  refine wl_nil ?_
  refine wq_then ?_
  refine wc_seq ?_
  refine wc_region ?_
  refine wl_free .none rfl (yf_assign rfl) ?_
  refine wl_nil ?_
  refine wq_then ?_
  refine wc_seq ?_
  refine wc_seq ?_
  refine wc_region ?_
  refine wl_free .none rfl (yf_assign rfl) ?_
  refine wl_nil ?_
  refine wq_then ?_
  refine wc_block ?_
  refine wc_loop (ι := {k : Nat // k ≤ b.pages.length}) (fun k => [(1, ptrV b1), (3, .string ⟨([112, 97, 103, 101, 115] ++ ((b.pages.take k.1).map pgF).flatten).toArray⟩), (4, .int .i64 k.1)]) (fun _ => Hp (fun _ => False) w_0 [(b1, bk 28 (hdB aA aP aO cA cP cO b))] [] (BRd (fun k => w_0.heap.size ≤ k) ⟨b, aA, aP, aO, cA, cP, cO⟩)) (fun k => b.pages.length - k.1) ⟨0, Nat.zero_le _⟩ ?_ ?_ (fun k => ?_)
  · exact .cons rfl <| .cons rfl <| .cons rfl <| .nil
  · exact fun w h => h
  obtain ⟨k, hk⟩ := k
  dsimp only at hk ⊢
  have hl := hpl k
  refine wc_seq ?_
  refine wc_seq ?_
  refine wc_region ?_
  refine wl_free .none rfl (yf_move rfl) ?_
  refine wl_free .none rfl (yf_fieldAddr (off := 1) (sz := 0) rfl Tryd.underlying28 (by kernel_rfl) rfl) ?_
  refine wl_free .none rfl (yf_loadL 0 rfl rfl rfl Tryd.underlying22 rfl) ?_
  refine wl_free .none rfl (yf_lenS rfl Tryd.underlying22) ?_
  refine wl_free .none rfl (yf_lss rfl rfl) ?_
  refine wl_nil ?_
  refine wq_then ?_
  refine wc_cond rfl (fun hc => ?_) (fun hc => ?_)
  · replace hc := of_decide_eq_true hc
    refine wc_skip ?_
    refine wq_then ?_
    refine wc_seq ?_
    refine wc_block ?_
    refine wc_weak (.cons (i := 1) rfl <| .cons (i := 3) rfl <| .cons (i := 4) rfl <| .cons (i := 10) rfl <| .nil) ?_
    have hkl : k < b.pages.length := by omega
    obtain ⟨gP, oP, hP, _⟩ := hb.p (by rw [List.length_map]; exact Nat.lt_of_le_of_lt (Nat.zero_le _) hkl)
    dsimp only at hP
    have hpk := hp _ (show b.pages.getD k 0 ∈ b.pages by rw [getD_at hkl]; exact List.getElem_mem _)
    have hpi := itoa_len hpk
    refine wc_region ?_
    refine wl_free .none rfl (yf_move rfl) ?_
    (refine wl_free .none rfl (yf_str_add rfl rfl ?_) ?_; (· (first | (simp only [List.length_append, List.length_cons, List.length_nil]; omega) | (simp <;> omega))); skip)
    refine wl_free .none rfl (yf_fieldAddr (off := 1) (sz := 0) rfl Tryd.underlying28 (by kernel_rfl) rfl) ?_
    refine wl_free .none rfl (yf_loadL 0 rfl rfl rfl Tryd.underlying22 rfl) ?_
    refine wl_free .none rfl (yf_move rfl) ?_
    refine wl_free .none rfl (yf_indexAddrS (g := gP) (o := oP) (j := k) (es := 1) (by rw [← hP]; rfl) rfl Tryd.underlying22 (by kernel_rfl) rfl hkl rfl) ?_
    refine wl_free .none rfl (yf_load (v := .int .i64 (b.pages.getD k 0)) rfl Tryd.underlying3 rfl (fun w h => by have := (HpG.x h).p.rd; dsimp only at this; rw [hP] at this; exact Rd.pg this hkl)) ?_
    refine wl_pure .none rfl (by kernel_rfl) rfl (fun w hw => signed_any _ hpk w) ?_
    (refine wl_free .none rfl (yf_str_add rfl rfl ?_) ?_; (· (first | (simp only [List.length_append, List.length_cons, List.length_nil]; omega) | (simp <;> omega))); skip)
    refine wl_free .none rfl (yf_assign rfl) ?_
    refine wl_nil ?_
    refine wq_block ?_
    refine wq_then ?_
    refine wc_weak (.cons (i := 1) rfl <| .cons (i := 3) rfl <| .cons (i := 4) rfl <| .cons (i := 10) rfl <| .nil) ?_
    refine wc_region ?_
    refine wl_free .none rfl (yf_move rfl) ?_
    (refine wl_free .none rfl (yf_add rfl rfl (i64_in _ ?_ ?_)) ?_; (· omega); (· omega); skip)
    refine wl_free .none rfl (yf_assign rfl) ?_
    refine wl_nil ?_
    refine wq_round (ι := {k : Nat // k ≤ b.pages.length}) ⟨k + 1, hkl⟩ (by show b.pages.length - (k + 1) < b.pages.length - k; omega) (.cons rfl <| .consE rfl (by rw [← flat_snoc pgF b.pages 0 hkl, pgF]; simp only [List.append_assoc]) <| .cons rfl <| .nil) (fun w h => h)
  · replace hc := of_decide_eq_false hc
    refine wc_exit ?_
    refine wq_then_exit ?_
    refine wq_then_exit ?_
    refine wq_here ?_
    refine wq_then ?_
    refine wc_seq ?_
    refine wc_weak (.cons (i := 1) rfl <| .cons (i := 3) rfl <| .cons (i := 4) rfl <| .cons (i := 10) rfl <| .nil) ?_
    have hke : k = b.pages.length := by omega
    subst hke
    rw [List.take_length] at hl ⊢
    refine wc_region ?_
    refine wl_free .none rfl (yf_move rfl) ?_
    (refine wl_free .none rfl (yf_str_add rfl rfl ?_) ?_; (· (first | (simp only [List.length_append, List.length_cons, List.length_nil]; omega) | (simp <;> omega))); skip)
    refine wl_free .none rfl (yf_assign rfl) ?_
    refine wl_nil ?_
    refine wq_then ?_
    refine wc_seq ?_
    refine wc_seq ?_
    refine wc_weak (.cons (i := 1) rfl <| .cons (i := 3) rfl <| .cons (i := 4) rfl <| .cons (i := 10) rfl <| .nil) ?_
    refine wc_region ?_
    refine wl_free .none rfl (yf_assign rfl) ?_
    refine wl_nil ?_
    refine wq_then ?_
    refine wc_block ?_
    refine wc_loop (ι := {k : Nat // k ≤ b.ops.length}) (fun k => [(1, ptrV b1), (3, .string ⟨([112, 97, 103, 101, 115] ++ (b.pages.map pgF).flatten ++ [10] ++ ((b.ops.take k.1).map (lnF b.at_)).flatten).toArray⟩), (5, .int .i64 k.1)]) (fun _ => Hp (fun _ => False) w_0 [(b1, bk 28 (hdB aA aP aO cA cP cO b))] [] (BRd (fun k => w_0.heap.size ≤ k) ⟨b, aA, aP, aO, cA, cP, cO⟩)) (fun k => b.ops.length - k.1) ⟨0, Nat.zero_le _⟩ ?_ ?_ (fun k => ?_)
    · exact .cons rfl <| .consE rfl (by rw [List.take_zero, List.map_nil, List.flatten_nil, List.append_nil]) <| .cons rfl <| .nil
    · exact fun w h => h
    obtain ⟨k, hk⟩ := k
    dsimp only at hk ⊢
    have hl2 := hll k
    refine wc_seq ?_
    refine wc_seq ?_
    refine wc_region ?_
    refine wl_free .none rfl (yf_move rfl) ?_
    refine wl_free .none rfl (yf_fieldAddr (off := 2) (sz := 0) rfl Tryd.underlying28 (by kernel_rfl) rfl) ?_
    refine wl_free .none rfl (yf_loadL 0 rfl rfl rfl Tryd.underlying26 rfl) ?_
    refine wl_free .none rfl (yf_lenS rfl Tryd.underlying26) ?_
    refine wl_free .none rfl (yf_lss rfl rfl) ?_
    refine wl_nil ?_
    refine wq_then ?_
    refine wc_cond rfl (fun hc => ?_) (fun hc => ?_)
    · replace hc := of_decide_eq_true hc
      refine wc_skip ?_
      refine wq_then ?_
      refine wc_seq ?_
      refine wc_block ?_
      refine wc_weak (.cons (i := 1) rfl <| .cons (i := 3) rfl <| .cons (i := 5) rfl <| .cons (i := 28) rfl <| .nil) ?_
      have hkl : k < b.ops.length := by omega
      obtain ⟨gO, oO, hO, _⟩ := hb.o (by have := opsCells_len b.ops; show 0 < (opsCells b.ops).length; omega)
      dsimp only at hO
      have huo := uO _ (opD_mem hkl)
      have hll1 := lineL_len (b.ops.getD k noOp) b.at_ (by have := huo.2; have := huo.1; omega)
      refine wc_drawN [0, 1, 2, 3, 4, 5, 6, 7, 8, 9, 10, 11] _ (by kernel_rfl) (by kernel_rfl) HpG.stab (fun _ h => h) (fun n0 hn0 => ?_)
      refine wd_at rfl ?_
      (refine wd_free ?_ .none rfl (yf_move rfl) ?_; (· rfl);  skip)
      refine wd_at rfl ?_
      (refine wd_free ?_ .none rfl (yf_fieldAddr (off := 2) (sz := 0) rfl Tryd.underlying28 (by kernel_rfl) rfl) ?_; (· rfl);  skip)
      refine wd_at rfl ?_
      (refine wd_free ?_ .none rfl (yf_loadL 0 rfl rfl rfl Tryd.underlying26 rfl) ?_; (· rfl);  skip)
      refine wd_at rfl ?_
      (refine wd_free ?_ .none rfl (yf_move rfl) ?_; (· rfl);  skip)
      refine wd_at rfl ?_
      (refine wd_free ?_ .none rfl (yf_indexAddrS (g := gO) (o := oO) (j := k) (es := 5) (by rw [← hO]; rfl) rfl Tryd.underlying26 (by kernel_rfl) rfl hkl rfl) ?_; (· rfl);  skip)
      refine wd_at rfl ?_
      (refine wd_free ?_ .none rfl (yf_loadRow (cs := opC (b.ops.getD k noOp)) rfl Tryd.underlying53 rfl (by kernel_rfl) (fun w h => by have := (HpG.x h).o; dsimp only at this; rw [hO] at this; exact RdIn.opR this hkl rfl)) ?_; (· rfl);  skip)
      refine wd_at rfl ?_
      (refine wd_free ?_ .none rfl (yf_fieldAddr (off := 0) (sz := 0) rfl Tryd.underlying28 (by kernel_rfl) rfl) ?_; (· rfl);  skip)
      refine wd_at rfl ?_
      (refine wd_free ?_ .none rfl (yf_loadL 0 rfl rfl rfl Tryd.underlying25 rfl) ?_; (· rfl);  skip)
      refine wd_at rfl ?_
      refine wd_pure .none rfl (by kernel_rfl) rfl (fun _ _ hj hx => HpG.onE hj hx) (fun w hw => refLine_any (b.ops.getD k noOp) b.at_ aA cA huo uA lA w (HpG.x hw).a) ?_
      refine wd_at rfl ?_
      (refine wd_free ?_ .none rfl (yf_str_add rfl rfl ?_) ?_; (· rfl); (· (first | (simp only [List.length_append, List.length_cons, List.length_nil]; omega) | (simp <;> omega))); skip)
      refine wd_at rfl ?_
      (refine wd_free ?_ .none rfl (yf_str_add rfl rfl ?_) ?_; (· rfl); (· (first | (simp only [List.length_append, List.length_cons, List.length_nil]; omega) | (simp <;> omega))); skip)
      refine wd_at rfl ?_
      (refine wd_free ?_ .none rfl (yf_assign rfl) ?_; (· rfl);  skip)
      refine wd_endH ?_
      refine wq_block ?_
      refine wq_then ?_
      refine wc_weak (.cons (i := 1) rfl <| .cons (i := 3) rfl <| .cons (i := 5) rfl <| .cons (i := 28) rfl <| .nil) ?_
      refine wc_region ?_
      refine wl_free .none rfl (yf_move rfl) ?_
      (refine wl_free .none rfl (yf_add rfl rfl (i64_in _ ?_ ?_)) ?_; (· omega); (· omega); skip)
      refine wl_free .none rfl (yf_assign rfl) ?_
      refine wl_nil ?_
      refine wq_round (ι := {k : Nat // k ≤ b.ops.length}) ⟨k + 1, hkl⟩ (by show b.ops.length - (k + 1) < b.ops.length - k; omega) (.cons rfl <| .consE rfl (by rw [← flat_snoc (lnF b.at_) b.ops noOp hkl, lnF]; simp only [List.append_assoc]) <| .cons rfl <| .nil) (fun w h => h)
    · replace hc := of_decide_eq_false hc
      refine wc_exit ?_
      refine wq_then_exit ?_
      refine wq_then_exit ?_
      refine wq_here ?_
      refine wq_then ?_
      refine wc_seq ?_
      refine wc_weak (.cons (i := 1) rfl <| .cons (i := 3) rfl <| .cons (i := 5) rfl <| .cons (i := 28) rfl <| .nil) ?_
      have hke : k = b.ops.length := by omega
      subst hke
      rw [List.take_length] at hl2 ⊢
      refine wc_region ?_
      refine wl_free .none rfl (yf_move rfl) ?_
      refine wl_free .none rfl (yf_assign rfl) ?_
      refine wl_nil ?_
      refine wq_then ?_
      refine wc_ret ?_
      refine wq_ret1 rfl rfl (fun w hw => ?_)
      exact ⟨rfl, (HpG.keep hw).ext⟩
end Go.Proofs.YtojofinofpgopaaDoor
