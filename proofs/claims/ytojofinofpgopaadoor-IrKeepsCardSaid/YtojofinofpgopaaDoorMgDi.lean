/- name, cell, symbols of ir. -/
import Derived.Test.YtojofinofpgopaaDoorMgDf
import Derived.Test.YtojofinofpgopaaDoorMgDr
namespace Go.Proofs.YtojofinofpgopaaDoor
open Go.RowKit
def spEs : Array MapEntry := #[⟨.int .i64 16, .string ⟨#[102, 107]⟩, 0⟩, ⟨.int .i64 17, .string ⟨#[102, 97]⟩, 1⟩, ⟨.int .i64 18, .string ⟨#[102, 98]⟩, 2⟩, ⟨.int .i64 19, .string ⟨#[112, 99]⟩, 3⟩]
def spL (v : Int) : List UInt8 := if v = 16 then [102, 107] else if v = 17 then [102, 97] else if v = 18 then [102, 98] else if v = 19 then [112, 99] else []
def symEs : Array MapEntry := #[⟨.int .i64 3, .string ⟨#[43]⟩, 0⟩, ⟨.int .i64 4, .string ⟨#[45]⟩, 1⟩, ⟨.int .i64 5, .string ⟨#[38]⟩, 2⟩, ⟨.int .i64 6, .string ⟨#[124]⟩, 3⟩, ⟨.int .i64 7, .string ⟨#[94]⟩, 4⟩, ⟨.int .i64 8, .string ⟨#[60, 60]⟩, 5⟩, ⟨.int .i64 9, .string ⟨#[62, 62]⟩, 6⟩, ⟨.int .i64 10, .string ⟨#[62, 62, 62]⟩, 7⟩, ⟨.int .i64 11, .string ⟨#[42]⟩, 8⟩, ⟨.int .i64 12, .string ⟨#[47]⟩, 9⟩, ⟨.int .i64 13, .string ⟨#[61, 61]⟩, 10⟩, ⟨.int .i64 14, .string ⟨#[60]⟩, 11⟩, ⟨.int .i64 15, .string ⟨#[60, 115]⟩, 12⟩]
theorem zeroStr (w : World) : (zeroValue 9).run Tryd.prog w = .ok (.string ⟨([] : List UInt8).toArray⟩) w := by kernel_rfl
theorem sp_none {c : Int} (h : c < 16 ∨ 19 < c) : Instr.findNow (.int .i64) (.int .i64 c) spEs.toList 0 = some none := by
  have e : ∀ n : Int, 16 ≤ n → n ≤ 19 → (c == n) = false := fun n h1 h2 => by simp; omega
  simp [spEs, Instr.findNow, Instr.sameNow, e]
theorem sym_none {c : Int} (h : c < 3 ∨ 15 < c) : Instr.findNow (.int .i64) (.int .i64 c) symEs.toList 0 = some none := by
  have e : ∀ n : Int, 3 ≤ n → n ≤ 15 → (c == n) = false := fun n h1 h2 => by simp; omega
  simp [symEs, Instr.findNow, Instr.sameNow, e]
section
variable {n : Nat} {m : List (Nat × Value)} {ty : TypeId} {H : World → Prop} {x y : Operand} {g c : Nat} {key : Int}
theorem yf_sp (hx : ev m x = some (.map (some g))) (hy : ev m y = some (.int .i64 key)) (hr : ∀ w, H w → w.heap[g]? = some (.map spEs c)) : YF Tryd.prog (.lookup 64 x y true) ty n m H (.tuple #[.string ⟨(spL key).toArray⟩, .bool (decide (16 ≤ key ∧ key ≤ 19))]) := by
  by_cases h : key < 16 ∨ 19 < key
  · have e1 : spL key = [] := by unfold spL; rw [if_neg (by omega), if_neg (by omega), if_neg (by omega), if_neg (by omega)]
    rw [e1, decide_eq_false (by omega)]
    exact yf_lookupNo hx hy hr Tryd.underlying64 Tryd.underlying3 zeroStr (sp_none h)
  · have hk : key = 16 ∨ key = 17 ∨ key = 18 ∨ key = 19 := by omega
    rcases hk with rfl | rfl | rfl | rfl <;> exact yf_lookup hx hy hr Tryd.underlying64 Tryd.underlying3 rfl
theorem yf_sym (hx : ev m x = some (.map (some g))) (hy : ev m y = some (.int .i64 key)) (hr : ∀ w, H w → w.heap[g]? = some (.map symEs c)) (h : 3 ≤ key ∧ key ≤ 15) : YF Tryd.prog (.lookup 64 x y true) ty n m H (.tuple #[.string ⟨(symL.getD (key - 3).toNat []).toArray⟩, .bool true]) := by
  have hk : key = 3 ∨ key = 4 ∨ key = 5 ∨ key = 6 ∨ key = 7 ∨ key = 8 ∨ key = 9 ∨ key = 10 ∨ key = 11 ∨ key = 12 ∨ key = 13 ∨ key = 14 ∨ key = 15 := by omega
  rcases hk with rfl | rfl | rfl | rfl | rfl | rfl | rfl | rfl | rfl | rfl | rfl | rfl | rfl <;> exact yf_lookup hx hy hr Tryd.underlying64 Tryd.underlying3 rfl
theorem yf_symNo (hx : ev m x = some (.map (some g))) (hy : ev m y = some (.int .i64 key)) (hr : ∀ w, H w → w.heap[g]? = some (.map symEs c)) (h : key < 3 ∨ 15 < key) : YF Tryd.prog (.lookup 64 x y true) ty n m H (.tuple #[.string ⟨([] : List UInt8).toArray⟩, .bool false]) :=
  yf_lookupNo hx hy hr Tryd.underlying64 Tryd.underlying3 zeroStr (sym_none h)
end
set_option maxRecDepth 100000 in
theorem symbols_any (w_0 : World) : Calls Tryd.prog 21 #[] w_0 fun e w' => ∃ g : Nat, True ∧ e = .returned (.map (some g)) ∧ Hp (fun _ => False) w_0 [(g, .map symEs 13)] [] (fun _ => True) w' := by
  refine calls_wc (args := []) Tryd.func21 rfl 3 rfl (Nat.le_of_ble_eq_true rfl) ?_
  refine wc_weak (.nil) ?_
  refine wc_conseq (H' := Hp (fun _ => False) w_0 [] [] (fun _ => True)) (fun u hu => ?_) ?_
  · subst hu; exact Hp.start0
  refine wc_seq ?_
  refine wc_region ?_
  refine wl_free .none rfl (yf_assign rfl) ?_
  refine wl_nil ?_
  refine wq_then ?_
  refine wc_seq ?_
  refine wc_region ?_
  refine wl_new .none rfl (nf_makeMap) (fun b1 => ?_)
  refine wl_chain0 .none (cf_insert 0 rfl rfl rfl rfl Tryd.underlying64 Tryd.underlying3 rfl) (fun _ => ?_)
  refine wl_chain0 .none (cf_insert 0 rfl rfl rfl rfl Tryd.underlying64 Tryd.underlying3 rfl) (fun _ => ?_)
  refine wl_chain0 .none (cf_insert 0 rfl rfl rfl rfl Tryd.underlying64 Tryd.underlying3 rfl) (fun _ => ?_)
  refine wl_chain0 .none (cf_insert 0 rfl rfl rfl rfl Tryd.underlying64 Tryd.underlying3 rfl) (fun _ => ?_)
  refine wl_chain0 .none (cf_insert 0 rfl rfl rfl rfl Tryd.underlying64 Tryd.underlying3 rfl) (fun _ => ?_)
  refine wl_chain0 .none (cf_insert 0 rfl rfl rfl rfl Tryd.underlying64 Tryd.underlying3 rfl) (fun _ => ?_)
  refine wl_chain0 .none (cf_insert 0 rfl rfl rfl rfl Tryd.underlying64 Tryd.underlying3 rfl) (fun _ => ?_)
  refine wl_chain0 .none (cf_insert 0 rfl rfl rfl rfl Tryd.underlying64 Tryd.underlying3 rfl) (fun _ => ?_)
  refine wl_chain0 .none (cf_insert 0 rfl rfl rfl rfl Tryd.underlying64 Tryd.underlying3 rfl) (fun _ => ?_)
  refine wl_chain0 .none (cf_insert 0 rfl rfl rfl rfl Tryd.underlying64 Tryd.underlying3 rfl) (fun _ => ?_)
  refine wl_chain0 .none (cf_insert 0 rfl rfl rfl rfl Tryd.underlying64 Tryd.underlying3 rfl) (fun _ => ?_)
  refine wl_chain0 .none (cf_insert 0 rfl rfl rfl rfl Tryd.underlying64 Tryd.underlying3 rfl) (fun _ => ?_)
  refine wl_chain0 .none (cf_insert 0 rfl rfl rfl rfl Tryd.underlying64 Tryd.underlying3 rfl) (fun _ => ?_)
  refine wl_free .none rfl (yf_move rfl) ?_
  refine wl_free .none rfl (yf_assign rfl) ?_
  refine wl_nil ?_
  refine wq_then ?_
  refine wc_ret ?_
  refine wq_ret1 rfl rfl (fun w hw => ?_)
  exact ⟨b1, trivial, rfl, hw⟩
theorem itoa_small {v : Int} (h : 0 ≤ v) : Lib.itoa v = Lib.decDigits v.toNat := by rw [Lib.itoa, if_neg (by omega)]
theorem nm_s {v : Int} (hc : (!decide (16 ≤ v ∧ v ≤ 19)) = false) : Ending.returned (.string ⟨(spL v).toArray⟩) = Ending.returned (.string ⟨(nameL v).toArray⟩) := by
  have h : v = 16 ∨ v = 17 ∨ v = 18 ∨ v = 19 := by simp at hc; omega
  rcases h with rfl | rfl | rfl | rfl
  · rw [nameL16]; rfl
  · rw [nameL17]; rfl
  · rw [nameL18]; rfl
  · rw [nameL19]; rfl
theorem nm_q {v : Int} (hc : (!decide (16 ≤ v ∧ v ≤ 19)) = true) (h1 : ¬ (0 ≤ v ∧ v < 16)) (h2 : ¬ (20 ≤ v ∧ v < 28)) : Ending.returned (.string ⟨#[63]⟩) = Ending.returned (.string ⟨(nameL v).toArray⟩) := by
  have h : ¬ (16 ≤ v ∧ v ≤ 19) := by simp at hc; omega
  rw [nameL_q h1 h2 (by omega) (by omega) (by omega) (by omega)]
set_option maxRecDepth 100000 in
theorem name_any (v : Int) (w_0 : World) : Calls Tryd.prog 41 #[.int .i64 v] w_0 fun e w' => e = .returned (.string ⟨(nameL v).toArray⟩) ∧ Ext w_0 w' := by
  have hD1 : 0 ≤ v → v < 16 → (Lib.decDigits v.toNat).length ≤ 2 := fun h1 h2 => dec_len (by omega) (by decide)
  have hD2 : 20 ≤ v → v < 28 → (Lib.decDigits (v - 20).toNat).length ≤ 2 := fun h1 h2 => dec_len (by omega) (by decide)
  refine calls_wc (args := [.int .i64 v]) Tryd.func41 rfl 36 rfl (Nat.le_of_ble_eq_true rfl) ?_
  refine wc_weak (.cons (i := 0) rfl <| .nil) ?_
  refine wc_conseq (H' := Hp (fun _ => False) w_0 [] [] (fun _ => True)) (fun u hu => ?_) ?_
  · subst hu; exact Hp.start0
  refine wc_seq ?_
  refine wc_region ?_
  refine wl_free .none rfl (yf_assign rfl) ?_
  refine wl_nil ?_
  refine wq_then ?_
  refine wc_seq ?_
  refine wc_block ?_
  refine wc_seq ?_
  refine wc_region ?_
  refine wl_free .none rfl (yf_move rfl) ?_
  refine wl_free .none rfl (yf_geq rfl rfl) ?_
  refine wl_free .none rfl (yf_move rfl) ?_
  refine wl_split 8 rfl (fun hb => ?_) (fun hb => ?_)
  · replace hb := of_decide_eq_true hb
    refine wl_free (.some rfl rfl) rfl (yf_move rfl) ?_
    refine wl_free (.some rfl rfl) rfl (yf_lss rfl rfl) ?_
    refine wl_free .none rfl (yf_pickT rfl rfl) ?_
    refine wl_free .none rfl (yf_assign rfl) ?_
    refine wl_nil ?_
    refine wq_then ?_
    refine wc_cond rfl (fun hc => ?_) (fun hc => ?_)
    · replace hc := of_decide_eq_true hc
      refine wc_seq ?_
      refine wc_weak (.cons (i := 0) rfl <| .cons (i := 2) rfl <| .cons (i := 5) rfl <| .nil) ?_
      refine wc_region ?_
      refine wl_free .none rfl (yf_move rfl) ?_
      refine wl_pure .none rfl (by kernel_rfl) rfl (fun w hw => by
        have := Tryd.strconv_Itoa_small v.toNat (by omega) w
        rw [Int.toNat_of_nonneg (by omega)] at this
        exact this.mono fun e w' ⟨h1, h2⟩ => ⟨h1, by subst h2; exact Ext.refl _⟩) ?_
      (refine wl_free .none rfl (yf_str_add rfl rfl ?_) ?_; (· (first | (simp only [List.length_append, List.length_cons, List.length_nil]; omega) | (simp <;> omega))); skip)
      refine wl_free .none rfl (yf_assign rfl) ?_
      refine wl_nil ?_
      refine wq_then ?_
      refine wc_ret ?_
      refine wq_block_ret ?_
      refine wq_then_ret ?_
      refine wq_ret1 rfl rfl (fun w hw => ?_)
      exact ⟨by first | (rw [nameL_r] <;> assumption) | (rw [nameL_t] <;> assumption) | exact nm_s hc | exact nm_q hc (by omega) (by omega), (HpG.keep hw).ext⟩
    · replace hc := of_decide_eq_false hc
      refine wc_seq ?_
      refine wc_weak (.cons (i := 0) rfl <| .cons (i := 2) rfl <| .cons (i := 5) rfl <| .nil) ?_
      refine wc_region ?_
      refine wl_free .none rfl (yf_move rfl) ?_
      refine wl_free .none rfl (yf_geq rfl rfl) ?_
      refine wl_free .none rfl (yf_move rfl) ?_
      refine wl_split 18 rfl (fun hb => ?_) (fun hb => ?_)
      · replace hb := of_decide_eq_true hb
        refine wl_free (.some rfl rfl) rfl (yf_move rfl) ?_
        refine wl_free (.some rfl rfl) rfl (yf_lss rfl rfl) ?_
        refine wl_free .none rfl (yf_pickT rfl rfl) ?_
        refine wl_free .none rfl (yf_assign rfl) ?_
        refine wl_nil ?_
        refine wq_then ?_
        refine wc_cond rfl (fun hc => ?_) (fun hc => ?_)
        · replace hc := of_decide_eq_true hc
          refine wc_seq ?_
          refine wc_weak (.cons (i := 0) rfl <| .cons (i := 2) rfl <| .cons (i := 5) rfl <| .cons (i := 15) rfl <| .nil) ?_
          refine wc_region ?_
          refine wl_free .none rfl (yf_move rfl) ?_
          (refine wl_free .none rfl (yf_sub rfl rfl (i64_in _ ?_ ?_)) ?_; (· omega); (· omega); skip)
          refine wl_pure .none rfl (by kernel_rfl) rfl (fun w hw => by
            have := Tryd.strconv_Itoa_small (v - 20).toNat (by omega) w
            rw [Int.toNat_of_nonneg (by omega)] at this
            exact this.mono fun e w' ⟨h1, h2⟩ => ⟨h1, by subst h2; exact Ext.refl _⟩) ?_
          (refine wl_free .none rfl (yf_str_add rfl rfl ?_) ?_; (· (first | (simp only [List.length_append, List.length_cons, List.length_nil]; omega) | (simp <;> omega))); skip)
          refine wl_free .none rfl (yf_assign rfl) ?_
          refine wl_nil ?_
          refine wq_then ?_
          refine wc_ret ?_
          refine wq_block_ret ?_
          refine wq_then_ret ?_
          refine wq_ret1 rfl rfl (fun w hw => ?_)
          exact ⟨by first | (rw [nameL_r] <;> assumption) | (rw [nameL_t] <;> assumption) | exact nm_s hc | exact nm_q hc (by omega) (by omega), (HpG.keep hw).ext⟩
        · replace hc := of_decide_eq_false hc
          refine wc_skip ?_
          refine wq_block ?_
          refine wq_then ?_
          refine wc_seq ?_
          refine wc_weak (.cons (i := 0) rfl <| .cons (i := 2) rfl <| .cons (i := 5) rfl <| .cons (i := 15) rfl <| .nil) ?_
          refine wc_region ?_
          refine wl_new .none rfl (nf_makeMap) (fun b27 => ?_)
          refine wl_chain0 .none (cf_insert 0 rfl rfl rfl rfl Tryd.underlying64 Tryd.underlying3 rfl) (fun _ => ?_)
          refine wl_chain0 .none (cf_insert 0 rfl rfl rfl rfl Tryd.underlying64 Tryd.underlying3 rfl) (fun _ => ?_)
          refine wl_chain0 .none (cf_insert 0 rfl rfl rfl rfl Tryd.underlying64 Tryd.underlying3 rfl) (fun _ => ?_)
          refine wl_chain0 .none (cf_insert 0 rfl rfl rfl rfl Tryd.underlying64 Tryd.underlying3 rfl) (fun _ => ?_)
          refine wl_free .none rfl (yf_move rfl) ?_
          refine wl_free .none rfl (yf_move rfl) ?_
          refine wl_free .none rfl (yf_sp (c := 4) rfl rfl (fun w h => HpG.own h _ (List.mem_cons_self ..))) ?_
          refine wl_free .none rfl (yf_move rfl) ?_
          refine wl_free .none rfl (yf_extract rfl rfl) ?_
          refine wl_free .none rfl (yf_extract rfl rfl) ?_
          refine wl_free .none rfl (yf_assign rfl) ?_
          refine wl_free .none rfl (yf_assign rfl) ?_
          refine wl_nil ?_
          refine wq_then ?_
          refine wc_seq ?_
          refine wc_seq ?_
          refine wc_weak (.cons (i := 0) rfl <| .cons (i := 2) rfl <| .cons (i := 3) rfl <| .cons (i := 4) rfl <| .cons (i := 5) rfl <| .cons (i := 15) rfl <| .nil) ?_
          refine wc_region ?_
          refine wl_free .none rfl (yf_move rfl) ?_
          refine wl_free .none rfl (yf_not rfl) ?_
          refine wl_nil ?_
          refine wq_then ?_
          refine wc_cond rfl (fun hc => ?_) (fun hc => ?_)
          · skip
            refine wc_seq ?_
            refine wc_weak (.cons (i := 0) rfl <| .cons (i := 2) rfl <| .cons (i := 3) rfl <| .cons (i := 4) rfl <| .cons (i := 5) rfl <| .cons (i := 15) rfl <| .cons (i := 34) rfl <| .nil) ?_
            refine wc_region ?_
            refine wl_free .none rfl (yf_assign rfl) ?_
            refine wl_nil ?_
            refine wq_then ?_
            refine wc_ret ?_
            refine wq_then_ret ?_
            refine wq_ret1 rfl rfl (fun w hw => ?_)
            exact ⟨by first | (rw [nameL_r] <;> assumption) | (rw [nameL_t] <;> assumption) | exact nm_s hc | exact nm_q hc (by omega) (by omega), (HpG.keep hw).ext⟩
          · skip
            refine wc_skip ?_
            refine wq_then ?_
            refine wc_seq ?_
            refine wc_weak (.cons (i := 0) rfl <| .cons (i := 2) rfl <| .cons (i := 3) rfl <| .cons (i := 4) rfl <| .cons (i := 5) rfl <| .cons (i := 15) rfl <| .cons (i := 34) rfl <| .nil) ?_
            refine wc_region ?_
            refine wl_free .none rfl (yf_move rfl) ?_
            refine wl_free .none rfl (yf_assign rfl) ?_
            refine wl_nil ?_
            refine wq_then ?_
            refine wc_ret ?_
            refine wq_ret1 rfl rfl (fun w hw => ?_)
            exact ⟨by first | (rw [nameL_r] <;> assumption) | (rw [nameL_t] <;> assumption) | exact nm_s hc | exact nm_q hc (by omega) (by omega), (HpG.keep hw).ext⟩
      · replace hb := of_decide_eq_false hb
        refine wl_pass (.some rfl rfl rfl) rfl ?_
        refine wl_pass (.some rfl rfl rfl) rfl ?_
        refine wl_free .none rfl (yf_pickF rfl rfl) ?_
        refine wl_free .none rfl (yf_assign rfl) ?_
        refine wl_nil ?_
        refine wq_then ?_
        refine wc_false rfl ?_
        refine wc_skip ?_
        refine wq_block ?_
        refine wq_then ?_
        refine wc_seq ?_
        refine wc_weak (.cons (i := 0) rfl <| .cons (i := 2) rfl <| .cons (i := 5) rfl <| .cons (i := 15) rfl <| .nil) ?_
        refine wc_region ?_
        refine wl_new .none rfl (nf_makeMap) (fun b27 => ?_)
        refine wl_chain0 .none (cf_insert 0 rfl rfl rfl rfl Tryd.underlying64 Tryd.underlying3 rfl) (fun _ => ?_)
        refine wl_chain0 .none (cf_insert 0 rfl rfl rfl rfl Tryd.underlying64 Tryd.underlying3 rfl) (fun _ => ?_)
        refine wl_chain0 .none (cf_insert 0 rfl rfl rfl rfl Tryd.underlying64 Tryd.underlying3 rfl) (fun _ => ?_)
        refine wl_chain0 .none (cf_insert 0 rfl rfl rfl rfl Tryd.underlying64 Tryd.underlying3 rfl) (fun _ => ?_)
        refine wl_free .none rfl (yf_move rfl) ?_
        refine wl_free .none rfl (yf_move rfl) ?_
        refine wl_free .none rfl (yf_sp (c := 4) rfl rfl (fun w h => HpG.own h _ (List.mem_cons_self ..))) ?_
        refine wl_free .none rfl (yf_move rfl) ?_
        refine wl_free .none rfl (yf_extract rfl rfl) ?_
        refine wl_free .none rfl (yf_extract rfl rfl) ?_
        refine wl_free .none rfl (yf_assign rfl) ?_
        refine wl_free .none rfl (yf_assign rfl) ?_
        refine wl_nil ?_
        refine wq_then ?_
        refine wc_seq ?_
        refine wc_seq ?_
        refine wc_weak (.cons (i := 0) rfl <| .cons (i := 2) rfl <| .cons (i := 3) rfl <| .cons (i := 4) rfl <| .cons (i := 5) rfl <| .cons (i := 15) rfl <| .nil) ?_
        refine wc_region ?_
        refine wl_free .none rfl (yf_move rfl) ?_
        refine wl_free .none rfl (yf_not rfl) ?_
        refine wl_nil ?_
        refine wq_then ?_
        refine wc_cond rfl (fun hc => ?_) (fun hc => ?_)
        · skip
          refine wc_seq ?_
          refine wc_weak (.cons (i := 0) rfl <| .cons (i := 2) rfl <| .cons (i := 3) rfl <| .cons (i := 4) rfl <| .cons (i := 5) rfl <| .cons (i := 15) rfl <| .cons (i := 34) rfl <| .nil) ?_
          refine wc_region ?_
          refine wl_free .none rfl (yf_assign rfl) ?_
          refine wl_nil ?_
          refine wq_then ?_
          refine wc_ret ?_
          refine wq_then_ret ?_
          refine wq_ret1 rfl rfl (fun w hw => ?_)
          exact ⟨by first | (rw [nameL_r] <;> assumption) | (rw [nameL_t] <;> assumption) | exact nm_s hc | exact nm_q hc (by omega) (by omega), (HpG.keep hw).ext⟩
        · skip
          refine wc_skip ?_
          refine wq_then ?_
          refine wc_seq ?_
          refine wc_weak (.cons (i := 0) rfl <| .cons (i := 2) rfl <| .cons (i := 3) rfl <| .cons (i := 4) rfl <| .cons (i := 5) rfl <| .cons (i := 15) rfl <| .cons (i := 34) rfl <| .nil) ?_
          refine wc_region ?_
          refine wl_free .none rfl (yf_move rfl) ?_
          refine wl_free .none rfl (yf_assign rfl) ?_
          refine wl_nil ?_
          refine wq_then ?_
          refine wc_ret ?_
          refine wq_ret1 rfl rfl (fun w hw => ?_)
          exact ⟨by first | (rw [nameL_r] <;> assumption) | (rw [nameL_t] <;> assumption) | exact nm_s hc | exact nm_q hc (by omega) (by omega), (HpG.keep hw).ext⟩
  · replace hb := of_decide_eq_false hb
    refine wl_pass (.some rfl rfl rfl) rfl ?_
    refine wl_pass (.some rfl rfl rfl) rfl ?_
    refine wl_free .none rfl (yf_pickF rfl rfl) ?_
    refine wl_free .none rfl (yf_assign rfl) ?_
    refine wl_nil ?_
    refine wq_then ?_
    refine wc_false rfl ?_
    refine wc_seq ?_
    refine wc_weak (.cons (i := 0) rfl <| .cons (i := 2) rfl <| .cons (i := 5) rfl <| .nil) ?_
    refine wc_region ?_
    refine wl_free .none rfl (yf_move rfl) ?_
    refine wl_free .none rfl (yf_geq rfl rfl) ?_
    refine wl_free .none rfl (yf_move rfl) ?_
    refine wl_split 18 rfl (fun hb => ?_) (fun hb => ?_)
    · replace hb := of_decide_eq_true hb
      refine wl_free (.some rfl rfl) rfl (yf_move rfl) ?_
      refine wl_free (.some rfl rfl) rfl (yf_lss rfl rfl) ?_
      refine wl_free .none rfl (yf_pickT rfl rfl) ?_
      refine wl_free .none rfl (yf_assign rfl) ?_
      refine wl_nil ?_
      refine wq_then ?_
      refine wc_cond rfl (fun hc => ?_) (fun hc => ?_)
      · replace hc := of_decide_eq_true hc
        refine wc_seq ?_
        refine wc_weak (.cons (i := 0) rfl <| .cons (i := 2) rfl <| .cons (i := 5) rfl <| .cons (i := 15) rfl <| .nil) ?_
        refine wc_region ?_
        refine wl_free .none rfl (yf_move rfl) ?_
        (refine wl_free .none rfl (yf_sub rfl rfl (i64_in _ ?_ ?_)) ?_; (· omega); (· omega); skip)
        refine wl_pure .none rfl (by kernel_rfl) rfl (fun w hw => by
          have := Tryd.strconv_Itoa_small (v - 20).toNat (by omega) w
          rw [Int.toNat_of_nonneg (by omega)] at this
          exact this.mono fun e w' ⟨h1, h2⟩ => ⟨h1, by subst h2; exact Ext.refl _⟩) ?_
        (refine wl_free .none rfl (yf_str_add rfl rfl ?_) ?_; (· (first | (simp only [List.length_append, List.length_cons, List.length_nil]; omega) | (simp <;> omega))); skip)
        refine wl_free .none rfl (yf_assign rfl) ?_
        refine wl_nil ?_
        refine wq_then ?_
        refine wc_ret ?_
        refine wq_block_ret ?_
        refine wq_then_ret ?_
        refine wq_ret1 rfl rfl (fun w hw => ?_)
        exact ⟨by first | (rw [nameL_r] <;> assumption) | (rw [nameL_t] <;> assumption) | exact nm_s hc | exact nm_q hc (by omega) (by omega), (HpG.keep hw).ext⟩
      · replace hc := of_decide_eq_false hc
        refine wc_skip ?_
        refine wq_block ?_
        refine wq_then ?_
        refine wc_seq ?_
        refine wc_weak (.cons (i := 0) rfl <| .cons (i := 2) rfl <| .cons (i := 5) rfl <| .cons (i := 15) rfl <| .nil) ?_
        refine wc_region ?_
        refine wl_new .none rfl (nf_makeMap) (fun b27 => ?_)
        refine wl_chain0 .none (cf_insert 0 rfl rfl rfl rfl Tryd.underlying64 Tryd.underlying3 rfl) (fun _ => ?_)
        refine wl_chain0 .none (cf_insert 0 rfl rfl rfl rfl Tryd.underlying64 Tryd.underlying3 rfl) (fun _ => ?_)
        refine wl_chain0 .none (cf_insert 0 rfl rfl rfl rfl Tryd.underlying64 Tryd.underlying3 rfl) (fun _ => ?_)
        refine wl_chain0 .none (cf_insert 0 rfl rfl rfl rfl Tryd.underlying64 Tryd.underlying3 rfl) (fun _ => ?_)
        refine wl_free .none rfl (yf_move rfl) ?_
        refine wl_free .none rfl (yf_move rfl) ?_
        refine wl_free .none rfl (yf_sp (c := 4) rfl rfl (fun w h => HpG.own h _ (List.mem_cons_self ..))) ?_
        refine wl_free .none rfl (yf_move rfl) ?_
        refine wl_free .none rfl (yf_extract rfl rfl) ?_
        refine wl_free .none rfl (yf_extract rfl rfl) ?_
        refine wl_free .none rfl (yf_assign rfl) ?_
        refine wl_free .none rfl (yf_assign rfl) ?_
        refine wl_nil ?_
        refine wq_then ?_
        refine wc_seq ?_
        refine wc_seq ?_
        refine wc_weak (.cons (i := 0) rfl <| .cons (i := 2) rfl <| .cons (i := 3) rfl <| .cons (i := 4) rfl <| .cons (i := 5) rfl <| .cons (i := 15) rfl <| .nil) ?_
        refine wc_region ?_
        refine wl_free .none rfl (yf_move rfl) ?_
        refine wl_free .none rfl (yf_not rfl) ?_
        refine wl_nil ?_
        refine wq_then ?_
        refine wc_cond rfl (fun hc => ?_) (fun hc => ?_)
        · skip
          refine wc_seq ?_
          refine wc_weak (.cons (i := 0) rfl <| .cons (i := 2) rfl <| .cons (i := 3) rfl <| .cons (i := 4) rfl <| .cons (i := 5) rfl <| .cons (i := 15) rfl <| .cons (i := 34) rfl <| .nil) ?_
          refine wc_region ?_
          refine wl_free .none rfl (yf_assign rfl) ?_
          refine wl_nil ?_
          refine wq_then ?_
          refine wc_ret ?_
          refine wq_then_ret ?_
          refine wq_ret1 rfl rfl (fun w hw => ?_)
          exact ⟨by first | (rw [nameL_r] <;> assumption) | (rw [nameL_t] <;> assumption) | exact nm_s hc | exact nm_q hc (by omega) (by omega), (HpG.keep hw).ext⟩
        · skip
          refine wc_skip ?_
          refine wq_then ?_
          refine wc_seq ?_
          refine wc_weak (.cons (i := 0) rfl <| .cons (i := 2) rfl <| .cons (i := 3) rfl <| .cons (i := 4) rfl <| .cons (i := 5) rfl <| .cons (i := 15) rfl <| .cons (i := 34) rfl <| .nil) ?_
          refine wc_region ?_
          refine wl_free .none rfl (yf_move rfl) ?_
          refine wl_free .none rfl (yf_assign rfl) ?_
          refine wl_nil ?_
          refine wq_then ?_
          refine wc_ret ?_
          refine wq_ret1 rfl rfl (fun w hw => ?_)
          exact ⟨by first | (rw [nameL_r] <;> assumption) | (rw [nameL_t] <;> assumption) | exact nm_s hc | exact nm_q hc (by omega) (by omega), (HpG.keep hw).ext⟩
    · replace hb := of_decide_eq_false hb
      refine wl_pass (.some rfl rfl rfl) rfl ?_
      refine wl_pass (.some rfl rfl rfl) rfl ?_
      refine wl_free .none rfl (yf_pickF rfl rfl) ?_
      refine wl_free .none rfl (yf_assign rfl) ?_
      refine wl_nil ?_
      refine wq_then ?_
      refine wc_false rfl ?_
      refine wc_skip ?_
      refine wq_block ?_
      refine wq_then ?_
      refine wc_seq ?_
      refine wc_weak (.cons (i := 0) rfl <| .cons (i := 2) rfl <| .cons (i := 5) rfl <| .cons (i := 15) rfl <| .nil) ?_
      refine wc_region ?_
      refine wl_new .none rfl (nf_makeMap) (fun b27 => ?_)
      refine wl_chain0 .none (cf_insert 0 rfl rfl rfl rfl Tryd.underlying64 Tryd.underlying3 rfl) (fun _ => ?_)
      refine wl_chain0 .none (cf_insert 0 rfl rfl rfl rfl Tryd.underlying64 Tryd.underlying3 rfl) (fun _ => ?_)
      refine wl_chain0 .none (cf_insert 0 rfl rfl rfl rfl Tryd.underlying64 Tryd.underlying3 rfl) (fun _ => ?_)
      refine wl_chain0 .none (cf_insert 0 rfl rfl rfl rfl Tryd.underlying64 Tryd.underlying3 rfl) (fun _ => ?_)
      refine wl_free .none rfl (yf_move rfl) ?_
      refine wl_free .none rfl (yf_move rfl) ?_
      refine wl_free .none rfl (yf_sp (c := 4) rfl rfl (fun w h => HpG.own h _ (List.mem_cons_self ..))) ?_
      refine wl_free .none rfl (yf_move rfl) ?_
      refine wl_free .none rfl (yf_extract rfl rfl) ?_
      refine wl_free .none rfl (yf_extract rfl rfl) ?_
      refine wl_free .none rfl (yf_assign rfl) ?_
      refine wl_free .none rfl (yf_assign rfl) ?_
      refine wl_nil ?_
      refine wq_then ?_
      refine wc_seq ?_
      refine wc_seq ?_
      refine wc_weak (.cons (i := 0) rfl <| .cons (i := 2) rfl <| .cons (i := 3) rfl <| .cons (i := 4) rfl <| .cons (i := 5) rfl <| .cons (i := 15) rfl <| .nil) ?_
      refine wc_region ?_
      refine wl_free .none rfl (yf_move rfl) ?_
      refine wl_free .none rfl (yf_not rfl) ?_
      refine wl_nil ?_
      refine wq_then ?_
      refine wc_cond rfl (fun hc => ?_) (fun hc => ?_)
      · skip
        refine wc_seq ?_
        refine wc_weak (.cons (i := 0) rfl <| .cons (i := 2) rfl <| .cons (i := 3) rfl <| .cons (i := 4) rfl <| .cons (i := 5) rfl <| .cons (i := 15) rfl <| .cons (i := 34) rfl <| .nil) ?_
        refine wc_region ?_
        refine wl_free .none rfl (yf_assign rfl) ?_
        refine wl_nil ?_
        refine wq_then ?_
        refine wc_ret ?_
        refine wq_then_ret ?_
        refine wq_ret1 rfl rfl (fun w hw => ?_)
        exact ⟨by first | (rw [nameL_r] <;> assumption) | (rw [nameL_t] <;> assumption) | exact nm_s hc | exact nm_q hc (by omega) (by omega), (HpG.keep hw).ext⟩
      · skip
        refine wc_skip ?_
        refine wq_then ?_
        refine wc_seq ?_
        refine wc_weak (.cons (i := 0) rfl <| .cons (i := 2) rfl <| .cons (i := 3) rfl <| .cons (i := 4) rfl <| .cons (i := 5) rfl <| .cons (i := 15) rfl <| .cons (i := 34) rfl <| .nil) ?_
        refine wc_region ?_
        refine wl_free .none rfl (yf_move rfl) ?_
        refine wl_free .none rfl (yf_assign rfl) ?_
        refine wl_nil ?_
        refine wq_then ?_
        refine wc_ret ?_
        refine wq_ret1 rfl rfl (fun w hw => ?_)
        exact ⟨by first | (rw [nameL_r] <;> assumption) | (rw [nameL_t] <;> assumption) | exact nm_s hc | exact nm_q hc (by omega) (by omega), (HpG.keep hw).ext⟩
end Go.Proofs.YtojofinofpgopaaDoor
/- cell, line of ir. -/
namespace Go.Proofs.YtojofinofpgopaaDoor
open Go.RowKit
theorem size4 (c : Int) (w : World) : Calls Tryd.prog 29 #[.int .i64 c] w fun e w' => e = .returned (.int .i64 (if c = 16 ∨ c = 18 then 4 else 1)) ∧ Ext w w' :=
  (size_any c w).mono fun e w' ⟨h1, h2⟩ => ⟨by rw [h1, sizeL]; split <;> split <;> simp_all, by subst h2; exact Ext.refl _⟩
set_option maxRecDepth 100000 in
theorem cell_any (o : IOp) (l : List UInt8) (hl : l.length ≤ 10) (hn : Lib.decDigits o.n.toNat = l) (w_0 : World) : Calls Tryd.prog 42 #[.agg o.v, .string ⟨l.toArray⟩] w_0 fun e w' => e = .returned (.string ⟨(cellL o.code o.a o.n).toArray⟩) ∧ Ext w_0 w' := by
  have hD1 := nameL_len o.a
  refine calls_wc (args := [.agg o.v, .string ⟨l.toArray⟩]) Tryd.func42 rfl 20 rfl (Nat.le_of_ble_eq_true rfl) ?_
  refine wc_weak (.cons (i := 0) rfl <| .cons (i := 1) rfl <| .nil) ?_
  refine wc_conseq (H' := Hp (fun _ => False) w_0 [] [] (fun _ => True)) (fun u hu => ?_) ?_
  · subst hu; exact Hp.start0
  refine wc_seq ?_
  refine wc_region ?_
  refine wl_new .none rfl (nf_box rfl rfl) (fun b2 => ?_)
  refine wl_free .none rfl (yf_assign rfl) ?_
  refine wl_nil ?_
  refine wq_then ?_
  refine wc_seq ?_
  refine wc_region ?_
  refine wl_free .none rfl (yf_assign rfl) ?_
  refine wl_nil ?_
  refine wq_then ?_
  refine wc_seq ?_
  refine wc_seq ?_
  refine wc_region ?_
  refine wl_free .none rfl (yf_fieldAddr (off := 0) (sz := 0) rfl Tryd.underlying53 (by kernel_rfl) rfl) ?_
  refine wl_free .none rfl (yf_loadL 0 rfl rfl rfl Tryd.underlying3 rfl) ?_
  refine wl_pure .none rfl (by kernel_rfl) rfl (fun w hw => size4 o.code w) ?_
  refine wl_free .none rfl (yf_eql rfl rfl) ?_
  refine wl_nil ?_
  refine wq_then ?_
  refine wc_cond rfl (fun hc => ?_) (fun hc => ?_)
  · replace hc := eq_of_beq hc
    refine wc_weak (.cons (i := 0) rfl <| .cons (i := 1) rfl <| .cons (i := 2) rfl <| .cons (i := 4) rfl <| .cons (i := 5) rfl <| .cons (i := 9) rfl <| .nil) ?_
    refine wc_region ?_
    refine wl_free .none rfl (yf_assign rfl) ?_
    refine wl_nil ?_
    refine wq_then ?_
    refine wc_seq ?_
    refine wc_region ?_
    refine wl_free .none rfl (yf_move rfl) ?_
    (refine wl_free .none rfl (yf_str_add rfl rfl ?_) ?_; (· (first | (simp only [List.length_append, List.length_cons, List.length_nil]; omega) | (simp <;> omega))); skip)
    refine wl_free .none rfl (yf_fieldAddr (off := 2) (sz := 0) rfl Tryd.underlying53 (by kernel_rfl) rfl) ?_
    refine wl_free .none rfl (yf_loadL 0 rfl rfl rfl Tryd.underlying3 rfl) ?_
    refine wl_pure .none rfl (by kernel_rfl) rfl (fun w hw => name_any o.a w) ?_
    (refine wl_free .none rfl (yf_str_add rfl rfl ?_) ?_; (· (first | (simp only [List.length_append, List.length_cons, List.length_nil]; omega) | (simp <;> omega))); skip)
    (refine wl_free .none rfl (yf_str_add rfl rfl ?_) ?_; (· (first | (simp only [List.length_append, List.length_cons, List.length_nil]; omega) | (simp <;> omega))); skip)
    refine wl_free .none rfl (yf_move rfl) ?_
    (refine wl_free .none rfl (yf_str_add rfl rfl ?_) ?_; (· (first | (simp only [List.length_append, List.length_cons, List.length_nil]; omega) | (simp <;> omega))); skip)
    (refine wl_free .none rfl (yf_str_add rfl rfl ?_) ?_; (· (first | (simp only [List.length_append, List.length_cons, List.length_nil]; omega) | (simp <;> omega))); skip)
    refine wl_free .none rfl (yf_assign rfl) ?_
    refine wl_nil ?_
    refine wq_then ?_
    refine wc_ret ?_
    refine wq_ret1 rfl rfl (fun w hw => ?_)
    exact ⟨by rw [cellL, if_pos (by revert hc; split <;> simp_all), hn], (HpG.keep hw).ext⟩
  · replace hc := beq_no hc
    refine wc_skip ?_
    refine wq_then ?_
    refine wc_seq ?_
    refine wc_weak (.cons (i := 0) rfl <| .cons (i := 1) rfl <| .cons (i := 2) rfl <| .cons (i := 4) rfl <| .cons (i := 5) rfl <| .cons (i := 9) rfl <| .nil) ?_
    refine wc_region ?_
    refine wl_free .none rfl (yf_move rfl) ?_
    (refine wl_free .none rfl (yf_str_add rfl rfl ?_) ?_; (· (first | (simp only [List.length_append, List.length_cons, List.length_nil]; omega) | (simp <;> omega))); skip)
    refine wl_free .none rfl (yf_fieldAddr (off := 2) (sz := 0) rfl Tryd.underlying53 (by kernel_rfl) rfl) ?_
    refine wl_free .none rfl (yf_loadL 0 rfl rfl rfl Tryd.underlying3 rfl) ?_
    refine wl_pure .none rfl (by kernel_rfl) rfl (fun w hw => name_any o.a w) ?_
    (refine wl_free .none rfl (yf_str_add rfl rfl ?_) ?_; (· (first | (simp only [List.length_append, List.length_cons, List.length_nil]; omega) | (simp <;> omega))); skip)
    (refine wl_free .none rfl (yf_str_add rfl rfl ?_) ?_; (· (first | (simp only [List.length_append, List.length_cons, List.length_nil]; omega) | (simp <;> omega))); skip)
    refine wl_free .none rfl (yf_move rfl) ?_
    (refine wl_free .none rfl (yf_str_add rfl rfl ?_) ?_; (· (first | (simp only [List.length_append, List.length_cons, List.length_nil]; omega) | (simp <;> omega))); skip)
    (refine wl_free .none rfl (yf_str_add rfl rfl ?_) ?_; (· (first | (simp only [List.length_append, List.length_cons, List.length_nil]; omega) | (simp <;> omega))); skip)
    refine wl_free .none rfl (yf_assign rfl) ?_
    refine wl_nil ?_
    refine wq_then ?_
    refine wc_ret ?_
    refine wq_ret1 rfl rfl (fun w hw => ?_)
    exact ⟨by rw [cellL, if_neg (by revert hc; split <;> simp_all), hn], (HpG.keep hw).ext⟩
def lkS (c : Int) : List UInt8 := if 3 ≤ c ∧ c ≤ 15 then symL.getD (c - 3).toNat [] else []
theorem yf_symD {n : Nat} {m : List (Nat × Value)} {ty : TypeId} {H : World → Prop} {x y : Operand} {g c : Nat} {key : Int} (hx : ev m x = some (.map (some g))) (hy : ev m y = some (.int .i64 key)) (hr : ∀ w, H w → w.heap[g]? = some (.map symEs c)) : YF Tryd.prog (.lookup 64 x y true) ty n m H (.tuple #[.string ⟨(lkS key).toArray⟩, .bool (decide (3 ≤ key ∧ key ≤ 15))]) := by
  by_cases h : 3 ≤ key ∧ key ≤ 15
  · rw [lkS, if_pos h, decide_eq_true h]; exact yf_sym hx hy hr h
  · rw [lkS, if_neg h, decide_eq_false h]; exact yf_symNo hx hy hr (by omega)
theorem RdIn.ext {Bad : Nat → Prop} {A : Option Addr} {xs : List Value} {w w' : World} (h : RdIn Bad A xs w) (hx : Ext w w') : Rd A xs w' := fun h0 => by
  obtain ⟨b, off, e, hb, _, hc⟩ := h h0
  exact ⟨b, off, e, fun i hi => by rw [Below.cell hx (p := ⟨b, off + i, none⟩) hb]; exact hc i hi⟩
set_option maxRecDepth 100000 in
set_option maxHeartbeats 4000000 in
theorem line_any {Bad : Nat → Prop} (o : IOp) (t : List Int) (A : Option Addr) (cap g : Nat) (hn : U32 o.n) (ht : ∀ v ∈ t, U32 v) (hlt : t.length ≤ 200000) (w_0 : World) (h : RdIn Bad A (u32s t) w_0) (hm : w_0.heap[g]? = some (.map symEs 13)) (hT : Tb w_0) : Calls Tryd.prog 22 #[.agg o.v, .slice A t.length cap, .map (some g)] w_0 fun e w' => e = .returned (.string ⟨(lineL o t).toArray⟩) ∧ Ext w_0 w' := by
  have hD1 := nameL_len o.a
  have hD2 := nameL_len o.b
  have hD3 := nameL_len o.d
  have hn0 := hn.1
  have hn1 := hn.2
  obtain ⟨N, hN⟩ : ∃ N : Nat, o.n = (N : Int) := ⟨o.n.toNat, (Int.toNat_of_nonneg hn0).symm⟩
  have hNt : o.n.toNat = N := by omega
  have hD4 : (Lib.decDigits o.n.toNat).length ≤ 10 := dec_len (by omega) (by decide)
  have hD5 := cellL_len o.code o.a o.n (by omega)
  have hD6 := symL_len (o.code - 3).toNat
  have hmx : ∀ w, Ext w_0 w → w.heap[g]? = some (.map symEs 13) := fun w hx => by
    rw [Below.block hx g (Array.getElem?_eq_some_iff.1 hm).1]; exact hm
  obtain ⟨dl, hdl⟩ : ∃ dl, Lib.decDigits o.n.toNat = dl := ⟨_, rfl⟩
  rw [hdl] at hD4
  refine calls_wc (args := [.agg o.v, .slice A t.length cap, .map (some g)]) Tryd.func22 rfl 115 rfl (Nat.le_of_ble_eq_true rfl) ?_
  refine wc_weak (.cons (i := 0) rfl <| .cons (i := 1) rfl <| .cons (i := 2) rfl <| .nil) ?_
  refine wc_conseq (H' := Hp (fun _ => False) w_0 [] [] (fun _ => True)) (fun u hu => ?_) ?_
  · subst hu; exact Hp.start0
  refine wc_seq ?_
  refine wc_region ?_
  refine wl_new .none rfl (nf_box rfl rfl) (fun b3 => ?_)
  refine wl_free .none rfl (yf_assign rfl) ?_
  refine wl_nil ?_
  refine wq_then ?_
  refine wc_seq ?_
  refine wc_region ?_
  refine wl_free .none rfl (yf_fieldAddr (off := 4) (sz := 0) rfl Tryd.underlying53 (by kernel_rfl) rfl) ?_
  refine wl_free .none rfl (yf_loadL 0 rfl rfl rfl Tryd.underlying35 rfl) ?_
  (refine wl_free .none rfl (yf_conv rfl (by kernel_rfl) Tryd.underlying89 (u64_in _ ?_ ?_)) ?_; (· omega); (· omega); skip)
  refine wl_pure (v := .string ⟨dl.toArray⟩) .none rfl (by kernel_rfl) rfl (fun w hw => by
    have := sfu_any N 10 (Lib.decDigits N) w (fun w' hx => fu10_any N (by omega) w' (hT.ext ((HpG.keep hw).ext.trans hx)))
    rw [← hN] at this
    rw [← hdl, hNt]
    exact this) ?_
  refine wl_free .none rfl (yf_assign rfl) ?_
  refine wl_nil ?_
  refine wq_then ?_
  refine wc_seq ?_
  refine wc_weak (.cons (i := 0) rfl <| .cons (i := 1) rfl <| .cons (i := 2) rfl <| .cons (i := 3) rfl <| .cons (i := 6) rfl <| .cons (i := 7) rfl <| .nil) ?_
  refine wc_drawN [0, 1, 2, 3, 4, 5, 6, 7, 8, 9, 10, 11, 12] _ (by kernel_rfl) (by kernel_rfl) HpG.stab (fun _ h => h) (fun n0 hn0 => ?_)
  refine wd_at rfl ?_
  (refine wd_free ?_ .none rfl (yf_fieldAddr (off := 1) (sz := 0) rfl Tryd.underlying53 (by kernel_rfl) rfl) ?_; (· rfl);  skip)
  refine wd_at rfl ?_
  (refine wd_free ?_ .none rfl (yf_loadL 0 rfl rfl rfl Tryd.underlying3 rfl) ?_; (· rfl);  skip)
  refine wd_at rfl ?_
  refine wd_pure .none rfl (by kernel_rfl) rfl (fun _ _ hj hx => HpG.onE hj hx) (fun w hw => name_any o.d w) ?_
  refine wd_at rfl ?_
  (refine wd_free ?_ .none rfl (yf_str_add rfl rfl ?_) ?_; (· rfl); (· (first | (simp only [List.length_append, List.length_cons, List.length_nil]; omega) | (simp <;> omega))); skip)
  refine wd_at rfl ?_
  (refine wd_free ?_ .none rfl (yf_fieldAddr (off := 2) (sz := 0) rfl Tryd.underlying53 (by kernel_rfl) rfl) ?_; (· rfl);  skip)
  refine wd_at rfl ?_
  (refine wd_free ?_ .none rfl (yf_loadL 0 rfl rfl rfl Tryd.underlying3 rfl) ?_; (· rfl);  skip)
  refine wd_at rfl ?_
  refine wd_pure .none rfl (by kernel_rfl) rfl (fun _ _ hj hx => HpG.onE hj hx) (fun w hw => name_any o.a w) ?_
  refine wd_at rfl ?_
  (refine wd_free ?_ .none rfl (yf_fieldAddr (off := 3) (sz := 0) rfl Tryd.underlying53 (by kernel_rfl) rfl) ?_; (· rfl);  skip)
  refine wd_at rfl ?_
  (refine wd_free ?_ .none rfl (yf_loadL 0 rfl rfl rfl Tryd.underlying3 rfl) ?_; (· rfl);  skip)
  refine wd_at rfl ?_
  refine wd_pure .none rfl (by kernel_rfl) rfl (fun _ _ hj hx => HpG.onE hj hx) (fun w hw => name_any o.b w) ?_
  refine wd_at rfl ?_
  (refine wd_free ?_ .none rfl (yf_assign rfl) ?_; (· rfl);  skip)
  refine wd_at rfl ?_
  (refine wd_free ?_ .none rfl (yf_assign rfl) ?_; (· rfl);  skip)
  refine wd_at rfl ?_
  (refine wd_free ?_ .none rfl (yf_assign rfl) ?_; (· rfl);  skip)
  refine wd_endH ?_
  refine wq_then ?_
  refine wc_seq ?_
  refine wc_seq ?_
  refine wc_weak (.cons (i := 0) rfl <| .cons (i := 1) rfl <| .cons (i := 2) rfl <| .cons (i := 3) rfl <| .cons (i := 6) rfl <| .cons (i := 7) rfl <| .cons (i := 8) rfl <| .cons (i := 9) rfl <| .cons (i := 10) rfl <| .nil) ?_
  refine wc_region ?_
  refine wl_free .none rfl (yf_fieldAddr (off := 0) (sz := 0) rfl Tryd.underlying53 (by kernel_rfl) rfl) ?_
  refine wl_free .none rfl (yf_loadL 0 rfl rfl rfl Tryd.underlying3 rfl) ?_
  refine wl_nil ?_
  refine wq_then ?_
  refine wc_block ?_
  refine wc_seq ?_
  refine wc_weak (.cons (i := 0) rfl <| .cons (i := 1) rfl <| .cons (i := 2) rfl <| .cons (i := 3) rfl <| .cons (i := 6) rfl <| .cons (i := 7) rfl <| .cons (i := 8) rfl <| .cons (i := 9) rfl <| .cons (i := 10) rfl <| .cons (i := 28) rfl <| .nil) ?_
  refine wc_region ?_
  refine wl_free .none rfl (yf_eql rfl rfl) ?_
  refine wl_free .none rfl (yf_assign rfl) ?_
  refine wl_nil ?_
  refine wq_then ?_
  refine wc_cond rfl (fun hc => ?_) (fun hc => ?_)
  · replace hc := eq_of_beq hc
    refine wc_seq ?_
    refine wc_weak (.cons (i := 0) rfl <| .cons (i := 1) rfl <| .cons (i := 2) rfl <| .cons (i := 3) rfl <| .cons (i := 6) rfl <| .cons (i := 7) rfl <| .cons (i := 8) rfl <| .cons (i := 9) rfl <| .cons (i := 10) rfl <| .cons (i := 28) rfl <| .cons (i := 29) rfl <| .nil) ?_
    refine wc_region ?_
    refine wl_free .none rfl (yf_move rfl) ?_
    refine wl_free .none rfl (yf_move rfl) ?_
    (refine wl_free .none rfl (yf_str_add rfl rfl ?_) ?_; (· (first | (simp only [List.length_append, List.length_cons, List.length_nil]; omega) | (simp <;> omega))); skip)
    refine wl_free .none rfl (yf_assign rfl) ?_
    refine wl_nil ?_
    refine wq_then ?_
    refine wc_ret ?_
    refine wq_block_ret ?_
    refine wq_then_ret ?_
    refine wq_ret1 rfl rfl (fun w hw => ?_)
    exact ⟨by rw [lineL1 hc, hdl], (HpG.keep hw).ext⟩
  · replace hc := beq_no hc
    refine wc_seq ?_
    refine wc_weak (.cons (i := 0) rfl <| .cons (i := 1) rfl <| .cons (i := 2) rfl <| .cons (i := 3) rfl <| .cons (i := 6) rfl <| .cons (i := 7) rfl <| .cons (i := 8) rfl <| .cons (i := 9) rfl <| .cons (i := 10) rfl <| .cons (i := 28) rfl <| .cons (i := 29) rfl <| .nil) ?_
    refine wc_region ?_
    refine wl_free .none rfl (yf_eql rfl rfl) ?_
    refine wl_free .none rfl (yf_assign rfl) ?_
    refine wl_nil ?_
    refine wq_then ?_
    refine wc_cond rfl (fun hc => ?_) (fun hc => ?_)
    · replace hc := eq_of_beq hc
      refine wc_seq ?_
      refine wc_weak (.cons (i := 0) rfl <| .cons (i := 1) rfl <| .cons (i := 2) rfl <| .cons (i := 3) rfl <| .cons (i := 6) rfl <| .cons (i := 7) rfl <| .cons (i := 8) rfl <| .cons (i := 9) rfl <| .cons (i := 10) rfl <| .cons (i := 28) rfl <| .cons (i := 29) rfl <| .cons (i := 34) rfl <| .nil) ?_
      refine wc_region ?_
      refine wl_free .none rfl (yf_move rfl) ?_
      refine wl_free .none rfl (yf_move rfl) ?_
      (refine wl_free .none rfl (yf_str_add rfl rfl ?_) ?_; (· (first | (simp only [List.length_append, List.length_cons, List.length_nil]; omega) | (simp <;> omega))); skip)
      refine wl_free .none rfl (yf_assign rfl) ?_
      refine wl_nil ?_
      refine wq_then ?_
      refine wc_ret ?_
      refine wq_block_ret ?_
      refine wq_then_ret ?_
      refine wq_ret1 rfl rfl (fun w hw => ?_)
      exact ⟨by rw [lineL2 hc], (HpG.keep hw).ext⟩
    · replace hc := beq_no hc
      refine wc_cut (ι := {x : Bool // x = true ↔ o.code = 16 ∨ o.code = 17}) (fun x => [(1, .slice A t.length cap), (2, .map (some g)), (3, ptrV b3), (7, .string ⟨dl.toArray⟩), (8, .string ⟨(nameL o.d ++ [32, 61, 32]).toArray⟩), (9, .string ⟨(nameL o.a).toArray⟩), (10, .string ⟨(nameL o.b).toArray⟩), (28, .int .i64 o.code), (39, .bool x.1)]) (fun _ => Hp (fun _ => False) w_0 [(b3, bk 53 (opC o))] [] (fun _ => True)) ?_ (fun x => ?_)
      · skip
        refine wc_seq ?_
        refine wc_weak (.cons (i := 0) rfl <| .cons (i := 1) rfl <| .cons (i := 2) rfl <| .cons (i := 3) rfl <| .cons (i := 6) rfl <| .cons (i := 7) rfl <| .cons (i := 8) rfl <| .cons (i := 9) rfl <| .cons (i := 10) rfl <| .cons (i := 28) rfl <| .cons (i := 29) rfl <| .cons (i := 34) rfl <| .nil) ?_
        refine wc_region ?_
        refine wl_free .none rfl (yf_eql rfl rfl) ?_
        refine wl_free .none rfl (yf_assign rfl) ?_
        refine wl_nil ?_
        refine wq_then ?_
        refine wc_cond rfl (fun hc => ?_) (fun hc => ?_)
        · replace hc := eq_of_beq hc
          first | have hcc := hx.1 hc | skip
          refine wc_skip ?_
          refine wq_meet (ι := {x : Bool // x = true ↔ o.code = 16 ∨ o.code = 17}) ⟨(o.code == 16), by simp [hc]⟩ ?_ (fun w h => h)
          · (repeat (refine .cons rfl ?_)); exact .nil
        · replace hc := beq_no hc
          first | have hcc : ¬ (o.code = 16 ∨ o.code = 17) := (fun h => by rw [hx.2 h] at hc; cases hc) | skip
          refine wc_weak (.cons (i := 0) rfl <| .cons (i := 1) rfl <| .cons (i := 2) rfl <| .cons (i := 3) rfl <| .cons (i := 6) rfl <| .cons (i := 7) rfl <| .cons (i := 8) rfl <| .cons (i := 9) rfl <| .cons (i := 10) rfl <| .cons (i := 28) rfl <| .cons (i := 29) rfl <| .cons (i := 34) rfl <| .cons (i := 39) rfl <| .nil) ?_
          refine wc_region ?_
          refine wl_free .none rfl (yf_eql rfl rfl) ?_
          refine wl_free .none rfl (yf_assign rfl) ?_
          refine wl_nil ?_
          refine wq_meet (ι := {x : Bool // x = true ↔ o.code = 16 ∨ o.code = 17}) ⟨(o.code == 17), by simp; omega⟩ ?_ (fun w h => h)
          · (repeat (refine .cons rfl ?_)); exact .nil
      · obtain ⟨x, hx⟩ := x
        dsimp only
        refine wc_cond rfl (fun hc => ?_) (fun hc => ?_)
        · skip
          first | have hcc := hx.1 hc | skip
          refine wc_seq ?_
          refine wc_region ?_
          refine wl_free .none rfl (yf_move rfl) ?_
          refine wl_free .none rfl (yf_loadAllL 0 rfl rfl Tryd.underlying53 rfl (by kernel_rfl)) ?_
          refine wl_free .none rfl (yf_move rfl) ?_
          refine wl_pure .none rfl (by kernel_rfl) rfl (fun w hw => cell_any o dl hD4 hdl w) ?_
          (refine wl_free .none rfl (yf_str_add rfl rfl ?_) ?_; (· (first | (simp only [List.length_append, List.length_cons, List.length_nil]; omega) | (simp <;> omega))); skip)
          refine wl_free .none rfl (yf_assign rfl) ?_
          refine wl_nil ?_
          refine wq_then ?_
          refine wc_ret ?_
          refine wq_block_ret ?_
          refine wq_then_ret ?_
          refine wq_ret1 rfl rfl (fun w hw => ?_)
          exact ⟨by rw [lineLl hcc], (HpG.keep hw).ext⟩
        · skip
          first | have hcc : ¬ (o.code = 16 ∨ o.code = 17) := (fun h => by rw [hx.2 h] at hc; cases hc) | skip
          refine wc_cut (ι := {x : Bool // x = true ↔ o.code = 18 ∨ o.code = 19}) (fun x => [(1, .slice A t.length cap), (2, .map (some g)), (3, ptrV b3), (7, .string ⟨dl.toArray⟩), (8, .string ⟨(nameL o.d ++ [32, 61, 32]).toArray⟩), (9, .string ⟨(nameL o.a).toArray⟩), (10, .string ⟨(nameL o.b).toArray⟩), (28, .int .i64 o.code), (47, .bool x.1)]) (fun _ => Hp (fun _ => False) w_0 [(b3, bk 53 (opC o))] [] (fun _ => True)) ?_ (fun x => ?_)
          · skip
            refine wc_seq ?_
            refine wc_region ?_
            refine wl_free .none rfl (yf_eql rfl rfl) ?_
            refine wl_free .none rfl (yf_assign rfl) ?_
            refine wl_nil ?_
            refine wq_then ?_
            refine wc_cond rfl (fun hc => ?_) (fun hc => ?_)
            · replace hc := eq_of_beq hc
              first | have hcd := hx.1 hc | skip
              refine wc_skip ?_
              refine wq_meet (ι := {x : Bool // x = true ↔ o.code = 18 ∨ o.code = 19}) ⟨(o.code == 18), by simp [hc]⟩ ?_ (fun w h => h)
              · (repeat (refine .cons rfl ?_)); exact .nil
            · replace hc := beq_no hc
              first | have hcd : ¬ (o.code = 18 ∨ o.code = 19) := (fun h => by rw [hx.2 h] at hc; cases hc) | skip
              refine wc_weak (.cons (i := 1) rfl <| .cons (i := 2) rfl <| .cons (i := 3) rfl <| .cons (i := 7) rfl <| .cons (i := 8) rfl <| .cons (i := 9) rfl <| .cons (i := 10) rfl <| .cons (i := 28) rfl <| .cons (i := 39) rfl <| .cons (i := 47) rfl <| .nil) ?_
              refine wc_region ?_
              refine wl_free .none rfl (yf_eql rfl rfl) ?_
              refine wl_free .none rfl (yf_assign rfl) ?_
              refine wl_nil ?_
              refine wq_meet (ι := {x : Bool // x = true ↔ o.code = 18 ∨ o.code = 19}) ⟨(o.code == 19), by simp; omega⟩ ?_ (fun w h => h)
              · (repeat (refine .cons rfl ?_)); exact .nil
          · obtain ⟨x, hx⟩ := x
            dsimp only
            refine wc_cond rfl (fun hc => ?_) (fun hc => ?_)
            · skip
              first | have hcd := hx.1 hc | skip
              refine wc_seq ?_
              refine wc_region ?_
              refine wl_free .none rfl (yf_loadAllL 0 rfl rfl Tryd.underlying53 rfl (by kernel_rfl)) ?_
              refine wl_free .none rfl (yf_move rfl) ?_
              refine wl_pure .none rfl (by kernel_rfl) rfl (fun w hw => cell_any o dl hD4 hdl w) ?_
              (refine wl_free .none rfl (yf_str_add rfl rfl ?_) ?_; (· (first | (simp only [List.length_append, List.length_cons, List.length_nil]; omega) | (simp <;> omega))); skip)
              refine wl_free .none rfl (yf_move rfl) ?_
              (refine wl_free .none rfl (yf_str_add rfl rfl ?_) ?_; (· (first | (simp only [List.length_append, List.length_cons, List.length_nil]; omega) | (simp <;> omega))); skip)
              refine wl_free .none rfl (yf_assign rfl) ?_
              refine wl_nil ?_
              refine wq_then ?_
              refine wc_ret ?_
              refine wq_block_ret ?_
              refine wq_then_ret ?_
              refine wq_ret1 rfl rfl (fun w hw => ?_)
              exact ⟨by rw [lineLs hcd], (HpG.keep hw).ext⟩
            · skip
              first | have hcd : ¬ (o.code = 18 ∨ o.code = 19) := (fun h => by rw [hx.2 h] at hc; cases hc) | skip
              refine wc_seq ?_
              refine wc_region ?_
              refine wl_free .none rfl (yf_eql rfl rfl) ?_
              refine wl_free .none rfl (yf_assign rfl) ?_
              refine wl_nil ?_
              refine wq_then ?_
              refine wc_cond rfl (fun hc => ?_) (fun hc => ?_)
              · replace hc := eq_of_beq hc
                refine wc_seq ?_
                refine wc_seq ?_
                refine wc_weak (.cons (i := 1) rfl <| .cons (i := 2) rfl <| .cons (i := 3) rfl <| .cons (i := 7) rfl <| .cons (i := 8) rfl <| .cons (i := 9) rfl <| .cons (i := 10) rfl <| .cons (i := 28) rfl <| .cons (i := 47) rfl <| .cons (i := 56) rfl <| .nil) ?_
                refine wc_region ?_
                refine wl_free .none rfl (yf_fieldAddr (off := 4) (sz := 0) rfl Tryd.underlying53 (by kernel_rfl) rfl) ?_
                refine wl_free .none rfl (yf_loadL 0 rfl rfl rfl Tryd.underlying35 rfl) ?_
                (refine wl_free .none rfl (yf_conv rfl (by kernel_rfl) Tryd.underlying89 (u64_in _ ?_ ?_)) ?_; (· omega); (· omega); skip)
                refine wl_free .none rfl (yf_move rfl) ?_
                refine wl_free .none rfl (yf_lenS rfl Tryd.underlying25) ?_
                (refine wl_free .none rfl (yf_conv rfl (by kernel_rfl) Tryd.underlying89 (u64_in _ ?_ ?_)) ?_; (· omega); (· omega); skip)
                refine wl_free .none rfl (yf_geq rfl rfl) ?_
                refine wl_nil ?_
                refine wq_then ?_
                refine wc_cond rfl (fun hc => ?_) (fun hc => ?_)
                · replace hc := of_decide_eq_true hc
                  refine wc_seq ?_
                  refine wc_weak (.cons (i := 1) rfl <| .cons (i := 2) rfl <| .cons (i := 3) rfl <| .cons (i := 7) rfl <| .cons (i := 8) rfl <| .cons (i := 9) rfl <| .cons (i := 10) rfl <| .cons (i := 28) rfl <| .cons (i := 47) rfl <| .cons (i := 56) rfl <| .cons (i := 64) rfl <| .nil) ?_
                  refine wc_region ?_
                  refine wl_free .none rfl (yf_move rfl) ?_
                  (refine wl_free .none rfl (yf_str_add rfl rfl ?_) ?_; (· (first | (simp only [List.length_append, List.length_cons, List.length_nil]; omega) | (simp <;> omega))); skip)
                  refine wl_free .none rfl (yf_assign rfl) ?_
                  refine wl_nil ?_
                  refine wq_then ?_
                  refine wc_ret ?_
                  refine wq_then_ret ?_
                  refine wq_block_ret ?_
                  refine wq_then_ret ?_
                  refine wq_ret1 rfl rfl (fun w hw => ?_)
                  exact ⟨by rw [lineL20q (by assumption) (by omega), hdl], (HpG.keep hw).ext⟩
                · replace hc := of_decide_eq_false hc
                  refine wc_skip ?_
                  refine wq_then ?_
                  refine wc_seq ?_
                  refine wc_weak (.cons (i := 1) rfl <| .cons (i := 2) rfl <| .cons (i := 3) rfl <| .cons (i := 7) rfl <| .cons (i := 8) rfl <| .cons (i := 9) rfl <| .cons (i := 10) rfl <| .cons (i := 28) rfl <| .cons (i := 47) rfl <| .cons (i := 56) rfl <| .cons (i := 64) rfl <| .nil) ?_
                  have hlt : o.n.toNat < t.length := by omega
                  obtain ⟨gA, oA, hA, _⟩ := h (by rw [show (u32s t).length = t.length from List.length_map ..]; omega)
                  subst hA
                  have hN2 : o.n = ((o.n.toNat : Nat) : Int) := (Int.toNat_of_nonneg hn.1).symm
                  obtain ⟨x, hxv⟩ : ∃ x, t.getD o.n.toNat 0 = x := ⟨_, rfl⟩
                  have hxm : U32 x := by rw [← hxv, getD_at hlt]; exact ht _ (List.getElem_mem _)
                  have hh8 := hexN_len x.toNat 8
                  refine wc_region ?_
                  refine wl_free .none rfl (yf_move rfl) ?_
                  (refine wl_free .none rfl (yf_str_add rfl rfl ?_) ?_; (· (first | (simp only [List.length_append, List.length_cons, List.length_nil]; omega) | (simp <;> omega))); skip)
                  refine wl_free .none rfl (yf_move rfl) ?_
                  refine wl_free .none rfl (yf_fieldAddr (off := 4) (sz := 0) rfl Tryd.underlying53 (by kernel_rfl) rfl) ?_
                  refine wl_free .none rfl (yf_loadL 0 rfl rfl rfl Tryd.underlying35 rfl) ?_
                  refine wl_free .none rfl (yf_indexAddrS (g := gA) (o := oA) (j := o.n.toNat) (es := 1) rfl rfl Tryd.underlying25 (by kernel_rfl) hN2 hlt rfl) ?_
                  refine wl_free .none rfl (yf_load (v := .int .u32 x) rfl Tryd.underlying35 rfl (fun w hw => Rd.at (h.ext (HpG.keep hw).ext) (i := o.n.toNat) (by rw [show (u32s t).length = t.length from List.length_map ..]; omega) (by rw [Nat.mul_one]) (by rw [u32s, List.getElem?_map, List.getElem?_eq_getElem hlt, ← hxv, getD_at hlt]; rfl))) ?_
                  refine wl_pure .none rfl (by kernel_rfl) rfl (fun w hw => by
                    have := address_any x.toNat (by have := hxm.2; omega) w (hT.ext (HpG.keep hw).ext)
                    rw [Int.toNat_of_nonneg hxm.1] at this
                    exact this) ?_
                  (refine wl_free .none rfl (yf_str_add rfl rfl ?_) ?_; (· (first | (simp only [List.length_append, List.length_cons, List.length_nil]; omega) | (simp <;> omega))); skip)
                  refine wl_free .none rfl (yf_assign rfl) ?_
                  refine wl_nil ?_
                  refine wq_then ?_
                  refine wc_ret ?_
                  refine wq_block_ret ?_
                  refine wq_then_ret ?_
                  refine wq_ret1 rfl rfl (fun w hw => ?_)
                  exact ⟨by rw [lineL20 (by assumption) (by omega), hxv, hdl], (HpG.keep hw).ext⟩
              · replace hc := beq_no hc
                refine wc_seq ?_
                refine wc_weak (.cons (i := 1) rfl <| .cons (i := 2) rfl <| .cons (i := 3) rfl <| .cons (i := 7) rfl <| .cons (i := 8) rfl <| .cons (i := 9) rfl <| .cons (i := 10) rfl <| .cons (i := 28) rfl <| .cons (i := 47) rfl <| .cons (i := 56) rfl <| .nil) ?_
                refine wc_region ?_
                refine wl_free .none rfl (yf_eql rfl rfl) ?_
                refine wl_free .none rfl (yf_assign rfl) ?_
                refine wl_nil ?_
                refine wq_then ?_
                refine wc_cond rfl (fun hc => ?_) (fun hc => ?_)
                · replace hc := eq_of_beq hc
                  refine wc_seq ?_
                  refine wc_weak (.cons (i := 1) rfl <| .cons (i := 2) rfl <| .cons (i := 3) rfl <| .cons (i := 7) rfl <| .cons (i := 8) rfl <| .cons (i := 9) rfl <| .cons (i := 10) rfl <| .cons (i := 28) rfl <| .cons (i := 47) rfl <| .cons (i := 56) rfl <| .cons (i := 76) rfl <| .nil) ?_
                  refine wc_region ?_
                  refine wl_free .none rfl (yf_move rfl) ?_
                  (refine wl_free .none rfl (yf_str_add rfl rfl ?_) ?_; (· (first | (simp only [List.length_append, List.length_cons, List.length_nil]; omega) | (simp <;> omega))); skip)
                  refine wl_free .none rfl (yf_assign rfl) ?_
                  refine wl_nil ?_
                  refine wq_then ?_
                  refine wc_ret ?_
                  refine wq_block_ret ?_
                  refine wq_then_ret ?_
                  refine wq_ret1 rfl rfl (fun w hw => ?_)
                  exact ⟨by rw [lineL21 hc], (HpG.keep hw).ext⟩
                · replace hc := beq_no hc
                  refine wc_seq ?_
                  refine wc_weak (.cons (i := 1) rfl <| .cons (i := 2) rfl <| .cons (i := 3) rfl <| .cons (i := 7) rfl <| .cons (i := 8) rfl <| .cons (i := 9) rfl <| .cons (i := 10) rfl <| .cons (i := 28) rfl <| .cons (i := 47) rfl <| .cons (i := 56) rfl <| .cons (i := 76) rfl <| .nil) ?_
                  refine wc_region ?_
                  refine wl_free .none rfl (yf_eql rfl rfl) ?_
                  refine wl_free .none rfl (yf_assign rfl) ?_
                  refine wl_nil ?_
                  refine wq_then ?_
                  refine wc_cond rfl (fun hc => ?_) (fun hc => ?_)
                  · replace hc := eq_of_beq hc
                    refine wc_seq ?_
                    refine wc_weak (.cons (i := 1) rfl <| .cons (i := 2) rfl <| .cons (i := 3) rfl <| .cons (i := 7) rfl <| .cons (i := 8) rfl <| .cons (i := 9) rfl <| .cons (i := 10) rfl <| .cons (i := 28) rfl <| .cons (i := 47) rfl <| .cons (i := 56) rfl <| .cons (i := 76) rfl <| .cons (i := 80) rfl <| .nil) ?_
                    refine wc_region ?_
                    refine wl_free .none rfl (yf_assign rfl) ?_
                    refine wl_nil ?_
                    refine wq_then ?_
                    refine wc_ret ?_
                    refine wq_block_ret ?_
                    refine wq_then_ret ?_
                    refine wq_ret1 rfl rfl (fun w hw => ?_)
                    exact ⟨by rw [lineL22 hc], (HpG.keep hw).ext⟩
                  · replace hc := beq_no hc
                    refine wc_seq ?_
                    refine wc_weak (.cons (i := 1) rfl <| .cons (i := 2) rfl <| .cons (i := 3) rfl <| .cons (i := 7) rfl <| .cons (i := 8) rfl <| .cons (i := 9) rfl <| .cons (i := 10) rfl <| .cons (i := 28) rfl <| .cons (i := 47) rfl <| .cons (i := 56) rfl <| .cons (i := 76) rfl <| .cons (i := 80) rfl <| .nil) ?_
                    refine wc_region ?_
                    refine wl_free .none rfl (yf_eql rfl rfl) ?_
                    refine wl_free .none rfl (yf_assign rfl) ?_
                    refine wl_nil ?_
                    refine wq_then ?_
                    refine wc_cond rfl (fun hc => ?_) (fun hc => ?_)
                    · replace hc := eq_of_beq hc
                      refine wc_seq ?_
                      refine wc_weak (.cons (i := 1) rfl <| .cons (i := 2) rfl <| .cons (i := 3) rfl <| .cons (i := 7) rfl <| .cons (i := 8) rfl <| .cons (i := 9) rfl <| .cons (i := 10) rfl <| .cons (i := 28) rfl <| .cons (i := 47) rfl <| .cons (i := 56) rfl <| .cons (i := 76) rfl <| .cons (i := 80) rfl <| .cons (i := 82) rfl <| .nil) ?_
                      refine wc_region ?_
                      refine wl_free .none rfl (yf_move rfl) ?_
                      (refine wl_free .none rfl (yf_str_add rfl rfl ?_) ?_; (· (first | (simp only [List.length_append, List.length_cons, List.length_nil]; omega) | (simp <;> omega))); skip)
                      (refine wl_free .none rfl (yf_str_add rfl rfl ?_) ?_; (· (first | (simp only [List.length_append, List.length_cons, List.length_nil]; omega) | (simp <;> omega))); skip)
                      refine wl_free .none rfl (yf_move rfl) ?_
                      (refine wl_free .none rfl (yf_str_add rfl rfl ?_) ?_; (· (first | (simp only [List.length_append, List.length_cons, List.length_nil]; omega) | (simp <;> omega))); skip)
                      refine wl_free .none rfl (yf_assign rfl) ?_
                      refine wl_nil ?_
                      refine wq_then ?_
                      refine wc_ret ?_
                      refine wq_block_ret ?_
                      refine wq_then_ret ?_
                      refine wq_ret1 rfl rfl (fun w hw => ?_)
                      exact ⟨by rw [lineL23 hc, hdl], (HpG.keep hw).ext⟩
                    · replace hc := beq_no hc
                      refine wc_seq ?_
                      refine wc_weak (.cons (i := 1) rfl <| .cons (i := 2) rfl <| .cons (i := 3) rfl <| .cons (i := 7) rfl <| .cons (i := 8) rfl <| .cons (i := 9) rfl <| .cons (i := 10) rfl <| .cons (i := 28) rfl <| .cons (i := 47) rfl <| .cons (i := 56) rfl <| .cons (i := 76) rfl <| .cons (i := 80) rfl <| .cons (i := 82) rfl <| .nil) ?_
                      refine wc_region ?_
                      refine wl_free .none rfl (yf_eql rfl rfl) ?_
                      refine wl_free .none rfl (yf_assign rfl) ?_
                      refine wl_nil ?_
                      refine wq_then ?_
                      refine wc_cond rfl (fun hc => ?_) (fun hc => ?_)
                      · replace hc := eq_of_beq hc
                        refine wc_seq ?_
                        refine wc_weak (.cons (i := 1) rfl <| .cons (i := 2) rfl <| .cons (i := 3) rfl <| .cons (i := 7) rfl <| .cons (i := 8) rfl <| .cons (i := 9) rfl <| .cons (i := 10) rfl <| .cons (i := 28) rfl <| .cons (i := 47) rfl <| .cons (i := 56) rfl <| .cons (i := 76) rfl <| .cons (i := 80) rfl <| .cons (i := 82) rfl <| .cons (i := 89) rfl <| .nil) ?_
                        refine wc_region ?_
                        refine wl_free .none rfl (yf_move rfl) ?_
                        (refine wl_free .none rfl (yf_str_add rfl rfl ?_) ?_; (· (first | (simp only [List.length_append, List.length_cons, List.length_nil]; omega) | (simp <;> omega))); skip)
                        refine wl_free .none rfl (yf_assign rfl) ?_
                        refine wl_nil ?_
                        refine wq_then ?_
                        refine wc_ret ?_
                        refine wq_block_ret ?_
                        refine wq_then_ret ?_
                        refine wq_ret1 rfl rfl (fun w hw => ?_)
                        exact ⟨by rw [lineL24 hc, hdl], (HpG.keep hw).ext⟩
                      · replace hc := beq_no hc
                        refine wc_seq ?_
                        refine wc_weak (.cons (i := 1) rfl <| .cons (i := 2) rfl <| .cons (i := 3) rfl <| .cons (i := 7) rfl <| .cons (i := 8) rfl <| .cons (i := 9) rfl <| .cons (i := 10) rfl <| .cons (i := 28) rfl <| .cons (i := 47) rfl <| .cons (i := 56) rfl <| .cons (i := 76) rfl <| .cons (i := 80) rfl <| .cons (i := 82) rfl <| .cons (i := 89) rfl <| .nil) ?_
                        refine wc_region ?_
                        refine wl_free .none rfl (yf_eql rfl rfl) ?_
                        refine wl_free .none rfl (yf_assign rfl) ?_
                        refine wl_nil ?_
                        refine wq_then ?_
                        refine wc_cond rfl (fun hc => ?_) (fun hc => ?_)
                        · replace hc := eq_of_beq hc
                          refine wc_seq ?_
                          refine wc_weak (.cons (i := 1) rfl <| .cons (i := 2) rfl <| .cons (i := 3) rfl <| .cons (i := 7) rfl <| .cons (i := 8) rfl <| .cons (i := 9) rfl <| .cons (i := 10) rfl <| .cons (i := 28) rfl <| .cons (i := 47) rfl <| .cons (i := 56) rfl <| .cons (i := 76) rfl <| .cons (i := 80) rfl <| .cons (i := 82) rfl <| .cons (i := 89) rfl <| .cons (i := 93) rfl <| .nil) ?_
                          refine wc_region ?_
                          refine wl_free .none rfl (yf_move rfl) ?_
                          (refine wl_free .none rfl (yf_str_add rfl rfl ?_) ?_; (· (first | (simp only [List.length_append, List.length_cons, List.length_nil]; omega) | (simp <;> omega))); skip)
                          refine wl_free .none rfl (yf_assign rfl) ?_
                          refine wl_nil ?_
                          refine wq_then ?_
                          refine wc_ret ?_
                          refine wq_block_ret ?_
                          refine wq_then_ret ?_
                          refine wq_ret1 rfl rfl (fun w hw => ?_)
                          exact ⟨by rw [lineL25 hc], (HpG.keep hw).ext⟩
                        · replace hc := beq_no hc
                          refine wc_skip ?_
                          refine wq_block ?_
                          refine wq_then ?_
                          refine wc_seq ?_
                          refine wc_weak (.cons (i := 1) rfl <| .cons (i := 2) rfl <| .cons (i := 3) rfl <| .cons (i := 7) rfl <| .cons (i := 8) rfl <| .cons (i := 9) rfl <| .cons (i := 10) rfl <| .cons (i := 28) rfl <| .cons (i := 47) rfl <| .cons (i := 56) rfl <| .cons (i := 76) rfl <| .cons (i := 80) rfl <| .cons (i := 82) rfl <| .cons (i := 89) rfl <| .cons (i := 93) rfl <| .nil) ?_
                          refine wc_region ?_
                          refine wl_free .none rfl (yf_move rfl) ?_
                          refine wl_free .none rfl (yf_fieldAddr (off := 0) (sz := 0) rfl Tryd.underlying53 (by kernel_rfl) rfl) ?_
                          refine wl_free .none rfl (yf_loadL 0 rfl rfl rfl Tryd.underlying3 rfl) ?_
                          refine wl_free .none rfl (yf_symD (c := 13) rfl rfl (fun w hw => hmx w (HpG.keep hw).ext)) ?_
                          refine wl_free .none rfl (yf_move rfl) ?_
                          refine wl_free .none rfl (yf_extract rfl rfl) ?_
                          refine wl_free .none rfl (yf_extract rfl rfl) ?_
                          refine wl_free .none rfl (yf_assign rfl) ?_
                          refine wl_free .none rfl (yf_assign rfl) ?_
                          refine wl_nil ?_
                          refine wq_then ?_
                          refine wc_seq ?_
                          refine wc_seq ?_
                          refine wc_weak (.cons (i := 1) rfl <| .cons (i := 2) rfl <| .cons (i := 3) rfl <| .cons (i := 7) rfl <| .cons (i := 8) rfl <| .cons (i := 9) rfl <| .cons (i := 10) rfl <| .cons (i := 11) rfl <| .cons (i := 12) rfl <| .cons (i := 28) rfl <| .cons (i := 47) rfl <| .cons (i := 56) rfl <| .cons (i := 76) rfl <| .cons (i := 80) rfl <| .cons (i := 82) rfl <| .cons (i := 89) rfl <| .cons (i := 93) rfl <| .nil) ?_
                          refine wc_region ?_
                          refine wl_free .none rfl (yf_move rfl) ?_
                          refine wl_free .none rfl (yf_not rfl) ?_
                          refine wl_nil ?_
                          refine wq_then ?_
                          refine wc_cond rfl (fun hc => ?_) (fun hc => ?_)
                          · skip
                            have hbin : ¬ (3 ≤ o.code ∧ o.code ≤ 15) := by simp at hc; omega
                            refine wc_seq ?_
                            refine wc_weak (.cons (i := 1) rfl <| .cons (i := 2) rfl <| .cons (i := 3) rfl <| .cons (i := 7) rfl <| .cons (i := 8) rfl <| .cons (i := 9) rfl <| .cons (i := 10) rfl <| .cons (i := 11) rfl <| .cons (i := 12) rfl <| .cons (i := 28) rfl <| .cons (i := 47) rfl <| .cons (i := 56) rfl <| .cons (i := 76) rfl <| .cons (i := 80) rfl <| .cons (i := 82) rfl <| .cons (i := 89) rfl <| .cons (i := 93) rfl <| .cons (i := 105) rfl <| .nil) ?_
                            refine wc_region ?_
                            refine wl_free .none rfl (yf_assign rfl) ?_
                            refine wl_nil ?_
                            refine wq_then ?_
                            refine wc_ret ?_
                            refine wq_then_ret ?_
                            refine wq_ret1 rfl rfl (fun w hw => ?_)
                            exact ⟨by rw [lineLq (by omega)], (HpG.keep hw).ext⟩
                          · skip
                            have hbin : 3 ≤ o.code ∧ o.code ≤ 15 := by simpa using hc
                            have hlk : lkS o.code = symL.getD (o.code - 3).toNat [] := if_pos hbin
                            rw [hlk]
                            refine wc_skip ?_
                            refine wq_then ?_
                            refine wc_seq ?_
                            refine wc_weak (.cons (i := 1) rfl <| .cons (i := 2) rfl <| .cons (i := 3) rfl <| .cons (i := 7) rfl <| .cons (i := 8) rfl <| .cons (i := 9) rfl <| .cons (i := 10) rfl <| .cons (i := 11) rfl <| .cons (i := 12) rfl <| .cons (i := 28) rfl <| .cons (i := 47) rfl <| .cons (i := 56) rfl <| .cons (i := 76) rfl <| .cons (i := 80) rfl <| .cons (i := 82) rfl <| .cons (i := 89) rfl <| .cons (i := 93) rfl <| .cons (i := 105) rfl <| .nil) ?_
                            refine wc_region ?_
                            refine wl_free .none rfl (yf_move rfl) ?_
                            refine wl_free .none rfl (yf_move rfl) ?_
                            (refine wl_free .none rfl (yf_str_add rfl rfl ?_) ?_; (· (first | (simp only [List.length_append, List.length_cons, List.length_nil]; omega) | (simp <;> omega))); skip)
                            (refine wl_free .none rfl (yf_str_add rfl rfl ?_) ?_; (· (first | (simp only [List.length_append, List.length_cons, List.length_nil]; omega) | (simp <;> omega))); skip)
                            refine wl_free .none rfl (yf_move rfl) ?_
                            (refine wl_free .none rfl (yf_str_add rfl rfl ?_) ?_; (· (first | (simp only [List.length_append, List.length_cons, List.length_nil]; omega) | (simp <;> omega))); skip)
                            (refine wl_free .none rfl (yf_str_add rfl rfl ?_) ?_; (· (first | (simp only [List.length_append, List.length_cons, List.length_nil]; omega) | (simp <;> omega))); skip)
                            refine wl_free .none rfl (yf_move rfl) ?_
                            (refine wl_free .none rfl (yf_str_add rfl rfl ?_) ?_; (· (first | (simp only [List.length_append, List.length_cons, List.length_nil]; omega) | (simp <;> omega))); skip)
                            refine wl_free .none rfl (yf_assign rfl) ?_
                            refine wl_nil ?_
                            refine wq_then ?_
                            refine wc_ret ?_
                            refine wq_ret1 rfl rfl (fun w hw => ?_)
                            exact ⟨by rw [lineLb hbin], (HpG.keep hw).ext⟩
end Go.Proofs.YtojofinofpgopaaDoor
/- ir.Print. -/
namespace Go.Proofs.YtojofinofpgopaaDoor
open Go.RowKit
theorem Hp.nobS {w0 w : World} {L : List (Nat × Obj)} {R : List Rw} {X : World → Prop} (h : Hp (fun _ => False) w0 L R X w) : Hp (fun k => k ∈ ([] : List (Nat × Obj)).map (·.1)) w0 L R X w := by
  have e : (fun k : Nat => k ∈ ([] : List (Nat × Obj)).map (·.1)) = fun _ => False := by funext k; simp
  rw [e]; exact h
section
variable {P : Program} {n : Nat} {m : List (Nat × Value)} {ty : TypeId} {B : Nat → Prop} {w0 w : World} {L : List (Nat × Obj)} {R : List Rw} {X : World → Prop} {Q : Exit → Act → World → Prop} {ops : Array Oper}
theorem wl_callS {ι : Type} {C : ι → Prop} {rest : List Oper} {d : Nat} {pos : String} {af : Array Edge} {gd : Option (Nat × Bool)} {f : FuncId} {args : List Operand} {ats : Array TypeId} {vs : List Value} {val : ι → Value} {L1' : ι → List (Nat × Obj)} {X' : ι → World → Prop} (hg : Gd ops m gd) (hd : Nat.blt d n = true) (hf : goes P f = true) (ha : evl m args = some vs)
    (hC : ∀ w, Hp B w0 L R X w → Calls P f vs.toArray w fun e w' => ∃ i, C i ∧ e = .returned (val i) ∧ Hp (fun _ => False) w (L1' i) [] (X' i) w')
    (h : ∀ i, C i → WL P ops Q rest n ((d, val i) :: m) (Hp B w0 (L ++ L1' i) R X)) : WL P ops Q (⟨some d, .call { callee := .value (.func f), args := args.toArray, argTypes := ats }, ty, pos, af, gd⟩ :: rest) n m (Hp B w0 L R X) :=
  wl_chain (ι := {i // C i}) (val := fun i => val i.1) (H' := fun i => Hp B w0 (L ++ L1' i.1) R X) hg hd
    (cf_call hf ha fun w hw => (hC w hw).mono fun _ _ ⟨i, c, e1, e2⟩ => ⟨_, e1, ⟨i, c⟩, rfl, Hp.callM (L1 := []) (by simpa using hw) (Hp.nobS e2)⟩) fun i => h i.1 i.2
end
/-- A block that no Builder is, nor its bytes. -/
def okOb (o : Obj) : Bool := match o with | .cells _ e _ => !(e == 5) && !(e == 58) | _ => true
/-- The Builder of the call. -/
def BX (w0 : World) (b : Nat) (l : List UInt8) (w : World) : Prop := Lib.IsBuilderF 58 5 w0.heap.size b (Lib.byteCells l) w
section
variable {w0 w w' : World} {L : List (Nat × Obj)} {X : World → Prop} {b : Nat} {l l' : List UInt8}
theorem BX.blk (h : BX w0 b l w) : ∃ c, w.heap[b]? = some (.cells c 58 (0, 0)) := by
  rcases h with ⟨_, v, h, _⟩ | ⟨_, v, h, _⟩ <;> exact ⟨_, h⟩
theorem bx_foot (h : BX w0 b l w) (hL : ∀ p ∈ L, w.heap[p.1]? = some p.2) (ho : L.all (fun p => okOb p.2) = true) : ∃ F : Nat → Prop, (∀ k, F k → k < w.heap.size ∧ k ∉ L.map (·.1)) ∧ Foot F (BX w0 b l) w := by
  have nin : ∀ k c e fz, w.heap[k]? = some (.cells c e fz) → (e = 5 ∨ e = 58) → k < w.heap.size ∧ k ∉ L.map (·.1) := fun k c e fz hk he => by
    refine ⟨(Array.getElem?_eq_some_iff.1 hk).1, fun hm => ?_⟩
    obtain ⟨p, hp, rfl⟩ := List.mem_map.1 hm
    have h1 := hL p hp
    rw [hk] at h1
    have h2 := List.all_eq_true.1 ho p hp
    rw [← Option.some.inj h1] at h2
    rcases he with rfl | rfl <;> simp [okOb] at h2
  have core : ∀ p, Lib.BuilderAtF 58 5 w0.heap.size b p (Lib.byteCells l) w → ∃ F : Nat → Prop, (∀ k, F k → k < w.heap.size ∧ k ∉ L.map (·.1)) ∧ Foot F (Lib.BuilderAtF 58 5 w0.heap.size b p (Lib.byteCells l)) w := fun p ⟨hB, v, hb, ⟨hxl, hv⟩, hne⟩ => by
    rcases hv with ⟨e1, e2⟩ | ⟨g, cap, cur, fz, e1, hg1, hg, r⟩
    · refine ⟨fun k => k = b, fun k hk => by subst hk; exact nin _ _ _ _ hb (.inr rfl), fun u hu => ⟨hB, v, by rw [hu b rfl]; exact hb, ⟨hxl, .inl ⟨e1, e2⟩⟩, hne⟩⟩
    · refine ⟨fun k => k = b ∨ k = g, fun k hk => ?_, fun u hu => ⟨hB, v, by rw [hu b (.inl rfl)]; exact hb, ⟨hxl, .inr ⟨g, cap, cur, fz, e1, hg1, by rw [hu g (.inr rfl)]; exact hg, r⟩⟩, hne⟩⟩
      rcases hk with rfl | rfl
      · exact nin _ _ _ _ hb (.inr rfl)
      · exact nin _ _ _ _ hg (.inl rfl)
  rcases h with h | h
  · obtain ⟨F, h1, h2⟩ := core _ h
    exact ⟨F, h1, fun u hu => .inl (h2 u hu)⟩
  · obtain ⟨F, h1, h2⟩ := core _ h
    exact ⟨F, h1, fun u hu => .inr (h2 u hu)⟩
theorem Hp.bx (h : Hp (fun _ => False) w0 ((b, bk 58 [.pointer none, .slice none 0 0]) :: L) [] X w) (ho : L.all (fun p => okOb p.2) = true) : Hp (fun _ => False) w0 L [] (BX w0 b []) w := by
  have hb := HpG.own h _ (List.mem_cons_self ..)
  have hm : w0.heap.size ≤ b := by
    rcases HpG.mine h _ (List.mem_cons_self ..) with h1 | h1
    · exact h1
    · exact h1.elim
  have hx : BX w0 b [] w := .inl ⟨hm, .slice none 0 0, hb, ⟨rfl, .inl ⟨rfl, rfl⟩⟩, by simp [Value.ownBlock]⟩
  have hnd := HpG.nd h
  obtain ⟨F, hF, hX⟩ := bx_foot hx (fun p hp => HpG.own h p (List.mem_cons_of_mem _ hp)) ho
  exact ⟨HpG.keep h, fun p hp => HpG.own h p (List.mem_cons_of_mem _ hp), fun p hp => HpG.mine h p (List.mem_cons_of_mem _ hp), fun r hr => (by cases hr), (List.nodup_cons.1 hnd).2, fun _ _ => trivial, F, fun k hk => ⟨(hF k hk).1, id, by rw [blks, List.filterMap_nil, List.append_nil]; exact (hF k hk).2, trivial⟩, hX⟩
theorem Hp.bxStep (h : Hp (fun _ => False) w0 L [] (BX w0 b l) w) (ho : L.all (fun p => okOb p.2) = true) (hb : Below w0.heap.size w w') (hk : Lib.OthersKept 5 (some b) w w') (hx : BX w0 b l' w') : Hp (fun _ => False) w0 L [] (BX w0 b l') w' := by
  obtain ⟨c, hbk⟩ := BX.blk (HpG.x h)
  have own : ∀ p ∈ L, w'.heap[p.1]? = some p.2 := fun p hp => by
    have h1 := HpG.own h p hp
    have h2 := List.all_eq_true.1 ho p hp
    refine hk p.1 p.2 h1 (fun e => ?_) (fun cc fz e => ?_)
    · have : p.1 = b := Option.some.inj e
      rw [this, hbk] at h1
      rw [← Option.some.inj h1] at h2
      simp [okOb] at h2
    · rw [e] at h2; simp [okOb] at h2
  obtain ⟨F, hF, hX⟩ := bx_foot hx own ho
  have h0 := HpG.keep h
  exact ⟨⟨hb.os.trans h0.os, hb.tape.trans h0.tape, hb.output.trans h0.output, Nat.le_trans h0.size hb.size, fun k hk' hG => (hb.block k hk').trans (h0.block k hk' hG)⟩, own, HpG.mine h, fun r hr => (by cases hr), HpG.nd h, fun _ _ => trivial, F, fun k hk => ⟨(hF k hk).1, id, by rw [blks, List.filterMap_nil, List.append_nil]; exact (hF k hk).2, trivial⟩, hX⟩
set_option maxRecDepth 100000 in
theorem cf_wr {n : Nat} {m : List (Nat × Value)} {ty : TypeId} {x y : Operand} {ats : Array TypeId} {s : List UInt8} (hx : ev m x = some (ptrV b)) (hy : ev m y = some (.string ⟨s.toArray⟩)) (ho : L.all (fun p => okOb p.2) = true) (hl : l.length + s.length ≤ 140737488355328) :
    CF Tryd.prog (.call { callee := .value (.func 19), args := #[x, y], argTypes := ats }) ty n m (Hp (fun _ => False) w0 L [] (BX w0 b l)) (fun _ : Unit => .tuple #[.int .i64 s.length, .nilIface]) (fun _ => Hp (fun _ => False) w0 L [] (BX w0 b (l ++ s))) :=
  cf_call (args := [x, y]) (vs := [ptrV b, .string ⟨s.toArray⟩]) (by kernel_rfl) (by simp [evl, hx, hy]) fun w hw => (Tryd.Builder_WriteString_k w0.heap.size b (Lib.byteCells l) ⟨s.toArray⟩ w (HpG.x hw) (by rw [Lib.byteCells_length]; simpa [ByteArray.size] using hl) (HpG.size hw)).mono fun _ w' ⟨e1, e2, e3, e4⟩ => ⟨_, e1, (), by simp [ByteArray.size], Hp.bxStep hw ho e3 e4 (by
    refine .inr ?_
    rw [show Lib.byteCells (l ++ s) = Lib.byteCells l ++ Lib.strCells ⟨s.toArray⟩ by simp [Lib.byteCells, Lib.strCells]]
    exact e2)⟩
set_option maxRecDepth 100000 in
theorem cf_str {n : Nat} {m : List (Nat × Value)} {ty : TypeId} {x : Operand} {ats : Array TypeId} (hx : ev m x = some (ptrV b)) (ho : L.all (fun p => okOb p.2) = true) (h0 : l ≠ []) :
    CF Tryd.prog (.call { callee := .value (.func 23), args := #[x], argTypes := ats }) ty n m (Hp (fun _ => False) w0 L [] (BX w0 b l)) (fun _ : Unit => .string ⟨l.toArray⟩) (fun _ => Hp (fun _ => False) w0 L [] (BX w0 b l)) :=
  cf_call (args := [x]) (vs := [ptrV b]) (by kernel_rfl) (by simp [evl, hx]) fun w hw => (Tryd.Builder_String_k w0.heap.size b l w (HpG.x hw) h0).mono fun _ w' ⟨e1, e2, e3, e4⟩ => ⟨_, e1, (), rfl, Hp.bxStep hw ho e3 e4 e2⟩
end
theorem itoa_any (n : Int) (h : -9223372036854775808 ≤ n ∧ n ≤ 9223372036854775807) (w : World) (hT : Tb w) : Calls Tryd.prog 20 #[.int .i64 n] w fun e w' => e = .returned (.string ⟨(Lib.itoa n).toArray⟩) ∧ Ext w w' :=
  (Tryd.strconv_Itoa n h.1 h.2 w hT.ten).mono fun _ w' ⟨e1, k, os, e2⟩ => ⟨e1, by subst e2; exact Lib.below_grow _ w (Nat.le_refl _) k os⟩
set_option maxRecDepth 100000 in
set_option maxHeartbeats 4000000 in
theorem print_any (i : BR) (w_0 : World) (hb : BRd (fun k => w_0.heap.size ≤ k) i w_0) (hi : i.OkN 200000) (hp : PgOk i.b) (hT : Tb w_0) : Calls Tryd.prog 8 #[i.v] w_0 fun e w' => e = .returned (.string ⟨(printL i.b).toArray⟩) ∧ Ext w_0 w' := by
  obtain ⟨b, aA, aP, aO, cA, cP, cO⟩ := i
  obtain ⟨uA, uO, lA, lP, lO, hcA, hcP, hcO⟩ := hi
  dsimp only at uA uO lA lP lO hcA hcP hcO hp
  have hpl : ∀ k, ((b.pages.take k).map pgF).flatten.length ≤ 4200000 := fun k => by
    have := flatB_len (b.pages.take k) fun p h => pg_len hp p (List.mem_of_mem_take h)
    rw [List.length_take] at this; omega
  have hll : ∀ k, ((b.ops.take k).map (lnF b.at_)).flatten.length ≤ 8200000 := fun k => by
    have := flatB_len (b.ops.take k) fun p h => ln_len uO p (List.mem_of_mem_take h)
    rw [List.length_take] at this; omega
  refine calls_wc (args := [blkV aA aP aO cA cP cO b]) Tryd.func8 rfl 40 rfl (Nat.le_of_ble_eq_true rfl) ?_
  refine wc_weak (.cons (i := 0) rfl <| .nil) ?_
  refine wc_conseq (H' := Hp (fun _ => False) w_0 [] [] (fun _ => True)) (fun u hu => ?_) ?_
  · subst hu; exact Hp.start0
  refine wc_seq ?_
  refine wc_region ?_
  refine wl_new .none rfl (nf_box rfl rfl) (fun b1 => ?_)
  refine wl_free .none rfl (yf_assign rfl) ?_
  refine wl_nil ?_
  refine wq_then ?_
  refine wc_seq ?_
  refine wc_region ?_
  refine wl_new .none rfl (nf_alloc (z := .agg #[.pointer none, .slice none 0 0]) (cs := [.pointer none, .slice none 0 0]) (by kernel_rfl) rfl) (fun b3 => ?_)
  refine wl_nil ?_
  refine wq_then ?_
  refine wc_seq ?_
  refine wc_conseq (H' := Hp (fun _ => False) w_0 [(b1, bk 28 (hdB aA aP aO cA cP cO b))] [] (BX w_0 b3 [])) (fun w h => Hp.bx h rfl) ?_
  refine wc_region ?_
  refine wl_chain .none rfl (cf_wr rfl rfl rfl (by decide)) (fun _ => ?_)
  refine wl_nil ?_
  refine wq_then ?_
  refine wc_seq ?_
  refine wc_seq ?_
  refine wc_weak (.cons (i := 0) rfl <| .cons (i := 1) rfl <| .cons (i := 2) rfl <| .cons (i := 3) rfl <| .nil) ?_
  refine wc_region ?_
  refine wl_free .none rfl (yf_fieldAddr (off := 1) (sz := 0) rfl Tryd.underlying28 (by kernel_rfl) rfl) ?_
  refine wl_free .none rfl (yf_loadL 0 rfl rfl rfl Tryd.underlying22 rfl) ?_
  refine wl_free .none rfl (yf_lenS rfl Tryd.underlying22) ?_
  refine wl_free .none rfl (yf_move rfl) ?_
  refine wl_nil ?_
  refine wq_then ?_
  refine wc_block ?_
  refine wc_loop (ι := {k : Nat // k ≤ b.pages.length}) (fun k => [(1, ptrV b1), (3, ptrV b3), (11, .slice aP b.pages.length cP), (12, .int .i64 b.pages.length), (13, .int .i64 k.1)]) (fun k => Hp (fun _ => False) w_0 [(b1, bk 28 (hdB aA aP aO cA cP cO b))] [] (BX w_0 b3 ([112, 97, 103, 101, 115] ++ ((b.pages.take k.1).map pgF).flatten))) (fun k => b.pages.length - k.1) ⟨0, Nat.zero_le _⟩ ?_ ?_ (fun k => ?_)
  · exact .cons rfl <| .cons rfl <| .cons rfl <| .cons rfl <| .cons rfl <| .nil
  · exact fun w h => h
  obtain ⟨k, hk⟩ := k
  dsimp only at hk ⊢
  have hl := hpl k
  refine wc_seq ?_
  refine wc_region ?_
  refine wl_free .none rfl (yf_lss rfl rfl) ?_
  refine wl_nil ?_
  refine wq_then ?_
  refine wc_seq ?_
  refine wc_cond rfl (fun hc => ?_) (fun hc => ?_)
  · replace hc := of_decide_eq_true hc
    refine wc_skip ?_
    refine wq_then ?_
    refine wc_seq ?_
    refine wc_block ?_
    refine wc_seq ?_
    have hkl : k < b.pages.length := by omega
    obtain ⟨gP, oP, hP, _⟩ := hb.p (by rw [List.length_map]; exact Nat.lt_of_le_of_lt (Nat.zero_le _) hkl)
    dsimp only at hP
    have hpk := hp _ (show b.pages.getD k 0 ∈ b.pages by rw [getD_at hkl]; exact List.getElem_mem _)
    have hpi := itoa_len hpk
    refine wc_region ?_
    refine wl_free .none rfl (yf_indexAddrS (g := gP) (o := oP) (j := k) (es := 1) (by rw [← hP]; rfl) rfl Tryd.underlying22 (by kernel_rfl) rfl hkl rfl) ?_
    refine wl_free .none rfl (yf_load (v := .int .i64 (b.pages.getD k 0)) rfl Tryd.underlying3 rfl (fun w h => by have := hb.p.ext (HpG.keep h).ext; dsimp only at this; rw [hP] at this; exact Rd.pg this hkl)) ?_
    refine wl_free .none rfl (yf_assign rfl) ?_
    refine wl_nil ?_
    refine wq_then ?_
    refine wc_weak (.cons (i := 1) rfl <| .cons (i := 3) rfl <| .cons (i := 5) rfl <| .cons (i := 11) rfl <| .cons (i := 12) rfl <| .cons (i := 13) rfl <| .cons (i := 14) rfl <| .nil) ?_
    refine wc_region ?_
    refine wl_free .none rfl (yf_move rfl) ?_
    refine wl_pure .none rfl (by kernel_rfl) rfl (fun w hw => itoa_any _ hpk w (hT.ext (HpG.keep hw).ext)) ?_
    (refine wl_free .none rfl (yf_str_add rfl rfl ?_) ?_; (· (first | (simp only [List.length_append, List.length_cons, List.length_nil]; omega) | (simp <;> omega))); skip)
    refine wl_chain .none rfl (cf_wr rfl rfl rfl (by simp only [List.length_append, List.length_cons, List.length_nil]; omega)) (fun _ => ?_)
    refine wl_nil ?_
    refine wq_block ?_
    refine wq_then ?_
    refine wc_weak (.cons (i := 1) rfl <| .cons (i := 3) rfl <| .cons (i := 5) rfl <| .cons (i := 11) rfl <| .cons (i := 12) rfl <| .cons (i := 13) rfl <| .cons (i := 14) rfl <| .nil) ?_
    refine wc_region ?_
    (refine wl_free .none rfl (yf_add rfl rfl (i64_in _ ?_ ?_)) ?_; (· omega); (· omega); skip)
    refine wl_free .none rfl (yf_move rfl) ?_
    refine wl_nil ?_
    refine wq_round (ι := {k : Nat // k ≤ b.pages.length}) ⟨k + 1, hkl⟩ (by show b.pages.length - (k + 1) < b.pages.length - k; omega) (.cons rfl <| .cons rfl <| .cons rfl <| .cons rfl <| .cons rfl <| .nil) (fun w h => by
      have e : [112, 97, 103, 101, 115] ++ ((b.pages.take (k + 1)).map pgF).flatten = [112, 97, 103, 101, 115] ++ ((b.pages.take k).map pgF).flatten ++ ([32] ++ Lib.itoa (b.pages.getD k 0)) := by rw [← flat_snoc pgF b.pages 0 hkl, pgF]; simp only [List.append_assoc]
      dsimp only
      rw [e]; exact h)
  · replace hc := of_decide_eq_false hc
    refine wc_exit ?_
    refine wq_then_exit ?_
    refine wq_then_exit ?_
    refine wq_here ?_
    refine wq_then ?_
    refine wc_seq ?_
    have hke : k = b.pages.length := by omega
    subst hke
    rw [List.take_length] at hl ⊢
    refine wc_region ?_
    refine wl_chain .none rfl (cf_wr rfl rfl rfl (by simp only [List.length_append, List.length_cons, List.length_nil]; omega)) (fun _ => ?_)
    refine wl_nil ?_
    refine wq_then ?_
    refine wc_seq ?_
    refine wc_weak (.cons (i := 1) rfl <| .cons (i := 3) rfl <| .cons (i := 11) rfl <| .cons (i := 12) rfl <| .cons (i := 13) rfl <| .cons (i := 14) rfl <| .nil) ?_
    refine wc_region ?_
    refine wl_callS .none rfl (by kernel_rfl) rfl (fun w hw => symbols_any w) (fun gm _ => ?_)
    refine wl_free .none rfl (yf_assign rfl) ?_
    refine wl_nil ?_
    refine wq_then ?_
    refine wc_seq ?_
    refine wc_seq ?_
    refine wc_weak (.cons (i := 1) rfl <| .cons (i := 3) rfl <| .cons (i := 6) rfl <| .cons (i := 11) rfl <| .cons (i := 12) rfl <| .cons (i := 13) rfl <| .cons (i := 14) rfl <| .nil) ?_
    refine wc_region ?_
    refine wl_free .none rfl (yf_fieldAddr (off := 2) (sz := 0) rfl Tryd.underlying28 (by kernel_rfl) rfl) ?_
    refine wl_free .none rfl (yf_loadL 0 rfl rfl rfl Tryd.underlying26 rfl) ?_
    refine wl_free .none rfl (yf_lenS rfl Tryd.underlying26) ?_
    refine wl_free .none rfl (yf_move rfl) ?_
    refine wl_nil ?_
    refine wq_then ?_
    refine wc_block ?_
    refine wc_loop (ι := {k : Nat // k ≤ b.ops.length}) (fun k => [(1, ptrV b1), (3, ptrV b3), (6, .map (some gm)), (25, .slice aO b.ops.length cO), (26, .int .i64 b.ops.length), (27, .int .i64 k.1)]) (fun k => Hp (fun _ => False) w_0 [(b1, bk 28 (hdB aA aP aO cA cP cO b)), (gm, .map symEs 13)] [] (BX w_0 b3 ([112, 97, 103, 101, 115] ++ (b.pages.map pgF).flatten ++ [10] ++ ((b.ops.take k.1).map (lnF b.at_)).flatten))) (fun k => b.ops.length - k.1) ⟨0, Nat.zero_le _⟩ ?_ ?_ (fun k => ?_)
    · exact .cons rfl <| .cons rfl <| .cons rfl <| .cons rfl <| .cons rfl <| .cons rfl <| .nil
    · intro w h
      rw [List.take_zero, List.map_nil, List.flatten_nil, List.append_nil]
      exact h
    obtain ⟨k, hk⟩ := k
    dsimp only at hk ⊢
    have hl2 := hll k
    refine wc_seq ?_
    refine wc_region ?_
    refine wl_free .none rfl (yf_lss rfl rfl) ?_
    refine wl_nil ?_
    refine wq_then ?_
    refine wc_seq ?_
    refine wc_cond rfl (fun hc => ?_) (fun hc => ?_)
    · replace hc := of_decide_eq_true hc
      refine wc_skip ?_
      refine wq_then ?_
      refine wc_seq ?_
      refine wc_block ?_
      refine wc_seq ?_
      have hkl : k < b.ops.length := by omega
      obtain ⟨gO, oO, hO, _⟩ := hb.o (by have := opsCells_len b.ops; show 0 < (opsCells b.ops).length; omega)
      dsimp only at hO
      have huo := uO _ (opD_mem hkl)
      have hll1 := lineL_len (b.ops.getD k noOp) b.at_ (by have := huo.2; have := huo.1; omega)
      refine wc_region ?_
      refine wl_free .none rfl (yf_indexAddrS (g := gO) (o := oO) (j := k) (es := 5) (by rw [← hO]; rfl) rfl Tryd.underlying26 (by kernel_rfl) rfl hkl rfl) ?_
      refine wl_free .none rfl (yf_loadRow (cs := opC (b.ops.getD k noOp)) rfl Tryd.underlying53 rfl (by kernel_rfl) (fun w h => by have := hb.o.on (Keep.of_ext (HpG.keep h).ext) (G := fun _ => False) (fun _ _ h => h.elim); dsimp only at this; rw [hO] at this; exact RdIn.opR this hkl rfl)) ?_
      refine wl_new .none rfl (nf_alloc (z := .agg #[.int .i64 0, .int .i64 0, .int .i64 0, .int .i64 0, .int .u32 0]) (cs := [.int .i64 0, .int .i64 0, .int .i64 0, .int .i64 0, .int .u32 0]) (by kernel_rfl) rfl) (fun b8 => ?_)
      refine wl_chain0 .none (cf_storeRow 0 rfl rfl rfl rfl rfl (by kernel_rfl)) (fun _ => ?_)
      refine wl_nil ?_
      refine wq_then ?_
      refine wc_weak (.cons (i := 1) rfl <| .cons (i := 3) rfl <| .cons (i := 6) rfl <| .cons (i := 8) rfl <| .cons (i := 25) rfl <| .cons (i := 26) rfl <| .cons (i := 27) rfl <| .cons (i := 28) rfl <| .nil) ?_
      refine wc_region ?_
      refine wl_free .none rfl (yf_loadAllL 0 rfl rfl Tryd.underlying53 rfl (by kernel_rfl)) ?_
      refine wl_free .none rfl (yf_fieldAddr (off := 0) (sz := 0) rfl Tryd.underlying28 (by kernel_rfl) rfl) ?_
      refine wl_free .none rfl (yf_loadL 1 rfl rfl rfl Tryd.underlying25 rfl) ?_
      refine wl_free .none rfl (yf_move rfl) ?_
      refine wl_pure .none rfl (by kernel_rfl) rfl (fun w hw => line_any (b.ops.getD k noOp) b.at_ aA cA gm huo uA lA w (hb.a.on (Keep.of_ext (HpG.keep hw).ext) (G := fun _ => False) (fun _ _ h => h.elim)) (HpG.own hw (gm, .map symEs 13) (by simp)) (hT.ext (HpG.keep hw).ext)) ?_
      (refine wl_free .none rfl (yf_str_add rfl rfl ?_) ?_; (· (first | (simp only [List.length_append, List.length_cons, List.length_nil]; omega) | (simp <;> omega))); skip)
      refine wl_chain .none rfl (cf_wr rfl rfl rfl (by simp only [List.length_append, List.length_cons, List.length_nil]; omega)) (fun _ => ?_)
      refine wl_nil ?_
      refine wq_block ?_
      refine wq_then ?_
      refine wc_weak (.cons (i := 1) rfl <| .cons (i := 3) rfl <| .cons (i := 6) rfl <| .cons (i := 8) rfl <| .cons (i := 25) rfl <| .cons (i := 26) rfl <| .cons (i := 27) rfl <| .cons (i := 28) rfl <| .nil) ?_
      refine wc_region ?_
      (refine wl_free .none rfl (yf_add rfl rfl (i64_in _ ?_ ?_)) ?_; (· omega); (· omega); skip)
      refine wl_free .none rfl (yf_move rfl) ?_
      refine wl_nil ?_
      refine wq_round (ι := {k : Nat // k ≤ b.ops.length}) ⟨k + 1, hkl⟩ (by show b.ops.length - (k + 1) < b.ops.length - k; omega) (.cons rfl <| .cons rfl <| .cons rfl <| .cons rfl <| .cons rfl <| .cons rfl <| .nil) (fun w h => by
        have e : ((b.ops.take (k + 1)).map (lnF b.at_)).flatten = ((b.ops.take k).map (lnF b.at_)).flatten ++ (lineL (b.ops.getD k noOp) b.at_ ++ [10]) := by rw [← flat_snoc (lnF b.at_) b.ops noOp hkl, lnF]
        dsimp only
        rw [e, ← List.append_assoc]
        exact Hp.drop h (.cons _ (.refl _)) (List.nil_sublist _))
    · replace hc := of_decide_eq_false hc
      refine wc_exit ?_
      refine wq_then_exit ?_
      refine wq_then_exit ?_
      refine wq_here ?_
      refine wq_then ?_
      refine wc_seq ?_
      have hke : k = b.ops.length := by omega
      subst hke
      rw [List.take_length] at hl2 ⊢
      refine wc_region ?_
      refine wl_chain .none rfl (cf_str rfl rfl (by simp)) (fun _ => ?_)
      refine wl_free .none rfl (yf_assign rfl) ?_
      refine wl_nil ?_
      refine wq_then ?_
      refine wc_ret ?_
      refine wq_ret1 rfl rfl (fun w hw => ?_)
      exact ⟨rfl, (HpG.keep hw).ext⟩
end Go.Proofs.YtojofinofpgopaaDoor
