/- The law of errors. -/
import Derived.Test.YtkaepknpplhgkaaGreatDoorMag
namespace Go.Proofs.YtkaepknpplhgkaaGreatDoor
open Go.RowKit
theorem ek_of (k : Nat) : ∃ x br c, EK7 (kindL k) x br c := by
  rcases kindL_12 k with h | h
  · exact ⟨_, _, _, by rw [h]; exact ek_K⟩
  · exact ⟨_, _, _, by rw [h]; exact ek_Q⟩
theorem er_text (k : Nat) {a b : Nat} (ha : a < 50) (hb : b < 50) (i : Nat) (hi : i < 5) : asmL (kindL k) (((eHead a ++ repB [10] b) ++ eT.getD i []) ++ 10 :: eB) 0 = ([], a + b + 2, eW.getD i 0) := by
  obtain ⟨x, br, c, h⟩ := ek_of k
  rw [List.append_assoc, List.append_assoc]
  exact e_text h (kindL_12 k) ha hb i hi
theorem er_twice (k : Nat) {a b : Nat} (ha : a < 50) (hb : b < 50) : asmL (kindL k) (((eHead a ++ [115, 121, 115, 32, 121, 10]) ++ repB [10] b) ++ [120, 58]) 0 = ([], a + b + 3, 22) := by
  obtain ⟨x, br, c, h⟩ := ek_of k
  rw [List.append_assoc, List.append_assoc]
  exact e_twice h (kindL_12 k) ha hb
theorem er_arg {k : Nat} {t : Bs} : asmL ((k + 3 : Nat) : Int) t 0 = ([], 0, 1) := if_pos ⟨by omega, by omega⟩
abbrev eTv : List Value := [.string ⟨#[120, 58, 32, 98, 114, 101, 97, 107]⟩, .string ⟨#[115, 121, 115, 32, 121]⟩, .string ⟨#[98, 97, 107, 101, 32, 114, 49]⟩, .string ⟨#[115, 121, 115, 32, 52, 50, 57, 52, 57, 54, 55, 50, 57, 54]⟩, .string ⟨#[121, 58, 32, 115, 121, 115, 32, 120, 32, 120]⟩]
abbrev eWv : List Value := [.int .i64 22, .int .i64 14, .int .i64 20, .int .i64 24, .int .i64 20]
theorem eT_at : ∀ i : Nat, i < 5 → ([.string ⟨#[120, 58, 32, 98, 114, 101, 97, 107]⟩, .string ⟨#[115, 121, 115, 32, 121]⟩, .string ⟨#[98, 97, 107, 101, 32, 114, 49]⟩, .string ⟨#[115, 121, 115, 32, 52, 50, 57, 52, 57, 54, 55, 50, 57, 54]⟩, .string ⟨#[121, 58, 32, 115, 121, 115, 32, 120, 32, 120]⟩] : List Value)[0 + i * 1]? = some (.string ⟨(eT.getD i []).toArray⟩)
  | 0, _ => rfl
  | 1, _ => rfl
  | 2, _ => rfl
  | 3, _ => rfl
  | 4, _ => rfl
  | i + 5, h => absurd h (by omega)
theorem eW_at : ∀ i : Nat, i < 5 → ([.int .i64 22, .int .i64 14, .int .i64 20, .int .i64 24, .int .i64 20] : List Value)[0 + i * 1]? = some (.int .i64 (eW.getD i 0 : Nat))
  | 0, _ => rfl
  | 1, _ => rfl
  | 2, _ => rfl
  | 3, _ => rfl
  | 4, _ => rfl
  | i + 5, h => absurd h (by omega)
theorem eT_ln : ∀ i : Nat, i < 5 → (eT.getD i []).length ≤ 20 := by decide
theorem tmodN (n k : Nat) (_hk : 0 < k) : ((n : Int)).tmod (k : Int) = ((n % k : Nat) : Int) := by
  rw [Int.tmod_eq_emod_of_nonneg (by omega)]; rfl
set_option maxHeartbeats 2000000 in
set_option maxRecDepth 100000 in
theorem errors_law (k n0 n1 : Nat) (hk : k < 256) (w_0 : World) (hw0 : WOk w_0) : Calls Tryz.prog 6 #[.int .u8 k, .agg #[.int .u8 n0, .int .u8 n1]] w_0 fun e w' => e = .returned (.bool true) ∧ Ext w_0 w' := by
  obtain ⟨a, ha⟩ : ∃ a, a = n0 % 50 := ⟨_, rfl⟩
  obtain ⟨b, hb⟩ : ∃ b, b = n1 % 50 := ⟨_, rfl⟩
  have ha50 : a < 50 := by omega
  have hb50 : b < 50 := by omega
  have hA1000 : a ≤ 1000 := by omega
  have hAl : (eA ++ ([10] : Bs)).length ≤ 1000 := by rw [show (eA ++ ([10] : Bs)).length = 14 from rfl]; decide
  have hlA : (repB (eA ++ [10]) a).length ≤ 1000 := by rw [repB_len, show (eA ++ ([10] : Bs)).length = 14 from rfl]; omega
  have hlB : (repB [10] b).length ≤ 1000 := by rw [repB_len, show ([10] : Bs).length = 1 from rfl]; omega
  have hB1000 : b ≤ 1000 := by omega
  have hBl : ([10] : Bs).length ≤ 1000 := by decide
  have hH : (eHead a).length = 9 + (repB (eA ++ [10]) a).length := by
    show ((eX ++ [10]) ++ repB (eA ++ [10]) a).length = _
    rw [List.length_append]; rfl
  refine calls_wc (args := [Value.int .u8 k, Value.agg [Value.int .u8 n0, Value.int .u8 n1].toArray]) Tryz.func6 rfl 124 rfl (Nat.le_of_ble_eq_true rfl) ?_
  refine wc_weak (.cons (i := 0) rfl <| .cons (i := 1) rfl <| .nil) ?_
  refine wc_conseq (H' := Hp (fun _ => False) w_0 [] [] (fun _ => True)) (fun u hu => ?_) ?_
  · subst hu; exact Hp.start0
  refine wc_seq ?_
  refine wc_region ?_
  refine wl_new .none rfl (nf_box rfl rfl) (fun b3 => ?_)
  refine wl_free .none rfl (yf_assign rfl) ?_
  refine wl_nil ?_
  refine wq_then ?_
  refine wc_seq ?_
  refine wc_region ?_
  refine wl_pure .none rfl  (v := .bool true) (by kernel_rfl) rfl (fun w hw => sanity_any w (hw0.ext hw.ext0)) ?_
  refine wl_free .none rfl (yf_assign rfl) ?_
  refine wl_nil ?_
  refine wq_then ?_
  refine wc_seq ?_
  refine wc_weak (.cons (i := 0) rfl <| .cons (i := 1) rfl <| .cons (i := 3) rfl <| .cons (i := 4) rfl <| .cons (i := 5) rfl <| .nil) ?_
  refine wc_region ?_
  (refine wl_free .none rfl (yf_indexAddrA (j := 0) (es := 1) rfl rfl Tryz.underlying33 (by kernel_rfl) rfl ?_ rfl) ?_; (· first | decide | omega | (simp; done) | (simp; omega)); skip)
  refine wl_free .none rfl (yf_loadL 0 rfl rfl rfl Tryz.underlying5 rfl) ?_
  (refine wl_free .none rfl (yf_rem rfl rfl ?_ ((tmodN n0 50 (by decide)).trans (by rw [← ha]))) ?_; (· first | decide | omega); skip)
  (refine wl_free .none rfl (yf_conv rfl (by kernel_rfl) Tryz.underlying3 (i64_in _ ?_ ?_)) ?_; (· omega); (· omega); skip)
  refine wl_free .none rfl (yf_assign rfl) ?_
  refine wl_nil ?_
  refine wq_then ?_
  refine wc_seq ?_
  refine wc_weak (.cons (i := 0) rfl <| .cons (i := 1) rfl <| .cons (i := 3) rfl <| .cons (i := 4) rfl <| .cons (i := 5) rfl <| .cons (i := 6) rfl <| .nil) ?_
  refine wc_region ?_
  (refine wl_free .none rfl (yf_indexAddrA (j := 1) (es := 1) rfl rfl Tryz.underlying33 (by kernel_rfl) rfl ?_ rfl) ?_; (· first | decide | omega | (simp; done) | (simp; omega)); skip)
  refine wl_free .none rfl (yf_loadL 0 rfl rfl rfl Tryz.underlying5 rfl) ?_
  (refine wl_free .none rfl (yf_rem rfl rfl ?_ ((tmodN n1 50 (by decide)).trans (by rw [← hb]))) ?_; (· first | decide | omega); skip)
  (refine wl_free .none rfl (yf_conv rfl (by kernel_rfl) Tryz.underlying3 (i64_in _ ?_ ?_)) ?_; (· omega); (· omega); skip)
  refine wl_free .none rfl (yf_assign rfl) ?_
  refine wl_nil ?_
  refine wq_then ?_
  refine wc_seq ?_
  refine wc_weak (.cons (i := 0) rfl <| .cons (i := 1) rfl <| .cons (i := 3) rfl <| .cons (i := 4) rfl <| .cons (i := 5) rfl <| .cons (i := 6) rfl <| .cons (i := 7) rfl <| .nil) ?_
  refine wc_region ?_
  refine wl_free .none rfl (yf_move rfl) ?_
  refine wl_pure .none rfl  (v := .string ⟨(repB (eA ++ [10]) a).toArray⟩) (by kernel_rfl) rfl (fun w hw => repeat_any (eA ++ [10]) a hA1000 hAl w) ?_
  refine wl_free .none rfl  (v := .string ⟨(eHead a).toArray⟩) (yf_str_add rfl rfl ?_) ?_
  · rw [show (eX ++ ([10] : Bs)).length = 9 from rfl]; omega
  refine wl_free .none rfl (yf_assign rfl) ?_
  refine wl_nil ?_
  refine wq_then ?_
  refine wc_seq ?_
  refine wc_weak (.cons (i := 0) rfl <| .cons (i := 1) rfl <| .cons (i := 3) rfl <| .cons (i := 4) rfl <| .cons (i := 5) rfl <| .cons (i := 6) rfl <| .cons (i := 7) rfl <| .cons (i := 8) rfl <| .nil) ?_
  refine wc_region ?_
  refine wl_free .none rfl (yf_move rfl) ?_
  refine wl_pure .none rfl  (v := .string ⟨(repB [10] b).toArray⟩) (by kernel_rfl) rfl (fun w hw => repeat_any [10] b hB1000 hBl w) ?_
  refine wl_free .none rfl (yf_assign rfl) ?_
  refine wl_nil ?_
  refine wq_then ?_
  refine wc_seq ?_
  refine wc_weak (.cons (i := 0) rfl <| .cons (i := 1) rfl <| .cons (i := 3) rfl <| .cons (i := 4) rfl <| .cons (i := 5) rfl <| .cons (i := 6) rfl <| .cons (i := 7) rfl <| .cons (i := 8) rfl <| .cons (i := 9) rfl <| .nil) ?_
  refine wc_region ?_
  refine wl_free .none rfl (yf_build (cells := #[.string ⟨#[120, 58, 32, 98, 114, 101, 97, 107]⟩, .string ⟨#[115, 121, 115, 32, 121]⟩, .string ⟨#[98, 97, 107, 101, 32, 114, 49]⟩, .string ⟨#[115, 121, 115, 32, 52, 50, 57, 52, 57, 54, 55, 50, 57, 54]⟩, .string ⟨#[121, 58, 32, 115, 121, 115, 32, 120, 32, 120]⟩]) rfl (by kernel_rfl)) ?_
  refine wl_new .none rfl (nf_alloc (z := .agg #[.string ⟨#[]⟩, .string ⟨#[]⟩, .string ⟨#[]⟩, .string ⟨#[]⟩, .string ⟨#[]⟩]) (cs := [.string ⟨#[]⟩, .string ⟨#[]⟩, .string ⟨#[]⟩, .string ⟨#[]⟩, .string ⟨#[]⟩]) (by kernel_rfl) rfl) (fun b10 => ?_)
  refine wl_chain0 .none (cf_storeRow 0 rfl rfl rfl rfl rfl (by kernel_rfl)) (fun _ => ?_)
  refine wl_nil ?_
  refine wq_then ?_
  refine wc_seq ?_
  refine wc_weak (.cons (i := 0) rfl <| .cons (i := 1) rfl <| .cons (i := 3) rfl <| .cons (i := 4) rfl <| .cons (i := 5) rfl <| .cons (i := 6) rfl <| .cons (i := 7) rfl <| .cons (i := 8) rfl <| .cons (i := 9) rfl <| .cons (i := 10) rfl <| .nil) ?_
  refine wc_region ?_
  refine wl_free .none rfl (yf_build (cells := #[.int .i64 22, .int .i64 14, .int .i64 20, .int .i64 24, .int .i64 20]) rfl (by kernel_rfl)) ?_
  refine wl_new .none rfl (nf_alloc (z := .agg #[.int .i64 0, .int .i64 0, .int .i64 0, .int .i64 0, .int .i64 0]) (cs := [.int .i64 0, .int .i64 0, .int .i64 0, .int .i64 0, .int .i64 0]) (by kernel_rfl) rfl) (fun b11 => ?_)
  refine wl_chain0 .none (cf_storeRow 0 rfl rfl rfl rfl rfl (by kernel_rfl)) (fun _ => ?_)
  refine wl_nil ?_
  refine wq_then ?_
  refine wc_seq ?_
  refine wc_seq ?_
  refine wc_weak (.cons (i := 0) rfl <| .cons (i := 1) rfl <| .cons (i := 3) rfl <| .cons (i := 4) rfl <| .cons (i := 5) rfl <| .cons (i := 6) rfl <| .cons (i := 7) rfl <| .cons (i := 8) rfl <| .cons (i := 9) rfl <| .cons (i := 10) rfl <| .cons (i := 11) rfl <| .nil) ?_
  refine wc_region ?_
  refine wl_free .none rfl (yf_assign rfl) ?_
  refine wl_nil ?_
  refine wq_then ?_
  refine wc_block ?_
  refine wc_loop (ι := {i : Nat // i ≤ 5}) (fun i => [(0, .int .u8 k), (4, .bool false), (5, .bool true), (6, .int .i64 (a : Nat)), (7, .int .i64 (b : Nat)), (8, .string ⟨(eHead a).toArray⟩), (9, .string ⟨(repB [10] b).toArray⟩), (10, .pointer (some ⟨b10, 0, none⟩)), (11, .pointer (some ⟨b11, 0, none⟩)), (12, .int .i64 (i.1 : Nat))]) (fun _ => Hp (fun _ => False) w_0 [(b11, bk 49 eWv), (b10, bk 48 eTv)] [] (fun _ => True)) (fun i => 5 - i.1) ⟨0, Nat.zero_le _⟩ (.cons rfl <| .cons rfl <| .cons rfl <| .cons rfl <| .cons rfl <| .cons rfl <| .cons rfl <| .cons rfl <| .cons rfl <| .cons rfl <| .nil) (fun w h => Hp.drop h (.cons_cons _ (.cons_cons _ (.cons _ .slnil))) .slnil) (fun i => ?_)
  obtain ⟨i, hi⟩ := i
  dsimp only
  refine wc_seq ?_
  refine wc_seq ?_
  refine wc_region ?_
  refine wl_free .none rfl (yf_move rfl) ?_
  refine wl_free .none rfl (yf_lss rfl rfl) ?_
  refine wl_nil ?_
  refine wq_then ?_
  refine wc_cond rfl (fun h39 => ?_) (fun h39 => ?_)
  · replace h39 := of_decide_eq_true h39
    have hi5 : i < 5 := by omega
    have hTl := eT_ln i hi5
    have hTx := er_text k ha50 hb50 i hi5
    refine wc_skip ?_
    refine wq_then ?_
    refine wc_seq ?_
    refine wc_block ?_
    refine wc_seq ?_
    refine wc_weak (.cons (i := 0) rfl <| .cons (i := 4) rfl <| .cons (i := 5) rfl <| .cons (i := 6) rfl <| .cons (i := 7) rfl <| .cons (i := 8) rfl <| .cons (i := 9) rfl <| .cons (i := 10) rfl <| .cons (i := 11) rfl <| .cons (i := 12) rfl <| .cons (i := 39) rfl <| .nil) ?_
    refine wc_drawN [0, 1, 2, 3, 4, 5, 6, 7, 8, 9, 10, 11, 12, 13, 14, 15, 16, 17] (J2 b11 b10 (bk 49 eWv) (bk 48 eTv)) (by kernel_rfl) (by kernel_rfl) J2.stab (fun w h => ⟨HpG.blk h (k := 0) rfl, HpG.blk h (k := 1) rfl⟩) (fun n0 hn0 => ?_)
    refine wd_at rfl ?_
    (refine wd_free ?_ .none rfl (yf_move rfl) ?_; (· rfl);  skip)
    refine wd_at rfl ?_
    refine wd_pure .none rfl  (v := .int .i64 (kindL k)) (by kernel_rfl) rfl J2.ext (fun w hw => kind_any k w) ?_
    refine wd_at rfl ?_
    (refine wd_free ?_ .none rfl (yf_move rfl) ?_; (· rfl);  skip)
    refine wd_at rfl ?_
    (refine wd_free ?_ .none rfl (yf_move rfl) ?_; (· rfl);  skip)
    refine wd_at rfl ?_
    (refine wd_free ?_ .none rfl (yf_str_add rfl rfl ?_) ?_; (· rfl); (· omega); skip)
    refine wd_at rfl ?_
    (refine wd_free ?_ .none rfl (yf_move rfl) ?_; (· rfl);  skip)
    refine wd_at rfl ?_
    (refine wd_free ?_ .none rfl (yf_indexAddrA (es := 1) rfl rfl Tryz.underlying48 (by kernel_rfl) rfl ?_ rfl) ?_; (· rfl); (· first | decide | omega | (simp; done) | (simp; omega)); skip)
    refine wd_at rfl ?_
    (refine wd_free ?_ .none rfl (yf_load (v := .string ⟨(eT.getD i []).toArray⟩) rfl Tryz.underlying9 rfl (fun w h => by rw [cell_of_row w b10 _ _ _ _ h.2, List.getElem?_toArray]; exact eT_at i hi5)) ?_; (· rfl);  skip)
    refine wd_at rfl ?_
    (refine wd_free ?_ .none rfl (yf_str_add rfl rfl ?_) ?_; (· rfl); (· (rw [List.length_append]; omega)); skip)
    refine wd_at rfl ?_
    (refine wd_free ?_ .none rfl (yf_str_add rfl rfl ?_) ?_; (· rfl); (· (rw [List.length_append, List.length_append, show ([10, 98, 114, 101, 97, 107] : Bs).length = 6 from rfl]; omega)); skip)
    refine wd_at rfl ?_
    refine wd_pure .none rfl  (v := .tuple #[.string ⟨([] : Bs).toArray⟩, .int .i64 (a + b + 2 : Nat), .int .i64 (eW.getD i 0 : Nat)]) (by kernel_rfl) rfl J2.ext (fun w hw => asm_is hTx (by decide) (hw0.ext hw.ext0)) ?_
    refine wd_at rfl ?_
    (refine wd_free ?_ .none rfl (yf_move rfl) ?_; (· rfl);  skip)
    refine wd_at rfl ?_
    (refine wd_free ?_ .none rfl (yf_extract rfl rfl) ?_; (· rfl);  skip)
    refine wd_at rfl ?_
    (refine wd_free ?_ .none rfl (yf_extract rfl rfl) ?_; (· rfl);  skip)
    refine wd_at rfl ?_
    (refine wd_free ?_ .none rfl (yf_extract rfl rfl) ?_; (· rfl);  skip)
    refine wd_at rfl ?_
    (refine wd_free ?_ .none rfl (yf_assign rfl) ?_; (· rfl);  skip)
    refine wd_at rfl ?_
    (refine wd_free ?_ .none rfl (yf_assign rfl) ?_; (· rfl);  skip)
    refine wd_at rfl ?_
    (refine wd_free ?_ .none rfl (yf_assign rfl) ?_; (· rfl);  skip)
    refine wd_endH ?_
    refine wq_then ?_
    refine wc_seq ?_
    refine wc_weak (.cons (i := 0) rfl <| .cons (i := 4) rfl <| .cons (i := 5) rfl <| .cons (i := 6) rfl <| .cons (i := 7) rfl <| .cons (i := 8) rfl <| .cons (i := 9) rfl <| .cons (i := 10) rfl <| .cons (i := 11) rfl <| .cons (i := 12) rfl <| .cons (i := 13) rfl <| .cons (i := 14) rfl <| .cons (i := 15) rfl <| .cons (i := 39) rfl <| .nil) ?_
    refine wc_region ?_
    refine wl_free .none rfl (yf_move rfl) ?_
    refine wl_free .none rfl (yf_strs_neq rfl rfl Tryz.underlying9) ?_
    refine wl_free .none rfl (yf_move rfl) ?_
    refine wl_split 59 rfl (fun hb => ?_) (fun hb => ?_)
    · skip
      exact absurd hb (by decide)
    · skip
      refine wl_free (.some rfl rfl) rfl (yf_move rfl) ?_
      refine wl_free (.some rfl rfl) rfl (yf_move rfl) ?_
      refine wl_free (.some rfl rfl) rfl (yf_move rfl) ?_
      (refine wl_free (.some rfl rfl) rfl (yf_add rfl rfl (i64_in _ ?_ ?_)) ?_; (· omega); (· omega); skip)
      (refine wl_free (.some rfl rfl) rfl (yf_add rfl rfl (i64_in _ ?_ ?_)) ?_; (· omega); (· omega); skip)
      refine wl_free (.some rfl rfl) rfl (yf_neq rfl rfl) ?_
      refine wl_free .none rfl (yf_pickF rfl rfl) ?_
      refine wl_free .none rfl (yf_move rfl) ?_
      refine wl_split 67 rfl (fun hb => ?_) (fun hb => ?_)
      · replace hb := bne_yes hb
        exact absurd hb (by simp)
      · replace hb := bne_no hb
        refine wl_free (.some rfl rfl) rfl (yf_move rfl) ?_
        refine wl_free (.some rfl rfl) rfl (yf_move rfl) ?_
        (refine wl_free (.some rfl rfl) rfl (yf_indexAddrA (es := 1) rfl rfl Tryz.underlying49 (by kernel_rfl) rfl ?_ rfl) ?_; (· first | decide | omega | (simp; done) | (simp; omega)); skip)
        refine wl_free (.some rfl rfl) rfl (yf_loadL 0 rfl rfl (eW_at i hi5) Tryz.underlying25 rfl) ?_
        refine wl_free (.some rfl rfl) rfl (yf_neq rfl rfl) ?_
        refine wl_free .none rfl (yf_pickF rfl rfl) ?_
        refine wl_nil ?_
        refine wq_then ?_
        refine wc_cond rfl (fun hc => ?_) (fun hc => ?_)
        · replace hc := bne_yes hc
          simp at hc
        · replace hc := bne_no hc
          refine wc_skip ?_
          refine wq_block ?_
          refine wq_then ?_
          refine wc_weak (.cons (i := 0) rfl <| .cons (i := 4) rfl <| .cons (i := 5) rfl <| .cons (i := 6) rfl <| .cons (i := 7) rfl <| .cons (i := 8) rfl <| .cons (i := 9) rfl <| .cons (i := 10) rfl <| .cons (i := 11) rfl <| .cons (i := 12) rfl <| .cons (i := 13) rfl <| .cons (i := 14) rfl <| .cons (i := 15) rfl <| .cons (i := 39) rfl <| .cons (i := 73) rfl <| .nil) ?_
          refine wc_region ?_
          refine wl_free .none rfl (yf_move rfl) ?_
          refine wl_free .none rfl (yf_add rfl rfl (show IntKind.i64.wrap ((i : Int) + 1) = ((i + 1 : Nat) : Int) from i64_in ((i + 1 : Nat) : Int) (by omega) (by omega))) ?_
          refine wl_free .none rfl (yf_assign rfl) ?_
          refine wl_nil ?_
          exact wq_round (ι := {i : Nat // i ≤ 5}) ⟨i + 1, by omega⟩ (by show 5 - (i + 1) < 5 - i; omega) (.cons rfl <| .cons rfl <| .cons rfl <| .cons rfl <| .cons rfl <| .cons rfl <| .cons rfl <| .cons rfl <| .cons rfl <| .cons rfl <| .nil) (fun w h => h)
  · replace h39 := of_decide_eq_false h39
    refine wc_exit ?_
    refine wq_then_exit ?_
    refine wq_then_exit ?_
    refine wq_here ?_
    refine wq_then ?_
    refine wc_seq ?_
    refine wc_weak (.cons (i := 0) rfl <| .cons (i := 4) rfl <| .cons (i := 5) rfl <| .cons (i := 6) rfl <| .cons (i := 7) rfl <| .cons (i := 8) rfl <| .cons (i := 9) rfl <| .cons (i := 10) rfl <| .cons (i := 11) rfl <| .cons (i := 12) rfl <| .cons (i := 39) rfl <| .nil) ?_
    refine wc_region ?_
    refine wl_free .none rfl (yf_move rfl) ?_
    refine wl_pure .none rfl  (v := .int .i64 (kindL k)) (by kernel_rfl) rfl (fun w hw => kind_any k w) ?_
    refine wl_free .none rfl (yf_move rfl) ?_
    (refine wl_free .none rfl (yf_str_add rfl rfl ?_) ?_; (· (rw [show ([115, 121, 115, 32, 121, 10] : Bs).length = 6 from rfl]; omega)); skip)
    refine wl_free .none rfl (yf_move rfl) ?_
    (refine wl_free .none rfl (yf_str_add rfl rfl ?_) ?_; (· (rw [List.length_append, show ([115, 121, 115, 32, 121, 10] : Bs).length = 6 from rfl]; omega)); skip)
    (refine wl_free .none rfl (yf_str_add rfl rfl ?_) ?_; (· (rw [List.length_append, List.length_append, show ([115, 121, 115, 32, 121, 10] : Bs).length = 6 from rfl, show ([120, 58] : Bs).length = 2 from rfl]; omega)); skip)
    refine wl_pure .none rfl  (by kernel_rfl) rfl (fun w hw => asm_is (er_twice k ha50 hb50) (by decide) (hw0.ext hw.ext0)) ?_
    refine wl_free .none rfl (yf_move rfl) ?_
    refine wl_free .none rfl (yf_extract rfl rfl) ?_
    refine wl_free .none rfl (yf_extract rfl rfl) ?_
    refine wl_free .none rfl (yf_extract rfl rfl) ?_
    refine wl_free .none rfl (yf_assign rfl) ?_
    refine wl_free .none rfl (yf_assign rfl) ?_
    refine wl_free .none rfl (yf_assign rfl) ?_
    refine wl_nil ?_
    refine wq_then ?_
    refine wc_seq ?_
    refine wc_weak (.cons (i := 0) rfl <| .cons (i := 4) rfl <| .cons (i := 5) rfl <| .cons (i := 6) rfl <| .cons (i := 7) rfl <| .cons (i := 8) rfl <| .cons (i := 9) rfl <| .cons (i := 10) rfl <| .cons (i := 11) rfl <| .cons (i := 12) rfl <| .cons (i := 16) rfl <| .cons (i := 17) rfl <| .cons (i := 18) rfl <| .cons (i := 39) rfl <| .nil) ?_
    refine wc_region ?_
    refine wl_free .none rfl (yf_move rfl) ?_
    (refine wl_free .none rfl (yf_conv rfl (by kernel_rfl) Tryz.underlying3 (i64_in _ ?_ ?_)) ?_; (· omega); (· omega); skip)
    refine wl_free .none rfl (yf_add rfl rfl (show IntKind.i64.wrap ((k : Int) + 3) = ((k + 3 : Nat) : Int) from i64_in ((k + 3 : Nat) : Int) (by omega) (by omega))) ?_
    refine wl_free .none rfl (yf_move rfl) ?_
    refine wl_pure .none rfl  (by kernel_rfl) rfl (fun w hw => asm_is (er_arg (k := k)) (by decide) (hw0.ext hw.ext0)) ?_
    refine wl_free .none rfl (yf_move rfl) ?_
    refine wl_free .none rfl (yf_extract rfl rfl) ?_
    refine wl_free .none rfl (yf_extract rfl rfl) ?_
    refine wl_free .none rfl (yf_extract rfl rfl) ?_
    refine wl_free .none rfl (yf_assign rfl) ?_
    refine wl_free .none rfl (yf_assign rfl) ?_
    refine wl_free .none rfl (yf_assign rfl) ?_
    refine wl_nil ?_
    refine wq_then ?_
    refine wc_seq ?_
    refine wc_weak (.cons (i := 0) rfl <| .cons (i := 4) rfl <| .cons (i := 5) rfl <| .cons (i := 6) rfl <| .cons (i := 7) rfl <| .cons (i := 8) rfl <| .cons (i := 9) rfl <| .cons (i := 10) rfl <| .cons (i := 11) rfl <| .cons (i := 12) rfl <| .cons (i := 16) rfl <| .cons (i := 17) rfl <| .cons (i := 18) rfl <| .cons (i := 19) rfl <| .cons (i := 20) rfl <| .cons (i := 21) rfl <| .cons (i := 39) rfl <| .nil) ?_
    refine wc_region ?_
    refine wl_free .none rfl (yf_move rfl) ?_
    refine wl_free .none rfl (yf_move rfl) ?_
    refine wl_split 96 rfl (fun hb => ?_) (fun hb => ?_)
    · skip
      refine wl_free (.some rfl rfl) rfl (yf_move rfl) ?_
      refine wl_free (.some rfl rfl) rfl (yf_strs_eql rfl rfl Tryz.underlying9) ?_
      refine wl_free .none rfl (yf_pickT rfl rfl) ?_
      refine wl_free .none rfl (yf_move rfl) ?_
      refine wl_split 100 rfl (fun hb => ?_) (fun hb => ?_)
      · skip
        refine wl_free (.some rfl rfl) rfl (yf_move rfl) ?_
        refine wl_free (.some rfl rfl) rfl (yf_move rfl) ?_
        refine wl_free (.some rfl rfl) rfl (yf_move rfl) ?_
        (refine wl_free (.some rfl rfl) rfl (yf_add rfl rfl (i64_in _ ?_ ?_)) ?_; (· omega); (· omega); skip)
        (refine wl_free (.some rfl rfl) rfl (yf_add rfl rfl (i64_in _ ?_ ?_)) ?_; (· omega); (· omega); skip)
        refine wl_free (.some rfl rfl) rfl (yf_eql rfl rfl) ?_
        refine wl_free .none rfl (yf_pickT rfl rfl) ?_
        refine wl_free .none rfl (yf_move rfl) ?_
        refine wl_split 108 rfl (fun hb => ?_) (fun hb => ?_)
        · replace hb := eq_of_beq hb
          refine wl_free (.some rfl rfl) rfl (yf_move rfl) ?_
          refine wl_free (.some rfl rfl) rfl (yf_eql rfl rfl) ?_
          refine wl_free .none rfl (yf_pickT rfl rfl) ?_
          refine wl_free .none rfl (yf_move rfl) ?_
          refine wl_split 112 rfl (fun hb => ?_) (fun hb => ?_)
          · replace hb := eq_of_beq hb
            refine wl_free (.some rfl rfl) rfl (yf_move rfl) ?_
            refine wl_free (.some rfl rfl) rfl (yf_strs_eql rfl rfl Tryz.underlying9) ?_
            refine wl_free .none rfl (yf_pickT rfl rfl) ?_
            refine wl_free .none rfl (yf_move rfl) ?_
            refine wl_split 116 rfl (fun hb => ?_) (fun hb => ?_)
            · skip
              refine wl_free (.some rfl rfl) rfl (yf_move rfl) ?_
              refine wl_free (.some rfl rfl) rfl (yf_eql rfl rfl) ?_
              refine wl_free .none rfl (yf_pickT rfl rfl) ?_
              refine wl_free .none rfl (yf_move rfl) ?_
              refine wl_split 120 rfl (fun hb => ?_) (fun hb => ?_)
              · replace hb := eq_of_beq hb
                refine wl_free (.some rfl rfl) rfl (yf_move rfl) ?_
                refine wl_free (.some rfl rfl) rfl (yf_eql rfl rfl) ?_
                refine wl_free .none rfl (yf_pickT rfl rfl) ?_
                refine wl_free .none rfl (yf_assign rfl) ?_
                refine wl_nil ?_
                refine wq_then ?_
                refine wc_ret ?_
                refine wq_ret1 rfl rfl (fun w hw => ?_)
                exact ⟨by simp, hw.ext0⟩
              · replace hb := beq_no hb
                first | exact absurd hb (by decide) | (simp at hb; omega) | (simp at hb)
            · skip
              first | exact absurd hb (by decide) | (simp at hb; omega) | (simp at hb)
          · replace hb := beq_no hb
            first | exact absurd hb (by decide) | (simp at hb; omega) | (simp at hb)
        · replace hb := beq_no hb
          first | exact absurd hb (by decide) | (simp at hb; omega) | (simp at hb)
      · skip
        first | exact absurd hb (by decide) | (simp at hb; omega) | (simp at hb)
    · skip
      first | exact absurd hb (by decide) | (simp at hb; omega) | (simp at hb)
end Go.Proofs.YtkaepknpplhgkaaGreatDoor
