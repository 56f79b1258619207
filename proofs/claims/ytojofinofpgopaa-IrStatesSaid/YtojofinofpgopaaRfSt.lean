/- States and variables: Enter and Leave of the reference. -/
import Derived.Test.YtojofinofpgopaaSxJ
import Derived.Test.YtojofinofpgopaaStB
namespace Go.Proofs.Ytojofinofpgopaa
open Go.RowKit
def eL (k : Int) (r : List Int) : Nat → List Int
  | 0 => z28
  | i + 1 => if (k = 1 ∧ i < 8) ∨ (k = 2 ∧ 0 < i) then (eL k r i).set i (r.getD i 0) else eL k r i
theorem eL_len (k : Int) (r : List Int) : ∀ i, (eL k r i).length = 28
  | 0 => rfl
  | i + 1 => by
    unfold eL
    split
    · rw [List.length_set]; exact eL_len k r i
    · exact eL_len k r i
theorem eL_put {k : Int} {r : List Int} {i o : Nat} (h : (k = 1 ∧ i < 8) ∨ (k = 2 ∧ 0 < i)) (ho : o = i) : (u32s (eL k r i)).set o (.int .u32 (r.getD i 0)) = u32s (eL k r (i + 1)) := by
  subst ho
  show _ = u32s (if _ then _ else _)
  rw [if_pos h, u32s, u32s, List.map_set]
theorem eL_no {k : Int} {r : List Int} {i : Nat} (h : ¬ ((k = 1 ∧ i < 8) ∨ (k = 2 ∧ 0 < i))) : eL k r i = eL k r (i + 1) := by
  show _ = (if _ then _ else _)
  rw [if_neg h]
theorem eL_zero {k : Int} {r : List Int} (h1 : ¬ k = 1) (h2 : ¬ k = 2) : ∀ i, eL k r i = z28
  | 0 => rfl
  | i + 1 => by rw [← eL_no (by omega)]; exact eL_zero h1 h2 i
theorem eL_end1 {s : MSt} (h : s.r.length = 16) : (eL 1 s.r 16).set 17 (bits .and .u32 s.f 15) = enterL 1 s := by
  obtain ⟨pc, r, f, c, st, du⟩ := s
  match r, h with
  | [a0, a1, a2, a3, a4, a5, a6, a7, a8, a9, a10, a11, a12, a13, a14, a15], _ => rfl
theorem eL_end {k : Int} {s : MSt} (h : s.r.length = 16) (hk : ¬ k = 1) : eL k s.r 16 = enterL k s := by
  by_cases h2 : k = 2
  · subst h2
    obtain ⟨pc, r, f, c, st, du⟩ := s
    match r, h with
    | [a0, a1, a2, a3, a4, a5, a6, a7, a8, a9, a10, a11, a12, a13, a14, a15], _ => rfl
  · rw [eL_zero hk h2, enterL, if_neg hk, if_neg h2]
theorem stL_at {s : MSt} (h : s.r.length = 16) {i o : Nat} (hi : i < 16) (ho : o = 1 + i) : (stL s)[o]? = some (.int .u32 (s.r.getD i 0)) := by
  subst ho
  refine stL_r ?_
  rw [u32s, List.getElem?_map, List.getElem?_eq_getElem (by omega), List.getD_eq_getElem?_getD, List.getElem?_eq_getElem (by omega)]; rfl
theorem u32s_at {l : List Int} {i o : Nat} (hi : i < l.length) (ho : o = i) : (u32s l)[o]? = some (.int .u32 (l.getD i 0)) := by
  subst ho
  rw [u32s, List.getElem?_map, List.getElem?_eq_getElem (by omega), List.getD_eq_getElem?_getD, List.getElem?_eq_getElem (by omega)]; rfl
theorem row_all {cs seg : List Value} (h : seg.length = cs.length) : cs.take 0 ++ seg ++ cs.drop (0 + seg.length) = seg := by
  rw [Nat.zero_add, h, List.drop_length]; simp
theorem u28s {cs : List Value} (h : cs.length = 28) : (Try.prog.info? 37).map (·.size) = some cs.length := by rw [h]; kernel_rfl
theorem st24 {cs : List Value} (h : cs.length = 24) : (Try.prog.info? 75).map (·.size) = some cs.length := by rw [h]; kernel_rfl
theorem blt_of {a b : Nat} (h : a < b) : Nat.blt a b = true := by simpa [Nat.blt_eq] using h
theorem ble_of {a b : Nat} (h : a ≤ b) : Nat.ble a b = true := Nat.ble_eq_true_of_le h
theorem u32s_all (l : List Int) : (u32s l).all (·.oneCell') = true := by simp [u32s, Value.oneCell']
theorem set_all' {l : List Value} {i : Nat} {v : Value} (h : l.all (·.oneCell') = true) (hv : v.oneCell' = true) : (l.set i v).all (·.oneCell') = true := by
  rw [List.all_eq_true] at h ⊢
  intro x hx
  rcases List.mem_or_eq_of_mem_set hx with hx | rfl
  · exact h x hx
  · exact hv
abbrev zC (n : Nat) : List Value := u32s (List.replicate n 0)
set_option maxRecDepth 100000 in
set_option maxHeartbeats 4000000 in
theorem refEnter_any (k : Int) (s : MSt) (w : World) (h : StOk s) : Calls Try.prog 42 #[.int .i64 k, stV s] w fun e w' => e = .returned (.agg (u32s (enterL k s)).toArray) ∧ Ext w w' := by
  have h16 := h.r16
  refine calls_wc (args := [.int .i64 k, stV s]) Try.func42 rfl 38 rfl (Nat.le_of_ble_eq_true rfl) ?_
  refine wc_weak (.cons (i := 0) rfl <| .cons (i := 1) rfl <| .nil) ?_
  refine wc_conseq (H' := Hp (fun _ => False) w [] [] (fun _ => True)) (fun u hu => ?_) ?_
  · subst hu; exact Hp.start0
  refine wc_seq ?_
  refine wc_region ?_
  refine wl_new .none rfl (nf_box rfl rfl) (fun b3 => ?_)
  refine wl_new .none rfl (nf_alloc (z := .agg #[.int .u32 0, .int .u32 0, .int .u32 0, .int .u32 0, .int .u32 0, .int .u32 0, .int .u32 0, .int .u32 0, .int .u32 0, .int .u32 0, .int .u32 0, .int .u32 0, .int .u32 0, .int .u32 0, .int .u32 0, .int .u32 0, .int .u32 0, .int .u32 0, .int .u32 0, .int .u32 0, .int .u32 0, .int .u32 0, .int .u32 0, .int .u32 0, .int .u32 0, .int .u32 0, .int .u32 0, .int .u32 0]) (cs := [.int .u32 0, .int .u32 0, .int .u32 0, .int .u32 0, .int .u32 0, .int .u32 0, .int .u32 0, .int .u32 0, .int .u32 0, .int .u32 0, .int .u32 0, .int .u32 0, .int .u32 0, .int .u32 0, .int .u32 0, .int .u32 0, .int .u32 0, .int .u32 0, .int .u32 0, .int .u32 0, .int .u32 0, .int .u32 0, .int .u32 0, .int .u32 0, .int .u32 0, .int .u32 0, .int .u32 0, .int .u32 0]) (by kernel_rfl) rfl) (fun b4 => ?_)
  refine wl_nil ?_
  refine wq_then ?_
  refine wc_seq ?_
  refine wc_region ?_
  refine wl_new .none rfl (nf_alloc (z := .agg #[.int .u32 0, .int .u32 0, .int .u32 0, .int .u32 0, .int .u32 0, .int .u32 0, .int .u32 0, .int .u32 0, .int .u32 0, .int .u32 0, .int .u32 0, .int .u32 0, .int .u32 0, .int .u32 0, .int .u32 0, .int .u32 0, .int .u32 0, .int .u32 0, .int .u32 0, .int .u32 0, .int .u32 0, .int .u32 0, .int .u32 0, .int .u32 0, .int .u32 0, .int .u32 0, .int .u32 0, .int .u32 0]) (cs := [.int .u32 0, .int .u32 0, .int .u32 0, .int .u32 0, .int .u32 0, .int .u32 0, .int .u32 0, .int .u32 0, .int .u32 0, .int .u32 0, .int .u32 0, .int .u32 0, .int .u32 0, .int .u32 0, .int .u32 0, .int .u32 0, .int .u32 0, .int .u32 0, .int .u32 0, .int .u32 0, .int .u32 0, .int .u32 0, .int .u32 0, .int .u32 0, .int .u32 0, .int .u32 0, .int .u32 0, .int .u32 0]) (by kernel_rfl) rfl) (fun b5 => ?_)
  refine wl_nil ?_
  refine wq_then ?_
  refine wc_seq ?_
  refine wc_seq ?_
  refine wc_region ?_
  refine wl_free .none rfl (yf_assign rfl) ?_
  refine wl_nil ?_
  refine wq_then ?_
  refine wc_block ?_
  refine wc_loop (ι := {i : Nat // i ≤ 16}) (fun i => [(0, .int .i64 k), (3, .pointer (some ⟨b3, 0, none⟩)), (4, .pointer (some ⟨b4, 0, none⟩)), (5, .pointer (some ⟨b5, 0, none⟩)), (6, .int .i64 i.1)]) (fun i => Hp (fun _ => False) w [(b5, bk 37 (u32s (eL k s.r i.1))), (b4, bk 37 (u32s z28)), (b3, bk 75 (stL s))] [] (fun _ => True)) (fun i => 16 - i.1) ⟨0, by omega⟩ ?_ ?_ (fun i => ?_)
  · exact .cons rfl <| .cons rfl <| .cons rfl <| .cons rfl <| .cons rfl <| .nil
  · exact fun w h => h
  obtain ⟨i, hi⟩ := i
  dsimp only
  refine wc_seq ?_
  refine wc_seq ?_
  refine wc_region ?_
  refine wl_free .none rfl (yf_move rfl) ?_
  refine wl_free .none rfl (yf_lss rfl rfl) ?_
  refine wl_nil ?_
  refine wq_then ?_
  refine wc_cond rfl (fun hc => ?_) (fun hc => ?_)
  · replace hc := of_decide_eq_true hc
    refine wc_skip ?_
    refine wq_then ?_
    refine wc_seq ?_
    refine wc_block ?_
    refine wc_seq ?_
    refine wc_weak (.cons (i := 0) rfl <| .cons (i := 3) rfl <| .cons (i := 4) rfl <| .cons (i := 5) rfl <| .cons (i := 6) rfl <| .cons (i := 8) rfl <| .nil) ?_
    refine wc_region ?_
    refine wl_free .none rfl (yf_move rfl) ?_
    refine wl_free .none rfl (yf_eql rfl rfl) ?_
    refine wl_free .none rfl (yf_move rfl) ?_
    refine wl_split 13 rfl (fun hb => ?_) (fun hb => ?_)
    · replace hb := eq_of_beq hb
      refine wl_free (.some rfl rfl) rfl (yf_move rfl) ?_
      refine wl_free (.some rfl rfl) rfl (yf_lss rfl rfl) ?_
      refine wl_free .none rfl (yf_pickT rfl rfl) ?_
      refine wl_free .none rfl (yf_move rfl) ?_
      refine wl_split 17 rfl (fun hb => ?_) (fun hb => ?_)
      · replace hb := of_decide_eq_true hb
        refine wl_pass (.some rfl rfl rfl) rfl ?_
        refine wl_pass (.some rfl rfl rfl) rfl ?_
        refine wl_pass (.some rfl rfl rfl) rfl ?_
        refine wl_passU rfl rfl rfl ?_
        refine wl_passU rfl rfl rfl ?_
        refine wl_pass (.some rfl rfl rfl) rfl ?_
        refine wl_free .none rfl (yf_pickT rfl rfl) ?_
        refine wl_nil ?_
        refine wq_then ?_
        refine wc_true rfl ?_
        refine wc_weak (.cons (i := 0) rfl <| .cons (i := 3) rfl <| .cons (i := 4) rfl <| .cons (i := 5) rfl <| .cons (i := 6) rfl <| .cons (i := 8) rfl <| .cons (i := 24) rfl <| .nil) ?_
        refine wc_region ?_
        refine wl_free .none rfl (yf_move rfl) ?_
        refine wl_free .none rfl (yf_move rfl) ?_
        refine wl_free .none rfl (yf_fieldAddr (off := 1) (sz := 15) rfl Try.underlying75 (by kernel_rfl) rfl) ?_
        first | (refine wl_free .none rfl (yf_indexAddrA (es := 1) rfl rfl Try.underlying72 (by kernel_rfl) rfl ?_ rfl) ?_; (· first | decide | omega | (simp; omega)); skip) | (refine wl_free .none rfl (yf_indexAddrA (es := 1) rfl rfl Try.underlying72 (by kernel_rfl) (Int.toNat_of_nonneg ?_).symm ?_ rfl) ?_; (· omega); (· first | decide | omega | (simp; omega)); skip)
        refine wl_free .none rfl (yf_loadL (v := .int .u32 (s.r.getD i 0)) 2 rfl rfl (stL_at h16 (by omega) (by omega)) Try.underlying34 rfl) ?_
        first | (refine wl_free .none rfl (yf_indexAddrA (es := 1) rfl rfl Try.underlying37 (by kernel_rfl) rfl ?_ rfl) ?_; (· first | decide | omega | (simp; omega)); skip) | (refine wl_free .none rfl (yf_indexAddrA (es := 1) rfl rfl Try.underlying37 (by kernel_rfl) (Int.toNat_of_nonneg ?_).symm ?_ rfl) ?_; (· omega); (· first | decide | omega | (simp; omega)); skip)
        refine wl_chain0 .none (cf_store 0 rfl rfl rfl rfl (blt_of (by rw [u32s_len, eL_len]; omega)) (by kernel_rfl)) (fun _ => ?_)
        refine wl_nil ?_
        refine wq_block ?_
        refine wq_then ?_
        refine wc_weak (.cons (i := 0) rfl <| .cons (i := 3) rfl <| .cons (i := 4) rfl <| .cons (i := 5) rfl <| .cons (i := 6) rfl <| .cons (i := 8) rfl <| .cons (i := 24) rfl <| .nil) ?_
        refine wc_region ?_
        refine wl_free .none rfl (yf_move rfl) ?_
        first | (refine wl_free .none rfl (yf_add rfl rfl (i64_in _ ?_ ?_)) ?_; (· omega); (· omega); skip) | refine wl_free .none rfl (yf_add rfl rfl rfl) ?_
        refine wl_free .none rfl (yf_assign rfl) ?_
        refine wl_nil ?_
        first
        | (refine wq_round (ι := {i : Nat // i ≤ 16}) ⟨i + 1, by omega⟩ (by show 16 - (i + 1) < 16 - i; omega) (.cons rfl <| .cons rfl <| .cons rfl <| .cons rfl <| .consE rfl rfl <| .nil) (fun u h => ?_); dsimp only; rw [← eL_no (by omega)]; exact h)
        | (refine wq_round (ι := {i : Nat // i ≤ 16}) ⟨i + 1, by omega⟩ (by show 16 - (i + 1) < 16 - i; omega) (.cons rfl <| .cons rfl <| .cons rfl <| .cons rfl <| .consE rfl rfl <| .nil) (fun u h => ?_); dsimp only; rw [← eL_put (o := 0 + i * 1) (by omega) (by omega)]; exact h)
      · replace hb := of_decide_eq_false hb
        refine wl_free (.some rfl rfl) rfl (yf_move rfl) ?_
        refine wl_free (.some rfl rfl) rfl (yf_eql rfl rfl) ?_
        refine wl_free (.some rfl rfl) rfl (yf_move rfl) ?_
        refine wl_split 20 rfl (fun hb => ?_) (fun hb => ?_)
        · replace hb := eq_of_beq hb
          refine wl_free (.some rfl rfl) rfl (yf_move rfl) ?_
          refine wl_free (.some rfl rfl) rfl (yf_gtr rfl rfl) ?_
          refine wl_free (.some rfl rfl) rfl (yf_pickT rfl rfl) ?_
          refine wl_free .none rfl (yf_pickF rfl rfl) ?_
          refine wl_nil ?_
          refine wq_then ?_
          refine wc_cond rfl (fun hc => ?_) (fun hc => ?_)
          · replace hc := of_decide_eq_true hc
            try simp only [decide_eq_true_eq] at hc
            refine wc_weak (.cons (i := 0) rfl <| .cons (i := 3) rfl <| .cons (i := 4) rfl <| .cons (i := 5) rfl <| .cons (i := 6) rfl <| .cons (i := 8) rfl <| .cons (i := 24) rfl <| .nil) ?_
            refine wc_region ?_
            refine wl_free .none rfl (yf_move rfl) ?_
            refine wl_free .none rfl (yf_move rfl) ?_
            refine wl_free .none rfl (yf_fieldAddr (off := 1) (sz := 15) rfl Try.underlying75 (by kernel_rfl) rfl) ?_
            first | (refine wl_free .none rfl (yf_indexAddrA (es := 1) rfl rfl Try.underlying72 (by kernel_rfl) rfl ?_ rfl) ?_; (· first | decide | omega | (simp; omega)); skip) | (refine wl_free .none rfl (yf_indexAddrA (es := 1) rfl rfl Try.underlying72 (by kernel_rfl) (Int.toNat_of_nonneg ?_).symm ?_ rfl) ?_; (· omega); (· first | decide | omega | (simp; omega)); skip)
            refine wl_free .none rfl (yf_loadL (v := .int .u32 (s.r.getD i 0)) 2 rfl rfl (stL_at h16 (by omega) (by omega)) Try.underlying34 rfl) ?_
            first | (refine wl_free .none rfl (yf_indexAddrA (es := 1) rfl rfl Try.underlying37 (by kernel_rfl) rfl ?_ rfl) ?_; (· first | decide | omega | (simp; omega)); skip) | (refine wl_free .none rfl (yf_indexAddrA (es := 1) rfl rfl Try.underlying37 (by kernel_rfl) (Int.toNat_of_nonneg ?_).symm ?_ rfl) ?_; (· omega); (· first | decide | omega | (simp; omega)); skip)
            refine wl_chain0 .none (cf_store 0 rfl rfl rfl rfl (blt_of (by rw [u32s_len, eL_len]; omega)) (by kernel_rfl)) (fun _ => ?_)
            refine wl_nil ?_
            refine wq_block ?_
            refine wq_then ?_
            refine wc_weak (.cons (i := 0) rfl <| .cons (i := 3) rfl <| .cons (i := 4) rfl <| .cons (i := 5) rfl <| .cons (i := 6) rfl <| .cons (i := 8) rfl <| .cons (i := 24) rfl <| .nil) ?_
            refine wc_region ?_
            refine wl_free .none rfl (yf_move rfl) ?_
            first | (refine wl_free .none rfl (yf_add rfl rfl (i64_in _ ?_ ?_)) ?_; (· omega); (· omega); skip) | refine wl_free .none rfl (yf_add rfl rfl rfl) ?_
            refine wl_free .none rfl (yf_assign rfl) ?_
            refine wl_nil ?_
            first
            | (refine wq_round (ι := {i : Nat // i ≤ 16}) ⟨i + 1, by omega⟩ (by show 16 - (i + 1) < 16 - i; omega) (.cons rfl <| .cons rfl <| .cons rfl <| .cons rfl <| .consE rfl rfl <| .nil) (fun u h => ?_); dsimp only; rw [← eL_no (by omega)]; exact h)
            | (refine wq_round (ι := {i : Nat // i ≤ 16}) ⟨i + 1, by omega⟩ (by show 16 - (i + 1) < 16 - i; omega) (.cons rfl <| .cons rfl <| .cons rfl <| .cons rfl <| .consE rfl rfl <| .nil) (fun u h => ?_); dsimp only; rw [← eL_put (o := 0 + i * 1) (by omega) (by omega)]; exact h)
          · replace hc := of_decide_eq_false hc
            try simp only [decide_eq_false_iff_not] at hc
            refine wc_skip ?_
            refine wq_block ?_
            refine wq_then ?_
            refine wc_weak (.cons (i := 0) rfl <| .cons (i := 3) rfl <| .cons (i := 4) rfl <| .cons (i := 5) rfl <| .cons (i := 6) rfl <| .cons (i := 8) rfl <| .cons (i := 24) rfl <| .nil) ?_
            refine wc_region ?_
            refine wl_free .none rfl (yf_move rfl) ?_
            first | (refine wl_free .none rfl (yf_add rfl rfl (i64_in _ ?_ ?_)) ?_; (· omega); (· omega); skip) | refine wl_free .none rfl (yf_add rfl rfl rfl) ?_
            refine wl_free .none rfl (yf_assign rfl) ?_
            refine wl_nil ?_
            first
            | (refine wq_round (ι := {i : Nat // i ≤ 16}) ⟨i + 1, by omega⟩ (by show 16 - (i + 1) < 16 - i; omega) (.cons rfl <| .cons rfl <| .cons rfl <| .cons rfl <| .consE rfl rfl <| .nil) (fun u h => ?_); dsimp only; rw [← eL_no (by omega)]; exact h)
            | (refine wq_round (ι := {i : Nat // i ≤ 16}) ⟨i + 1, by omega⟩ (by show 16 - (i + 1) < 16 - i; omega) (.cons rfl <| .cons rfl <| .cons rfl <| .cons rfl <| .consE rfl rfl <| .nil) (fun u h => ?_); dsimp only; rw [← eL_put (o := 0 + i * 1) (by omega) (by omega)]; exact h)
        · replace hb := beq_no hb
          refine wl_pass (.some rfl rfl rfl) rfl ?_
          refine wl_pass (.some rfl rfl rfl) rfl ?_
          refine wl_free (.some rfl rfl) rfl (yf_pickF rfl rfl) ?_
          refine wl_free .none rfl (yf_pickF rfl rfl) ?_
          refine wl_nil ?_
          refine wq_then ?_
          refine wc_false rfl ?_
          refine wc_skip ?_
          refine wq_block ?_
          refine wq_then ?_
          refine wc_weak (.cons (i := 0) rfl <| .cons (i := 3) rfl <| .cons (i := 4) rfl <| .cons (i := 5) rfl <| .cons (i := 6) rfl <| .cons (i := 8) rfl <| .cons (i := 24) rfl <| .nil) ?_
          refine wc_region ?_
          refine wl_free .none rfl (yf_move rfl) ?_
          first | (refine wl_free .none rfl (yf_add rfl rfl (i64_in _ ?_ ?_)) ?_; (· omega); (· omega); skip) | refine wl_free .none rfl (yf_add rfl rfl rfl) ?_
          refine wl_free .none rfl (yf_assign rfl) ?_
          refine wl_nil ?_
          first
          | (refine wq_round (ι := {i : Nat // i ≤ 16}) ⟨i + 1, by omega⟩ (by show 16 - (i + 1) < 16 - i; omega) (.cons rfl <| .cons rfl <| .cons rfl <| .cons rfl <| .consE rfl rfl <| .nil) (fun u h => ?_); dsimp only; rw [← eL_no (by omega)]; exact h)
          | (refine wq_round (ι := {i : Nat // i ≤ 16}) ⟨i + 1, by omega⟩ (by show 16 - (i + 1) < 16 - i; omega) (.cons rfl <| .cons rfl <| .cons rfl <| .cons rfl <| .consE rfl rfl <| .nil) (fun u h => ?_); dsimp only; rw [← eL_put (o := 0 + i * 1) (by omega) (by omega)]; exact h)
    · replace hb := beq_no hb
      refine wl_pass (.some rfl rfl rfl) rfl ?_
      refine wl_pass (.some rfl rfl rfl) rfl ?_
      refine wl_free .none rfl (yf_pickF rfl rfl) ?_
      refine wl_free .none rfl (yf_move rfl) ?_
      refine wl_free (.some rfl rfl) rfl (yf_move rfl) ?_
      refine wl_free (.some rfl rfl) rfl (yf_eql rfl rfl) ?_
      refine wl_free (.some rfl rfl) rfl (yf_move rfl) ?_
      refine wl_split 20 rfl (fun hb => ?_) (fun hb => ?_)
      · replace hb := eq_of_beq hb
        refine wl_free (.some rfl rfl) rfl (yf_move rfl) ?_
        refine wl_free (.some rfl rfl) rfl (yf_gtr rfl rfl) ?_
        refine wl_free (.some rfl rfl) rfl (yf_pickT rfl rfl) ?_
        refine wl_free .none rfl (yf_pickF rfl rfl) ?_
        refine wl_nil ?_
        refine wq_then ?_
        refine wc_cond rfl (fun hc => ?_) (fun hc => ?_)
        · replace hc := of_decide_eq_true hc
          try simp only [decide_eq_true_eq] at hc
          refine wc_weak (.cons (i := 0) rfl <| .cons (i := 3) rfl <| .cons (i := 4) rfl <| .cons (i := 5) rfl <| .cons (i := 6) rfl <| .cons (i := 8) rfl <| .cons (i := 24) rfl <| .nil) ?_
          refine wc_region ?_
          refine wl_free .none rfl (yf_move rfl) ?_
          refine wl_free .none rfl (yf_move rfl) ?_
          refine wl_free .none rfl (yf_fieldAddr (off := 1) (sz := 15) rfl Try.underlying75 (by kernel_rfl) rfl) ?_
          first | (refine wl_free .none rfl (yf_indexAddrA (es := 1) rfl rfl Try.underlying72 (by kernel_rfl) rfl ?_ rfl) ?_; (· first | decide | omega | (simp; omega)); skip) | (refine wl_free .none rfl (yf_indexAddrA (es := 1) rfl rfl Try.underlying72 (by kernel_rfl) (Int.toNat_of_nonneg ?_).symm ?_ rfl) ?_; (· omega); (· first | decide | omega | (simp; omega)); skip)
          refine wl_free .none rfl (yf_loadL (v := .int .u32 (s.r.getD i 0)) 2 rfl rfl (stL_at h16 (by omega) (by omega)) Try.underlying34 rfl) ?_
          first | (refine wl_free .none rfl (yf_indexAddrA (es := 1) rfl rfl Try.underlying37 (by kernel_rfl) rfl ?_ rfl) ?_; (· first | decide | omega | (simp; omega)); skip) | (refine wl_free .none rfl (yf_indexAddrA (es := 1) rfl rfl Try.underlying37 (by kernel_rfl) (Int.toNat_of_nonneg ?_).symm ?_ rfl) ?_; (· omega); (· first | decide | omega | (simp; omega)); skip)
          refine wl_chain0 .none (cf_store 0 rfl rfl rfl rfl (blt_of (by rw [u32s_len, eL_len]; omega)) (by kernel_rfl)) (fun _ => ?_)
          refine wl_nil ?_
          refine wq_block ?_
          refine wq_then ?_
          refine wc_weak (.cons (i := 0) rfl <| .cons (i := 3) rfl <| .cons (i := 4) rfl <| .cons (i := 5) rfl <| .cons (i := 6) rfl <| .cons (i := 8) rfl <| .cons (i := 24) rfl <| .nil) ?_
          refine wc_region ?_
          refine wl_free .none rfl (yf_move rfl) ?_
          first | (refine wl_free .none rfl (yf_add rfl rfl (i64_in _ ?_ ?_)) ?_; (· omega); (· omega); skip) | refine wl_free .none rfl (yf_add rfl rfl rfl) ?_
          refine wl_free .none rfl (yf_assign rfl) ?_
          refine wl_nil ?_
          first
          | (refine wq_round (ι := {i : Nat // i ≤ 16}) ⟨i + 1, by omega⟩ (by show 16 - (i + 1) < 16 - i; omega) (.cons rfl <| .cons rfl <| .cons rfl <| .cons rfl <| .consE rfl rfl <| .nil) (fun u h => ?_); dsimp only; rw [← eL_no (by omega)]; exact h)
          | (refine wq_round (ι := {i : Nat // i ≤ 16}) ⟨i + 1, by omega⟩ (by show 16 - (i + 1) < 16 - i; omega) (.cons rfl <| .cons rfl <| .cons rfl <| .cons rfl <| .consE rfl rfl <| .nil) (fun u h => ?_); dsimp only; rw [← eL_put (o := 0 + i * 1) (by omega) (by omega)]; exact h)
        · replace hc := of_decide_eq_false hc
          try simp only [decide_eq_false_iff_not] at hc
          refine wc_skip ?_
          refine wq_block ?_
          refine wq_then ?_
          refine wc_weak (.cons (i := 0) rfl <| .cons (i := 3) rfl <| .cons (i := 4) rfl <| .cons (i := 5) rfl <| .cons (i := 6) rfl <| .cons (i := 8) rfl <| .cons (i := 24) rfl <| .nil) ?_
          refine wc_region ?_
          refine wl_free .none rfl (yf_move rfl) ?_
          first | (refine wl_free .none rfl (yf_add rfl rfl (i64_in _ ?_ ?_)) ?_; (· omega); (· omega); skip) | refine wl_free .none rfl (yf_add rfl rfl rfl) ?_
          refine wl_free .none rfl (yf_assign rfl) ?_
          refine wl_nil ?_
          first
          | (refine wq_round (ι := {i : Nat // i ≤ 16}) ⟨i + 1, by omega⟩ (by show 16 - (i + 1) < 16 - i; omega) (.cons rfl <| .cons rfl <| .cons rfl <| .cons rfl <| .consE rfl rfl <| .nil) (fun u h => ?_); dsimp only; rw [← eL_no (by omega)]; exact h)
          | (refine wq_round (ι := {i : Nat // i ≤ 16}) ⟨i + 1, by omega⟩ (by show 16 - (i + 1) < 16 - i; omega) (.cons rfl <| .cons rfl <| .cons rfl <| .cons rfl <| .consE rfl rfl <| .nil) (fun u h => ?_); dsimp only; rw [← eL_put (o := 0 + i * 1) (by omega) (by omega)]; exact h)
      · replace hb := beq_no hb
        refine wl_pass (.some rfl rfl rfl) rfl ?_
        refine wl_pass (.some rfl rfl rfl) rfl ?_
        refine wl_free (.some rfl rfl) rfl (yf_pickF rfl rfl) ?_
        refine wl_free .none rfl (yf_pickF rfl rfl) ?_
        refine wl_nil ?_
        refine wq_then ?_
        refine wc_false rfl ?_
        refine wc_skip ?_
        refine wq_block ?_
        refine wq_then ?_
        refine wc_weak (.cons (i := 0) rfl <| .cons (i := 3) rfl <| .cons (i := 4) rfl <| .cons (i := 5) rfl <| .cons (i := 6) rfl <| .cons (i := 8) rfl <| .cons (i := 24) rfl <| .nil) ?_
        refine wc_region ?_
        refine wl_free .none rfl (yf_move rfl) ?_
        first | (refine wl_free .none rfl (yf_add rfl rfl (i64_in _ ?_ ?_)) ?_; (· omega); (· omega); skip) | refine wl_free .none rfl (yf_add rfl rfl rfl) ?_
        refine wl_free .none rfl (yf_assign rfl) ?_
        refine wl_nil ?_
        first
        | (refine wq_round (ι := {i : Nat // i ≤ 16}) ⟨i + 1, by omega⟩ (by show 16 - (i + 1) < 16 - i; omega) (.cons rfl <| .cons rfl <| .cons rfl <| .cons rfl <| .consE rfl rfl <| .nil) (fun u h => ?_); dsimp only; rw [← eL_no (by omega)]; exact h)
        | (refine wq_round (ι := {i : Nat // i ≤ 16}) ⟨i + 1, by omega⟩ (by show 16 - (i + 1) < 16 - i; omega) (.cons rfl <| .cons rfl <| .cons rfl <| .cons rfl <| .consE rfl rfl <| .nil) (fun u h => ?_); dsimp only; rw [← eL_put (o := 0 + i * 1) (by omega) (by omega)]; exact h)
  · replace hc := of_decide_eq_false hc
    refine wc_exit ?_
    refine wq_then_exit ?_
    refine wq_then_exit ?_
    refine wq_here ?_
    refine wq_then ?_
    refine wc_seq ?_
    refine wc_seq ?_
    refine wc_weak (.cons (i := 0) rfl <| .cons (i := 3) rfl <| .cons (i := 4) rfl <| .cons (i := 5) rfl <| .cons (i := 6) rfl <| .cons (i := 8) rfl <| .nil) ?_
    have hi16 : i = 16 := by omega
    subst hi16
    refine wc_region ?_
    refine wl_free .none rfl (yf_move rfl) ?_
    refine wl_free .none rfl (yf_eql rfl rfl) ?_
    refine wl_nil ?_
    refine wq_then ?_
    refine wc_cond rfl (fun hc => ?_) (fun hc => ?_)
    · replace hc := eq_of_beq hc
      refine wc_weak (.cons (i := 0) rfl <| .cons (i := 3) rfl <| .cons (i := 4) rfl <| .cons (i := 5) rfl <| .cons (i := 6) rfl <| .cons (i := 8) rfl <| .cons (i := 32) rfl <| .nil) ?_
      refine wc_region ?_
      refine wl_free .none rfl (yf_fieldAddr (off := 17) (sz := 0) rfl Try.underlying75 (by kernel_rfl) rfl) ?_
      refine wl_free .none rfl (yf_loadL 2 rfl rfl (stL_f' h16) Try.underlying34 rfl) ?_
      refine wl_free .none rfl (yf_and rfl rfl rfl) ?_
      first | (refine wl_free .none rfl (yf_indexAddrA (j := 17) (es := 1) rfl rfl Try.underlying37 (by kernel_rfl) rfl ?_ rfl) ?_; (· first | decide | omega | (simp; omega)); skip) | (refine wl_free .none rfl (yf_indexAddrA (es := 1) rfl rfl Try.underlying37 (by kernel_rfl) (Int.toNat_of_nonneg ?_).symm ?_ rfl) ?_; (· omega); (· first | decide | omega | (simp; omega)); skip)
      refine wl_chain0 .none (cf_store 0 rfl rfl rfl rfl (blt_of (by rw [u32s_len, eL_len]; omega)) (by kernel_rfl)) (fun _ => ?_)
      refine wl_nil ?_
      refine wq_then ?_
      refine wc_seq ?_
      refine wc_weak (.cons (i := 0) rfl <| .cons (i := 3) rfl <| .cons (i := 4) rfl <| .cons (i := 5) rfl <| .cons (i := 6) rfl <| .cons (i := 8) rfl <| .cons (i := 32) rfl <| .nil) ?_
      refine wc_region ?_
      refine wl_free .none rfl (yf_loadAllL 0 rfl rfl Try.underlying37 rfl (u28s (by simp [u32s_len, eL_len]))) ?_
      refine wl_chain0 .none (cf_storeRow 1 rfl rfl rfl (by first | exact u32s_all _ | exact set_all' (u32s_all _) rfl) (ble_of (by simp [u32s_len, eL_len, z28])) (u28s (by simp [u32s_len, eL_len]))) (fun _ => ?_)
      refine wl_nil ?_
      refine wq_then ?_
      refine wc_ret ?_
      refine wq_retC rfl rfl 1 rfl Try.underlying37 rfl (u28s (by simp [u32s_len, eL_len, z28])) (fun w hw => ?_)
      refine ⟨?_, (HpG.keep hw).ext⟩
      rw [row_all (by simp [u32s_len, eL_len, z28])]
      subst hc
      rw [← eL_end1 h16, u32s, u32s, List.map_set]
    · replace hc := beq_no hc
      refine wc_skip ?_
      refine wq_then ?_
      refine wc_seq ?_
      refine wc_weak (.cons (i := 0) rfl <| .cons (i := 3) rfl <| .cons (i := 4) rfl <| .cons (i := 5) rfl <| .cons (i := 6) rfl <| .cons (i := 8) rfl <| .cons (i := 32) rfl <| .nil) ?_
      refine wc_region ?_
      refine wl_free .none rfl (yf_loadAllL 0 rfl rfl Try.underlying37 rfl (u28s (by simp [u32s_len, eL_len]))) ?_
      refine wl_chain0 .none (cf_storeRow 1 rfl rfl rfl (by first | exact u32s_all _ | exact set_all' (u32s_all _) rfl) (ble_of (by simp [u32s_len, eL_len, z28])) (u28s (by simp [u32s_len, eL_len]))) (fun _ => ?_)
      refine wl_nil ?_
      refine wq_then ?_
      refine wc_ret ?_
      refine wq_retC rfl rfl 1 rfl Try.underlying37 rfl (u28s (by simp [u32s_len, eL_len, z28])) (fun w hw => ?_)
      refine ⟨?_, (HpG.keep hw).ext⟩
      rw [row_all (by simp [u32s_len, eL_len, z28])]
      rw [eL_end h16 hc]
end Go.Proofs.Ytojofinofpgopaa
