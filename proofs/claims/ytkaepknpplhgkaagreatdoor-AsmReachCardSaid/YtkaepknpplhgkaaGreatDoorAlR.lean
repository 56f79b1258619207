/- The law of reach. -/
import Derived.Test.YtkaepknpplhgkaaGreatDoorAlD
import Derived.Test.YtkaepknpplhgkaaGreatDoorAlE
import Derived.Test.YtkaepknpplhgkaaGreatDoorMaY
namespace Go.Proofs.YtkaepknpplhgkaaGreatDoor
open Go.RowKit
abbrev cndV : List Value := [.string ⟨#[101, 113]⟩, .string ⟨#[110, 101]⟩, .string ⟨#[99, 115]⟩, .string ⟨#[99, 99]⟩, .string ⟨#[109, 105]⟩, .string ⟨#[112, 108]⟩, .string ⟨#[118, 115]⟩, .string ⟨#[118, 99]⟩, .string ⟨#[104, 105]⟩, .string ⟨#[108, 115]⟩, .string ⟨#[103, 101]⟩, .string ⟨#[108, 116]⟩, .string ⟨#[103, 116]⟩, .string ⟨#[108, 101]⟩]
abbrev brnV : List Value := [.string ⟨#[98, 101, 113]⟩, .string ⟨#[98, 110, 101]⟩, .string ⟨#[98, 108, 116, 117]⟩, .string ⟨#[98, 103, 101, 117]⟩, .string ⟨#[98, 108, 116]⟩, .string ⟨#[98, 103, 101]⟩]
def strAt (vs : List Value) (l : List Bs) : Bool := (List.range l.length).all fun i => match vs[0 + i * 1]? with | some (.string s) => s.data.toList == l.getD i [] | _ => false
theorem strAt_of {vs : List Value} {l : List Bs} (h : strAt vs l = true) {i : Nat} (hi : i < l.length) : vs[0 + i * 1]? = some (.string ⟨(l.getD i []).toArray⟩) := by
  have h1 := List.all_eq_true.1 h i (List.mem_range.2 hi)
  split at h1
  · next s e =>
    rw [e]
    have h2 : s.data.toList = l.getD i [] := by simpa using h1
    rw [← h2]
  · cases h1
theorem cnd_at {i : Nat} (hi : i < 14) : cndV[0 + i * 1]? = some (.string ⟨(condL.getD i []).toArray⟩) := strAt_of (by decide) hi
theorem brn_at {i : Nat} (hi : i < 6) : brnV[0 + i * 1]? = some (.string ⟨(braL.getD i []).toArray⟩) := strAt_of (by decide) hi
theorem cnd_ln : ∀ i, i < 14 → (condL.getD i []).length ≤ 2 := by decide
theorem brn_ln : ∀ i, i < 6 → (braL.getD i []).length ≤ 4 := by decide
theorem far_add (org : Nat) (far : Int) : IntKind.u32.wrap ((org : Int) + IntKind.u32.wrap far) = (((((org : Int) + far) % 4294967296).toNat : Nat) : Int) := by
  rw [u32w, u32w]; omega
theorem rK_text (cc : Nat) (d : Bs) : (([59, 32, 111, 110, 101, 10, 9, 106] ++ condL.getD cc []) ++ [32]) ++ d = rOne ++ 10 :: (9 :: 106 :: (condL.getD cc [] ++ 32 :: d)) := by
  simp [rOne]
theorem rQ_text (cc n : Nat) : (([10, 10] ++ braL.getD cc []) ++ [32, 114, 49, 44, 32, 114, 50, 44, 32]) ++ Lib.decDigits n = 10 :: 10 :: braS cc n := by
  simp [braS]
theorem low8 (far : Int) : IntKind.u8.wrap (IntKind.i32.wrap (far - 2)) = (((((far - 2) % 4294967296).toNat % 256 : Nat)) : Int) := by
  simp only [IntKind.wrap, IntKind.bits, IntKind.signed]
  simp
  omega
theorem byL256 (n : Nat) : ((byL (n % 256)).toNat : Int) = ((n % 256 : Nat) : Int) := by
  unfold byL; simp
set_option maxHeartbeats 4000000 in
set_option maxRecDepth 100000 in
theorem reach_law (far : Int) (h1 : -2147483648 ≤ far) (h2 : far ≤ 2147483647) (c0 org : Nat) (ho : org < 4294967296) (w_0 : World) (hw0 : WOk w_0) : Calls Tryz.prog 5 #[.int .i32 far, .int .u8 c0, .int .u32 org] w_0 fun e w' => e = .returned (.bool true) ∧ Ext w_0 w' := by
  obtain ⟨cc, hcc⟩ : ∃ cc, cc = c0 % 14 := ⟨_, rfl⟩
  have hc14 : cc < 14 := by omega
  obtain ⟨cq, hcq⟩ : ∃ cc, cc = c0 % 6 := ⟨_, rfl⟩
  have hq6 : cq < 6 := by omega
  obtain ⟨t, ht⟩ : ∃ t, t = (((org : Int) + far) % 4294967296).toNat := ⟨_, rfl⟩
  have htl : t < 4294967296 := by omega
  have hK0 := reach_K cc hc14 h1 h2 org ho
  rw [← ht, ← rK_text] at hK0
  obtain ⟨⟨k1, k2, k3⟩, hK⟩ : ∃ x, asmL 1 ((([59, 32, 111, 110, 101, 10, 9, 106] ++ condL.getD cc []) ++ [32]) ++ Lib.decDigits t) org = x := ⟨_, rfl⟩
  have hKK := hK.symm.trans hK0
  obtain ⟨⟨q1, q2, q3⟩, hQ, hQ1, hQ2⟩ := reach_Q cq hq6 h1 h2 org ho
  rw [← ht, ← rQ_text] at hQ
  have hcl := cnd_ln cc hc14
  have hbl := brn_ln cq hq6
  have hdl : (Lib.decDigits t).length ≤ 10 := dec_len (k := 10) (by omega) (by decide)
  refine calls_wc (args := [Value.int .i32 far, Value.int .u8 c0, Value.int .u32 org]) Tryz.func5 rfl 137 rfl (Nat.le_of_ble_eq_true rfl) ?_
  refine wc_weak (.cons (i := 0) rfl <| .cons (i := 1) rfl <| .cons (i := 2) rfl <| .nil) ?_
  refine wc_conseq (H' := Hp (fun _ => False) w_0 [] [] (fun _ => True)) (fun u hu => ?_) ?_
  · subst hu; exact Hp.start0
  refine wc_seq ?_
  refine wc_region ?_
  refine wl_free .none rfl (yf_assign rfl) ?_
  refine wl_nil ?_
  refine wq_then ?_
  refine wc_seq ?_
  refine wc_region ?_
  refine wl_pure .none rfl  (v := .bool true) (by kernel_rfl) rfl (fun w hw => sanity_any w (hw0.ext hw.ext0)) ?_
  refine wl_free .none rfl (yf_assign rfl) ?_
  refine wl_nil ?_
  refine wq_then ?_
  refine wc_seq ?_
  refine wc_weak (.cons (i := 0) rfl <| .cons (i := 1) rfl <| .cons (i := 2) rfl <| .cons (i := 6) rfl <| .cons (i := 7) rfl <| .nil) ?_
  refine wc_region ?_
  refine wl_free .none rfl (yf_build (cells := #[.string ⟨#[101, 113]⟩, .string ⟨#[110, 101]⟩, .string ⟨#[99, 115]⟩, .string ⟨#[99, 99]⟩, .string ⟨#[109, 105]⟩, .string ⟨#[112, 108]⟩, .string ⟨#[118, 115]⟩, .string ⟨#[118, 99]⟩, .string ⟨#[104, 105]⟩, .string ⟨#[108, 115]⟩, .string ⟨#[103, 101]⟩, .string ⟨#[108, 116]⟩, .string ⟨#[103, 116]⟩, .string ⟨#[108, 101]⟩]) rfl (by kernel_rfl)) ?_
  refine wl_new .none rfl (nf_alloc (z := .agg #[.string ⟨#[]⟩, .string ⟨#[]⟩, .string ⟨#[]⟩, .string ⟨#[]⟩, .string ⟨#[]⟩, .string ⟨#[]⟩, .string ⟨#[]⟩, .string ⟨#[]⟩, .string ⟨#[]⟩, .string ⟨#[]⟩, .string ⟨#[]⟩, .string ⟨#[]⟩, .string ⟨#[]⟩, .string ⟨#[]⟩]) (cs := [.string ⟨#[]⟩, .string ⟨#[]⟩, .string ⟨#[]⟩, .string ⟨#[]⟩, .string ⟨#[]⟩, .string ⟨#[]⟩, .string ⟨#[]⟩, .string ⟨#[]⟩, .string ⟨#[]⟩, .string ⟨#[]⟩, .string ⟨#[]⟩, .string ⟨#[]⟩, .string ⟨#[]⟩, .string ⟨#[]⟩]) (by kernel_rfl) rfl) (fun b8 => ?_)
  refine wl_chain0 .none (cf_storeRow 0 rfl rfl rfl rfl rfl (by kernel_rfl)) (fun _ => ?_)
  refine wl_nil ?_
  refine wq_then ?_
  refine wc_seq ?_
  refine wc_weak (.cons (i := 0) rfl <| .cons (i := 1) rfl <| .cons (i := 2) rfl <| .cons (i := 6) rfl <| .cons (i := 7) rfl <| .cons (i := 8) rfl <| .nil) ?_
  refine wc_region ?_
  refine wl_free .none rfl (yf_build (cells := #[.string ⟨#[98, 101, 113]⟩, .string ⟨#[98, 110, 101]⟩, .string ⟨#[98, 108, 116, 117]⟩, .string ⟨#[98, 103, 101, 117]⟩, .string ⟨#[98, 108, 116]⟩, .string ⟨#[98, 103, 101]⟩]) rfl (by kernel_rfl)) ?_
  refine wl_new .none rfl (nf_alloc (z := .agg #[.string ⟨#[]⟩, .string ⟨#[]⟩, .string ⟨#[]⟩, .string ⟨#[]⟩, .string ⟨#[]⟩, .string ⟨#[]⟩]) (cs := [.string ⟨#[]⟩, .string ⟨#[]⟩, .string ⟨#[]⟩, .string ⟨#[]⟩, .string ⟨#[]⟩, .string ⟨#[]⟩]) (by kernel_rfl) rfl) (fun b9 => ?_)
  refine wl_chain0 .none (cf_storeRow 0 rfl rfl rfl rfl rfl (by kernel_rfl)) (fun _ => ?_)
  refine wl_nil ?_
  refine wq_then ?_
  refine wc_seq ?_
  refine wc_weak (.cons (i := 0) rfl <| .cons (i := 1) rfl <| .cons (i := 2) rfl <| .cons (i := 6) rfl <| .cons (i := 7) rfl <| .cons (i := 8) rfl <| .cons (i := 9) rfl <| .nil) ?_
  refine wc_region ?_
  refine wl_free .none rfl (yf_move rfl) ?_
  refine wl_free .none rfl (yf_move rfl) ?_
  refine wl_free .none rfl (yf_conv rfl (by kernel_rfl) Tryz.underlying22 rfl) ?_
  refine wl_free .none rfl (yf_add rfl rfl ((far_add org far).trans (by rw [← ht]))) ?_
  refine wl_pure .none rfl  (v := .string ⟨(Lib.decDigits t).toArray⟩) (by kernel_rfl) rfl (fun w hw => digits_any t htl w) ?_
  refine wl_free .none rfl (yf_assign rfl) ?_
  refine wl_nil ?_
  refine wq_then ?_
  refine wc_seq ?_
  refine wc_weak (.cons (i := 0) rfl <| .cons (i := 1) rfl <| .cons (i := 2) rfl <| .cons (i := 6) rfl <| .cons (i := 7) rfl <| .cons (i := 8) rfl <| .cons (i := 9) rfl <| .cons (i := 10) rfl <| .nil) ?_
  refine wc_region ?_
  refine wl_free .none rfl (yf_move rfl) ?_
  (refine wl_free .none rfl (yf_rem rfl rfl ?_ ((tmodE c0 14).trans (by rw [← hcc]))) ?_; (· first | decide | omega); skip)
  (refine wl_free .none rfl (yf_indexAddrA (es := 1) rfl rfl Tryz.underlying44 (by kernel_rfl) rfl ?_ rfl) ?_; (· first | decide | omega | (simp; done) | (simp; omega)); skip)
  refine wl_free .none rfl (yf_loadL 1 rfl rfl (cnd_at hc14) Tryz.underlying9 rfl) ?_
  (refine wl_free .none rfl (yf_str_add rfl rfl ?_) ?_; (· (rw [show ([59, 32, 111, 110, 101, 10, 9, 106] : Bs).length = 8 from rfl]; omega)); skip)
  (refine wl_free .none rfl (yf_str_add rfl rfl ?_) ?_; (· (rw [List.length_append, show ([59, 32, 111, 110, 101, 10, 9, 106] : Bs).length = 8 from rfl, show ([32] : Bs).length = 1 from rfl]; omega)); skip)
  refine wl_free .none rfl (yf_move rfl) ?_
  (refine wl_free .none rfl (yf_str_add rfl rfl ?_) ?_; (· (rw [List.length_append, List.length_append, show ([59, 32, 111, 110, 101, 10, 9, 106] : Bs).length = 8 from rfl, show ([32] : Bs).length = 1 from rfl]; omega)); skip)
  refine wl_free .none rfl (yf_move rfl) ?_
  refine wl_pure .none rfl  (by kernel_rfl) rfl (fun w hw => asm_is (c := k1) (n := k2) (e := k3) hK ho (hw0.ext hw.ext0)) ?_
  refine wl_free .none rfl (yf_move rfl) ?_
  refine wl_free .none rfl (yf_extract rfl rfl) ?_
  refine wl_free .none rfl (yf_extract rfl rfl) ?_
  refine wl_free .none rfl (yf_extract rfl rfl) ?_
  refine wl_free .none rfl (yf_assign rfl) ?_
  refine wl_free .none rfl (yf_assign rfl) ?_
  refine wl_free .none rfl (yf_assign rfl) ?_
  refine wl_nil ?_
  refine wq_then ?_
  refine wc_cut (ι := {z : Bool // z = true ↔ (-126 ≤ far ∧ far ≤ 129)}) (fun z => [(0, .int .i32 far), (1, .int .u8 c0), (2, .int .u32 org), (6, .bool false), (7, .bool true), (9, .pointer (some ⟨b9, 0, none⟩)), (10, .string ⟨(Lib.decDigits t).toArray⟩), (11, .string ⟨k1.toArray⟩), (12, .int .i64 (k2 : Nat)), (13, .int .i64 (k3 : Nat)), (14, .bool z.1)]) (fun _ => Hp (fun _ => False) w_0 [(b9, bk 45 brnV)] [] (fun _ => True)) ?_ (fun z => ?_)
  · skip
    refine wc_weak (.cons (i := 0) rfl <| .cons (i := 1) rfl <| .cons (i := 2) rfl <| .cons (i := 6) rfl <| .cons (i := 7) rfl <| .cons (i := 8) rfl <| .cons (i := 9) rfl <| .cons (i := 10) rfl <| .cons (i := 11) rfl <| .cons (i := 12) rfl <| .cons (i := 13) rfl <| .nil) ?_
    refine wc_region ?_
    refine wl_free .none rfl (yf_move rfl) ?_
    refine wl_free .none rfl (yf_geq rfl rfl) ?_
    refine wl_free .none rfl (yf_move rfl) ?_
    refine wl_split 42 rfl (fun g6 => ?_) (fun g6 => ?_)
    · replace g6 := of_decide_eq_true g6
      refine wl_free (.some rfl rfl) rfl (yf_move rfl) ?_
      refine wl_free (.some rfl rfl) rfl (yf_leq rfl rfl) ?_
      refine wl_free .none rfl (yf_pickT rfl rfl) ?_
      refine wl_free .none rfl (yf_assign rfl) ?_
      refine wl_nil ?_
      exact wq_meet (ι := {z : Bool // z = true ↔ (-126 ≤ far ∧ far ≤ 129)}) ⟨decide (far ≤ 129), by rw [decide_eq_true_iff]; omega⟩ (.cons rfl <| .cons rfl <| .cons rfl <| .cons rfl <| .cons rfl <| .cons rfl <| .cons rfl <| .cons rfl <| .cons rfl <| .cons rfl <| .cons rfl <| .nil) (fun w h => Hp.drop h (.cons_cons _ (.cons _ .slnil)) .slnil)
    · replace g6 := of_decide_eq_false g6
      refine wl_pass (.some rfl rfl rfl) rfl ?_
      refine wl_pass (.some rfl rfl rfl) rfl ?_
      refine wl_free .none rfl (yf_pickF rfl rfl) ?_
      refine wl_free .none rfl (yf_assign rfl) ?_
      refine wl_nil ?_
      exact wq_meet (ι := {z : Bool // z = true ↔ (-126 ≤ far ∧ far ≤ 129)}) ⟨false, by simp; omega⟩ (.cons rfl <| .cons rfl <| .cons rfl <| .cons rfl <| .cons rfl <| .cons rfl <| .cons rfl <| .cons rfl <| .cons rfl <| .cons rfl <| .cons rfl <| .nil) (fun w h => Hp.drop h (.cons_cons _ (.cons _ .slnil)) .slnil)
  · obtain ⟨z, hz⟩ := z
    dsimp only
    refine wc_seq ?_
    refine wc_cut (ι := Unit) (fun z => [(0, .int .i32 far), (1, .int .u8 c0), (2, .int .u32 org), (6, .bool false), (7, .bool true), (9, .pointer (some ⟨b9, 0, none⟩)), (10, .string ⟨(Lib.decDigits t).toArray⟩), (83, .bool false)]) (fun _ => Hp (fun _ => False) w_0 [(b9, bk 45 brnV)] [] (fun _ => True)) ?_ (fun z => ?_)
    · skip
      refine wc_region ?_
      refine wl_free .none rfl (yf_move rfl) ?_
      refine wl_free .none rfl (yf_move rfl) ?_
      refine wl_split 47 rfl (fun hb => ?_) (fun hb => ?_)
      · skip
        subst hb
        have hnr : -126 ≤ far ∧ far ≤ 129 := hz.1 rfl
        have hkk := hKK
        rw [if_pos hnr] at hkk
        injection hkk with e1 e2
        injection e2 with e2 e3
        subst e1; subst e2; subst e3
        refine wl_free (.some rfl rfl) rfl (yf_move rfl) ?_
        refine wl_free (.some rfl rfl) rfl (yf_neq rfl rfl) ?_
        refine wl_free (.some rfl rfl) rfl (yf_move rfl) ?_
        refine wl_split 50 rfl (fun hb => ?_) (fun hb => ?_)
        · replace hb := bne_yes hb
          exact absurd hb (by decide)
        · replace hb := bne_no hb
          refine wl_free (.some rfl rfl) rfl (yf_move rfl) ?_
          refine wl_free (.some rfl rfl) rfl (yf_neq rfl rfl) ?_
          refine wl_free (.some rfl rfl) rfl (yf_pickF rfl rfl) ?_
          refine wl_free (.some rfl rfl) rfl (yf_move rfl) ?_
          refine wl_split 54 rfl (fun hb => ?_) (fun hb => ?_)
          · replace hb := bne_yes hb
            exact absurd hb (by decide)
          · replace hb := bne_no hb
            refine wl_free (.some rfl rfl) rfl (yf_move rfl) ?_
            refine wl_free (.some rfl rfl) rfl (yf_lenL rfl Tryz.underlying9) ?_
            refine wl_free (.some rfl rfl) rfl (yf_neq rfl rfl) ?_
            refine wl_free (.some rfl rfl) rfl (yf_pickF rfl rfl) ?_
            refine wl_free (.some rfl rfl) rfl (yf_move rfl) ?_
            refine wl_split 59 rfl (fun hb => ?_) (fun hb => ?_)
            · replace hb := bne_yes hb
              exact absurd rfl hb
            · replace hb := bne_no hb
              refine wl_free (.some rfl rfl) rfl (yf_move rfl) ?_
              refine wl_free (.some rfl rfl) rfl (yf_indexL rfl rfl Tryz.underlying9 rfl rfl) ?_
              refine wl_free (.some rfl rfl) rfl (yf_move rfl) ?_
              refine wl_free (.some rfl rfl) rfl (yf_sub rfl rfl rfl) ?_
              refine wl_free (.some rfl rfl) rfl (yf_conv rfl (by kernel_rfl) Tryz.underlying5 (low8 far)) ?_
              refine wl_free (.some rfl rfl) rfl (yf_neq rfl rfl) ?_
              refine wl_free (.some rfl rfl) rfl (yf_pickF rfl rfl) ?_
              refine wl_free .none rfl (yf_pickT rfl rfl) ?_
              refine wl_free .none rfl (yf_move rfl) ?_
              refine wl_split 68 rfl (fun hb => ?_) (fun hb => ?_)
              · replace hb := bne_yes hb
                exact absurd hb (by rw [byL256]; simp)
              · replace hb := bne_no hb
                refine wl_free (.some rfl rfl) rfl (yf_move rfl) ?_
                refine wl_free (.some rfl rfl) rfl (yf_not rfl) ?_
                refine wl_free (.some rfl rfl) rfl (yf_move rfl) ?_
                refine wl_split 71 rfl (fun hb => ?_) (fun hb => ?_)
                · skip
                  cases hb
                · skip
                  refine wl_pass (.some rfl rfl rfl) rfl ?_
                  refine wl_pass (.some rfl rfl rfl) rfl ?_
                  refine wl_pass (.some rfl rfl rfl) rfl ?_
                  refine wl_passU rfl rfl rfl ?_
                  refine wl_passU rfl rfl rfl ?_
                  refine wl_pass (.some rfl rfl rfl) rfl ?_
                  refine wl_pass (.some rfl rfl rfl) rfl ?_
                  refine wl_passU rfl rfl rfl ?_
                  refine wl_passU rfl rfl rfl ?_
                  refine wl_pass (.some rfl rfl rfl) rfl ?_
                  refine wl_free (.some rfl rfl) rfl (yf_pickF rfl rfl) ?_
                  refine wl_free .none rfl (yf_pickF rfl rfl) ?_
                  refine wl_nil ?_
                  exact wq_meet (ι := Unit) () (.cons rfl <| .cons rfl <| .cons rfl <| .cons rfl <| .cons rfl <| .cons rfl <| .cons rfl <| .consE rfl (by first | rfl | (rw [byL256]; simp)) <| .nil) (fun w h => h)
      · skip
        subst hb
        have hnr : ¬ (-126 ≤ far ∧ far ≤ 129) := fun h => by have := hz.2 h; cases this
        have hkk := hKK
        rw [if_neg hnr] at hkk
        injection hkk with e1 e2
        injection e2 with e2 e3
        subst e1; subst e2; subst e3
        refine wl_pass (.some rfl rfl rfl) rfl ?_
        refine wl_pass (.some rfl rfl rfl) rfl ?_
        refine wl_pass (.some rfl rfl rfl) rfl ?_
        refine wl_passU rfl rfl rfl ?_
        refine wl_passU rfl rfl rfl ?_
        refine wl_pass (.some rfl rfl rfl) rfl ?_
        refine wl_pass (.some rfl rfl rfl) rfl ?_
        refine wl_passU rfl rfl rfl ?_
        refine wl_passU rfl rfl rfl ?_
        refine wl_passU rfl rfl rfl ?_
        refine wl_pass (.some rfl rfl rfl) rfl ?_
        refine wl_pass (.some rfl rfl rfl) rfl ?_
        refine wl_passU rfl rfl rfl ?_
        refine wl_passU rfl rfl rfl ?_
        refine wl_passU rfl rfl rfl ?_
        refine wl_passU rfl rfl rfl ?_
        refine wl_passU rfl rfl rfl ?_
        refine wl_passU rfl rfl rfl ?_
        refine wl_pass (.some rfl rfl rfl) rfl ?_
        refine wl_free .none rfl (yf_pickF rfl rfl) ?_
        refine wl_free .none rfl (yf_move rfl) ?_
        refine wl_free (.some rfl rfl) rfl (yf_move rfl) ?_
        refine wl_free (.some rfl rfl) rfl (yf_not rfl) ?_
        refine wl_free (.some rfl rfl) rfl (yf_move rfl) ?_
        refine wl_split 71 rfl (fun hb => ?_) (fun hb => ?_)
        · skip
          refine wl_free (.some rfl rfl) rfl (yf_move rfl) ?_
          refine wl_free (.some rfl rfl) rfl (yf_neq rfl rfl) ?_
          refine wl_free (.some rfl rfl) rfl (yf_move rfl) ?_
          refine wl_split 74 rfl (fun hb => ?_) (fun hb => ?_)
          · replace hb := bne_yes hb
            exact absurd hb (by decide)
          · replace hb := bne_no hb
            refine wl_free (.some rfl rfl) rfl (yf_move rfl) ?_
            refine wl_free (.some rfl rfl) rfl (yf_neq rfl rfl) ?_
            refine wl_free (.some rfl rfl) rfl (yf_pickF rfl rfl) ?_
            refine wl_free (.some rfl rfl) rfl (yf_move rfl) ?_
            refine wl_split 78 rfl (fun hb => ?_) (fun hb => ?_)
            · replace hb := bne_yes hb
              exact absurd hb (by decide)
            · replace hb := bne_no hb
              refine wl_free (.some rfl rfl) rfl (yf_move rfl) ?_
              refine wl_free (.some rfl rfl) rfl (yf_strs_neq rfl rfl Tryz.underlying9) ?_
              refine wl_free (.some rfl rfl) rfl (yf_pickF rfl rfl) ?_
              refine wl_free (.some rfl rfl) rfl (yf_pickT rfl rfl) ?_
              refine wl_free .none rfl (yf_pickF rfl rfl) ?_
              refine wl_nil ?_
              exact wq_meet (ι := Unit) () (.cons rfl <| .cons rfl <| .cons rfl <| .cons rfl <| .cons rfl <| .cons rfl <| .cons rfl <| .consE rfl (by first | rfl | (rw [byL256]; simp)) <| .nil) (fun w h => h)
        · skip
          cases hb
    · skip
      refine wc_cond rfl (fun hc => ?_) (fun hc => ?_)
      · skip
        cases hc
      · skip
        refine wc_skip ?_
        refine wq_then ?_
        refine wc_seq ?_
        refine wc_region ?_
        refine wl_free .none rfl (yf_move rfl) ?_
        (refine wl_free .none rfl (yf_rem rfl rfl ?_ ((tmodE c0 6).trans (by rw [← hcq]))) ?_; (· first | decide | omega); skip)
        (refine wl_free .none rfl (yf_indexAddrA (es := 1) rfl rfl Tryz.underlying45 (by kernel_rfl) rfl ?_ rfl) ?_; (· first | decide | omega | (simp; done) | (simp; omega)); skip)
        refine wl_free .none rfl (yf_loadL 0 rfl rfl (brn_at hq6) Tryz.underlying9 rfl) ?_
        (refine wl_free .none rfl (yf_str_add rfl rfl ?_) ?_; (· (rw [show ([10, 10] : Bs).length = 2 from rfl]; omega)); skip)
        (refine wl_free .none rfl (yf_str_add rfl rfl ?_) ?_; (· (rw [List.length_append, show ([10, 10] : Bs).length = 2 from rfl, show ([32, 114, 49, 44, 32, 114, 50, 44, 32] : Bs).length = 9 from rfl]; omega)); skip)
        refine wl_free .none rfl (yf_move rfl) ?_
        (refine wl_free .none rfl (yf_str_add rfl rfl ?_) ?_; (· (rw [List.length_append, List.length_append, show ([10, 10] : Bs).length = 2 from rfl, show ([32, 114, 49, 44, 32, 114, 50, 44, 32] : Bs).length = 9 from rfl]; omega)); skip)
        refine wl_free .none rfl (yf_move rfl) ?_
        refine wl_pure .none rfl  (by kernel_rfl) rfl (fun w hw => asm_is (c := q1) (n := q2) (e := q3) hQ ho (hw0.ext hw.ext0)) ?_
        refine wl_free .none rfl (yf_move rfl) ?_
        refine wl_free .none rfl (yf_extract rfl rfl) ?_
        refine wl_free .none rfl (yf_extract rfl rfl) ?_
        refine wl_free .none rfl (yf_extract rfl rfl) ?_
        refine wl_free .none rfl (yf_assign rfl) ?_
        refine wl_free .none rfl (yf_assign rfl) ?_
        refine wl_free .none rfl (yf_assign rfl) ?_
        refine wl_nil ?_
        refine wq_then ?_
        refine wc_cut (ι := {z : Bool // z = true ↔ (far.tmod 4 = 0 ∧ -524288 ≤ far ∧ far ≤ 524284)}) (fun z => [(6, .bool false), (7, .bool true), (14, .bool z.1), (15, .string ⟨q1.toArray⟩), (16, .int .i64 (q2 : Nat)), (17, .int .i64 (q3 : Nat))]) (fun _ => Hp (fun _ => False) w_0 [] [] (fun _ => True)) ?_ (fun z => ?_)
        · skip
          refine wc_weak (.cons (i := 0) rfl <| .cons (i := 1) rfl <| .cons (i := 2) rfl <| .cons (i := 6) rfl <| .cons (i := 7) rfl <| .cons (i := 9) rfl <| .cons (i := 10) rfl <| .cons (i := 15) rfl <| .cons (i := 16) rfl <| .cons (i := 17) rfl <| .cons (i := 83) rfl <| .nil) ?_
          refine wc_region ?_
          refine wl_free .none rfl (yf_move rfl) ?_
          (refine wl_free .none rfl (yf_rem rfl rfl ?_ rfl) ?_; (· first | decide | omega); skip)
          refine wl_free .none rfl (yf_eql rfl rfl) ?_
          refine wl_free .none rfl (yf_move rfl) ?_
          refine wl_split 101 rfl (fun g4 => ?_) (fun g4 => ?_)
          · replace g4 := eq_of_beq g4
            refine wl_free (.some rfl rfl) rfl (yf_move rfl) ?_
            refine wl_free (.some rfl rfl) rfl (yf_geq rfl rfl) ?_
            refine wl_free .none rfl (yf_pickT rfl rfl) ?_
            refine wl_free .none rfl (yf_move rfl) ?_
            refine wl_split 105 rfl (fun g8 => ?_) (fun g8 => ?_)
            · replace g8 := of_decide_eq_true g8
              refine wl_free (.some rfl rfl) rfl (yf_move rfl) ?_
              refine wl_free (.some rfl rfl) rfl (yf_leq rfl rfl) ?_
              refine wl_free .none rfl (yf_pickT rfl rfl) ?_
              refine wl_free .none rfl (yf_assign rfl) ?_
              refine wl_nil ?_
              exact wq_meet (ι := {z : Bool // z = true ↔ (far.tmod 4 = 0 ∧ -524288 ≤ far ∧ far ≤ 524284)}) ⟨decide (far ≤ 524284), by rw [decide_eq_true_iff]; exact ⟨fun h => ⟨g4, g8, h⟩, fun h => h.2.2⟩⟩ (.cons rfl <| .cons rfl <| .cons rfl <| .cons rfl <| .cons rfl <| .cons rfl <| .nil) (fun w h => Hp.drop h (List.nil_sublist _) .slnil)
            · replace g8 := of_decide_eq_false g8
              refine wl_pass (.some rfl rfl rfl) rfl ?_
              refine wl_pass (.some rfl rfl rfl) rfl ?_
              refine wl_free .none rfl (yf_pickF rfl rfl) ?_
              refine wl_free .none rfl (yf_assign rfl) ?_
              refine wl_nil ?_
              exact wq_meet (ι := {z : Bool // z = true ↔ (far.tmod 4 = 0 ∧ -524288 ≤ far ∧ far ≤ 524284)}) ⟨false, ⟨fun h => (by cases h), fun h => absurd h.2.1 (by omega)⟩⟩ (.cons rfl <| .cons rfl <| .cons rfl <| .cons rfl <| .cons rfl <| .cons rfl <| .nil) (fun w h => Hp.drop h (List.nil_sublist _) .slnil)
          · replace g4 := beq_no g4
            refine wl_pass (.some rfl rfl rfl) rfl ?_
            refine wl_pass (.some rfl rfl rfl) rfl ?_
            refine wl_free .none rfl (yf_pickF rfl rfl) ?_
            refine wl_free .none rfl (yf_move rfl) ?_
            refine wl_pass (.some rfl rfl rfl) rfl ?_
            refine wl_pass (.some rfl rfl rfl) rfl ?_
            refine wl_free .none rfl (yf_pickF rfl rfl) ?_
            refine wl_free .none rfl (yf_assign rfl) ?_
            refine wl_nil ?_
            exact wq_meet (ι := {z : Bool // z = true ↔ (far.tmod 4 = 0 ∧ -524288 ≤ far ∧ far ≤ 524284)}) ⟨false, ⟨fun h => (by cases h), fun h => absurd h.1 g4⟩⟩ (.cons rfl <| .cons rfl <| .cons rfl <| .cons rfl <| .cons rfl <| .cons rfl <| .nil) (fun w h => Hp.drop h (List.nil_sublist _) .slnil)
        · obtain ⟨z, hz⟩ := z
          dsimp only
          refine wc_seq ?_
          refine wc_seq ?_
          refine wc_region ?_
          refine wl_free .none rfl (yf_move rfl) ?_
          refine wl_nil ?_
          refine wq_then ?_
          refine wc_cond rfl (fun h109 => ?_) (fun h109 => ?_)
          · skip
            obtain ⟨a1, a2⟩ := hQ1 (hz.1 h109)
            have a1 : q1.length = 4 := a1
            have a2 : (q2, q3) = (0, 0) := a2
            injection a2 with a2 a3
            subst a2; subst a3
            refine wc_seq ?_
            refine wc_region ?_
            refine wl_free .none rfl (yf_move rfl) ?_
            refine wl_free .none rfl (yf_move rfl) ?_
            refine wl_split 111 rfl (fun hb => ?_) (fun hb => ?_)
            · skip
              refine wl_free (.some rfl rfl) rfl (yf_move rfl) ?_
              refine wl_free (.some rfl rfl) rfl (yf_eql rfl rfl) ?_
              refine wl_free .none rfl (yf_pickT rfl rfl) ?_
              refine wl_free .none rfl (yf_move rfl) ?_
              refine wl_split 115 rfl (fun hb => ?_) (fun hb => ?_)
              · replace hb := eq_of_beq hb
                refine wl_free (.some rfl rfl) rfl (yf_move rfl) ?_
                refine wl_free (.some rfl rfl) rfl (yf_eql rfl rfl) ?_
                refine wl_free .none rfl (yf_pickT rfl rfl) ?_
                refine wl_free .none rfl (yf_move rfl) ?_
                refine wl_split 119 rfl (fun hb => ?_) (fun hb => ?_)
                · replace hb := eq_of_beq hb
                  refine wl_free (.some rfl rfl) rfl (yf_move rfl) ?_
                  refine wl_free (.some rfl rfl) rfl (yf_lenL rfl Tryz.underlying9) ?_
                  refine wl_free (.some rfl rfl) rfl (yf_eql rfl rfl) ?_
                  refine wl_free .none rfl (yf_pickT rfl rfl) ?_
                  refine wl_free .none rfl (yf_assign rfl) ?_
                  refine wl_nil ?_
                  refine wq_then ?_
                  refine wc_ret ?_
                  refine wq_then_ret ?_
                  refine wq_ret1 rfl rfl (fun w hw => ?_)
                  exact ⟨by rw [a1]; rfl, hw.ext0⟩
                · replace hb := beq_no hb
                  exact absurd hb (by decide)
              · replace hb := beq_no hb
                exact absurd hb (by decide)
            · skip
              cases hb
          · skip
            have a1 : (q1, q2, q3) = ([], 3, 13) := hQ2 fun h => by rw [hz.2 h] at h109; cases h109
            injection a1 with a1 a2
            injection a2 with a2 a3
            subst a1; subst a2; subst a3
            refine wc_skip ?_
            refine wq_then ?_
            refine wc_seq ?_
            refine wc_region ?_
            refine wl_free .none rfl (yf_move rfl) ?_
            refine wl_free .none rfl (yf_move rfl) ?_
            refine wl_split 125 rfl (fun hb => ?_) (fun hb => ?_)
            · skip
              refine wl_free (.some rfl rfl) rfl (yf_move rfl) ?_
              refine wl_free (.some rfl rfl) rfl (yf_eql rfl rfl) ?_
              refine wl_free .none rfl (yf_pickT rfl rfl) ?_
              refine wl_free .none rfl (yf_move rfl) ?_
              refine wl_split 129 rfl (fun hb => ?_) (fun hb => ?_)
              · replace hb := eq_of_beq hb
                refine wl_free (.some rfl rfl) rfl (yf_move rfl) ?_
                refine wl_free (.some rfl rfl) rfl (yf_eql rfl rfl) ?_
                refine wl_free .none rfl (yf_pickT rfl rfl) ?_
                refine wl_free .none rfl (yf_move rfl) ?_
                refine wl_split 133 rfl (fun hb => ?_) (fun hb => ?_)
                · replace hb := eq_of_beq hb
                  refine wl_free (.some rfl rfl) rfl (yf_move rfl) ?_
                  refine wl_free (.some rfl rfl) rfl (yf_strs_eql rfl rfl Tryz.underlying9) ?_
                  refine wl_free .none rfl (yf_pickT rfl rfl) ?_
                  refine wl_free .none rfl (yf_assign rfl) ?_
                  refine wl_nil ?_
                  refine wq_then ?_
                  refine wc_ret ?_
                  refine wq_ret1 rfl rfl (fun w hw => ?_)
                  exact ⟨rfl, hw.ext0⟩
                · replace hb := beq_no hb
                  exact absurd hb (by decide)
              · replace hb := beq_no hb
                exact absurd hb (by decide)
            · skip
              exact absurd hb (by decide)
end Go.Proofs.YtkaepknpplhgkaaGreatDoor
