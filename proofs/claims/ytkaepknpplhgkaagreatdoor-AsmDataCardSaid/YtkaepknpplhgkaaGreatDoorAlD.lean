/- The reference's numerals. -/
import Derived.Test.YtkaepknpplhgkaaGreatDoorMag
import Derived.Test.YtkaepknpplhgkaaGreatDoorMaY
namespace Go.Proofs.YtkaepknpplhgkaaGreatDoor
open Go.RowKit
theorem decdig8 (m : Nat) : IntKind.u8.wrap (IntKind.u32.wrap (48 + ((m % 10 : Nat) : Int))) = ((digC m).toNat : Int) := by
  have h : m % 10 < 10 := Nat.mod_lt _ (by decide)
  unfold digC
  rw [u32_in _ (by omega) (by omega)]
  have : (UInt8.ofNat (48 + m % 10)).toNat = 48 + m % 10 := by rw [UInt8.toNat_ofNat']; omega
  rw [this]
  simp only [IntKind.wrap, IntKind.bits, IntKind.signed]
  simp
  omega
theorem tdivN (n k : Nat) : ((n : Int)).tdiv (k : Int) = ((n / k : Nat) : Int) := by
  rw [Int.tdiv_eq_ediv_of_nonneg (by omega)]; rfl
theorem tmodE (n k : Nat) : ((n : Int)).tmod (k : Int) = ((n % k : Nat) : Int) := by
  rw [Int.tmod_eq_emod_of_nonneg (by omega)]; rfl
theorem tdivE (n k : Nat) : ((n : Int)).tdiv (k : Int) = ((n / k : Nat) : Int) := tdivN n k
theorem one_at (c : UInt8) : ∀ j (hj : j < ([c] : Bs).length), ([.int .u8 (c.toNat : Int)] : List Value)[0 + j]? = some (.int .u8 (([c] : Bs)[j].toNat : Int)) := fun j hj => by
  have h0 : j = 0 := by simpa using hj
  subst h0; rfl
structure DgI (n : Nat) (p : Nat × Bs) : Prop where
  e : decPre p.1 ++ p.2 = Lib.decDigits n
  n : p.1 < 4294967296
  l : p.2.length + (decPre p.1).length ≤ 100
set_option maxHeartbeats 1000000 in
set_option maxRecDepth 100000 in
theorem digits_any (n : Nat) (hn : n < 4294967296) (w_0 : World) : Calls Tryz.prog 23 #[.int .u32 n] w_0 fun e w' => e = .returned (.string ⟨(Lib.decDigits n).toArray⟩) ∧ Ext w_0 w' := by
  have hln : (Lib.decDigits n).length ≤ 10 := dec_len (k := 10) (by omega) (by decide)
  refine calls_wc (args := [.int .u32 n]) Tryz.func23 rfl 23 rfl (Nat.le_of_ble_eq_true rfl) ?_
  refine wc_weak (.cons (i := 0) rfl <| .nil) ?_
  refine wc_conseq (H' := Hp (fun _ => False) w_0 [] [] (fun _ => True)) (fun u hu => ?_) ?_
  · subst hu; exact Hp.start0
  refine wc_seq ?_
  refine wc_region ?_
  refine wl_free .none rfl (yf_assign rfl) ?_
  refine wl_nil ?_
  refine wq_then ?_
  refine wc_seq ?_
  refine wc_region ?_
  refine wl_free .none rfl (yf_move rfl) ?_
  (refine wl_free .none rfl (yf_rem rfl rfl ?_ (show ((n : Int)).tmod 10 = ((n % 10 : Nat) : Int) from tmodE n 10)) ?_; (· first | decide | omega); skip)
  refine wl_free .none rfl (yf_add rfl rfl rfl) ?_
  refine wl_free .none rfl (yf_conv rfl (by kernel_rfl) Tryz.underlying5 (decdig8 n)) ?_
  refine wl_new .none rfl (nf_bs1 (z := .int .u8 0) rfl rfl Tryz.underlying53 (by kernel_rfl) (by kernel_rfl) rfl rfl) (fun b8 => ?_)
  refine wl_free .none rfl  (yf_convL 0 [digC n] rfl rfl Tryz.underlying53 Tryz.underlying5 Tryz.underlying9 rfl (one_at _)) ?_
  refine wl_free .none rfl (yf_assign rfl) ?_
  refine wl_nil ?_
  refine wq_then ?_
  refine wc_seq ?_
  refine wc_block ?_
  refine wc_loop (ι := {p : Nat × Bs // DgI n p}) (fun p => [(0, .int .u32 (p.1.1 : Nat)), (3, .string ⟨p.1.2.toArray⟩)]) (fun p => Hp (fun _ => False) w_0 [] [] (fun _ => True)) (fun p => p.1.1) ⟨(n, [digC n]), ⟨(dec_pre n).symm, hn, by have := congrArg List.length (dec_pre n); rw [List.length_append] at this; show ([digC n] : Bs).length + (decPre n).length ≤ 100; omega⟩⟩ (.cons rfl <| .cons rfl <| .nil) (fun w h => Hp.drop h (List.nil_sublist _) (List.Sublist.refl _)) (fun p => ?_)
  obtain ⟨⟨m, s⟩, he, hm, hl⟩ := p
  dsimp only at he hm hl ⊢
  refine wc_seq ?_
  refine wc_seq ?_
  refine wc_region ?_
  refine wl_free .none rfl (yf_move rfl) ?_
  refine wl_free .none rfl (yf_geq rfl rfl) ?_
  refine wl_nil ?_
  refine wq_then ?_
  refine wc_cond rfl (fun h11 => ?_) (fun h11 => ?_)
  · replace h11 := of_decide_eq_true h11
    have hst := pre_step (u := m) (by omega)
    have hl2 : s.length + (decPre (m / 10)).length + 1 ≤ 100 := by rw [hst, List.length_append, List.length_cons, List.length_nil] at hl; omega
    refine wc_skip ?_
    refine wq_then ?_
    refine wc_block ?_
    refine wc_seq ?_
    refine wc_weak (.cons (i := 0) rfl <| .cons (i := 3) rfl <| .cons (i := 11) rfl <| .nil) ?_
    refine wc_region ?_
    refine wl_free .none rfl (yf_move rfl) ?_
    (refine wl_free .none rfl (yf_quo rfl rfl ?_ (show IntKind.u32.wrap (((m : Nat) : Int).tdiv 10) = ((m / 10 : Nat) : Int) by rw [show ((m : Nat) : Int).tdiv 10 = ((m / 10 : Nat) : Int) from tdivE m 10]; exact u32_in _ (by omega) (by omega))) ?_; (· first | decide | omega); skip)
    refine wl_free .none rfl (yf_assign rfl) ?_
    refine wl_nil ?_
    refine wq_then ?_
    refine wc_weak (.cons (i := 0) rfl <| .cons (i := 3) rfl <| .cons (i := 11) rfl <| .nil) ?_
    refine wc_region ?_
    refine wl_free .none rfl (yf_move rfl) ?_
    (refine wl_free .none rfl (yf_rem rfl rfl ?_ (tmodE (m / 10) 10)) ?_; (· first | decide | omega); skip)
    refine wl_free .none rfl (yf_add rfl rfl rfl) ?_
    refine wl_free .none rfl (yf_conv rfl (by kernel_rfl) Tryz.underlying5 (decdig8 (m / 10))) ?_
    refine wl_new .none rfl (nf_bs1 (z := .int .u8 0) rfl rfl Tryz.underlying53 (by kernel_rfl) (by kernel_rfl) rfl rfl) (fun b18 => ?_)
    refine wl_free .none rfl  (yf_convL 0 [digC (m / 10)] rfl rfl Tryz.underlying53 Tryz.underlying5 Tryz.underlying9 rfl (one_at _)) ?_
    refine wl_free .none rfl (yf_move rfl) ?_
    (refine wl_free .none rfl (yf_str_add rfl rfl ?_) ?_; (· (show 1 + s.length ≤ _; omega)); skip)
    refine wl_free .none rfl (yf_assign rfl) ?_
    refine wl_nil ?_
    refine wq_block ?_
    refine wq_round (ι := {p : Nat × Bs // DgI n p}) ⟨(m / 10, [digC (m / 10)] ++ s), ⟨by rw [← he, hst, List.append_assoc], by show m / 10 < _; omega, by show ([digC (m / 10)] ++ s).length + _ ≤ 100; rw [List.length_append]; show 1 + s.length + (decPre (m / 10)).length ≤ 100; omega⟩⟩ (by show m / 10 < m; omega) (.cons rfl <| .cons rfl <| .nil) (fun w h => Hp.drop h (List.nil_sublist _) (List.Sublist.refl _))
  · replace h11 := of_decide_eq_false h11
    have hp0 : decPre m = [] := by unfold decPre; rw [if_pos (by omega)]
    rw [hp0] at he
    refine wc_exit ?_
    refine wq_then_exit ?_
    refine wq_then_exit ?_
    refine wq_here ?_
    refine wq_then ?_
    refine wc_seq ?_
    refine wc_weak (.cons (i := 0) rfl <| .cons (i := 3) rfl <| .cons (i := 11) rfl <| .nil) ?_
    refine wc_region ?_
    refine wl_free .none rfl (yf_move rfl) ?_
    refine wl_free .none rfl (yf_assign rfl) ?_
    refine wl_nil ?_
    refine wq_then ?_
    refine wc_ret ?_
    refine wq_ret1 rfl rfl (fun w hw => ?_)
    exact ⟨by rw [← he]; rfl, hw.ext0⟩
def sgnP (n : Nat) (plus : Bool) : Bs := if 2147483648 ≤ n then 45 :: Lib.decDigits (4294967296 - n) else if plus = true then 43 :: Lib.decDigits n else Lib.decDigits n
theorem sgnP_no (n : Nat) : sgnP n false = sgnB n := rfl
set_option maxHeartbeats 1000000 in
theorem signed_any (n : Nat) (hn : n < 4294967296) (plus : Bool) (w_0 : World) : Calls Tryz.prog 24 #[.int .u32 n, .bool plus] w_0 fun e w' => e = .returned (.string ⟨(sgnP n plus).toArray⟩) ∧ Ext w_0 w' := by
  have hln : (Lib.decDigits n).length ≤ 10 := dec_len (k := 10) (by omega) (by decide)
  have hln2 : (Lib.decDigits (4294967296 - n)).length ≤ 10 := dec_len (k := 10) (by omega) (by decide)
  refine calls_wc (args := [.int .u32 n, .bool plus]) Tryz.func24 rfl 17 rfl (Nat.le_of_ble_eq_true rfl) ?_
  refine wc_weak (.cons (i := 0) rfl <| .cons (i := 1) rfl <| .nil) ?_
  refine wc_conseq (H' := Hp (fun _ => False) w_0 [] [] (fun _ => True)) (fun u hu => ?_) ?_
  · subst hu; exact Hp.start0
  refine wc_seq ?_
  refine wc_region ?_
  refine wl_free .none rfl (yf_assign rfl) ?_
  refine wl_nil ?_
  refine wq_then ?_
  refine wc_seq ?_
  refine wc_seq ?_
  refine wc_region ?_
  refine wl_free .none rfl (yf_move rfl) ?_
  refine wl_free .none rfl (yf_geq rfl rfl) ?_
  refine wl_nil ?_
  refine wq_then ?_
  refine wc_cond rfl (fun h6 => ?_) (fun h6 => ?_)
  · replace h6 := of_decide_eq_true h6
    refine wc_seq ?_
    refine wc_weak (.cons (i := 0) rfl <| .cons (i := 1) rfl <| .cons (i := 4) rfl <| .cons (i := 6) rfl <| .nil) ?_
    refine wc_region ?_
    refine wl_free .none rfl (yf_move rfl) ?_
    refine wl_free .none rfl (yf_sub rfl rfl (show IntKind.u32.wrap ((0 : Int) - (n : Int)) = ((4294967296 - n : Nat) : Int) by rw [u32w]; omega)) ?_
    refine wl_pure .none rfl  (by kernel_rfl) rfl (fun w hw => digits_any (4294967296 - n) (by omega) w) ?_
    (refine wl_free .none rfl (yf_str_add rfl rfl ?_) ?_; (· (show 1 + _ ≤ _; omega)); skip)
    refine wl_free .none rfl (yf_assign rfl) ?_
    refine wl_nil ?_
    refine wq_then ?_
    refine wc_ret ?_
    refine wq_then_ret ?_
    refine wq_ret1 rfl rfl (fun w hw => ?_)
    exact ⟨by unfold sgnP; rw [if_pos (by omega)]; rfl, hw.ext0⟩
  · replace h6 := of_decide_eq_false h6
    refine wc_skip ?_
    refine wq_then ?_
    refine wc_seq ?_
    refine wc_seq ?_
    refine wc_weak (.cons (i := 0) rfl <| .cons (i := 1) rfl <| .cons (i := 4) rfl <| .cons (i := 6) rfl <| .nil) ?_
    refine wc_region ?_
    refine wl_free .none rfl (yf_move rfl) ?_
    refine wl_nil ?_
    refine wq_then ?_
    refine wc_cond rfl (fun h11 => ?_) (fun h11 => ?_)
    · skip
      refine wc_seq ?_
      refine wc_region ?_
      refine wl_free .none rfl (yf_move rfl) ?_
      refine wl_pure .none rfl  (by kernel_rfl) rfl (fun w hw => digits_any n hn w) ?_
      (refine wl_free .none rfl (yf_str_add rfl rfl ?_) ?_; (· (show 1 + _ ≤ _; omega)); skip)
      refine wl_free .none rfl (yf_assign rfl) ?_
      refine wl_nil ?_
      refine wq_then ?_
      refine wc_ret ?_
      refine wq_then_ret ?_
      refine wq_ret1 rfl rfl (fun w hw => ?_)
      exact ⟨by unfold sgnP; rw [if_neg (by omega), if_pos h11]; rfl, hw.ext0⟩
    · skip
      refine wc_skip ?_
      refine wq_then ?_
      refine wc_seq ?_
      refine wc_region ?_
      refine wl_free .none rfl (yf_move rfl) ?_
      refine wl_pure .none rfl  (by kernel_rfl) rfl (fun w hw => digits_any n hn w) ?_
      refine wl_free .none rfl (yf_assign rfl) ?_
      refine wl_nil ?_
      refine wq_then ?_
      refine wc_ret ?_
      refine wq_ret1 rfl rfl (fun w hw => ?_)
      exact ⟨by unfold sgnP; rw [if_neg (by omega), if_neg (by rw [h11]; decide)], hw.ext0⟩
end Go.Proofs.YtkaepknpplhgkaaGreatDoor
