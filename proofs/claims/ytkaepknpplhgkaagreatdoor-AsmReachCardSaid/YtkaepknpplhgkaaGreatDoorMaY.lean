/- Words: Sign, Fits, Put, walked. -/
import Derived.Test.YtkaepknpplhgkaaGreatDoorMaX
import Derived.Test.YtkaepknpplhgkaaGreatDoorMaV
namespace Go.Proofs.YtkaepknpplhgkaaGreatDoor
open Go.RowKit
def BitA (b : Nat) : Prop := b = 8 ∨ b = 18 ∨ b = 22
theorem u32w (x : Int) : IntKind.u32.wrap x = x % 4294967296 := by simp only [IntKind.wrap, IntKind.bits, IntKind.signed]; simp
theorem u8w (x : Int) : IntKind.u8.wrap x = x % 256 := by simp only [IntKind.wrap, IntKind.bits, IntKind.signed]; simp
theorem i32w (x : Int) : IntKind.i32.wrap x = if 2147483648 ≤ x % 4294967296 then x % 4294967296 - 4294967296 else x % 4294967296 := by
  simp only [IntKind.wrap, IntKind.bits, IntKind.signed]; simp
theorem sgn_arith {n b : Nat} (_hn : n < 4294967296) (hb : BitA b) : IntKind.u32.wrap ((IntKind.i32.wrap (IntKind.u32.wrap ((n : Int) * 2 ^ (min ((32 : Int) - b).toNat 32)))).fdiv (2 ^ (min ((32 : Int) - b).toNat 32))) = (sxL n b : Nat) := by
  rw [u32w, u32w, i32w]
  unfold sxL
  rcases hb with rfl | rfl | rfl
  · rw [show (min ((32 : Int) - (8 : Nat)).toNat 32) = 24 from rfl, Int.fdiv_eq_ediv_of_nonneg _ (by decide)]
    have e : (2 : Int) ^ 24 = 16777216 := by decide
    rw [e]
    simp only [Nat.reducePow, Nat.reduceSub]
    split <;> split <;> omega
  · rw [show (min ((32 : Int) - (18 : Nat)).toNat 32) = 14 from rfl, Int.fdiv_eq_ediv_of_nonneg _ (by decide)]
    have e : (2 : Int) ^ 14 = 16384 := by decide
    rw [e]
    simp only [Nat.reducePow, Nat.reduceSub]
    split <;> split <;> omega
  · rw [show (min ((32 : Int) - (22 : Nat)).toNat 32) = 10 from rfl, Int.fdiv_eq_ediv_of_nonneg _ (by decide)]
    have e : (2 : Int) ^ 10 = 1024 := by decide
    rw [e]
    simp only [Nat.reducePow, Nat.reduceSub]
    split <;> split <;> omega
theorem sxL_fit {n b : Nat} (hn : n < 4294967296) (hb : BitA b) : decide (sxL n b = n) = fitL n b := by
  rw [Bool.eq_iff_iff]
  unfold sxL fitL
  rcases hb with rfl | rfl | rfl <;> simp <;> split <;> omega
theorem sign_any (n b : Nat) (hn : n < 4294967296) (hb : BitA b) (w_0 : World) : Calls Tryz.prog 164 #[.int .u32 n, .int .i64 b] w_0 fun e w' => e = .returned (.int .u32 (sxL n b)) ∧ Ext w_0 w' := by
  have hb1 : 1 ≤ b ∧ b < 32 := by rcases hb with rfl | rfl | rfl <;> omega
  refine calls_wc (args := [.int .u32 n, .int .i64 b]) Tryz.func164 rfl 21 rfl (Nat.le_of_ble_eq_true rfl) ?_
  refine wc_weak (.cons (i := 0) rfl <| .cons (i := 1) rfl <| .nil) ?_
  refine wc_conseq (H' := Hp (fun _ => False) w_0 [] [] (fun _ => True)) (fun u hu => ?_) ?_
  · subst hu; exact Hp.start0
  refine wc_seq ?_
  refine wc_region ?_
  refine wl_free .none rfl (yf_assign rfl) ?_
  refine wl_nil ?_
  refine wq_then ?_
  refine wc_seq ?_
  refine wc_block ?_
  refine wc_seq ?_
  refine wc_region ?_
  refine wl_free .none rfl (yf_move rfl) ?_
  refine wl_free .none rfl (yf_lss rfl rfl) ?_
  refine wl_free .none rfl (yf_assign rfl) ?_
  refine wl_nil ?_
  refine wq_then ?_
  refine wc_cond rfl (fun h5 => ?_) (fun h5 => ?_)
  · replace h5 := of_decide_eq_true h5
    omega
  · replace h5 := of_decide_eq_false h5
    refine wc_seq ?_
    refine wc_weak (.cons (i := 0) rfl <| .cons (i := 1) rfl <| .cons (i := 4) rfl <| .cons (i := 5) rfl <| .nil) ?_
    refine wc_region ?_
    refine wl_free .none rfl (yf_move rfl) ?_
    refine wl_free .none rfl (yf_geq rfl rfl) ?_
    refine wl_free .none rfl (yf_assign rfl) ?_
    refine wl_nil ?_
    refine wq_then ?_
    refine wc_cond rfl (fun h8 => ?_) (fun h8 => ?_)
    · replace h8 := of_decide_eq_true h8
      omega
    · replace h8 := of_decide_eq_false h8
      refine wc_skip ?_
      refine wq_block ?_
      refine wq_then ?_
      refine wc_seq ?_
      refine wc_weak (.cons (i := 0) rfl <| .cons (i := 1) rfl <| .cons (i := 4) rfl <| .cons (i := 5) rfl <| .cons (i := 8) rfl <| .nil) ?_
      refine wc_region ?_
      refine wl_free .none rfl (yf_move rfl) ?_
      refine wl_free .none rfl (yf_move rfl) ?_
      (refine wl_free .none rfl (yf_sub rfl rfl (i64_in _ ?_ ?_)) ?_; (· omega); (· omega); skip)
      (refine wl_free .none rfl (yf_shl rfl rfl ?_ rfl) ?_; (· first | decide | omega); skip)
      refine wl_free .none rfl (yf_conv rfl (by kernel_rfl) Tryz.underlying21 rfl) ?_
      refine wl_free .none rfl (yf_move rfl) ?_
      (refine wl_free .none rfl (yf_sub rfl rfl (i64_in _ ?_ ?_)) ?_; (· omega); (· omega); skip)
      (refine wl_free .none rfl (yf_shr rfl rfl ?_ rfl) ?_; (· first | decide | omega); skip)
      refine wl_free .none rfl (yf_conv rfl (by kernel_rfl) Tryz.underlying22 rfl) ?_
      refine wl_free .none rfl (yf_assign rfl) ?_
      refine wl_nil ?_
      refine wq_then ?_
      refine wc_ret ?_
      refine wq_ret1 rfl rfl (fun w hw => ?_)
      exact ⟨by rw [← sgn_arith hn hb]; rfl, (HpG.keep hw).ext⟩
theorem fits_any (n b : Nat) (hn : n < 4294967296) (hb : BitA b) (w_0 : World) : Calls Tryz.prog 107 #[.int .u32 n, .int .i64 b] w_0 fun e w' => e = .returned (.bool (fitL n b)) ∧ Ext w_0 w' := by
  have hf := sxL_fit hn hb
  refine calls_wc (args := [.int .u32 n, .int .i64 b]) Tryz.func107 rfl 10 rfl (Nat.le_of_ble_eq_true rfl) ?_
  refine wc_weak (.cons (i := 0) rfl <| .cons (i := 1) rfl <| .nil) ?_
  refine wc_conseq (H' := Hp (fun _ => False) w_0 [] [] (fun _ => True)) (fun u hu => ?_) ?_
  · subst hu; exact Hp.start0
  refine wc_seq ?_
  refine wc_region ?_
  refine wl_free .none rfl (yf_assign rfl) ?_
  refine wl_nil ?_
  refine wq_then ?_
  refine wc_seq ?_
  refine wc_region ?_
  refine wl_free .none rfl (yf_move rfl) ?_
  refine wl_free .none rfl (yf_move rfl) ?_
  refine wl_pure .none rfl  (v := .int .u32 (sxL n b)) (by kernel_rfl) rfl (fun w hw => sign_any n b hn hb w) ?_
  refine wl_free .none rfl (yf_move rfl) ?_
  refine wl_free .none rfl (yf_eql rfl rfl) ?_
  refine wl_free .none rfl (yf_assign rfl) ?_
  refine wl_nil ?_
  refine wq_then ?_
  refine wc_ret ?_
  refine wq_ret1 rfl rfl (fun w hw => ?_)
  exact ⟨by rw [← hf]; congr 2; rw [Bool.eq_iff_iff, beq_iff_eq, decide_eq_true_eq]; omega, (HpG.keep hw).ext⟩
theorem putL_len (n k : Nat) : (putL n k).length = k := by
  induction k generalizing n with
  | zero => rfl
  | succ k ih => show (putL (n / 256) k).length + 1 = _; rw [ih]
theorem byL_nat (n : Nat) : (byL (n % 256)).toNat = n % 256 := by
  unfold byL; rw [UInt8.toNat_ofNat']; omega
theorem putL_cells {n : Nat} (_hn : n < 4294967296) (k : Nat) (hk : k ≤ 4) : ∀ j (hj : j < (putL n k).length), ([.int .u8 (IntKind.u8.wrap n), .int .u8 (IntKind.u8.wrap ((n : Int).fdiv (2 ^ (min (8 : Int).toNat 32)))), .int .u8 (IntKind.u8.wrap ((n : Int).fdiv (2 ^ (min (16 : Int).toNat 32)))), .int .u8 (IntKind.u8.wrap ((n : Int).fdiv (2 ^ (min (24 : Int).toNat 32))))] : List Value)[0 + j]? = some (.int .u8 ((putL n k)[j].toNat : Int)) := by
  have key : ∀ (k j : Nat) (m : Nat) (hj : j < (putL m k).length), ((putL m k)[j].toNat : Int) = ((m / 256 ^ j % 256 : Nat) : Int) := by
    intro k
    induction k with
    | zero => intro j m hj; rw [putL_len] at hj; omega
    | succ k ih =>
      intro j m hj
      cases j with
      | zero => show ((byL (m % 256)).toNat : Int) = _; rw [byL_nat, Nat.pow_zero, Nat.div_one]
      | succ j =>
        have h1 : j < (putL (m / 256) k).length := by rw [putL_len] at hj ⊢; omega
        show (((putL (m / 256) k)[j]'h1).toNat : Int) = _
        rw [ih j (m / 256) h1, Nat.div_div_eq_div_mul, Nat.pow_succ, Nat.mul_comm]
  intro j hj
  rw [key]
  have hj4 : j < 4 := by rw [putL_len] at hj; omega
  have : j = 0 ∨ j = 1 ∨ j = 2 ∨ j = 3 := by omega
  have hw : ∀ x : Nat, IntKind.u8.wrap (x : Int) = ((x % 256 : Nat) : Int) := fun x => by rw [u8w]; simp
  have hf : ∀ p : Nat, ((n : Int).fdiv (2 ^ p)) = ((n / 2 ^ p : Nat) : Int) := fun p => by rw [Int.fdiv_eq_ediv_of_nonneg _ (Int.le_of_lt (by have : 0 < (2:Int) ^ p := Int.pow_pos (by decide); exact this))]; simp
  rcases this with rfl | rfl | rfl | rfl
  · simp [hw]
  · show some (Value.int .u8 (IntKind.u8.wrap ((n : Int).fdiv (2 ^ 8)))) = _; rw [hf, hw]
  · show some (Value.int .u8 (IntKind.u8.wrap ((n : Int).fdiv (2 ^ 16)))) = _; rw [hf, hw]
  · show some (Value.int .u8 (IntKind.u8.wrap ((n : Int).fdiv (2 ^ 24)))) = _; rw [hf, hw]
theorem put_any (n k : Nat) (hn : n < 4294967296) (hk : k ≤ 4) (w_0 : World) : Calls Tryz.prog 112 #[.int .u32 n, .int .i64 k] w_0 fun e w' => e = .returned (.string ⟨(putL n k).toArray⟩) ∧ Ext w_0 w' := by
  refine calls_wc (args := [.int .u32 n, .int .i64 k]) Tryz.func112 rfl 24 rfl (Nat.le_of_ble_eq_true rfl) ?_
  refine wc_weak (.cons (i := 0) rfl <| .cons (i := 1) rfl <| .nil) ?_
  refine wc_conseq (H' := Hp (fun _ => False) w_0 [] [] (fun _ => True)) (fun u hu => ?_) ?_
  · subst hu; exact Hp.start0
  refine wc_seq ?_
  refine wc_region ?_
  refine wl_free .none rfl (yf_assign rfl) ?_
  refine wl_nil ?_
  refine wq_then ?_
  refine wc_seq ?_
  refine wc_region ?_
  refine wl_free .none rfl (yf_move rfl) ?_
  refine wl_free .none rfl (yf_conv rfl (by kernel_rfl) Tryz.underlying5 rfl) ?_
  refine wl_free .none rfl (yf_move rfl) ?_
  (refine wl_free .none rfl (yf_shr rfl rfl ?_ rfl) ?_; (· first | decide | omega); skip)
  refine wl_free .none rfl (yf_conv rfl (by kernel_rfl) Tryz.underlying5 rfl) ?_
  refine wl_free .none rfl (yf_move rfl) ?_
  (refine wl_free .none rfl (yf_shr rfl rfl ?_ rfl) ?_; (· first | decide | omega); skip)
  refine wl_free .none rfl (yf_conv rfl (by kernel_rfl) Tryz.underlying5 rfl) ?_
  refine wl_free .none rfl (yf_move rfl) ?_
  (refine wl_free .none rfl (yf_shr rfl rfl ?_ rfl) ?_; (· first | decide | omega); skip)
  refine wl_free .none rfl (yf_conv rfl (by kernel_rfl) Tryz.underlying5 rfl) ?_
  refine wl_new .none rfl (nf_bsn (z := .int .u8 0) rfl rfl rfl rfl Tryz.underlying53 (by kernel_rfl) (by kernel_rfl) rfl rfl) (fun b17 => ?_)
  refine wl_free .none rfl (yf_assign rfl) ?_
  refine wl_nil ?_
  refine wq_then ?_
  refine wc_seq ?_
  refine wc_weak (.cons (i := 0) rfl <| .cons (i := 1) rfl <| .cons (i := 4) rfl <| .cons (i := 5) rfl <| .nil) ?_
  refine wc_region ?_
  refine wl_free .none rfl (yf_move rfl) ?_
  refine wl_free .none rfl (yf_move rfl) ?_
  refine wl_free .none rfl (yf_min rfl rfl) ?_
  refine wl_free .none rfl (yf_max rfl rfl) ?_
  (refine wl_free .none rfl (yf_sliceHi (size := 1) (i := k) rfl rfl Tryz.underlying53 (by kernel_rfl) (by split <;> split <;> omega) ?_) ?_; (· omega); skip)
  refine wl_free .none rfl (yf_convL 0 (putL n k) rfl rfl Tryz.underlying53 Tryz.underlying5 Tryz.underlying9 (putL_len n k) (putL_cells hn k hk)) ?_
  refine wl_free .none rfl (yf_assign rfl) ?_
  refine wl_nil ?_
  refine wq_then ?_
  refine wc_ret ?_
  refine wq_ret1 rfl rfl (fun w hw => ?_)
  exact ⟨rfl, (HpG.keep hw).ext⟩
end Go.Proofs.YtkaepknpplhgkaaGreatDoor
/- The law of reach, plainly: jumps of K. -/
namespace Go.Proofs.YtkaepknpplhgkaaGreatDoor
theorem cutA_no : ∀ {s : Bs}, (∀ c ∈ s, c ≠ 59) → cutA s = s
  | [], _ => rfl
  | c :: s, h => by
    have hc := h c (by simp)
    have ih := cutA_no fun d hd => h d (List.mem_cons_of_mem _ hd)
    unfold cutA at *
    rw [List.takeWhile_cons, if_pos (by simp [hc]), ih]
theorem lexA_no {s : Bs} (h : ∀ c ∈ s, c ≠ 59) : lexA s = lexD s := by unfold lexA lexD; rw [cutA_no h]
theorem dec_mem {n : Nat} {c : UInt8} (h : c ∈ Lib.decDigits n) : digB c = true := (dec_all (n + 1) n (by omega)).1 c h
theorem dig_ne {c d : UInt8} (h : digB c = true) (hd : digB d = false) : c ≠ d := fun e => by subst e; rw [h] at hd; cases hd
/-- A word, a blank, a number. -/
theorem lexD_wn {c : UInt8} {w : Bs} {n : Nat} (h : letB c = true ∨ c = 95 ∨ c = 46) (hw : ∀ x ∈ w, worB x = true) (hn : n < 4294967296) : lexD (c :: w ++ (32 :: Lib.decDigits n)) = .ok [⟨119, c :: w, 0⟩, ⟨48, [], n⟩] := by
  have hs : Stp7 (32 :: Lib.decDigits n) := fun c t e => by cases e; rfl
  have h1 := lexD_dec hn (r := []) (fun _ _ e => by cases e)
  rw [List.append_nil] at h1
  rw [lexD_word h hw hs, lexD_blank (.inl rfl), h1]; rfl
theorem cond_let : ∀ cc, cc < 14 → ∀ x ∈ condL.getD cc [], worB x = true ∧ x ≠ 59 ∧ x ≠ 10 := by decide
theorem cond_form (cc : Nat) (h : cc < 14) : findA 1 (106 :: condL.getD cc []) [118] 1 = some (.k (.always ((96 + cc : Nat) : Int)) .target) := by
  obtain rfl | rfl | rfl | rfl | rfl | rfl | rfl | rfl | rfl | rfl | rfl | rfl | rfl | rfl : cc = 0 ∨ cc = 1 ∨ cc = 2 ∨ cc = 3 ∨ cc = 4 ∨ cc = 5 ∨ cc = 6 ∨ cc = 7 ∨ cc = 8 ∨ cc = 9 ∨ cc = 10 ∨ cc = 11 ∨ cc = 12 ∨ cc = 13 := by omega
  all_goals kernel_rfl
theorem andR_ok {α β : Type} (a : α) (f : α → Except Nat β) : andR (.ok a) f = f a := rfl
theorem takeA_ok {k : Nat} {s : Bs} {n : Nat} {r : List ATk} : takeA k (⟨k, s, n⟩ :: r) = .ok (⟨k, s, n⟩, r) := by unfold takeA; dsimp only; rw [if_pos rfl]
/-- One value as operand. -/
theorem ops_num (kind : Int) (n f : Nat) : opsF kind (f + 2) true [] [⟨48, [], n⟩] = .ok [⟨118, 0, [], n, 0, 0⟩] := by
  rw [opsF, if_neg (by simp), if_neg (by simp), if_pos rfl]
  have : opA kind [⟨48, [], n⟩] = .ok (⟨118, 0, [], n, 0, 0⟩, []) := by
    unfold opA
    rw [if_neg (by simp [isA]), if_neg (by simp [isA]), if_pos ⟨_, rfl, rfl⟩]; rfl
  rw [this]
  show opsF kind (f + 1) false [⟨118, 0, [], n, 0, 0⟩] [] = _
  rw [opsF, if_pos rfl]
theorem jcc_line (cc n : Nat) (hc : cc < 14) (hn : n < 4294967296) : liA 1 (9 :: 106 :: (condL.getD cc [] ++ 32 :: Lib.decDigits n)) = .ok ⟨[], 106 :: condL.getD cc [], [118], [⟨118, 0, [], n, 0, 0⟩], some (.k (.always ((96 + cc : Nat) : Int)) .target), 0, 2⟩ := by
  have hw := cond_let cc hc
  unfold liA
  rw [lexA_no (by
    intro c hcm
    simp only [List.mem_cons, List.mem_append] at hcm
    rcases hcm with rfl | rfl | h | rfl | h
    · decide
    · decide
    · exact (hw c h).2.1
    · decide
    · exact dig_ne (dec_mem h) (by decide)), lexD_blank (.inr rfl)]
  have h1 := lexD_wn (c := 106) (w := condL.getD cc []) (.inl (by decide)) (fun x hx => (hw x hx).1) hn
  rw [List.cons_append] at h1
  rw [h1]
  show parA 1 [⟨119, 106 :: condL.getD cc [], 0⟩, ⟨48, [], n⟩] = _
  unfold parA
  rw [if_neg (fun h => by have := h.2; simp [isA] at this)]
  unfold stmA
  rw [if_neg (by simp)]
  rw [takeA_ok, andR_ok]
  dsimp only
  rw [show [(⟨48, [], n⟩ : ATk)].length + 1 = 0 + 2 from rfl, ops_num 1 n 0, andR_ok]
  have hsh : shpA [⟨118, 0, [], n, 0, 0⟩] = [118] := rfl
  have hle : [(⟨118, 0, [], n, 0, 0⟩ : AOp)].length = 1 := rfl
  rw [hsh, hle, cond_form cc hc]
  dsimp only
  rw [if_neg (fun h => by
    have := h.1
    have := congrArg (fun l : Bs => l.headD 0) this
    exact absurd (show (106 : UInt8) = 46 from this) (by decide))]
  have hs : ∀ cc, cc < 14 → sizeK (((96 + cc : Nat) : Int) % 256) = 2 := by decide
  have e : sizeA (.k (.always ((96 + cc : Nat) : Int)) .target) [⟨118, 0, [], n, 0, 0⟩] = 2 := hs cc hc
  rw [e]
theorem enc_small (cc imm : Nat) (hc : cc < 14) : encK ⟨((96 + cc : Nat) : Int), 0, 0, -1, 0, imm, 2⟩ = if sxL (imm % 256) 8 = imm then some [byL (96 + cc), byL (imm % 256)] else none := by
  have h1 : ∀ cc, cc < 14 → fmtK ((96 + cc : Nat) : Int) = some (2, [.small]) ∧ lowB ((96 + cc : Nat) : Int) = byL (96 + cc) ∧ ((96 + cc : Nat) : Int) ≠ 129 ∧ ((96 + cc : Nat) : Int) ≠ 130 := by decide
  obtain ⟨e1, e2, e3, e4⟩ := h1 cc hc
  have hb : (byL (imm % 256)).toNat = imm % 256 := by
    have : imm % 256 < 256 := Nat.mod_lt _ (by omega)
    unfold byL
    rw [UInt8.toNat_ofNat']
    omega
  have hr : rngK ⟨((96 + cc : Nat) : Int), 0, 0, -1, 0, imm, 2⟩ = true := by
    unfold rngK
    dsimp only
    rw [if_neg e3, if_neg e4]; rfl
  have ht : takeFs (putK ⟨((96 + cc : Nat) : Int), 0, 0, -1, 0, imm, 2⟩ [.small]) ⟨((96 + cc : Nat) : Int), 0, 0, -1, 0, 0, 2⟩ [.small] = ⟨((96 + cc : Nat) : Int), 0, 0, -1, 0, sxL (imm % 256) 8, 2⟩ := by
    show (⟨((96 + cc : Nat) : Int), 0, 0, -1, 0, sxL (byL (imm % 256)).toNat 8, 2⟩ : KI) = _
    rw [hb]
  unfold encK
  dsimp only
  rw [e1]
  dsimp only
  rw [show ((2 : Nat) : Int) = 2 from rfl, ht, e2]
  by_cases h : sxL (imm % 256) 8 = imm
  · rw [if_pos ⟨rfl, hr, by rw [h]⟩, if_pos h]; rfl
  · rw [if_neg (fun hh => h (by injection hh.2.2)), if_neg h]
theorem reach_num {far : Int} (h1 : -2147483648 ≤ far) (h2 : far ≤ 2147483647) (org : Nat) (ho : org < 4294967296) : subW (subW (((org : Int) + far) % 4294967296).toNat ((org + 0) % 4294967296)) 2 = ((far - 2) % 4294967296).toNat := by
  unfold subW
  omega
theorem reach_near {far : Int} (h1 : -2147483648 ≤ far) (h2 : far ≤ 2147483647) : (sxL (((far - 2) % 4294967296).toNat % 256) 8 = ((far - 2) % 4294967296).toNat) ↔ (-126 ≤ far ∧ far ≤ 129) := by
  unfold sxL
  have e1 : 2 ^ 8 = 256 := rfl
  have e2 : 2 ^ (8 - 1) = 128 := rfl
  rw [e1, e2]
  split <;> omega
def rOne : Bs := [59, 32, 111, 110, 101]
/-- A conditional jump of K: near, or out of range. -/
theorem reach_K (cc : Nat) (hc : cc < 14) {far : Int} (h1 : -2147483648 ≤ far) (h2 : far ≤ 2147483647) (org : Nat) (ho : org < 4294967296) : asmL 1 (rOne ++ 10 :: (9 :: 106 :: (condL.getD cc [] ++ 32 :: Lib.decDigits (((org : Int) + far) % 4294967296).toNat))) org = if -126 ≤ far ∧ far ≤ 129 then ([byL (96 + cc), byL (((far - 2) % 4294967296).toNat % 256)], 0, 0) else ([], 2, 13) := by
  have hnum := reach_num h1 h2 org ho
  have hn : (((org : Int) + far) % 4294967296).toNat < 4294967296 := by omega
  generalize (((org : Int) + far) % 4294967296).toNat = n at *
  have hw := cond_let cc hc
  have hnl : NoNl (9 :: 106 :: (condL.getD cc [] ++ 32 :: Lib.decDigits n)) := by
    intro c hcm
    simp only [List.mem_cons, List.mem_append] at hcm
    rcases hcm with rfl | rfl | h | rfl | h
    · decide
    · decide
    · exact (hw c h).2.2
    · decide
    · exact dig_ne (dec_mem h) (by decide)
  have hln : (Lib.decDigits n).length ≤ 10 := dec_len (by omega) (by decide)
  have hcl : ∀ cc, cc < 14 → (condL.getD cc []).length ≤ 2 := by decide
  have hcl := hcl cc hc
  have he : liA 1 rOne = .ok ⟨[], [], [], [], none, 0, 0⟩ := by kernel_rfl
  unfold asmL
  rw [if_neg (by omega), if_neg (by simp only [List.length_append, List.length_cons, List.length_nil, rOne]; omega), linA_app _ (by unfold NoNl; decide), linA_one hnl, pasF_ok he rfl (by show 0 + 0 ≤ _; omega), pasF_ok (jcc_line cc n hc hn) rfl (by show 0 + 0 + 2 ≤ _; omega)]
  dsimp only [pasF]
  rw [List.nil_append, List.singleton_append, outF_ok (v := []) (c := []) rfl rfl]
  have hv : valsA [] [(⟨118, 0, [], n, 0, 0⟩ : AOp)] = .ok [n] := rfl
  have hcd : ∀ a, cdA ⟨[], 106 :: condL.getD cc [], [118], [⟨118, 0, [], n, 0, 0⟩], some (.k (.always ((96 + cc : Nat) : Int)) .target), 0 + 0, 2⟩ [n] a = match encK ⟨((96 + cc : Nat) : Int), 0, 0, -1, 0, subW (subW n a) 2, 2⟩ with
      | some c => .ok c
      | none => .error 13 := fun a => by
    have hs : ∀ cc, cc < 14 → sizeK (((96 + cc : Nat) : Int) % 256) = 2 := by decide
    show (match encK (insK (.always ((96 + cc : Nat) : Int)) .target [118] [⟨118, 0, [], n, 0, 0⟩] [n] a) with
      | some c => Except.ok c
      | none => Except.error 13) = _
    have e : insK (.always ((96 + cc : Nat) : Int)) .target [118] [⟨118, 0, [], n, 0, 0⟩] [n] a = ⟨((96 + cc : Nat) : Int), 0, 0, -1, 0, subW (subW n a) 2, 2⟩ := by
      show (⟨((96 + cc : Nat) : Int), if (118 : UInt8) = 114 then (0 : Int) else 0, 0, -1, 0, subW (subW n a) (sizeK (((96 + cc : Nat) : Int) % 256)), (sizeK (((96 + cc : Nat) : Int) % 256) : Nat)⟩ : KI) = _
      rw [hs cc hc, if_neg (by decide)]; rfl
    rw [e]
  have hcd := hcd ((org + (0 + 0)) % 4294967296)
  rw [show org + (0 + 0) = org + 0 from rfl, hnum, enc_small cc _ hc] at hcd
  by_cases hnear : -126 ≤ far ∧ far ≤ 129
  · rw [if_pos ((reach_near h1 h2).2 hnear)] at hcd
    rw [outF_ok hv hcd, if_pos hnear]; rfl
  · rw [if_neg (fun h => hnear ((reach_near h1 h2).1 h))] at hcd
    rw [outF_bad (e := 13) (by rw [hv, andR_ok]; exact hcd), if_neg hnear]
end Go.Proofs.YtkaepknpplhgkaaGreatDoor
/- The law of reach, plainly: branches of Q. -/
namespace Go.Proofs.YtkaepknpplhgkaaGreatDoor
def braL : List Bs := [[98, 101, 113], [98, 110, 101], [98, 108, 116, 117], [98, 103, 101, 117], [98, 108, 116], [98, 103, 101]]
def braT (cc n : Nat) : List ATk := [⟨119, braL.getD cc [], 0⟩, ⟨119, [114, 49], 0⟩, ⟨115, [44], 0⟩, ⟨119, [114, 50], 0⟩, ⟨115, [44], 0⟩, ⟨48, [], n⟩]
def braO (n : Nat) : List AOp := [⟨114, 1, [], 0, 0, 0⟩, ⟨114, 2, [], 0, 0, 0⟩, ⟨118, 0, [], n, 0, 0⟩]
theorem bra_par (cc n : Nat) (hc : cc < 6) : parA 2 (braT cc n) = .ok ⟨[], braL.getD cc [], [114, 114, 118], braO n, some (.q ((32 + cc : Nat) : Int)), 0, 4⟩ := by
  obtain rfl | rfl | rfl | rfl | rfl | rfl : cc = 0 ∨ cc = 1 ∨ cc = 2 ∨ cc = 3 ∨ cc = 4 ∨ cc = 5 := by omega
  all_goals kernel_rfl
theorem bra_let : ∀ cc, cc < 6 → ∀ x ∈ (braL.getD cc []).drop 1, worB x = true ∧ x ≠ 59 ∧ x ≠ 10 := by decide
theorem bra_hd : ∀ cc, cc < 6 → braL.getD cc [] = 98 :: (braL.getD cc []).drop 1 := by decide
def braS (cc n : Nat) : Bs := braL.getD cc [] ++ (32 :: 114 :: 49 :: 44 :: 32 :: 114 :: 50 :: 44 :: 32 :: Lib.decDigits n)
theorem bra_lex (cc n : Nat) (hc : cc < 6) (hn : n < 4294967296) : lexD (braS cc n) = .ok (braT cc n) := by
  have hw := bra_let cc hc
  have h1 := lexD_dec hn (r := []) (fun _ _ e => by cases e)
  rw [List.append_nil] at h1
  have st : ∀ c r, worB c = false → Stp7 (c :: r) := fun c r h d t e => by cases e; exact h
  have hr : ∀ d r, worB d = true → lexD (114 :: d :: 44 :: r) = andR (lexD r) fun l => .ok (⟨119, [114, d], 0⟩ :: ⟨115, [44], 0⟩ :: l) := fun d r hd => by
    have := lexD_word (c := 114) (w := [d]) (r := 44 :: r) (.inl (by decide)) (fun x hx => by cases List.mem_singleton.1 hx; exact hd) (st _ _ (by decide))
    rw [show (114 :: [d] ++ 44 :: r : Bs) = 114 :: d :: 44 :: r from rfl] at this
    rw [this, lexD_sign (by decide)]
    cases lexD r <;> rfl
  unfold braS braT
  conv => lhs; rw [bra_hd cc hc]
  rw [lexD_word (.inl (by decide)) (fun x hx => (hw x hx).1) (st _ _ (by decide)), ← bra_hd cc hc, lexD_blank (.inl rfl), hr _ _ (by decide), lexD_blank (.inl rfl), hr _ _ (by decide), lexD_blank (.inl rfl), h1]
  rfl
theorem bra_line (cc n : Nat) (hc : cc < 6) (hn : n < 4294967296) : liA 2 (braS cc n) = .ok ⟨[], braL.getD cc [], [114, 114, 118], braO n, some (.q ((32 + cc : Nat) : Int)), 0, 4⟩ := by
  have hw := bra_let cc hc
  unfold liA
  rw [lexA_no (by
    intro c hcm
    unfold braS at hcm
    rw [bra_hd cc hc] at hcm
    simp only [List.mem_cons, List.mem_append] at hcm
    rcases hcm with (rfl | h) | rfl | rfl | rfl | rfl | rfl | rfl | rfl | rfl | rfl | h
    all_goals first
    | exact (hw c h).2.1
    | exact dig_ne (dec_mem h) (by decide)
    | decide), bra_lex cc n hc hn]
  exact bra_par cc n hc
theorem enc_bra (cc imm : Nat) (hc : cc < 6) : encQ ⟨((32 + cc : Nat) : Int), 1, 2, 0, imm⟩ = if fitL imm 18 = true then some ((32 + cc) * 67108864 + 1 * 4194304 + 2 * 262144 + 0 * 16384 + imm % 2 ^ 18) else none := by
  have h1 : ∀ cc, cc < 6 → shpQ ((32 + cc : Nat) : Int) = some ⟨true, true, false, 1, 18, 0⟩ ∧ ((32 + cc : Nat) : Int).toNat = 32 + cc := by
    intro cc h
    refine ⟨?_, by omega⟩
    obtain rfl | rfl | rfl | rfl | rfl | rfl : cc = 0 ∨ cc = 1 ∨ cc = 2 ∨ cc = 3 ∨ cc = 4 ∨ cc = 5 := by omega
    all_goals rfl
  obtain ⟨e1, e2⟩ := h1 cc hc
  unfold encQ
  dsimp only
  rw [e1]
  dsimp only
  rw [e2]
  have hi : immQ ⟨true, true, false, 1, 18, 0⟩ imm = fitL imm 18 := rfl
  rw [hi]
  by_cases h : fitL imm 18 = true
  · rw [if_pos ⟨rfl, rfl, rfl, h⟩, if_pos h]; rfl
  · rw [if_neg (fun hh => h hh.2.2.2), if_neg h]
theorem reach_q4 {far : Int} (h1 : -2147483648 ≤ far) (h2 : far ≤ 2147483647) (org : Nat) (ho : org < 4294967296) : sgnI (subW (((org : Int) + far) % 4294967296).toNat ((org + 0) % 4294967296)) = far := by
  have e : subW (((org : Int) + far) % 4294967296).toNat ((org + 0) % 4294967296) = (far % 4294967296).toNat := by unfold subW; omega
  rw [e]
  unfold sgnI
  split <;> omega
theorem reach_qn {far : Int} (h1 : -2147483648 ≤ far) (h2 : far ≤ 2147483647) (h4 : far.tmod 4 = 0) : fitL (far.tdiv 4 % 4294967296).toNat 18 = true ↔ (-524288 ≤ far ∧ far ≤ 524284) := by
  have hd := Int.mul_tdiv_add_tmod far 4
  have e1 : 2 ^ (18 - 1) = 131072 := rfl
  unfold fitL
  rw [e1]
  simp only [Bool.or_eq_true, decide_eq_true_eq]
  omega
/-- A branch of Q: four bytes, or out of range. -/
theorem reach_Q (cc : Nat) (hc : cc < 6) {far : Int} (h1 : -2147483648 ≤ far) (h2 : far ≤ 2147483647) (org : Nat) (ho : org < 4294967296) : ∃ c, asmL 2 (10 :: 10 :: braS cc (((org : Int) + far) % 4294967296).toNat) org = c ∧ ((far.tmod 4 = 0 ∧ -524288 ≤ far ∧ far ≤ 524284 → c.1.length = 4 ∧ c.2 = (0, 0)) ∧ (¬ (far.tmod 4 = 0 ∧ -524288 ≤ far ∧ far ≤ 524284) → c = ([], 3, 13))) := by
  refine ⟨_, rfl, ?_⟩
  have hnum := reach_q4 h1 h2 org ho
  have hn : (((org : Int) + far) % 4294967296).toNat < 4294967296 := by omega
  generalize (((org : Int) + far) % 4294967296).toNat = n at *
  have hw := bra_let cc hc
  have hnl : NoNl (braS cc n) := by
    intro c hcm
    unfold braS at hcm
    rw [bra_hd cc hc] at hcm
    simp only [List.mem_cons, List.mem_append] at hcm
    rcases hcm with (rfl | h) | rfl | rfl | rfl | rfl | rfl | rfl | rfl | rfl | rfl | h
    all_goals first
    | exact (hw c h).2.2
    | exact dig_ne (dec_mem h) (by decide)
    | decide
  have hln : (Lib.decDigits n).length ≤ 10 := dec_len (by omega) (by decide)
  have hcl : ∀ cc, cc < 6 → (braL.getD cc []).length ≤ 4 := by decide
  have hcl := hcl cc hc
  have hlb : (braS cc n).length ≤ 30 := by unfold braS; simp only [List.length_append, List.length_cons]; omega
  have he : liA 2 [] = .ok ⟨[], [], [], [], none, 0, 0⟩ := by kernel_rfl
  have hl : linA (10 :: 10 :: braS cc n) = [[], [], braS cc n] := by
    have h0 : NoNl [] := fun _ h => by cases h
    have e1 := linA_app (10 :: braS cc n) h0
    have e2 := linA_app (braS cc n) h0
    rw [List.nil_append] at e1 e2
    rw [e1, e2, linA_one hnl]
  unfold asmL
  rw [if_neg (by omega), if_neg (by simp only [List.length_cons]; omega), hl, pasF_ok he rfl (by show 0 + 0 ≤ _; omega), pasF_ok he rfl (by show 0 + 0 + 0 ≤ _; omega), pasF_ok (bra_line cc n hc hn) rfl (by show 0 + 0 + 0 + 4 ≤ _; omega)]
  dsimp only [pasF]
  rw [List.nil_append, List.append_assoc, List.singleton_append, outF_ok (v := []) (c := []) rfl rfl, List.singleton_append, outF_ok (v := []) (c := []) rfl rfl]
  have hv : valsA [] (braO n) = .ok [0, 0, n] := rfl
  have hj : jmpQ ((32 + cc : Nat) : Int) = true := by
    unfold jmpQ
    rw [decide_eq_true (by omega)]; rfl
  have hi : insQ ((32 + cc : Nat) : Int) (braO n) [0, 0, n] 0 ⟨((32 + cc : Nat) : Int), 0, 0, 0, 0⟩ = ⟨((32 + cc : Nat) : Int), 1, 2, 0, n⟩ := by
    have hj : ∀ k : Nat, (if ((32 + cc : Nat) : Int) = 52 ∨ ((32 + cc : Nat) : Int) = 54 then k + 1 else k) = k := fun k => if_neg (by omega)
    unfold braO
    simp only [insQ, hj]
    rfl
  have hcd : cdA ⟨[], braL.getD cc [], [114, 114, 118], braO n, some (.q ((32 + cc : Nat) : Int)), 0 + 0 + 0, 4⟩ [0, 0, n] ((org + (0 + 0 + 0)) % 4294967296) = if far.tmod 4 = 0 then (match encQ ⟨((32 + cc : Nat) : Int), 1, 2, 0, (far.tdiv 4 % 4294967296).toNat⟩ with
      | some w => Except.ok (putL w 4)
      | none => Except.error 13) else Except.error 13 := by
    show codeA (.q ((32 + cc : Nat) : Int)) [114, 114, 118] (braO n) [0, 0, n] ((org + 0) % 4294967296) = _
    unfold codeA
    dsimp only
    rw [if_pos hj, hi]
    dsimp only
    rw [hnum]
    rfl
  have hpl : ∀ w, (putL w 4).length = 4 := fun w => rfl
  refine ⟨fun ⟨g1, g2⟩ => ?_, fun hg => ?_⟩
  · rw [if_pos g1, enc_bra cc _ hc, if_pos ((reach_qn h1 h2 g1).2 g2)] at hcd
    rw [outF_ok hv hcd]
    exact ⟨rfl, rfl⟩
  · have hb : cdA ⟨[], braL.getD cc [], [114, 114, 118], braO n, some (.q ((32 + cc : Nat) : Int)), 0 + 0 + 0, 4⟩ [0, 0, n] ((org + (0 + 0 + 0)) % 4294967296) = .error 13 := by
      rw [hcd]
      by_cases g1 : far.tmod 4 = 0
      · rw [if_pos g1, enc_bra cc _ hc, if_neg (fun h => hg ⟨g1, (reach_qn h1 h2 g1).1 h⟩)]
      · rw [if_neg g1]
    rw [outF_bad (e := 13) (by rw [hv, andR_ok]; exact hb)]
end Go.Proofs.YtkaepknpplhgkaaGreatDoor
/- The law of data, plainly. -/
namespace Go.Proofs.YtkaepknpplhgkaaGreatDoor
/-! ### Lines that are known -/
structure LnA (kind : Int) (s : Bs) (st : ASt) : Prop where
  ok : liA kind s = .ok st
  lb : st.label = []
def plcS : List ASt → Nat → List ASt
  | [], _ => []
  | s :: r, a => { s with at_ := a } :: plcS r (a + s.size)
inductive LnsA (kind : Int) : List Bs → List ASt → Prop
  | nil : LnsA kind [] []
  | cons {s : Bs} {st : ASt} {l : List Bs} {r : List ASt} (h : LnA kind s st) (t : LnsA kind l r) : LnsA kind (s :: l) (st :: r)
theorem LnsA.app {kind : Int} {l l' : List Bs} {r r' : List ASt} (h : LnsA kind l r) (k : LnsA kind l' r') : LnsA kind (l ++ l') (r ++ r') := by
  induction h with
  | nil => exact k
  | cons h _ ih => exact .cons h ih
/-- The code of statements, wherever they stand. -/
inductive CdA (lb : List (Bs × Nat)) : List ASt → Bs → Prop
  | nil : CdA lb [] []
  | cons {st : ASt} {r : List ASt} {c d : Bs} {v : List Nat} (hv : valsA lb st.l = .ok v) (h : ∀ a a', cdA { st with at_ := a' } v a = .ok c) (t : CdA lb r d) : CdA lb (st :: r) (c ++ d)
theorem CdA.app {lb : List (Bs × Nat)} {r r' : List ASt} {c c' : Bs} (h : CdA lb r c) (k : CdA lb r' c') : CdA lb (r ++ r') (c ++ c') := by
  induction h with
  | nil => exact k
  | cons hv h _ ih => rw [List.append_assoc]; exact .cons hv h ih
/-! ### The directives -/
end Go.Proofs.YtkaepknpplhgkaaGreatDoor
/- The law of errors, plainly. -/
namespace Go.Proofs.YtkaepknpplhgkaaGreatDoor
variable {kind : Int} {x br : ASt} {c : Bs}
end Go.Proofs.YtkaepknpplhgkaaGreatDoor
/- The law of origins, plainly. -/
namespace Go.Proofs.YtkaepknpplhgkaaGreatDoor
/-- The code of statements where they stand. -/
inductive CdP (org : Nat) (lb : List (Bs × Nat)) : List ASt → Bs → Prop
  | nil : CdP org lb [] []
  | cons {st : ASt} {r : List ASt} {c d : Bs} {v : List Nat} (hv : valsA lb st.l = .ok v) (h : cdA st v ((org + st.at_) % 4294967296) = .ok c) (t : CdP org lb r d) : CdP org lb (st :: r) (c ++ d)
theorem CdP.app {org : Nat} {lb : List (Bs × Nat)} {r r' : List ASt} {c c' : Bs} (h : CdP org lb r c) (k : CdP org lb r' c') : CdP org lb (r ++ r') (c ++ c') := by
  induction h with
  | nil => exact k
  | cons hv h _ ih => rw [List.append_assoc]; exact .cons hv h ih
end Go.Proofs.YtkaepknpplhgkaaGreatDoor
/- The law of labels, plainly. -/
namespace Go.Proofs.YtkaepknpplhgkaaGreatDoor
theorem subW_lt (a b : Nat) : subW a b < 4294967296 := Nat.mod_lt _ (by omega)
end Go.Proofs.YtkaepknpplhgkaaGreatDoor
