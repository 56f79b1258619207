/- Words: Sign, Fits, Put, walked. -/
import Derived.Test.YtkaepknpplhgkaaGreatDoorMaX
import Derived.Test.YtkaepknpplhgkaaGreatDoorMaV
namespace Go.Proofs.YtkaepknpplhgkaaGreatDoor
open Go.RowKit
def BitA (b : Nat) : Prop := b = 8 ∨ b = 18 ∨ b = 22
theorem u32w (x : Int) : IntKind.u32.wrap x = x % 4294967296 := by simp only [IntKind.wrap, IntKind.bits, IntKind.signed]; simp
theorem u8w (x : Int) : IntKind.u8.wrap x = x % 256 := by simp only [IntKind.wrap, IntKind.bits, IntKind.signed]; simp
theorem i32w (x : Int) : IntKind.i32.wrap x = if 2147483648 ≤ x % 4294967296 then x % 4294967296 - 4294967296 else x % 4294967296 := by
  simp only [IntKind.wrap, IntKind.bits, IntKind.signed]; simp
theorem sgn_arith {n b : Nat} (_hn : n < 4294967296) (hb : BitA b) : IntKind.u32.wrap ((IntKind.i32.wrap (IntKind.u32.wrap ((n : Int) * 2 ^ (min ((32 : Int) - b).toNat 32)))).fdiv (2 ^ (min ((32 : Int) - b).toNat 32))) = (sxL n b : Nat) := by
  rw [u32w, u32w, i32w]
  unfold sxL
  rcases hb with rfl | rfl | rfl
  · rw [show (min ((32 : Int) - (8 : Nat)).toNat 32) = 24 from rfl, Int.fdiv_eq_ediv_of_nonneg _ (by decide)]
    have e : (2 : Int) ^ 24 = 16777216 := by decide
    rw [e]
    simp only [Nat.reducePow, Nat.reduceSub]
    split <;> split <;> omega
  · rw [show (min ((32 : Int) - (18 : Nat)).toNat 32) = 14 from rfl, Int.fdiv_eq_ediv_of_nonneg _ (by decide)]
    have e : (2 : Int) ^ 14 = 16384 := by decide
    rw [e]
    simp only [Nat.reducePow, Nat.reduceSub]
    split <;> split <;> omega
  · rw [show (min ((32 : Int) - (22 : Nat)).toNat 32) = 10 from rfl, Int.fdiv_eq_ediv_of_nonneg _ (by decide)]
    have e : (2 : Int) ^ 10 = 1024 := by decide
    rw [e]
    simp only [Nat.reducePow, Nat.reduceSub]
    split <;> split <;> omega
theorem sxL_fit {n b : Nat} (hn : n < 4294967296) (hb : BitA b) : decide (sxL n b = n) = fitL n b := by
  rw [Bool.eq_iff_iff]
  unfold sxL fitL
  rcases hb with rfl | rfl | rfl <;> simp <;> split <;> omega
theorem sign_any (n b : Nat) (hn : n < 4294967296) (hb : BitA b) (w_0 : World) : Calls Tryz.prog 164 #[.int .u32 n, .int .i64 b] w_0 fun e w' => e = .returned (.int .u32 (sxL n b)) ∧ Ext w_0 w' := by
  have hb1 : 1 ≤ b ∧ b < 32 := by rcases hb with rfl | rfl | rfl <;> omega
  refine calls_wc (args := [.int .u32 n, .int .i64 b]) Tryz.func164 rfl 21 rfl (Nat.le_of_ble_eq_true rfl) ?_
  refine wc_weak (.cons (i := 0) rfl <| .cons (i := 1) rfl <| .nil) ?_
  refine wc_conseq (H' := Hp (fun _ => False) w_0 [] [] (fun _ => True)) (fun u hu => ?_) ?_
  · subst hu; exact Hp.start0
  refine wc_seq ?_
  refine wc_region ?_
  refine wl_free .none rfl (yf_assign rfl) ?_
  refine wl_nil ?_
  refine wq_then ?_
  refine wc_seq ?_
  refine wc_block ?_
  refine wc_seq ?_
  refine wc_region ?_
  refine wl_free .none rfl (yf_move rfl) ?_
  refine wl_free .none rfl (yf_lss rfl rfl) ?_
  refine wl_free .none rfl (yf_assign rfl) ?_
  refine wl_nil ?_
  refine wq_then ?_
  refine wc_cond rfl (fun h5 => ?_) (fun h5 => ?_)
  · replace h5 := of_decide_eq_true h5
    omega
  · replace h5 := of_decide_eq_false h5
    refine wc_seq ?_
    refine wc_weak (.cons (i := 0) rfl <| .cons (i := 1) rfl <| .cons (i := 4) rfl <| .cons (i := 5) rfl <| .nil) ?_
    refine wc_region ?_
    refine wl_free .none rfl (yf_move rfl) ?_
    refine wl_free .none rfl (yf_geq rfl rfl) ?_
    refine wl_free .none rfl (yf_assign rfl) ?_
    refine wl_nil ?_
    refine wq_then ?_
    refine wc_cond rfl (fun h8 => ?_) (fun h8 => ?_)
    · replace h8 := of_decide_eq_true h8
      omega
    · replace h8 := of_decide_eq_false h8
      refine wc_skip ?_
      refine wq_block ?_
      refine wq_then ?_
      refine wc_seq ?_
      refine wc_weak (.cons (i := 0) rfl <| .cons (i := 1) rfl <| .cons (i := 4) rfl <| .cons (i := 5) rfl <| .cons (i := 8) rfl <| .nil) ?_
      refine wc_region ?_
      refine wl_free .none rfl (yf_move rfl) ?_
      refine wl_free .none rfl (yf_move rfl) ?_
      (refine wl_free .none rfl (yf_sub rfl rfl (i64_in _ ?_ ?_)) ?_; (· omega); (· omega); skip)
      (refine wl_free .none rfl (yf_shl rfl rfl ?_ rfl) ?_; (· first | decide | omega); skip)
      refine wl_free .none rfl (yf_conv rfl (by kernel_rfl) Tryz.underlying21 rfl) ?_
      refine wl_free .none rfl (yf_move rfl) ?_
      (refine wl_free .none rfl (yf_sub rfl rfl (i64_in _ ?_ ?_)) ?_; (· omega); (· omega); skip)
      (refine wl_free .none rfl (yf_shr rfl rfl ?_ rfl) ?_; (· first | decide | omega); skip)
      refine wl_free .none rfl (yf_conv rfl (by kernel_rfl) Tryz.underlying22 rfl) ?_
      refine wl_free .none rfl (yf_assign rfl) ?_
      refine wl_nil ?_
      refine wq_then ?_
      refine wc_ret ?_
      refine wq_ret1 rfl rfl (fun w hw => ?_)
      exact ⟨by rw [← sgn_arith hn hb]; rfl, (HpG.keep hw).ext⟩
theorem fits_any (n b : Nat) (hn : n < 4294967296) (hb : BitA b) (w_0 : World) : Calls Tryz.prog 107 #[.int .u32 n, .int .i64 b] w_0 fun e w' => e = .returned (.bool (fitL n b)) ∧ Ext w_0 w' := by
  have hf := sxL_fit hn hb
  refine calls_wc (args := [.int .u32 n, .int .i64 b]) Tryz.func107 rfl 10 rfl (Nat.le_of_ble_eq_true rfl) ?_
  refine wc_weak (.cons (i := 0) rfl <| .cons (i := 1) rfl <| .nil) ?_
  refine wc_conseq (H' := Hp (fun _ => False) w_0 [] [] (fun _ => True)) (fun u hu => ?_) ?_
  · subst hu; exact Hp.start0
  refine wc_seq ?_
  refine wc_region ?_
  refine wl_free .none rfl (yf_assign rfl) ?_
  refine wl_nil ?_
  refine wq_then ?_
  refine wc_seq ?_
  refine wc_region ?_
  refine wl_free .none rfl (yf_move rfl) ?_
  refine wl_free .none rfl (yf_move rfl) ?_
  refine wl_pure .none rfl  (v := .int .u32 (sxL n b)) (by kernel_rfl) rfl (fun w hw => sign_any n b hn hb w) ?_
  refine wl_free .none rfl (yf_move rfl) ?_
  refine wl_free .none rfl (yf_eql rfl rfl) ?_
  refine wl_free .none rfl (yf_assign rfl) ?_
  refine wl_nil ?_
  refine wq_then ?_
  refine wc_ret ?_
  refine wq_ret1 rfl rfl (fun w hw => ?_)
  exact ⟨by rw [← hf]; congr 2; rw [Bool.eq_iff_iff, beq_iff_eq, decide_eq_true_eq]; omega, (HpG.keep hw).ext⟩
theorem putL_len (n k : Nat) : (putL n k).length = k := by
  induction k generalizing n with
  | zero => rfl
  | succ k ih => show (putL (n / 256) k).length + 1 = _; rw [ih]
theorem byL_nat (n : Nat) : (byL (n % 256)).toNat = n % 256 := by
  unfold byL; rw [UInt8.toNat_ofNat']; omega
theorem putL_cells {n : Nat} (_hn : n < 4294967296) (k : Nat) (hk : k ≤ 4) : ∀ j (hj : j < (putL n k).length), ([.int .u8 (IntKind.u8.wrap n), .int .u8 (IntKind.u8.wrap ((n : Int).fdiv (2 ^ (min (8 : Int).toNat 32)))), .int .u8 (IntKind.u8.wrap ((n : Int).fdiv (2 ^ (min (16 : Int).toNat 32)))), .int .u8 (IntKind.u8.wrap ((n : Int).fdiv (2 ^ (min (24 : Int).toNat 32))))] : List Value)[0 + j]? = some (.int .u8 ((putL n k)[j].toNat : Int)) := by
  have key : ∀ (k j : Nat) (m : Nat) (hj : j < (putL m k).length), ((putL m k)[j].toNat : Int) = ((m / 256 ^ j % 256 : Nat) : Int) := by
    intro k
    induction k with
    | zero => intro j m hj; rw [putL_len] at hj; omega
    | succ k ih =>
      intro j m hj
      cases j with
      | zero => show ((byL (m % 256)).toNat : Int) = _; rw [byL_nat, Nat.pow_zero, Nat.div_one]
      | succ j =>
        have h1 : j < (putL (m / 256) k).length := by rw [putL_len] at hj ⊢; omega
        show (((putL (m / 256) k)[j]'h1).toNat : Int) = _
        rw [ih j (m / 256) h1, Nat.div_div_eq_div_mul, Nat.pow_succ, Nat.mul_comm]
  intro j hj
  rw [key]
  have hj4 : j < 4 := by rw [putL_len] at hj; omega
  have : j = 0 ∨ j = 1 ∨ j = 2 ∨ j = 3 := by omega
  have hw : ∀ x : Nat, IntKind.u8.wrap (x : Int) = ((x % 256 : Nat) : Int) := fun x => by rw [u8w]; simp
  have hf : ∀ p : Nat, ((n : Int).fdiv (2 ^ p)) = ((n / 2 ^ p : Nat) : Int) := fun p => by rw [Int.fdiv_eq_ediv_of_nonneg _ (Int.le_of_lt (by have : 0 < (2:Int) ^ p := Int.pow_pos (by decide); exact this))]; simp
  rcases this with rfl | rfl | rfl | rfl
  · simp [hw]
  · show some (Value.int .u8 (IntKind.u8.wrap ((n : Int).fdiv (2 ^ 8)))) = _; rw [hf, hw]
  · show some (Value.int .u8 (IntKind.u8.wrap ((n : Int).fdiv (2 ^ 16)))) = _; rw [hf, hw]
  · show some (Value.int .u8 (IntKind.u8.wrap ((n : Int).fdiv (2 ^ 24)))) = _; rw [hf, hw]
theorem put_any (n k : Nat) (hn : n < 4294967296) (hk : k ≤ 4) (w_0 : World) : Calls Tryz.prog 112 #[.int .u32 n, .int .i64 k] w_0 fun e w' => e = .returned (.string ⟨(putL n k).toArray⟩) ∧ Ext w_0 w' := by
  refine calls_wc (args := [.int .u32 n, .int .i64 k]) Tryz.func112 rfl 24 rfl (Nat.le_of_ble_eq_true rfl) ?_
  refine wc_weak (.cons (i := 0) rfl <| .cons (i := 1) rfl <| .nil) ?_
  refine wc_conseq (H' := Hp (fun _ => False) w_0 [] [] (fun _ => True)) (fun u hu => ?_) ?_
  · subst hu; exact Hp.start0
  refine wc_seq ?_
  refine wc_region ?_
  refine wl_free .none rfl (yf_assign rfl) ?_
  refine wl_nil ?_
  refine wq_then ?_
  refine wc_seq ?_
  refine wc_region ?_
  refine wl_free .none rfl (yf_move rfl) ?_
  refine wl_free .none rfl (yf_conv rfl (by kernel_rfl) Tryz.underlying5 rfl) ?_
  refine wl_free .none rfl (yf_move rfl) ?_
  (refine wl_free .none rfl (yf_shr rfl rfl ?_ rfl) ?_; (· first | decide | omega); skip)
  refine wl_free .none rfl (yf_conv rfl (by kernel_rfl) Tryz.underlying5 rfl) ?_
  refine wl_free .none rfl (yf_move rfl) ?_
  (refine wl_free .none rfl (yf_shr rfl rfl ?_ rfl) ?_; (· first | decide | omega); skip)
  refine wl_free .none rfl (yf_conv rfl (by kernel_rfl) Tryz.underlying5 rfl) ?_
  refine wl_free .none rfl (yf_move rfl) ?_
  (refine wl_free .none rfl (yf_shr rfl rfl ?_ rfl) ?_; (· first | decide | omega); skip)
  refine wl_free .none rfl (yf_conv rfl (by kernel_rfl) Tryz.underlying5 rfl) ?_
  refine wl_new .none rfl (nf_bsn (z := .int .u8 0) rfl rfl rfl rfl Tryz.underlying53 (by kernel_rfl) (by kernel_rfl) rfl rfl) (fun b17 => ?_)
  refine wl_free .none rfl (yf_assign rfl) ?_
  refine wl_nil ?_
  refine wq_then ?_
  refine wc_seq ?_
  refine wc_weak (.cons (i := 0) rfl <| .cons (i := 1) rfl <| .cons (i := 4) rfl <| .cons (i := 5) rfl <| .nil) ?_
  refine wc_region ?_
  refine wl_free .none rfl (yf_move rfl) ?_
  refine wl_free .none rfl (yf_move rfl) ?_
  refine wl_free .none rfl (yf_min rfl rfl) ?_
  refine wl_free .none rfl (yf_max rfl rfl) ?_
  (refine wl_free .none rfl (yf_sliceHi (size := 1) (i := k) rfl rfl Tryz.underlying53 (by kernel_rfl) (by split <;> split <;> omega) ?_) ?_; (· omega); skip)
  refine wl_free .none rfl (yf_convL 0 (putL n k) rfl rfl Tryz.underlying53 Tryz.underlying5 Tryz.underlying9 (putL_len n k) (putL_cells hn k hk)) ?_
  refine wl_free .none rfl (yf_assign rfl) ?_
  refine wl_nil ?_
  refine wq_then ?_
  refine wc_ret ?_
  refine wq_ret1 rfl rfl (fun w hw => ?_)
  exact ⟨rfl, (HpG.keep hw).ext⟩
end Go.Proofs.YtkaepknpplhgkaaGreatDoor
/- The law of reach, plainly: jumps of K. -/
namespace Go.Proofs.YtkaepknpplhgkaaGreatDoor
theorem cutA_no : ∀ {s : Bs}, (∀ c ∈ s, c ≠ 59) → cutA s = s
  | [], _ => rfl
  | c :: s, h => by
    have hc := h c (by simp)
    have ih := cutA_no fun d hd => h d (List.mem_cons_of_mem _ hd)
    unfold cutA at *
    rw [List.takeWhile_cons, if_pos (by simp [hc]), ih]
theorem lexA_no {s : Bs} (h : ∀ c ∈ s, c ≠ 59) : lexA s = lexD s := by unfold lexA lexD; rw [cutA_no h]
theorem dec_mem {n : Nat} {c : UInt8} (h : c ∈ Lib.decDigits n) : digB c = true := (dec_all (n + 1) n (by omega)).1 c h
theorem dig_ne {c d : UInt8} (h : digB c = true) (hd : digB d = false) : c ≠ d := fun e => by subst e; rw [h] at hd; cases hd
theorem enc_small (cc imm : Nat) (hc : cc < 14) : encK ⟨((96 + cc : Nat) : Int), 0, 0, -1, 0, imm, 2⟩ = if sxL (imm % 256) 8 = imm then some [byL (96 + cc), byL (imm % 256)] else none := by
  have h1 : ∀ cc, cc < 14 → fmtK ((96 + cc : Nat) : Int) = some (2, [.small]) ∧ lowB ((96 + cc : Nat) : Int) = byL (96 + cc) ∧ ((96 + cc : Nat) : Int) ≠ 129 ∧ ((96 + cc : Nat) : Int) ≠ 130 := by decide
  obtain ⟨e1, e2, e3, e4⟩ := h1 cc hc
  have hb : (byL (imm % 256)).toNat = imm % 256 := by
    have : imm % 256 < 256 := Nat.mod_lt _ (by omega)
    unfold byL
    rw [UInt8.toNat_ofNat']
    omega
  have hr : rngK ⟨((96 + cc : Nat) : Int), 0, 0, -1, 0, imm, 2⟩ = true := by
    unfold rngK
    dsimp only
    rw [if_neg e3, if_neg e4]; rfl
  have ht : takeFs (putK ⟨((96 + cc : Nat) : Int), 0, 0, -1, 0, imm, 2⟩ [.small]) ⟨((96 + cc : Nat) : Int), 0, 0, -1, 0, 0, 2⟩ [.small] = ⟨((96 + cc : Nat) : Int), 0, 0, -1, 0, sxL (imm % 256) 8, 2⟩ := by
    show (⟨((96 + cc : Nat) : Int), 0, 0, -1, 0, sxL (byL (imm % 256)).toNat 8, 2⟩ : KI) = _
    rw [hb]
  unfold encK
  dsimp only
  rw [e1]
  dsimp only
  rw [show ((2 : Nat) : Int) = 2 from rfl, ht, e2]
  by_cases h : sxL (imm % 256) 8 = imm
  · rw [if_pos ⟨rfl, hr, by rw [h]⟩, if_pos h]; rfl
  · rw [if_neg (fun hh => h (by injection hh.2.2)), if_neg h]
end Go.Proofs.YtkaepknpplhgkaaGreatDoor
/- The law of reach, plainly: branches of Q. -/
namespace Go.Proofs.YtkaepknpplhgkaaGreatDoor
theorem enc_bra (cc imm : Nat) (hc : cc < 6) : encQ ⟨((32 + cc : Nat) : Int), 1, 2, 0, imm⟩ = if fitL imm 18 = true then some ((32 + cc) * 67108864 + 1 * 4194304 + 2 * 262144 + 0 * 16384 + imm % 2 ^ 18) else none := by
  have h1 : ∀ cc, cc < 6 → shpQ ((32 + cc : Nat) : Int) = some ⟨true, true, false, 1, 18, 0⟩ ∧ ((32 + cc : Nat) : Int).toNat = 32 + cc := by
    intro cc h
    refine ⟨?_, by omega⟩
    obtain rfl | rfl | rfl | rfl | rfl | rfl : cc = 0 ∨ cc = 1 ∨ cc = 2 ∨ cc = 3 ∨ cc = 4 ∨ cc = 5 := by omega
    all_goals rfl
  obtain ⟨e1, e2⟩ := h1 cc hc
  unfold encQ
  dsimp only
  rw [e1]
  dsimp only
  rw [e2]
  have hi : immQ ⟨true, true, false, 1, 18, 0⟩ imm = fitL imm 18 := rfl
  rw [hi]
  by_cases h : fitL imm 18 = true
  · rw [if_pos ⟨rfl, rfl, rfl, h⟩, if_pos h]; rfl
  · rw [if_neg (fun hh => h hh.2.2.2), if_neg h]
end Go.Proofs.YtkaepknpplhgkaaGreatDoor
/- The law of data, plainly. -/
namespace Go.Proofs.YtkaepknpplhgkaaGreatDoor
/-! ### Lines that are known -/
structure LnA (kind : Int) (s : Bs) (st : ASt) : Prop where
  ok : liA kind s = .ok st
  lb : st.label = []
def plcS : List ASt → Nat → List ASt
  | [], _ => []
  | s :: r, a => { s with at_ := a } :: plcS r (a + s.size)
inductive LnsA (kind : Int) : List Bs → List ASt → Prop
  | nil : LnsA kind [] []
  | cons {s : Bs} {st : ASt} {l : List Bs} {r : List ASt} (h : LnA kind s st) (t : LnsA kind l r) : LnsA kind (s :: l) (st :: r)
theorem LnsA.app {kind : Int} {l l' : List Bs} {r r' : List ASt} (h : LnsA kind l r) (k : LnsA kind l' r') : LnsA kind (l ++ l') (r ++ r') := by
  induction h with
  | nil => exact k
  | cons h _ ih => exact .cons h ih
/-- The code of statements, wherever they stand. -/
inductive CdA (lb : List (Bs × Nat)) : List ASt → Bs → Prop
  | nil : CdA lb [] []
  | cons {st : ASt} {r : List ASt} {c d : Bs} {v : List Nat} (hv : valsA lb st.l = .ok v) (h : ∀ a a', cdA { st with at_ := a' } v a = .ok c) (t : CdA lb r d) : CdA lb (st :: r) (c ++ d)
theorem CdA.app {lb : List (Bs × Nat)} {r r' : List ASt} {c c' : Bs} (h : CdA lb r c) (k : CdA lb r' c') : CdA lb (r ++ r') (c ++ c') := by
  induction h with
  | nil => exact k
  | cons hv h _ ih => rw [List.append_assoc]; exact .cons hv h ih
/-! ### The directives -/
end Go.Proofs.YtkaepknpplhgkaaGreatDoor
/- The law of errors, plainly. -/
namespace Go.Proofs.YtkaepknpplhgkaaGreatDoor
theorem repB_len (x : Bs) (n : Nat) : (repB x n).length = n * x.length := by
  induction n with
  | zero => simp [repB]
  | succ n ih => rw [repB_succ, List.length_append, ih, Nat.succ_mul]; omega
variable {kind : Int} {x br : ASt} {c : Bs}
end Go.Proofs.YtkaepknpplhgkaaGreatDoor
/- The law of origins, plainly. -/
namespace Go.Proofs.YtkaepknpplhgkaaGreatDoor
/-- The code of statements where they stand. -/
inductive CdP (org : Nat) (lb : List (Bs × Nat)) : List ASt → Bs → Prop
  | nil : CdP org lb [] []
  | cons {st : ASt} {r : List ASt} {c d : Bs} {v : List Nat} (hv : valsA lb st.l = .ok v) (h : cdA st v ((org + st.at_) % 4294967296) = .ok c) (t : CdP org lb r d) : CdP org lb (st :: r) (c ++ d)
theorem CdP.app {org : Nat} {lb : List (Bs × Nat)} {r r' : List ASt} {c c' : Bs} (h : CdP org lb r c) (k : CdP org lb r' c') : CdP org lb (r ++ r') (c ++ c') := by
  induction h with
  | nil => exact k
  | cons hv h _ ih => rw [List.append_assoc]; exact .cons hv h ih
theorem CdP.man {org : Nat} {lb : List (Bs × Nat)} {st : ASt} {c : Bs} (hl : st.l = []) (hc : ∀ a a', cdA { st with at_ := a' } [] a = .ok c) : ∀ n a, CdP org lb (manS st a n) (repB c n)
  | 0, _ => .nil
  | n + 1, a => by
    rw [repB_succ]
    exact .cons (st := { st with at_ := a }) (v := []) (by show valsA lb st.l = _; rw [hl]; rfl) (hc _ _) (CdP.man hl hc n _)
theorem outF_plc {org : Nat} {lb : List (Bs × Nat)} {r : List ASt} {c : Bs} (h : CdP org lb r c) : ∀ (k : Nat) (out : Bs), outF org lb r k out = .ok (out ++ c) := by
  induction h with
  | nil => intro k out; simp [outF]
  | cons hv h _ ih => intro k out; rw [outF_ok hv h, ih, List.append_assoc]
def oA : Bs := [97, 58]
def oHalt : Bs := [104, 97, 108, 116]
def oBrk : Bs := [98, 114, 101, 97, 107]
def oEnd : Bs := [98, 58, 32, 114, 101, 116, 116]
def oJ (kind : Int) : List Bs := if kind = 2 then [[98, 101, 113, 32, 114, 49, 44, 32, 114, 50, 44, 32, 98], [106, 97, 108, 32, 114, 48, 44, 32, 97], [106, 97, 108, 32, 114, 51, 44, 32, 98]] else [[106, 101, 113, 32, 98], [106, 109, 112, 32, 97], [99, 97, 108, 108, 32, 98]]
/-- The text. -/
def oText (kind : Int) (m n : Nat) : Bs := oA ++ 10 :: (repB (oHalt ++ [10]) m ++ ((oJ kind).getD 0 [] ++ 10 :: ((oJ kind).getD 1 [] ++ 10 :: ((oJ kind).getD 2 [] ++ 10 :: (repB (oBrk ++ [10]) n ++ oEnd)))))
theorem o_lines (kind : Int) (hk : kind = 1 ∨ kind = 2) (m n : Nat) : linA (oText kind m n) = oA :: (List.replicate m oHalt ++ ((oJ kind).getD 0 [] :: (oJ kind).getD 1 [] :: (oJ kind).getD 2 [] :: (List.replicate n oBrk ++ [oEnd]))) := by
  have h1 : NoNl oA := by unfold NoNl; decide
  have h2 : NoNl oHalt := by unfold NoNl; decide
  have h3 : NoNl oBrk := by unfold NoNl; decide
  have h4 : NoNl oEnd := by unfold NoNl; decide
  have hj : NoNl ((oJ kind).getD 0 []) ∧ NoNl ((oJ kind).getD 1 []) ∧ NoNl ((oJ kind).getD 2 []) := by rcases hk with rfl | rfl <;> (unfold NoNl; decide)
  unfold oText
  rw [linA_app _ h1, linA_rep h2, linA_app _ hj.1, linA_app _ hj.2.1, linA_app _ hj.2.2, linA_rep h3, linA_one h4]
/-- Statements of a machine. -/
structure OK7 (kind : Int) (z : Nat) (h b e : AFm) (j0 j1 j2 : ASt) : Prop where
  ha : liA kind oA = .ok ⟨[97], [], [], [], none, 0, 0⟩
  hh : liA kind oHalt = .ok ⟨[], oHalt, [], [], some h, 0, z⟩
  hb : liA kind oBrk = .ok ⟨[], oBrk, [], [], some b, 0, z⟩
  he : liA kind oEnd = .ok ⟨[98], [114, 101, 116, 116], [], [], some e, 0, z⟩
  q0 : liA kind ((oJ kind).getD 0 []) = .ok j0
  q1 : liA kind ((oJ kind).getD 1 []) = .ok j1
  q2 : liA kind ((oJ kind).getD 2 []) = .ok j2
  l0 : j0.label = []
  l1 : j1.label = []
  l2 : j2.label = []
  z4 : z ≤ 4 ∧ j0.size ≤ 5 ∧ j1.size ≤ 5 ∧ j2.size ≤ 5
theorem o_pass {kind : Int} {z : Nat} {h b e : AFm} {j0 j1 j2 : ASt} (hk : OK7 kind z h b e j0 j1 j2) {m n : Nat} (hm : m < 20) (hn : n < 20) (org : Nat) : pasF kind org (oA :: (List.replicate m oHalt ++ ((oJ kind).getD 0 [] :: (oJ kind).getD 1 [] :: (oJ kind).getD 2 [] :: (List.replicate n oBrk ++ [oEnd])))) 0 0 [] [] = .ok ([⟨[97], [], [], [], none, 0, 0⟩] ++ (manS ⟨[], oHalt, [], [], some h, 0, z⟩ 0 m ++ ([{ j0 with at_ := m * z }, { j1 with at_ := m * z + j0.size }, { j2 with at_ := m * z + j0.size + j1.size }] ++ (manS ⟨[], oBrk, [], [], some b, 0, z⟩ (m * z + j0.size + j1.size + j2.size) n ++ [⟨[98], [114, 101, 116, 116], [], [], some e, m * z + j0.size + j1.size + j2.size + n * z, z⟩]))), [([97], (org + 0) % 4294967296), ([98], (org + (m * z + j0.size + j1.size + j2.size + n * z)) % 4294967296)]) := by
  obtain ⟨z1, z2, z3, z4⟩ := hk.z4
  have e1 : m * z ≤ 20 * 4 := Nat.mul_le_mul (by omega) z1
  have e2 : n * z ≤ 20 * 4 := Nat.mul_le_mul (by omega) z1
  rw [pasF_label hk.ha (by simp) rfl (by show 0 + 0 ≤ _; omega), pasF_rep hk.hh rfl m _ _ _ (by show 0 + 0 + m * z ≤ _; omega), pasF_ok hk.q0 hk.l0 (by show 0 + 0 + m * z + _ ≤ _; omega), pasF_ok hk.q1 hk.l1 (by show 0 + 0 + m * z + _ + _ ≤ _; omega), pasF_ok hk.q2 hk.l2 (by show 0 + 0 + m * z + _ + _ + _ ≤ _; omega), pasF_rep hk.hb rfl n _ _ _ (by show 0 + 0 + m * z + _ + _ + _ + n * z ≤ _; omega), pasF_label hk.he (by simp) rfl (by show 0 + 0 + m * z + _ + _ + _ + n * z + z ≤ _; omega)]
  show Except.ok _ = _
  dsimp only
  simp only [Nat.zero_add, List.nil_append, List.append_assoc, List.cons_append]
/-- It assembles, and the code does not depend on the origin. -/
theorem o_any {kind : Int} {z : Nat} {h b e : AFm} {j0 j1 j2 : ASt} (hkk : kind = 1 ∨ kind = 2) (hk : OK7 kind z h b e j0 j1 j2) {m n : Nat} (hm : m < 20) (hn : n < 20) {ch cb ce c0 c1 c2 : Bs} (hh : ∀ a, codeA h [] [] [] a = .ok ch) (hb : ∀ a, codeA b [] [] [] a = .ok cb) (he : ∀ a, codeA e [] [] [] a = .ok ce)
    (hj : ∀ org, org < 4294967296 → ∃ v0 v1 v2, valsA [([97], (org + 0) % 4294967296), ([98], (org + (m * z + j0.size + j1.size + j2.size + n * z)) % 4294967296)] j0.l = .ok v0 ∧ valsA [([97], (org + 0) % 4294967296), ([98], (org + (m * z + j0.size + j1.size + j2.size + n * z)) % 4294967296)] j1.l = .ok v1 ∧ valsA [([97], (org + 0) % 4294967296), ([98], (org + (m * z + j0.size + j1.size + j2.size + n * z)) % 4294967296)] j2.l = .ok v2 ∧ cdA j0 v0 ((org + m * z) % 4294967296) = .ok c0 ∧ cdA j1 v1 ((org + (m * z + j0.size)) % 4294967296) = .ok c1 ∧ cdA j2 v2 ((org + (m * z + j0.size + j1.size)) % 4294967296) = .ok c2) {org : Nat} (ho : org < 4294967296) : asmL kind (oText kind m n) org = ([] ++ (repB ch m ++ ((c0 ++ (c1 ++ (c2 ++ []))) ++ (repB cb n ++ (ce ++ [])))), 0, 0) := by
  have hlen : (oText kind m n).length ≤ 1048576 := by
    have hj : ((oJ kind).getD 0 []).length ≤ 20 ∧ ((oJ kind).getD 1 []).length ≤ 20 ∧ ((oJ kind).getD 2 []).length ≤ 20 := by rcases hkk with rfl | rfl <;> decide
    unfold oText
    simp only [List.length_append, List.length_cons, List.length_nil, repB_len, oA, oHalt, oBrk, oEnd]
    omega
  obtain ⟨v0, v1, v2, g0, g1, g2, k0, k1, k2⟩ := hj org ho
  unfold asmL
  rw [if_neg (by omega), if_neg (by omega), o_lines kind hkk, o_pass hk hm hn]
  dsimp only
  have hc := CdP.app (org := org) (lb := [([97], (org + 0) % 4294967296), ([98], (org + (m * z + j0.size + j1.size + j2.size + n * z)) % 4294967296)]) (.cons (st := ⟨[97], [], [], [], none, 0, 0⟩) (v := []) rfl rfl .nil) (CdP.app (CdP.man (st := ⟨[], oHalt, [], [], some h, 0, z⟩) rfl (fun a _ => hh a) m 0) (CdP.app (.cons (st := { j0 with at_ := m * z }) g0 k0 (.cons (st := { j1 with at_ := m * z + j0.size }) g1 k1 (.cons (st := { j2 with at_ := m * z + j0.size + j1.size }) g2 k2 .nil))) (CdP.app (CdP.man (st := ⟨[], oBrk, [], [], some b, 0, z⟩) rfl (fun a _ => hb a) n (m * z + j0.size + j1.size + j2.size)) (.cons (st := ⟨[98], [114, 101, 116, 116], [], [], some e, m * z + j0.size + j1.size + j2.size + n * z, z⟩) (v := []) rfl (he _) .nil))))
  rw [outF_plc hc]
  rfl
end Go.Proofs.YtkaepknpplhgkaaGreatDoor
/- The law of labels, plainly. -/
namespace Go.Proofs.YtkaepknpplhgkaaGreatDoor
theorem subW_lt (a b : Nat) : subW a b < 4294967296 := Nat.mod_lt _ (by omega)
end Go.Proofs.YtkaepknpplhgkaaGreatDoor
