/- Words: Sign, Fits, Put, walked. -/
import Derived.Test.YtkaepknpplhgkaaGreatDoorMaX
import Derived.Test.YtkaepknpplhgkaaGreatDoorMaV
namespace Go.Proofs.YtkaepknpplhgkaaGreatDoor
open Go.RowKit
def BitA (b : Nat) : Prop := b = 8 ∨ b = 18 ∨ b = 22
theorem u32w (x : Int) : IntKind.u32.wrap x = x % 4294967296 := by simp only [IntKind.wrap, IntKind.bits, IntKind.signed]; simp
theorem u8w (x : Int) : IntKind.u8.wrap x = x % 256 := by simp only [IntKind.wrap, IntKind.bits, IntKind.signed]; simp
theorem i32w (x : Int) : IntKind.i32.wrap x = if 2147483648 ≤ x % 4294967296 then x % 4294967296 - 4294967296 else x % 4294967296 := by
  simp only [IntKind.wrap, IntKind.bits, IntKind.signed]; simp
theorem sgn_arith {n b : Nat} (_hn : n < 4294967296) (hb : BitA b) : IntKind.u32.wrap ((IntKind.i32.wrap (IntKind.u32.wrap ((n : Int) * 2 ^ (min ((32 : Int) - b).toNat 32)))).fdiv (2 ^ (min ((32 : Int) - b).toNat 32))) = (sxL n b : Nat) := by
  rw [u32w, u32w, i32w]
  unfold sxL
  rcases hb with rfl | rfl | rfl
  · rw [show (min ((32 : Int) - (8 : Nat)).toNat 32) = 24 from rfl, Int.fdiv_eq_ediv_of_nonneg _ (by decide)]
    have e : (2 : Int) ^ 24 = 16777216 := by decide
    rw [e]
    simp only [Nat.reducePow, Nat.reduceSub]
    split <;> split <;> omega
  · rw [show (min ((32 : Int) - (18 : Nat)).toNat 32) = 14 from rfl, Int.fdiv_eq_ediv_of_nonneg _ (by decide)]
    have e : (2 : Int) ^ 14 = 16384 := by decide
    rw [e]
    simp only [Nat.reducePow, Nat.reduceSub]
    split <;> split <;> omega
  · rw [show (min ((32 : Int) - (22 : Nat)).toNat 32) = 10 from rfl, Int.fdiv_eq_ediv_of_nonneg _ (by decide)]
    have e : (2 : Int) ^ 10 = 1024 := by decide
    rw [e]
    simp only [Nat.reducePow, Nat.reduceSub]
    split <;> split <;> omega
theorem sxL_fit {n b : Nat} (hn : n < 4294967296) (hb : BitA b) : decide (sxL n b = n) = fitL n b := by
  rw [Bool.eq_iff_iff]
  unfold sxL fitL
  rcases hb with rfl | rfl | rfl <;> simp <;> split <;> omega
theorem sign_any (n b : Nat) (hn : n < 4294967296) (hb : BitA b) (w_0 : World) : Calls Tryz.prog 164 #[.int .u32 n, .int .i64 b] w_0 fun e w' => e = .returned (.int .u32 (sxL n b)) ∧ Ext w_0 w' := by
  have hb1 : 1 ≤ b ∧ b < 32 := by rcases hb with rfl | rfl | rfl <;> omega
  refine calls_wc (args := [.int .u32 n, .int .i64 b]) Tryz.func164 rfl 21 rfl (Nat.le_of_ble_eq_true rfl) ?_
  refine wc_weak (.cons (i := 0) rfl <| .cons (i := 1) rfl <| .nil) ?_
  refine wc_conseq (H' := Hp (fun _ => False) w_0 [] [] (fun _ => True)) (fun u hu => ?_) ?_
  · subst hu; exact Hp.start0
  refine wc_seq ?_
  refine wc_region ?_
  refine wl_free .none rfl (yf_assign rfl) ?_
  refine wl_nil ?_
  refine wq_then ?_
  refine wc_seq ?_
  refine wc_block ?_
  refine wc_seq ?_
  refine wc_region ?_
  refine wl_free .none rfl (yf_move rfl) ?_
  refine wl_free .none rfl (yf_lss rfl rfl) ?_
  refine wl_free .none rfl (yf_assign rfl) ?_
  refine wl_nil ?_
  refine wq_then ?_
  refine wc_cond rfl (fun h5 => ?_) (fun h5 => ?_)
  · replace h5 := of_decide_eq_true h5
    omega
  · replace h5 := of_decide_eq_false h5
    refine wc_seq ?_
    refine wc_weak (.cons (i := 0) rfl <| .cons (i := 1) rfl <| .cons (i := 4) rfl <| .cons (i := 5) rfl <| .nil) ?_
    refine wc_region ?_
    refine wl_free .none rfl (yf_move rfl) ?_
    refine wl_free .none rfl (yf_geq rfl rfl) ?_
    refine wl_free .none rfl (yf_assign rfl) ?_
    refine wl_nil ?_
    refine wq_then ?_
    refine wc_cond rfl (fun h8 => ?_) (fun h8 => ?_)
    · replace h8 := of_decide_eq_true h8
      omega
    · replace h8 := of_decide_eq_false h8
      refine wc_skip ?_
      refine wq_block ?_
      refine wq_then ?_
      refine wc_seq ?_
      refine wc_weak (.cons (i := 0) rfl <| .cons (i := 1) rfl <| .cons (i := 4) rfl <| .cons (i := 5) rfl <| .cons (i := 8) rfl <| .nil) ?_
      refine wc_region ?_
      refine wl_free .none rfl (yf_move rfl) ?_
      refine wl_free .none rfl (yf_move rfl) ?_
      (refine wl_free .none rfl (yf_sub rfl rfl (i64_in _ ?_ ?_)) ?_; (· omega); (· omega); skip)
      (refine wl_free .none rfl (yf_shl rfl rfl ?_ rfl) ?_; (· first | decide | omega); skip)
      refine wl_free .none rfl (yf_conv rfl (by kernel_rfl) Tryz.underlying21 rfl) ?_
      refine wl_free .none rfl (yf_move rfl) ?_
      (refine wl_free .none rfl (yf_sub rfl rfl (i64_in _ ?_ ?_)) ?_; (· omega); (· omega); skip)
      (refine wl_free .none rfl (yf_shr rfl rfl ?_ rfl) ?_; (· first | decide | omega); skip)
      refine wl_free .none rfl (yf_conv rfl (by kernel_rfl) Tryz.underlying22 rfl) ?_
      refine wl_free .none rfl (yf_assign rfl) ?_
      refine wl_nil ?_
      refine wq_then ?_
      refine wc_ret ?_
      refine wq_ret1 rfl rfl (fun w hw => ?_)
      exact ⟨by rw [← sgn_arith hn hb]; rfl, (HpG.keep hw).ext⟩
theorem fits_any (n b : Nat) (hn : n < 4294967296) (hb : BitA b) (w_0 : World) : Calls Tryz.prog 107 #[.int .u32 n, .int .i64 b] w_0 fun e w' => e = .returned (.bool (fitL n b)) ∧ Ext w_0 w' := by
  have hf := sxL_fit hn hb
  refine calls_wc (args := [.int .u32 n, .int .i64 b]) Tryz.func107 rfl 10 rfl (Nat.le_of_ble_eq_true rfl) ?_
  refine wc_weak (.cons (i := 0) rfl <| .cons (i := 1) rfl <| .nil) ?_
  refine wc_conseq (H' := Hp (fun _ => False) w_0 [] [] (fun _ => True)) (fun u hu => ?_) ?_
  · subst hu; exact Hp.start0
  refine wc_seq ?_
  refine wc_region ?_
  refine wl_free .none rfl (yf_assign rfl) ?_
  refine wl_nil ?_
  refine wq_then ?_
  refine wc_seq ?_
  refine wc_region ?_
  refine wl_free .none rfl (yf_move rfl) ?_
  refine wl_free .none rfl (yf_move rfl) ?_
  refine wl_pure .none rfl  (v := .int .u32 (sxL n b)) (by kernel_rfl) rfl (fun w hw => sign_any n b hn hb w) ?_
  refine wl_free .none rfl (yf_move rfl) ?_
  refine wl_free .none rfl (yf_eql rfl rfl) ?_
  refine wl_free .none rfl (yf_assign rfl) ?_
  refine wl_nil ?_
  refine wq_then ?_
  refine wc_ret ?_
  refine wq_ret1 rfl rfl (fun w hw => ?_)
  exact ⟨by rw [← hf]; congr 2; rw [Bool.eq_iff_iff, beq_iff_eq, decide_eq_true_eq]; omega, (HpG.keep hw).ext⟩
theorem putL_len (n k : Nat) : (putL n k).length = k := by
  induction k generalizing n with
  | zero => rfl
  | succ k ih => show (putL (n / 256) k).length + 1 = _; rw [ih]
theorem byL_nat (n : Nat) : (byL (n % 256)).toNat = n % 256 := by
  unfold byL; rw [UInt8.toNat_ofNat']; omega
theorem putL_cells {n : Nat} (_hn : n < 4294967296) (k : Nat) (hk : k ≤ 4) : ∀ j (hj : j < (putL n k).length), ([.int .u8 (IntKind.u8.wrap n), .int .u8 (IntKind.u8.wrap ((n : Int).fdiv (2 ^ (min (8 : Int).toNat 32)))), .int .u8 (IntKind.u8.wrap ((n : Int).fdiv (2 ^ (min (16 : Int).toNat 32)))), .int .u8 (IntKind.u8.wrap ((n : Int).fdiv (2 ^ (min (24 : Int).toNat 32))))] : List Value)[0 + j]? = some (.int .u8 ((putL n k)[j].toNat : Int)) := by
  have key : ∀ (k j : Nat) (m : Nat) (hj : j < (putL m k).length), ((putL m k)[j].toNat : Int) = ((m / 256 ^ j % 256 : Nat) : Int) := by
    intro k
    induction k with
    | zero => intro j m hj; rw [putL_len] at hj; omega
    | succ k ih =>
      intro j m hj
      cases j with
      | zero => show ((byL (m % 256)).toNat : Int) = _; rw [byL_nat, Nat.pow_zero, Nat.div_one]
      | succ j =>
        have h1 : j < (putL (m / 256) k).length := by rw [putL_len] at hj ⊢; omega
        show (((putL (m / 256) k)[j]'h1).toNat : Int) = _
        rw [ih j (m / 256) h1, Nat.div_div_eq_div_mul, Nat.pow_succ, Nat.mul_comm]
  intro j hj
  rw [key]
  have hj4 : j < 4 := by rw [putL_len] at hj; omega
  have : j = 0 ∨ j = 1 ∨ j = 2 ∨ j = 3 := by omega
  have hw : ∀ x : Nat, IntKind.u8.wrap (x : Int) = ((x % 256 : Nat) : Int) := fun x => by rw [u8w]; simp
  have hf : ∀ p : Nat, ((n : Int).fdiv (2 ^ p)) = ((n / 2 ^ p : Nat) : Int) := fun p => by rw [Int.fdiv_eq_ediv_of_nonneg _ (Int.le_of_lt (by have : 0 < (2:Int) ^ p := Int.pow_pos (by decide); exact this))]; simp
  rcases this with rfl | rfl | rfl | rfl
  · simp [hw]
  · show some (Value.int .u8 (IntKind.u8.wrap ((n : Int).fdiv (2 ^ 8)))) = _; rw [hf, hw]
  · show some (Value.int .u8 (IntKind.u8.wrap ((n : Int).fdiv (2 ^ 16)))) = _; rw [hf, hw]
  · show some (Value.int .u8 (IntKind.u8.wrap ((n : Int).fdiv (2 ^ 24)))) = _; rw [hf, hw]
theorem put_any (n k : Nat) (hn : n < 4294967296) (hk : k ≤ 4) (w_0 : World) : Calls Tryz.prog 112 #[.int .u32 n, .int .i64 k] w_0 fun e w' => e = .returned (.string ⟨(putL n k).toArray⟩) ∧ Ext w_0 w' := by
  refine calls_wc (args := [.int .u32 n, .int .i64 k]) Tryz.func112 rfl 24 rfl (Nat.le_of_ble_eq_true rfl) ?_
  refine wc_weak (.cons (i := 0) rfl <| .cons (i := 1) rfl <| .nil) ?_
  refine wc_conseq (H' := Hp (fun _ => False) w_0 [] [] (fun _ => True)) (fun u hu => ?_) ?_
  · subst hu; exact Hp.start0
  refine wc_seq ?_
  refine wc_region ?_
  refine wl_free .none rfl (yf_assign rfl) ?_
  refine wl_nil ?_
  refine wq_then ?_
  refine wc_seq ?_
  refine wc_region ?_
  refine wl_free .none rfl (yf_move rfl) ?_
  refine wl_free .none rfl (yf_conv rfl (by kernel_rfl) Tryz.underlying5 rfl) ?_
  refine wl_free .none rfl (yf_move rfl) ?_
  (refine wl_free .none rfl (yf_shr rfl rfl ?_ rfl) ?_; (· first | decide | omega); skip)
  refine wl_free .none rfl (yf_conv rfl (by kernel_rfl) Tryz.underlying5 rfl) ?_
  refine wl_free .none rfl (yf_move rfl) ?_
  (refine wl_free .none rfl (yf_shr rfl rfl ?_ rfl) ?_; (· first | decide | omega); skip)
  refine wl_free .none rfl (yf_conv rfl (by kernel_rfl) Tryz.underlying5 rfl) ?_
  refine wl_free .none rfl (yf_move rfl) ?_
  (refine wl_free .none rfl (yf_shr rfl rfl ?_ rfl) ?_; (· first | decide | omega); skip)
  refine wl_free .none rfl (yf_conv rfl (by kernel_rfl) Tryz.underlying5 rfl) ?_
  refine wl_new .none rfl (nf_bsn (z := .int .u8 0) rfl rfl rfl rfl Tryz.underlying53 (by kernel_rfl) (by kernel_rfl) rfl rfl) (fun b17 => ?_)
  refine wl_free .none rfl (yf_assign rfl) ?_
  refine wl_nil ?_
  refine wq_then ?_
  refine wc_seq ?_
  refine wc_weak (.cons (i := 0) rfl <| .cons (i := 1) rfl <| .cons (i := 4) rfl <| .cons (i := 5) rfl <| .nil) ?_
  refine wc_region ?_
  refine wl_free .none rfl (yf_move rfl) ?_
  refine wl_free .none rfl (yf_move rfl) ?_
  refine wl_free .none rfl (yf_min rfl rfl) ?_
  refine wl_free .none rfl (yf_max rfl rfl) ?_
  (refine wl_free .none rfl (yf_sliceHi (size := 1) (i := k) rfl rfl Tryz.underlying53 (by kernel_rfl) (by split <;> split <;> omega) ?_) ?_; (· omega); skip)
  refine wl_free .none rfl (yf_convL 0 (putL n k) rfl rfl Tryz.underlying53 Tryz.underlying5 Tryz.underlying9 (putL_len n k) (putL_cells hn k hk)) ?_
  refine wl_free .none rfl (yf_assign rfl) ?_
  refine wl_nil ?_
  refine wq_then ?_
  refine wc_ret ?_
  refine wq_ret1 rfl rfl (fun w hw => ?_)
  exact ⟨rfl, (HpG.keep hw).ext⟩
end Go.Proofs.YtkaepknpplhgkaaGreatDoor
/- The law of reach, plainly: jumps of K. -/
namespace Go.Proofs.YtkaepknpplhgkaaGreatDoor
theorem cutA_no : ∀ {s : Bs}, (∀ c ∈ s, c ≠ 59) → cutA s = s
  | [], _ => rfl
  | c :: s, h => by
    have hc := h c (by simp)
    have ih := cutA_no fun d hd => h d (List.mem_cons_of_mem _ hd)
    unfold cutA at *
    rw [List.takeWhile_cons, if_pos (by simp [hc]), ih]
theorem lexA_no {s : Bs} (h : ∀ c ∈ s, c ≠ 59) : lexA s = lexD s := by unfold lexA lexD; rw [cutA_no h]
theorem dec_mem {n : Nat} {c : UInt8} (h : c ∈ Lib.decDigits n) : digB c = true := (dec_all (n + 1) n (by omega)).1 c h
theorem dig_ne {c d : UInt8} (h : digB c = true) (hd : digB d = false) : c ≠ d := fun e => by subst e; rw [h] at hd; cases hd
theorem andR_ok {α β : Type} (a : α) (f : α → Except Nat β) : andR (.ok a) f = f a := rfl
theorem takeA_ok {k : Nat} {s : Bs} {n : Nat} {r : List ATk} : takeA k (⟨k, s, n⟩ :: r) = .ok (⟨k, s, n⟩, r) := by unfold takeA; dsimp only; rw [if_pos rfl]
/-- One value as operand. -/
theorem ops_num (kind : Int) (n f : Nat) : opsF kind (f + 2) true [] [⟨48, [], n⟩] = .ok [⟨118, 0, [], n, 0, 0⟩] := by
  rw [opsF, if_neg (by simp), if_neg (by simp), if_pos rfl]
  have : opA kind [⟨48, [], n⟩] = .ok (⟨118, 0, [], n, 0, 0⟩, []) := by
    unfold opA
    rw [if_neg (by simp [isA]), if_neg (by simp [isA]), if_pos ⟨_, rfl, rfl⟩]; rfl
  rw [this]
  show opsF kind (f + 1) false [⟨118, 0, [], n, 0, 0⟩] [] = _
  rw [opsF, if_pos rfl]
end Go.Proofs.YtkaepknpplhgkaaGreatDoor
/- The law of reach, plainly: branches of Q. -/
namespace Go.Proofs.YtkaepknpplhgkaaGreatDoor
end Go.Proofs.YtkaepknpplhgkaaGreatDoor
/- The law of data, plainly. -/
namespace Go.Proofs.YtkaepknpplhgkaaGreatDoor
/-! ### Lines that are known -/
structure LnA (kind : Int) (s : Bs) (st : ASt) : Prop where
  ok : liA kind s = .ok st
  lb : st.label = []
def sumS : List ASt → Nat
  | [] => 0
  | s :: r => s.size + sumS r
def plcS : List ASt → Nat → List ASt
  | [], _ => []
  | s :: r, a => { s with at_ := a } :: plcS r (a + s.size)
inductive LnsA (kind : Int) : List Bs → List ASt → Prop
  | nil : LnsA kind [] []
  | cons {s : Bs} {st : ASt} {l : List Bs} {r : List ASt} (h : LnA kind s st) (t : LnsA kind l r) : LnsA kind (s :: l) (st :: r)
theorem LnsA.app {kind : Int} {l l' : List Bs} {r r' : List ASt} (h : LnsA kind l r) (k : LnsA kind l' r') : LnsA kind (l ++ l') (r ++ r') := by
  induction h with
  | nil => exact k
  | cons h _ ih => exact .cons h ih
theorem sumS_app (a b : List ASt) : sumS (a ++ b) = sumS a + sumS b := by
  induction a with
  | nil => simp [sumS]
  | cons x a ih => simp only [List.cons_append, sumS, ih]; omega
theorem pasF_all {kind : Int} {org : Nat} {lb : List (Bs × Nat)} {x : List Bs} {l : List Bs} {r : List ASt} (h : LnsA kind l r) : ∀ (k a : Nat) (acc : List ASt), (a + sumS r ≤ 65536 → pasF kind org (l ++ x) k a lb acc = pasF kind org x (k + l.length) (a + sumS r) lb (acc ++ plcS r a)) ∧ (65536 < a + sumS r → a ≤ 65536 → ∃ j, pasF kind org (l ++ x) k a lb acc = .error (j + 1, 2)) := by
  induction h with
  | nil =>
    intro k a acc
    exact ⟨fun _ => by simp [plcS, sumS], fun h1 h2 => absurd h1 (by simp only [sumS]; omega)⟩
  | @cons s st l r hs _ ih =>
    intro k a acc
    simp only [sumS]
    rcases Nat.lt_or_ge 65536 (a + st.size) with hb | hb
    · refine ⟨fun h1 => absurd h1 (by omega), fun _ _ => ⟨k, ?_⟩⟩
      have h := hs.ok
      unfold liA at h
      rw [List.cons_append, pasF, h]
      dsimp only
      rw [if_neg (fun hh => hh.1 hs.lb), if_pos (by omega)]
    · obtain ⟨i1, i2⟩ := ih (k + 1) (a + st.size) (acc ++ [{ st with at_ := a }])
      have e : pasF kind org ((s :: l) ++ x) k a lb acc = pasF kind org (l ++ x) (k + 1) (a + st.size) lb (acc ++ [{ st with at_ := a }]) := by rw [List.cons_append, pasF_ok hs.ok hs.lb hb]
      refine ⟨fun h1 => ?_, fun h1 _ => ?_⟩
      · rw [e, i1 (by omega), List.append_assoc, List.length_cons, show k + 1 + l.length = k + (l.length + 1) by omega, show a + st.size + sumS r = a + (st.size + sumS r) by omega]; rfl
      · rw [e]; exact i2 (by omega) hb
/-- The code of statements, wherever they stand. -/
inductive CdA (lb : List (Bs × Nat)) : List ASt → Bs → Prop
  | nil : CdA lb [] []
  | cons {st : ASt} {r : List ASt} {c d : Bs} {v : List Nat} (hv : valsA lb st.l = .ok v) (h : ∀ a a', cdA { st with at_ := a' } v a = .ok c) (t : CdA lb r d) : CdA lb (st :: r) (c ++ d)
theorem CdA.app {lb : List (Bs × Nat)} {r r' : List ASt} {c c' : Bs} (h : CdA lb r c) (k : CdA lb r' c') : CdA lb (r ++ r') (c ++ c') := by
  induction h with
  | nil => exact k
  | cons hv h _ ih => rw [List.append_assoc]; exact .cons hv h ih
theorem outF_all {org : Nat} {lb : List (Bs × Nat)} {x : List ASt} {r : List ASt} {c : Bs} (h : CdA lb r c) : ∀ (k a : Nat) (out : Bs), outF org lb (plcS r a ++ x) k out = outF org lb x (k + r.length) (out ++ c) := by
  induction h with
  | nil => intro k a out; simp [plcS]
  | @cons st r c d v hv h _ ih =>
    intro k a out
    rw [plcS, List.cons_append, outF_ok (st := { st with at_ := a }) (v := v) (c := c) hv (h _ _), ih, List.append_assoc, List.length_cons, show k + 1 + r.length = k + (r.length + 1) by omega]
theorem asm_all {kind : Int} {s : Bs} {org : Nat} {l : List Bs} {r : List ASt} {c : Bs} (hk : kind = 1 ∨ kind = 2) (hs : s.length ≤ 1048576) (hl : linA s = l) (h : LnsA kind l r) (hc : CdA [] r c) : (sumS r ≤ 65536 → asmL kind s org = (c, 0, 0)) ∧ (65536 < sumS r → ∃ j, asmL kind s org = ([], j + 1, 2)) := by
  obtain ⟨i1, i2⟩ := pasF_all (org := org) (lb := []) (x := []) h 0 0 []
  unfold asmL
  rw [if_neg (by omega), if_neg (by omega), hl]
  rw [List.append_nil] at i1 i2
  refine ⟨fun hh => ?_, fun hh => ?_⟩
  · rw [i1 (by omega)]
    dsimp only [pasF]
    have := outF_all (org := org) (x := []) hc 0 0 []
    rw [List.append_nil] at this
    rw [List.nil_append, this]
    rfl
  · obtain ⟨j, hj⟩ := i2 (by omega) (by omega)
    exact ⟨j, by rw [hj]⟩
/-! ### The directives -/
theorem ops_two (kind : Int) (a b : List ATk) (x y : AOp) (h1 : ∀ r, opA kind (a ++ r) = .ok (x, r)) (h2 : ∀ r, opA kind (b ++ r) = .ok (y, r)) (ha : a ≠ []) (f : Nat) : opsF kind (f + 3) true [] (a ++ ⟨115, [44], 0⟩ :: b) = .ok [x, y] := by
  have h1 := h1 (⟨115, [44], 0⟩ :: b)
  have h2' := h2 []
  rw [List.append_nil] at h2'
  rw [opsF, if_neg (by simp [ha]), if_neg (by simp), if_pos rfl, h1, andR_ok]
  show opsF kind (f + 2) false ([] ++ [x]) (⟨115, [44], 0⟩ :: b) = _
  rw [opsF, if_neg (by simp), if_neg (by simp [isA]), if_neg (by simp)]
  show andR (opA kind b) _ = _
  rw [h2', andR_ok]
  show opsF kind (f + 1) false _ [] = _
  rw [opsF, if_pos rfl]
  rfl
theorem op_num (kind : Int) (n : Nat) (r : List ATk) : opA kind ([⟨48, [], n⟩] ++ r) = .ok (⟨118, 0, [], n, 0, 0⟩, r) := by
  unfold opA
  rw [if_neg (by simp [isA]), if_neg (by simp [isA]), if_pos ⟨_, rfl, rfl⟩]; rfl
theorem op_neg (kind : Int) (n : Nat) (r : List ATk) : opA kind ([⟨115, [45], 0⟩, ⟨48, [], n⟩] ++ r) = .ok (⟨118, 0, [], negA n, 0, 0⟩, r) := by
  unfold opA
  rw [if_neg (by simp [isA]), if_pos (by simp [isA])]; rfl
/-- What is printed of a number with its sign. -/
def sgnB (n : Nat) : Bs := if 2147483648 ≤ n then 45 :: Lib.decDigits (4294967296 - n) else Lib.decDigits n
def sgnT (n : Nat) : List ATk := if 2147483648 ≤ n then [⟨115, [45], 0⟩, ⟨48, [], 4294967296 - n⟩] else [⟨48, [], n⟩]
theorem sgn_lex {n : Nat} (h : n < 4294967296) : lexD (sgnB n) = .ok (sgnT n) := by
  have e : ∀ m, m < 4294967296 → lexD (Lib.decDigits m) = .ok [⟨48, [], m⟩] := fun m hm => by
    have h1 := lexD_dec hm (r := []) (fun _ _ e => by cases e)
    rw [List.append_nil] at h1
    rw [h1]; rfl
  unfold sgnB sgnT
  split
  · rw [lexD_sign (by decide), e _ (by omega)]; rfl
  · exact e n h
theorem sgn_op (kind : Int) {n : Nat} (h : n < 4294967296) (r : List ATk) : opA kind (sgnT n ++ r) = .ok (⟨118, 0, [], n, 0, 0⟩, r) := by
  unfold sgnT
  split
  · rw [op_neg, show negA (4294967296 - n) = n by unfold negA; omega]
  · exact op_num kind n r
theorem sgn_ne {n : Nat} {c d : UInt8} (h : c ∈ sgnB n) (hd : digB d = false) (h2 : d ≠ 45) : c ≠ d := by
  unfold sgnB at h
  split at h
  · rcases List.mem_cons.1 h with rfl | h
    · exact fun e => h2 e.symm
    · exact dig_ne (dec_mem h) hd
  · exact dig_ne (dec_mem h) hd
def val7 (n : Nat) : AOp := ⟨118, 0, [], n, 0, 0⟩
theorem dir_par (kind : Int) {op : Bs} {f : AFm} (hf : dirA op = some f) (hz : op ≠ kZero) {a b : List ATk} {x y : Nat} (h1 : ∀ r, opA kind (a ++ r) = .ok (val7 x, r)) (h2 : ∀ r, opA kind (b ++ r) = .ok (val7 y, r)) (ha : a ≠ []) (hc : isA [58] (a ++ ⟨115, [44], 0⟩ :: b) = false) : parA kind (⟨119, op, 0⟩ :: (a ++ ⟨115, [44], 0⟩ :: b)) = .ok ⟨[], op, [118, 118], [val7 x, val7 y], some f, 0, sizeA f [val7 x, val7 y]⟩ := by
  unfold parA
  rw [if_neg (fun h => by
    have := h.2
    rw [List.drop_succ_cons, List.drop_zero, hc] at this
    cases this)]
  unfold stmA
  rw [if_neg (by simp), takeA_ok, andR_ok]
  dsimp only
  rw [show (a ++ ⟨115, [44], 0⟩ :: b).length + 1 = ((a.length - 1) + b.length) + 3 by
    have : 0 < a.length := List.length_pos_iff.2 ha
    simp only [List.length_append, List.length_cons]; omega, ops_two kind a b _ _ h1 h2 ha, andR_ok]
  have hsh : shpA [val7 x, val7 y] = [118, 118] := rfl
  have hfd : findA kind op [118, 118] [val7 x, val7 y].length = some f := by
    unfold findA
    rw [hf]
    dsimp only
    rw [if_neg]
    rintro (h | h | h)
    · cases h
    · cases h
    · exact hz h.1
  rw [hsh, hfd]
  dsimp only
  rw [if_neg (fun h => hz h.1)]
end Go.Proofs.YtkaepknpplhgkaaGreatDoor
/- The law of errors, plainly. -/
namespace Go.Proofs.YtkaepknpplhgkaaGreatDoor
variable {kind : Int} {x br : ASt} {c : Bs}
end Go.Proofs.YtkaepknpplhgkaaGreatDoor
/- The law of origins, plainly. -/
namespace Go.Proofs.YtkaepknpplhgkaaGreatDoor
/-- The code of statements where they stand. -/
inductive CdP (org : Nat) (lb : List (Bs × Nat)) : List ASt → Bs → Prop
  | nil : CdP org lb [] []
  | cons {st : ASt} {r : List ASt} {c d : Bs} {v : List Nat} (hv : valsA lb st.l = .ok v) (h : cdA st v ((org + st.at_) % 4294967296) = .ok c) (t : CdP org lb r d) : CdP org lb (st :: r) (c ++ d)
theorem CdP.app {org : Nat} {lb : List (Bs × Nat)} {r r' : List ASt} {c c' : Bs} (h : CdP org lb r c) (k : CdP org lb r' c') : CdP org lb (r ++ r') (c ++ c') := by
  induction h with
  | nil => exact k
  | cons hv h _ ih => rw [List.append_assoc]; exact .cons hv h ih
end Go.Proofs.YtkaepknpplhgkaaGreatDoor
/- The law of labels, plainly. -/
namespace Go.Proofs.YtkaepknpplhgkaaGreatDoor
theorem subW_lt (a b : Nat) : subW a b < 4294967296 := Nat.mod_lt _ (by omega)
end Go.Proofs.YtkaepknpplhgkaaGreatDoor
