/- Words: Sign, Fits, Put, walked. -/
import Derived.Test.YtkaepknpplhgkaaGreatDoorMaX
import Derived.Test.YtkaepknpplhgkaaGreatDoorMaV
namespace Go.Proofs.YtkaepknpplhgkaaGreatDoor
open Go.RowKit
def BitA (b : Nat) : Prop := b = 8 ∨ b = 18 ∨ b = 22
theorem u32w (x : Int) : IntKind.u32.wrap x = x % 4294967296 := by simp only [IntKind.wrap, IntKind.bits, IntKind.signed]; simp
theorem u8w (x : Int) : IntKind.u8.wrap x = x % 256 := by simp only [IntKind.wrap, IntKind.bits, IntKind.signed]; simp
theorem i32w (x : Int) : IntKind.i32.wrap x = if 2147483648 ≤ x % 4294967296 then x % 4294967296 - 4294967296 else x % 4294967296 := by
  simp only [IntKind.wrap, IntKind.bits, IntKind.signed]; simp
theorem sgn_arith {n b : Nat} (_hn : n < 4294967296) (hb : BitA b) : IntKind.u32.wrap ((IntKind.i32.wrap (IntKind.u32.wrap ((n : Int) * 2 ^ (min ((32 : Int) - b).toNat 32)))).fdiv (2 ^ (min ((32 : Int) - b).toNat 32))) = (sxL n b : Nat) := by
  rw [u32w, u32w, i32w]
  unfold sxL
  rcases hb with rfl | rfl | rfl
  · rw [show (min ((32 : Int) - (8 : Nat)).toNat 32) = 24 from rfl, Int.fdiv_eq_ediv_of_nonneg _ (by decide)]
    have e : (2 : Int) ^ 24 = 16777216 := by decide
    rw [e]
    simp only [Nat.reducePow, Nat.reduceSub]
    split <;> split <;> omega
  · rw [show (min ((32 : Int) - (18 : Nat)).toNat 32) = 14 from rfl, Int.fdiv_eq_ediv_of_nonneg _ (by decide)]
    have e : (2 : Int) ^ 14 = 16384 := by decide
    rw [e]
    simp only [Nat.reducePow, Nat.reduceSub]
    split <;> split <;> omega
  · rw [show (min ((32 : Int) - (22 : Nat)).toNat 32) = 10 from rfl, Int.fdiv_eq_ediv_of_nonneg _ (by decide)]
    have e : (2 : Int) ^ 10 = 1024 := by decide
    rw [e]
    simp only [Nat.reducePow, Nat.reduceSub]
    split <;> split <;> omega
theorem sxL_fit {n b : Nat} (hn : n < 4294967296) (hb : BitA b) : decide (sxL n b = n) = fitL n b := by
  rw [Bool.eq_iff_iff]
  unfold sxL fitL
  rcases hb with rfl | rfl | rfl <;> simp <;> split <;> omega
theorem sign_any (n b : Nat) (hn : n < 4294967296) (hb : BitA b) (w_0 : World) : Calls Tryz.prog 164 #[.int .u32 n, .int .i64 b] w_0 fun e w' => e = .returned (.int .u32 (sxL n b)) ∧ Ext w_0 w' := by
  have hb1 : 1 ≤ b ∧ b < 32 := by rcases hb with rfl | rfl | rfl <;> omega
  refine calls_wc (args := [.int .u32 n, .int .i64 b]) Tryz.func164 rfl 21 rfl (Nat.le_of_ble_eq_true rfl) ?_
  refine wc_weak (.cons (i := 0) rfl <| .cons (i := 1) rfl <| .nil) ?_
  refine wc_conseq (H' := Hp (fun _ => False) w_0 [] [] (fun _ => True)) (fun u hu => ?_) ?_
  · subst hu; exact Hp.start0
  refine wc_seq ?_
  refine wc_region ?_
  refine wl_free .none rfl (yf_assign rfl) ?_
  refine wl_nil ?_
  refine wq_then ?_
  refine wc_seq ?_
  refine wc_block ?_
  refine wc_seq ?_
  refine wc_region ?_
  refine wl_free .none rfl (yf_move rfl) ?_
  refine wl_free .none rfl (yf_lss rfl rfl) ?_
  refine wl_free .none rfl (yf_assign rfl) ?_
  refine wl_nil ?_
  refine wq_then ?_
  refine wc_cond rfl (fun h5 => ?_) (fun h5 => ?_)
  · replace h5 := of_decide_eq_true h5
    omega
  · replace h5 := of_decide_eq_false h5
    refine wc_seq ?_
    refine wc_weak (.cons (i := 0) rfl <| .cons (i := 1) rfl <| .cons (i := 4) rfl <| .cons (i := 5) rfl <| .nil) ?_
    refine wc_region ?_
    refine wl_free .none rfl (yf_move rfl) ?_
    refine wl_free .none rfl (yf_geq rfl rfl) ?_
    refine wl_free .none rfl (yf_assign rfl) ?_
    refine wl_nil ?_
    refine wq_then ?_
    refine wc_cond rfl (fun h8 => ?_) (fun h8 => ?_)
    · replace h8 := of_decide_eq_true h8
      omega
    · replace h8 := of_decide_eq_false h8
      refine wc_skip ?_
      refine wq_block ?_
      refine wq_then ?_
      refine wc_seq ?_
      refine wc_weak (.cons (i := 0) rfl <| .cons (i := 1) rfl <| .cons (i := 4) rfl <| .cons (i := 5) rfl <| .cons (i := 8) rfl <| .nil) ?_
      refine wc_region ?_
      refine wl_free .none rfl (yf_move rfl) ?_
      refine wl_free .none rfl (yf_move rfl) ?_
      (refine wl_free .none rfl (yf_sub rfl rfl (i64_in _ ?_ ?_)) ?_; (· omega); (· omega); skip)
      (refine wl_free .none rfl (yf_shl rfl rfl ?_ rfl) ?_; (· first | decide | omega); skip)
      refine wl_free .none rfl (yf_conv rfl (by kernel_rfl) Tryz.underlying21 rfl) ?_
      refine wl_free .none rfl (yf_move rfl) ?_
      (refine wl_free .none rfl (yf_sub rfl rfl (i64_in _ ?_ ?_)) ?_; (· omega); (· omega); skip)
      (refine wl_free .none rfl (yf_shr rfl rfl ?_ rfl) ?_; (· first | decide | omega); skip)
      refine wl_free .none rfl (yf_conv rfl (by kernel_rfl) Tryz.underlying22 rfl) ?_
      refine wl_free .none rfl (yf_assign rfl) ?_
      refine wl_nil ?_
      refine wq_then ?_
      refine wc_ret ?_
      refine wq_ret1 rfl rfl (fun w hw => ?_)
      exact ⟨by rw [← sgn_arith hn hb]; rfl, (HpG.keep hw).ext⟩
theorem fits_any (n b : Nat) (hn : n < 4294967296) (hb : BitA b) (w_0 : World) : Calls Tryz.prog 107 #[.int .u32 n, .int .i64 b] w_0 fun e w' => e = .returned (.bool (fitL n b)) ∧ Ext w_0 w' := by
  have hf := sxL_fit hn hb
  refine calls_wc (args := [.int .u32 n, .int .i64 b]) Tryz.func107 rfl 10 rfl (Nat.le_of_ble_eq_true rfl) ?_
  refine wc_weak (.cons (i := 0) rfl <| .cons (i := 1) rfl <| .nil) ?_
  refine wc_conseq (H' := Hp (fun _ => False) w_0 [] [] (fun _ => True)) (fun u hu => ?_) ?_
  · subst hu; exact Hp.start0
  refine wc_seq ?_
  refine wc_region ?_
  refine wl_free .none rfl (yf_assign rfl) ?_
  refine wl_nil ?_
  refine wq_then ?_
  refine wc_seq ?_
  refine wc_region ?_
  refine wl_free .none rfl (yf_move rfl) ?_
  refine wl_free .none rfl (yf_move rfl) ?_
  refine wl_pure .none rfl  (v := .int .u32 (sxL n b)) (by kernel_rfl) rfl (fun w hw => sign_any n b hn hb w) ?_
  refine wl_free .none rfl (yf_move rfl) ?_
  refine wl_free .none rfl (yf_eql rfl rfl) ?_
  refine wl_free .none rfl (yf_assign rfl) ?_
  refine wl_nil ?_
  refine wq_then ?_
  refine wc_ret ?_
  refine wq_ret1 rfl rfl (fun w hw => ?_)
  exact ⟨by rw [← hf]; congr 2; rw [Bool.eq_iff_iff, beq_iff_eq, decide_eq_true_eq]; omega, (HpG.keep hw).ext⟩
theorem putL_len (n k : Nat) : (putL n k).length = k := by
  induction k generalizing n with
  | zero => rfl
  | succ k ih => show (putL (n / 256) k).length + 1 = _; rw [ih]
theorem byL_nat (n : Nat) : (byL (n % 256)).toNat = n % 256 := by
  unfold byL; rw [UInt8.toNat_ofNat']; omega
theorem putL_cells {n : Nat} (_hn : n < 4294967296) (k : Nat) (hk : k ≤ 4) : ∀ j (hj : j < (putL n k).length), ([.int .u8 (IntKind.u8.wrap n), .int .u8 (IntKind.u8.wrap ((n : Int).fdiv (2 ^ (min (8 : Int).toNat 32)))), .int .u8 (IntKind.u8.wrap ((n : Int).fdiv (2 ^ (min (16 : Int).toNat 32)))), .int .u8 (IntKind.u8.wrap ((n : Int).fdiv (2 ^ (min (24 : Int).toNat 32))))] : List Value)[0 + j]? = some (.int .u8 ((putL n k)[j].toNat : Int)) := by
  have key : ∀ (k j : Nat) (m : Nat) (hj : j < (putL m k).length), ((putL m k)[j].toNat : Int) = ((m / 256 ^ j % 256 : Nat) : Int) := by
    intro k
    induction k with
    | zero => intro j m hj; rw [putL_len] at hj; omega
    | succ k ih =>
      intro j m hj
      cases j with
      | zero => show ((byL (m % 256)).toNat : Int) = _; rw [byL_nat, Nat.pow_zero, Nat.div_one]
      | succ j =>
        have h1 : j < (putL (m / 256) k).length := by rw [putL_len] at hj ⊢; omega
        show (((putL (m / 256) k)[j]'h1).toNat : Int) = _
        rw [ih j (m / 256) h1, Nat.div_div_eq_div_mul, Nat.pow_succ, Nat.mul_comm]
  intro j hj
  rw [key]
  have hj4 : j < 4 := by rw [putL_len] at hj; omega
  have : j = 0 ∨ j = 1 ∨ j = 2 ∨ j = 3 := by omega
  have hw : ∀ x : Nat, IntKind.u8.wrap (x : Int) = ((x % 256 : Nat) : Int) := fun x => by rw [u8w]; simp
  have hf : ∀ p : Nat, ((n : Int).fdiv (2 ^ p)) = ((n / 2 ^ p : Nat) : Int) := fun p => by rw [Int.fdiv_eq_ediv_of_nonneg _ (Int.le_of_lt (by have : 0 < (2:Int) ^ p := Int.pow_pos (by decide); exact this))]; simp
  rcases this with rfl | rfl | rfl | rfl
  · simp [hw]
  · show some (Value.int .u8 (IntKind.u8.wrap ((n : Int).fdiv (2 ^ 8)))) = _; rw [hf, hw]
  · show some (Value.int .u8 (IntKind.u8.wrap ((n : Int).fdiv (2 ^ 16)))) = _; rw [hf, hw]
  · show some (Value.int .u8 (IntKind.u8.wrap ((n : Int).fdiv (2 ^ 24)))) = _; rw [hf, hw]
theorem put_any (n k : Nat) (hn : n < 4294967296) (hk : k ≤ 4) (w_0 : World) : Calls Tryz.prog 112 #[.int .u32 n, .int .i64 k] w_0 fun e w' => e = .returned (.string ⟨(putL n k).toArray⟩) ∧ Ext w_0 w' := by
  refine calls_wc (args := [.int .u32 n, .int .i64 k]) Tryz.func112 rfl 24 rfl (Nat.le_of_ble_eq_true rfl) ?_
  refine wc_weak (.cons (i := 0) rfl <| .cons (i := 1) rfl <| .nil) ?_
  refine wc_conseq (H' := Hp (fun _ => False) w_0 [] [] (fun _ => True)) (fun u hu => ?_) ?_
  · subst hu; exact Hp.start0
  refine wc_seq ?_
  refine wc_region ?_
  refine wl_free .none rfl (yf_assign rfl) ?_
  refine wl_nil ?_
  refine wq_then ?_
  refine wc_seq ?_
  refine wc_region ?_
  refine wl_free .none rfl (yf_move rfl) ?_
  refine wl_free .none rfl (yf_conv rfl (by kernel_rfl) Tryz.underlying5 rfl) ?_
  refine wl_free .none rfl (yf_move rfl) ?_
  (refine wl_free .none rfl (yf_shr rfl rfl ?_ rfl) ?_; (· first | decide | omega); skip)
  refine wl_free .none rfl (yf_conv rfl (by kernel_rfl) Tryz.underlying5 rfl) ?_
  refine wl_free .none rfl (yf_move rfl) ?_
  (refine wl_free .none rfl (yf_shr rfl rfl ?_ rfl) ?_; (· first | decide | omega); skip)
  refine wl_free .none rfl (yf_conv rfl (by kernel_rfl) Tryz.underlying5 rfl) ?_
  refine wl_free .none rfl (yf_move rfl) ?_
  (refine wl_free .none rfl (yf_shr rfl rfl ?_ rfl) ?_; (· first | decide | omega); skip)
  refine wl_free .none rfl (yf_conv rfl (by kernel_rfl) Tryz.underlying5 rfl) ?_
  refine wl_new .none rfl (nf_bsn (z := .int .u8 0) rfl rfl rfl rfl Tryz.underlying53 (by kernel_rfl) (by kernel_rfl) rfl rfl) (fun b17 => ?_)
  refine wl_free .none rfl (yf_assign rfl) ?_
  refine wl_nil ?_
  refine wq_then ?_
  refine wc_seq ?_
  refine wc_weak (.cons (i := 0) rfl <| .cons (i := 1) rfl <| .cons (i := 4) rfl <| .cons (i := 5) rfl <| .nil) ?_
  refine wc_region ?_
  refine wl_free .none rfl (yf_move rfl) ?_
  refine wl_free .none rfl (yf_move rfl) ?_
  refine wl_free .none rfl (yf_min rfl rfl) ?_
  refine wl_free .none rfl (yf_max rfl rfl) ?_
  (refine wl_free .none rfl (yf_sliceHi (size := 1) (i := k) rfl rfl Tryz.underlying53 (by kernel_rfl) (by split <;> split <;> omega) ?_) ?_; (· omega); skip)
  refine wl_free .none rfl (yf_convL 0 (putL n k) rfl rfl Tryz.underlying53 Tryz.underlying5 Tryz.underlying9 (putL_len n k) (putL_cells hn k hk)) ?_
  refine wl_free .none rfl (yf_assign rfl) ?_
  refine wl_nil ?_
  refine wq_then ?_
  refine wc_ret ?_
  refine wq_ret1 rfl rfl (fun w hw => ?_)
  exact ⟨rfl, (HpG.keep hw).ext⟩
end Go.Proofs.YtkaepknpplhgkaaGreatDoor
/- The law of reach, plainly: jumps of K. -/
namespace Go.Proofs.YtkaepknpplhgkaaGreatDoor
theorem cutA_no : ∀ {s : Bs}, (∀ c ∈ s, c ≠ 59) → cutA s = s
  | [], _ => rfl
  | c :: s, h => by
    have hc := h c (by simp)
    have ih := cutA_no fun d hd => h d (List.mem_cons_of_mem _ hd)
    unfold cutA at *
    rw [List.takeWhile_cons, if_pos (by simp [hc]), ih]
theorem lexA_no {s : Bs} (h : ∀ c ∈ s, c ≠ 59) : lexA s = lexD s := by unfold lexA lexD; rw [cutA_no h]
theorem dec_mem {n : Nat} {c : UInt8} (h : c ∈ Lib.decDigits n) : digB c = true := (dec_all (n + 1) n (by omega)).1 c h
theorem dig_ne {c d : UInt8} (h : digB c = true) (hd : digB d = false) : c ≠ d := fun e => by subst e; rw [h] at hd; cases hd
end Go.Proofs.YtkaepknpplhgkaaGreatDoor
/- The law of reach, plainly: branches of Q. -/
namespace Go.Proofs.YtkaepknpplhgkaaGreatDoor
end Go.Proofs.YtkaepknpplhgkaaGreatDoor
/- The law of data, plainly. -/
namespace Go.Proofs.YtkaepknpplhgkaaGreatDoor
/-! ### Lines that are known -/
structure LnA (kind : Int) (s : Bs) (st : ASt) : Prop where
  ok : liA kind s = .ok st
  lb : st.label = []
def plcS : List ASt → Nat → List ASt
  | [], _ => []
  | s :: r, a => { s with at_ := a } :: plcS r (a + s.size)
inductive LnsA (kind : Int) : List Bs → List ASt → Prop
  | nil : LnsA kind [] []
  | cons {s : Bs} {st : ASt} {l : List Bs} {r : List ASt} (h : LnA kind s st) (t : LnsA kind l r) : LnsA kind (s :: l) (st :: r)
theorem LnsA.app {kind : Int} {l l' : List Bs} {r r' : List ASt} (h : LnsA kind l r) (k : LnsA kind l' r') : LnsA kind (l ++ l') (r ++ r') := by
  induction h with
  | nil => exact k
  | cons h _ ih => exact .cons h ih
/-- The code of statements, wherever they stand. -/
inductive CdA (lb : List (Bs × Nat)) : List ASt → Bs → Prop
  | nil : CdA lb [] []
  | cons {st : ASt} {r : List ASt} {c d : Bs} {v : List Nat} (hv : valsA lb st.l = .ok v) (h : ∀ a a', cdA { st with at_ := a' } v a = .ok c) (t : CdA lb r d) : CdA lb (st :: r) (c ++ d)
theorem CdA.app {lb : List (Bs × Nat)} {r r' : List ASt} {c c' : Bs} (h : CdA lb r c) (k : CdA lb r' c') : CdA lb (r ++ r') (c ++ c') := by
  induction h with
  | nil => exact k
  | cons hv h _ ih => rw [List.append_assoc]; exact .cons hv h ih
/-! ### The directives -/
end Go.Proofs.YtkaepknpplhgkaaGreatDoor
/- The law of errors, plainly. -/
namespace Go.Proofs.YtkaepknpplhgkaaGreatDoor
def eX : Bs := [120, 58, 32, 98, 114, 101, 97, 107]
def eA : Bs := [98, 114, 101, 97, 107, 32, 59, 32, 97, 103, 97, 105, 110]
def eB : Bs := [98, 114, 101, 97, 107]
def eT : List Bs := [[120, 58, 32, 98, 114, 101, 97, 107], [115, 121, 115, 32, 121], [98, 97, 107, 101, 32, 114, 49], [115, 121, 115, 32, 52, 50, 57, 52, 57, 54, 55, 50, 57, 54], [121, 58, 32, 115, 121, 115, 32, 120, 32, 120]]
def eW : List Nat := [22, 14, 20, 24, 20]
/-- The lines of head, mid and what follows. -/
def eHead (a : Nat) : Bs := eX ++ [10] ++ repB (eA ++ [10]) a
theorem e_lines (a b : Nat) (y : Bs) : linA (eHead a ++ (repB [10] b ++ y)) = eX :: (List.replicate a eA ++ (List.replicate b [] ++ linA y)) := by
  have h1 : NoNl eX := by unfold NoNl; decide
  have h2 : NoNl eA := by unfold NoNl; decide
  have h3 : NoNl [] := fun _ h => by cases h
  unfold eHead
  rw [List.append_assoc, List.append_assoc, List.singleton_append, linA_app _ h1, linA_rep h2]
  have := linA_rep h3 y b
  rw [List.nil_append] at this
  rw [this]
/-- Of a machine: what the lines are. -/
structure EK7 (kind : Int) (x br : ASt) (c : Bs) : Prop where
  hx : liA kind eX = .ok x
  xl : x.label = [120]
  xo : x.l = []
  xs : x.size ≤ 4
  xc : ∀ a a', cdA { x with at_ := a' } [] a = .ok c
  hb : liA kind eB = .ok br
  ha : liA kind eA = .ok br
  bl : br.label = []
  bo : br.l = []
  bs : br.size ≤ 4
  bc : ∀ a a', cdA { br with at_ := a' } [] a = .ok c
  he : liA kind [] = .ok ⟨[], [], [], [], none, 0, 0⟩
  hy : ∃ sy, liA kind (eT.getD 1 []) = .ok sy ∧ sy.label = [] ∧ sy.size ≤ 4 ∧ sy.l = [⟨118, 0, [121], 0, 0, 0⟩]
  h2 : liA kind (eT.getD 2 []) = .error 20
  h3 : liA kind (eT.getD 3 []) = .error 24
  h4 : liA kind (eT.getD 4 []) = .error 20
  h5 : ∃ z, liA kind [120, 58] = .ok z ∧ z.label = [120]
theorem ek_K : EK7 1 ⟨[120], eB, [], [], some (.k (.always 3) .nothing), 0, 1⟩ ⟨[], eB, [], [], some (.k (.always 3) .nothing), 0, 1⟩ [3] :=
  ⟨by kernel_rfl, rfl, rfl, by decide, fun _ _ => by kernel_rfl, by kernel_rfl, by kernel_rfl, rfl, rfl, by decide, fun _ _ => by kernel_rfl, by kernel_rfl, ⟨⟨[], [115, 121, 115], [118], [⟨118, 0, [121], 0, 0, 0⟩], some (.k (.always 128) .value), 0, 2⟩, by kernel_rfl, rfl, by decide, rfl⟩, by kernel_rfl, by kernel_rfl, by kernel_rfl, ⟨⟨[120], [], [], [], none, 0, 0⟩, by kernel_rfl, rfl⟩⟩
theorem e_qbr {sh : Bs} {a : Nat} : codeA (.q 49) sh [] [] a = .ok [0, 0, 0, 196] := (codeA_q (w := 3288334336) rfl (by kernel_rfl)).trans (by rw [show putL 3288334336 4 = [0, 0, 0, 196] by decide])
theorem ek_Q : EK7 2 ⟨[120], eB, [], [], some (.q 49), 0, 4⟩ ⟨[], eB, [], [], some (.q 49), 0, 4⟩ [0, 0, 0, 196] :=
  ⟨by kernel_rfl, rfl, rfl, by decide, fun a _ => e_qbr (sh := []) (a := a), by kernel_rfl, by kernel_rfl, rfl, rfl, by decide, fun a _ => e_qbr (sh := []) (a := a), by kernel_rfl, ⟨⟨[], [115, 121, 115], [118], [⟨118, 0, [121], 0, 0, 0⟩], some (.q 48), 0, 4⟩, by kernel_rfl, rfl, by decide, rfl⟩, by kernel_rfl, by kernel_rfl, by kernel_rfl, ⟨⟨[120], [], [], [], none, 0, 0⟩, by kernel_rfl, rfl⟩⟩
theorem repB_len (x : Bs) (n : Nat) : (repB x n).length = n * x.length := by
  induction n with
  | zero => simp [repB]
  | succ n ih => rw [repB_succ, List.length_append, ih, Nat.succ_mul]; omega
variable {kind : Int} {x br : ASt} {c : Bs}
/-- Behind head and mid. -/
theorem e_pass (h : EK7 kind x br c) {a b : Nat} (ha : a < 50) (l : List Bs) : pasF kind 0 (eX :: (List.replicate a eA ++ (List.replicate b [] ++ l))) 0 0 [] [] = pasF kind 0 l (1 + a + b) (x.size + a * br.size) [([120], 0)] ([{ x with at_ := 0 }] ++ manS br x.size a ++ manS ⟨[], [], [], [], none, 0, 0⟩ (x.size + a * br.size) b) := by
  have hx := h.xs
  have hbs := h.bs
  have hm : a * br.size ≤ 50 * 4 := Nat.mul_le_mul (by omega) hbs
  rw [pasF_label h.hx (by rw [h.xl]; decide) rfl (by omega), pasF_rep h.ha h.bl a _ _ _ (by omega), pasF_rep h.he rfl b _ _ _ (by show _ + b * 0 ≤ _; omega), h.xl]
  simp
theorem e_text (h : EK7 kind x br c) (hk : kind = 1 ∨ kind = 2) {a b : Nat} (ha : a < 50) (hb : b < 50) (i : Nat) (hi : i < 5) : asmL kind (eHead a ++ (repB [10] b ++ (eT.getD i [] ++ 10 :: eB))) 0 = ([], a + b + 2, eW.getD i 0) := by
  obtain ⟨sy, hy1, hy2, hy3, hy4⟩ := h.hy
  have hx := h.xs
  have hbs := h.bs
  have hm : a * br.size ≤ 50 * 4 := Nat.mul_le_mul (by omega) hbs
  have hlen : (eHead a ++ (repB [10] b ++ (eT.getD i [] ++ 10 :: eB))).length ≤ 1048576 := by
    have h1 : ∀ i, i < 5 → (eT.getD i []).length ≤ 20 := by decide
    have h1 := h1 i hi
    unfold eHead
    simp only [List.length_append, repB_len, List.length_cons, List.length_nil, eX, eA, eB]
    omega
  have hl : linA (eHead a ++ (repB [10] b ++ (eT.getD i [] ++ 10 :: eB))) = eX :: (List.replicate a eA ++ (List.replicate b [] ++ [eT.getD i [], eB])) := by
    have h1 : ∀ i, i < 5 → ∀ c ∈ eT.getD i [], c ≠ 10 := by decide
    rw [e_lines, linA_app _ (h1 i hi), linA_one (by unfold NoNl; decide)]
  unfold asmL
  rw [if_neg (by omega), if_neg (by omega), hl, e_pass h ha]
  obtain rfl | rfl | rfl | rfl | rfl : i = 0 ∨ i = 1 ∨ i = 2 ∨ i = 3 ∨ i = 4 := by omega
  · rw [pasF_twice (s := eT.getD 0 []) (st := x) (v := 0) h.hx (by rw [h.xl]; decide) (by rw [h.xl]; rfl)]
    show ([], 1 + a + b + 1, 22) = _
    rw [show 1 + a + b + 1 = a + b + 2 by omega]; rfl
  · rw [pasF_ok hy1 hy2 (by omega), pasF_ok h.hb h.bl (by omega)]
    dsimp only [pasF]
    rw [List.append_assoc, List.append_assoc, List.append_assoc, List.singleton_append, outF_ok (v := []) (c := c) (by show valsA _ x.l = _; rw [h.xo]; rfl) (h.xc _ _), outF_rep h.bo h.bc, outF_rep (c := []) rfl (fun _ _ => rfl), List.singleton_append, outF_bad (e := 14) (by show andR (valsA _ sy.l) _ = _; rw [hy4]; rfl)]
    show ([], 0 + 1 + a + b + 1, 14) = _
    rw [show 0 + 1 + a + b + 1 = a + b + 2 by omega]; rfl
  · rw [pasF_bad h.h2]
    show ([], 1 + a + b + 1, 20) = _
    rw [show 1 + a + b + 1 = a + b + 2 by omega]; rfl
  · rw [pasF_bad h.h3]
    show ([], 1 + a + b + 1, 24) = _
    rw [show 1 + a + b + 1 = a + b + 2 by omega]; rfl
  · rw [pasF_bad h.h4]
    show ([], 1 + a + b + 1, 20) = _
    rw [show 1 + a + b + 1 = a + b + 2 by omega]; rfl
theorem e_twice (h : EK7 kind x br c) (hk : kind = 1 ∨ kind = 2) {a b : Nat} (ha : a < 50) (hb : b < 50) : asmL kind (eHead a ++ (eT.getD 1 [] ++ 10 :: (repB [10] b ++ [120, 58]))) 0 = ([], a + b + 3, 22) := by
  obtain ⟨sy, hy1, hy2, hy3, hy4⟩ := h.hy
  obtain ⟨z, hz1, hz2⟩ := h.h5
  have hx := h.xs
  have hbs := h.bs
  have hm : a * br.size ≤ 50 * 4 := Nat.mul_le_mul (by omega) hbs
  have hsy : (eT.getD 1 []).length = 5 := rfl
  have hlen : (eHead a ++ (eT.getD 1 [] ++ 10 :: (repB [10] b ++ [120, 58]))).length ≤ 1048576 := by
    unfold eHead
    simp only [List.length_append, repB_len, List.length_cons, List.length_nil, eX, eA, hsy]
    omega
  have hl : linA (eHead a ++ (eT.getD 1 [] ++ 10 :: (repB [10] b ++ [120, 58]))) = eX :: (List.replicate a eA ++ (eT.getD 1 [] :: (List.replicate b [] ++ [[120, 58]]))) := by
    have h1 : NoNl eX := by unfold NoNl; decide
    have h2 : NoNl eA := by unfold NoNl; decide
    have h3 : NoNl [] := fun _ h => by cases h
    have h4 := linA_rep h3 [120, 58] b
    rw [List.nil_append] at h4
    unfold eHead
    rw [List.append_assoc, List.append_assoc, List.singleton_append, linA_app _ h1, linA_rep h2, linA_app _ (by unfold NoNl; decide), h4, linA_one (x := [120, 58]) (by unfold NoNl; decide)]
  unfold asmL
  rw [if_neg (by omega), if_neg (by omega), hl, pasF_label h.hx (by rw [h.xl]; decide) rfl (by omega), pasF_rep h.ha h.bl a _ _ _ (by omega), pasF_ok hy1 hy2 (by omega), pasF_rep h.he rfl b _ _ _ (by show _ + b * 0 ≤ _; omega), pasF_twice (v := 0) hz1 (by rw [hz2]; decide) (by rw [hz2, h.xl]; rfl)]
  show ([], 0 + 1 + a + 1 + b + 1, 22) = _
  rw [show 0 + 1 + a + 1 + b + 1 = a + b + 3 by omega]
end Go.Proofs.YtkaepknpplhgkaaGreatDoor
/- The law of origins, plainly. -/
namespace Go.Proofs.YtkaepknpplhgkaaGreatDoor
/-- The code of statements where they stand. -/
inductive CdP (org : Nat) (lb : List (Bs × Nat)) : List ASt → Bs → Prop
  | nil : CdP org lb [] []
  | cons {st : ASt} {r : List ASt} {c d : Bs} {v : List Nat} (hv : valsA lb st.l = .ok v) (h : cdA st v ((org + st.at_) % 4294967296) = .ok c) (t : CdP org lb r d) : CdP org lb (st :: r) (c ++ d)
theorem CdP.app {org : Nat} {lb : List (Bs × Nat)} {r r' : List ASt} {c c' : Bs} (h : CdP org lb r c) (k : CdP org lb r' c') : CdP org lb (r ++ r') (c ++ c') := by
  induction h with
  | nil => exact k
  | cons hv h _ ih => rw [List.append_assoc]; exact .cons hv h ih
end Go.Proofs.YtkaepknpplhgkaaGreatDoor
/- The law of labels, plainly. -/
namespace Go.Proofs.YtkaepknpplhgkaaGreatDoor
theorem subW_lt (a b : Nat) : subW a b < 4294967296 := Nat.mod_lt _ (by omega)
end Go.Proofs.YtkaepknpplhgkaaGreatDoor
