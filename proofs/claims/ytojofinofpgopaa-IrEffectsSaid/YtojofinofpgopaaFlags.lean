/- The flags: packed, sum, Flags of word; pack, out, Flags of the reference. -/
import Derived.Test.YtojofinofpgopaaRefOp
import Derived.Test.YtojofinofpgopaaReg
import Derived.Test.YtojofinofpgopaaIrF0
import Derived.Laws.BitsAllLaws
namespace Go.Proofs.Ytojofinofpgopaa
open Go.RowKit
def bN (b : Bool) (n : Int) : Int := if b then n else 0
def pkL (r : Int) (c v : Bool) : Int := bN (decide (2147483648 ≤ r)) 8 + bN (decide (r = 0)) 4 + bN c 2 + bN v 1
def outL (n : Int) : Bool := decide (n < -2147483648 ∨ 2147483648 ≤ n)
def refFlagsL (k a b : Int) : Int :=
  if k = 0 then bits .and .u32 a 15
  else if k = 1 then pkL ((a + b) % 4294967296) (decide (4294967296 ≤ a + b)) (outL (wrap32 a + wrap32 b))
  else if k = 2 then pkL ((a + b + 1) % 4294967296) (decide (4294967296 ≤ a + b + 1)) (outL (wrap32 a + wrap32 b + 1))
  else if k = 3 then pkL ((a - b) % 4294967296) (decide (b ≤ a)) (outL (wrap32 a - wrap32 b))
  else if k = 4 then pkL ((a - b - 1) % 4294967296) (decide (b + 1 ≤ a)) (outL (wrap32 a - wrap32 b - 1))
  else if k = 5 then pkL a false false
  else 0
def ovL (a b r : Int) : Bool := bits .and .u32 (bits .and .u32 (bits .xor .u32 a r) (bits .xor .u32 b r)) 2147483648 != 0
theorem refOut_any (n : Int) (w : World) : Calls Try.prog 77 #[.int .i64 n] w fun e w' => e = .returned (.bool (outL n)) ∧ w = w' := by
  have e : n < -2147483648 ∧ outL n = true ∨ -2147483648 ≤ n ∧ outL n = decide (2147483648 ≤ n) := by
    rcases (show n < -2147483648 ∨ -2147483648 ≤ n by omega) with h | h
    · exact .inl ⟨h, by unfold outL; simp; omega⟩
    · refine .inr ⟨h, ?_⟩
      unfold outL; rw [Bool.eq_iff_iff]; simp; omega
  rcases e with ⟨h1, e⟩ | ⟨h1, e⟩
  all_goals
    have H := Lib.hid e
    clear e
    go_enter Try.func77, Try.ntmps77
    go_wp2_with fail
    all_goals (go_light; go_ret; exact ⟨ret_bool (by rw [H.out]; try (rw [Bool.eq_iff_iff]; simp; omega)), rfl⟩)
theorem refPack_any (r : Int) (c v : Bool) (w : World) : Calls Try.prog 76 #[.int .u32 r, .bool c, .bool v] w fun e w' => e = .returned (.int .u32 (pkL r c v)) ∧ w = w' := by
  rcases (show 2147483648 ≤ r ∨ r = 0 ∨ (r < 2147483648 ∧ r ≠ 0) by omega) with h | h | ⟨h, h0⟩
  · have H := Lib.hid (show pkL r c v = 8 + bN c 2 + bN v 1 by
      have h0 : ¬ r = 0 := by omega
      unfold pkL; simp [h, h0, bN])
    have hq : (r == 0) = false := by simp; omega
    cases c <;> cases v <;> (go_enter Try.func76, Try.ntmps76; go_wp2_with fail; go_light; go_ret; exact ⟨ret_int H.out.symm, rfl⟩)
  · subst h
    cases c <;> cases v <;> (go_enter Try.func76, Try.ntmps76; go_wp2_with fail; go_light; go_ret; exact ⟨rfl, rfl⟩)
  · have H := Lib.hid (show pkL r c v = bN c 2 + bN v 1 by
      have h1 : ¬ 2147483648 ≤ r := by omega
      unfold pkL; simp [h1, h0, bN])
    have hq : (r == 0) = false := by simpa using h0
    cases c <;> cases v <;> (go_enter Try.func76, Try.ntmps76; go_wp2_with fail; go_light; go_ret; exact ⟨ret_int H.out.symm, rfl⟩)
/-- The cell of the flags, in memory of the call's own. -/
structure FB (w : World) (B : Nat) (x : Int) (wx : World) : Prop where
  below : Below w.heap.size w wx
  le : w.heap.size ≤ B
  box : wx.heap[B]? = some (.cells #[.int .u32 x] 34 (0, 0))
theorem packed1_any (n : Int) (b : Bool) (w wx : World) (B : Nat) (x : Int) (h : FB w B x wx) :
    Calls Try.prog 112 #[.int .u32 n, .bool b, .pointer (some ⟨B, 0, none⟩)] wx fun e w' => (∃ v, e = .returned v) ∧ FB w B (if b then bits .or .u32 x n else x) w' := by
  have k0 : wx.cell? ⟨B, 0, none⟩ = some (.int .u32 x) := heap_cell h.box rfl
  have f0 : wx.frozen? ⟨B, 0, none⟩ = false := heap_free h.box
  have HF := Lib.hid h
  clear h
  cases b
  · go_enter Try.func112, Try.ntmps112
    go_wp2_with fail
    go_light
    refine bodyPost_end (results_none rfl _ _ _) rfl ?_
    exact ⟨⟨_, rfl⟩, HF.out⟩
  · go_enter Try.func112, Try.ntmps112
    go_wp2_with fail
    go_light
    refine bodyPost_end (results_none rfl _ _ _) rfl ?_
    exact ⟨⟨_, rfl⟩, HF.out.below.setCell HF.out.le _, HF.out.le, set_heap HF.out.box 0 _⟩
theorem packed_any (r : Int) (c v : Bool) (w : World) : Calls Try.prog 94 #[.int .u32 r, .bool c, .bool v] w fun e w' => e = .returned (.int .u32 (pkL r c v)) ∧ Ext w w' := by
  obtain ⟨p, hp⟩ : ∃ p, decide (2147483648 ≤ r) = p := ⟨_, rfl⟩
  obtain ⟨q, hq⟩ : ∃ q, (r == 0) = q := ⟨_, rfl⟩
  have hq2 : decide (r = 0) = q := by rw [← hq]; rfl
  have H := Lib.hid (show pkL r c v = bN p 8 + bN q 4 + bN c 2 + bN v 1 by unfold pkL; rw [hp, hq2])
  clear hq2
  go_enter Try.func94, Try.ntmps94
  go_upto_region 3 with fail
  have hfb : FB w w.heap.size 0 (w.alloc (.cells #[.int .u32 0] 34)) := ⟨Ext.alloc (Ext.refl w) _, Nat.le_refl _, heap_alloc_new _ _⟩
  obtain ⟨B, hB⟩ : ∃ B, w.heap.size = B := ⟨_, rfl⟩
  rw [hB] at hfb ⊢
  generalize w.alloc _ = w0 at *
  go_wp2_with fail
  refine (packed1_any _ _ w _ _ _ hfb).mono ?_
  rintro e w1 ⟨⟨v1, rfl⟩, hfb1⟩
  clear hfb
  go_wp2_with fail
  refine (packed1_any _ _ w _ _ _ hfb1).mono ?_
  rintro e w2 ⟨⟨v2, rfl⟩, hfb⟩
  clear hfb1
  go_wp2_with fail
  refine (packed1_any _ _ w _ _ _ hfb).mono ?_
  rintro e w3 ⟨⟨v3, rfl⟩, hfb1⟩
  clear hfb
  go_wp2_with fail
  refine (packed1_any _ _ w _ _ _ hfb1).mono ?_
  rintro e w4 ⟨⟨v4, rfl⟩, hfb⟩
  clear hfb1
  obtain ⟨X, hX⟩ : ∃ X, (if v = true then bits .or .u32 (if c = true then bits .or .u32 (if q = true then bits .or .u32 (if p = true then bits .or .u32 0 8 else 0) 4 else (if p = true then bits .or .u32 0 8 else 0)) 2 else (if q = true then bits .or .u32 (if p = true then bits .or .u32 0 8 else 0) 4 else (if p = true then bits .or .u32 0 8 else 0))) 1 else (if c = true then bits .or .u32 (if q = true then bits .or .u32 (if p = true then bits .or .u32 0 8 else 0) 4 else (if p = true then bits .or .u32 0 8 else 0)) 2 else (if q = true then bits .or .u32 (if p = true then bits .or .u32 0 8 else 0) 4 else (if p = true then bits .or .u32 0 8 else 0)))) = X := ⟨_, rfl⟩
  rw [hX] at hfb
  have HX := Lib.hid hX
  clear hX hp hq
  have k0 : w4.cell? ⟨B, 0, none⟩ = some (.int .u32 X) := heap_cell hfb.box rfl
  go_wp2_with fail
  go_light; go_ret
  refine ⟨ret_int ?_, hfb.below⟩
  rw [H.out, ← HX.out]
  clear hfb k0 H HX
  cases p <;> cases q <;> cases c <;> cases v <;> rfl
theorem sum_any (a b c : Int) (w : World) (ha : U32 a) (hb : U32 b) (hc0 : 0 ≤ c) (hc1 : c ≤ 1) : Calls Try.prog 93 #[.int .u32 a, .int .u32 b, .int .u32 c] w fun e w' =>
    e = .returned (.int .u32 (pkL ((a + b + c) % 4294967296) (decide (4294967296 ≤ a + b + c)) (ovL a b ((a + b + c) % 4294967296)))) ∧ Ext w w' := by
  obtain ⟨ha0, ha1⟩ := ha
  obtain ⟨hb0, hb1⟩ := hb
  go_enter Try.func93, Try.ntmps93
  go_upto_region 3 with fail
  go_wp2_with (go_at_call 94; refine (packed_any _ _ _ _).mono ?_; rintro e w1 ⟨rfl, hx⟩)
  all_goals (go_light; go_ret; exact ⟨rfl, hx⟩)
theorem top_bit {x : Nat} (h : x < 4294967296) : x.testBit 31 = decide (2147483648 ≤ x) := by
  rw [Nat.testBit_eq_decide_div_mod_eq, Bool.eq_iff_iff]; simp; omega
theorem top_and {x : Nat} : (((x &&& 2147483648 : Nat) : Int) != 0) = x.testBit 31 := by
  have h : x &&& 2147483648 = (x.testBit 31).toNat * 2147483648 := by
    apply Nat.eq_of_testBit_eq
    intro i
    rw [Nat.testBit_and, show (2147483648 : Nat) = 2 ^ 31 from rfl, Nat.testBit_two_pow]
    by_cases hi : 31 = i
    · subst hi
      cases x.testBit 31 <;> simp <;> rfl
    · have e : Nat.testBit 2147483648 i = false := by rw [show (2147483648 : Nat) = 2 ^ 31 from rfl, Nat.testBit_two_pow]; simpa using hi
      cases x.testBit 31 <;> simp [hi, e]
  rw [h]; cases x.testBit 31 <;> rfl
theorem ovL_eq {a b r : Int} (ha : U32 a) (hb : U32 b) (hr : U32 r) : ovL a b r = ((decide (2147483648 ≤ a) ^^ decide (2147483648 ≤ r)) && (decide (2147483648 ≤ b) ^^ decide (2147483648 ≤ r))) := by
  obtain ⟨a, rfl⟩ := Int.eq_ofNat_of_zero_le ha.1
  obtain ⟨b, rfl⟩ := Int.eq_ofNat_of_zero_le hb.1
  obtain ⟨r, rfl⟩ := Int.eq_ofNat_of_zero_le hr.1
  have ha := ha.2
  have hb := hb.2
  have hr := hr.2
  have ha' : a < 2 ^ 32 := by omega
  have hb' : b < 2 ^ 32 := by omega
  have hr' : r < 2 ^ 32 := by omega
  have x1 : a ^^^ r < 4294967296 := Nat.xor_lt_two_pow (n := 32) ha' hr'
  have x2 : b ^^^ r < 4294967296 := Nat.xor_lt_two_pow (n := 32) hb' hr'
  have x3 : (a ^^^ r) &&& (b ^^^ r) < 4294967296 := Nat.and_lt_two_pow (n := 32) _ x2
  unfold ovL
  rw [u32_xor_nat a r (by omega) (by omega), u32_xor_nat b r (by omega) (by omega), u32_and_nat _ _ x1 x2]
  have e : ((2147483648 : Int)) = ((2147483648 : Nat) : Int) := rfl
  rw [e, u32_and_nat _ _ x3 (by omega), top_and, Nat.testBit_and, Nat.testBit_xor, Nat.testBit_xor, top_bit (by omega), top_bit (by omega), top_bit (by omega)]
  have d : ∀ n : Nat, decide (2147483648 ≤ n) = decide (((2147483648 : Nat) : Int) ≤ (n : Int)) := fun n => by rw [Bool.eq_iff_iff]; simp; omega
  rw [d a, d b, d r]
theorem ov_sum {a b c : Int} (ha : U32 a) (hb : U32 b) (h0 : 0 ≤ c) (h1 : c ≤ 1) : ovL a b ((a + b + c) % 4294967296) = outL (wrap32 a + wrap32 b + c) := by
  rw [ovL_eq ha hb ⟨by omega, by omega⟩, wrap32_u ha.1 ha.2, wrap32_u hb.1 hb.2]
  obtain ⟨a0, a1⟩ := ha
  obtain ⟨b0, b1⟩ := hb
  unfold outL
  rw [Bool.eq_iff_iff]
  by_cases h1 : 2147483648 ≤ a <;> by_cases h2 : 2147483648 ≤ b <;> by_cases h3 : 2147483648 ≤ (a + b + c) % 4294967296 <;> simp [h1, h2, h3] <;> omega
theorem ov_dif {a b c : Int} (ha : U32 a) (hb : U32 b) (h0 : 0 ≤ c) (h1 : c ≤ 1) : ovL a (4294967295 - b) ((a + (4294967295 - b) + c) % 4294967296) = outL (wrap32 a - wrap32 b - (1 - c)) := by
  have hb' : U32 (4294967295 - b) := ⟨by have := hb.2; omega, by have := hb.1; omega⟩
  rw [ov_sum ha hb' h0 h1]
  have e : wrap32 (4294967295 - b) = - wrap32 b - 1 := by
    rw [wrap32_u hb'.1 hb'.2, wrap32_u hb.1 hb.2]
    obtain ⟨b0, b1⟩ := hb
    split <;> split <;> omega
  rw [e]; congr 1; omega
set_option maxHeartbeats 2000000 in
theorem refFlags_any (k a b : Int) (w : World) (ha : U32 a) (hb : U32 b) : Calls Try.prog 44 #[.int .i64 k, .int .u32 a, .int .u32 b] w fun e w' => e = .returned (.int .u32 (refFlagsL k a b)) ∧ w = w' := by
  obtain ⟨ha0, ha1⟩ := ha
  obtain ⟨hb0, hb1⟩ := hb
  have r1 := wrap32_u ha0 ha1
  have r2 := wrap32_u hb0 hb1
  have l1 : -2147483648 ≤ wrap32 a ∧ wrap32 a < 2147483648 := by rw [r1]; split <;> omega
  have l2 : -2147483648 ≤ wrap32 b ∧ wrap32 b < 2147483648 := by rw [r2]; split <;> omega
  obtain ⟨l1, l1'⟩ := l1
  obtain ⟨l2, l2'⟩ := l2
  clear r1 r2
  rcases (show k < 0 ∨ 5 < k ∨ k = 0 ∨ k = 1 ∨ k = 2 ∨ k = 3 ∨ k = 4 ∨ k = 5 by omega) with h | h | rfl | rfl | rfl | rfl | rfl | rfl
  · have H := Lib.hid (show refFlagsL k a b = 0 by
      unfold refFlagsL
      rw [if_neg (by omega), if_neg (by omega), if_neg (by omega), if_neg (by omega), if_neg (by omega), if_neg (by omega)])
    go_enter Try.func44, Try.ntmps44
    go_wp2_with fail
    go_light; go_ret; exact ⟨ret_int H.out.symm, rfl⟩
  · have H := Lib.hid (show refFlagsL k a b = 0 by
      unfold refFlagsL
      rw [if_neg (by omega), if_neg (by omega), if_neg (by omega), if_neg (by omega), if_neg (by omega), if_neg (by omega)])
    go_enter Try.func44, Try.ntmps44
    go_wp2_with fail
    go_light; go_ret; exact ⟨ret_int H.out.symm, rfl⟩
  all_goals
    go_enter Try.func44, Try.ntmps44
    go_wp2_with (first | (go_at_call 57; refine (refSigned_any _ _ (by assumption) (by assumption)).mono ?_; rintro e w' ⟨rfl, rfl⟩) | (go_at_call 77; refine (refOut_any _ _).mono ?_; rintro e w' ⟨rfl, rfl⟩) | (go_at_call 76; refine (refPack_any _ _ _ _).mono ?_; rintro e w' ⟨rfl, rfl⟩))
    go_light; go_ret
    refine ⟨ret_int ?_, rfl⟩
    simp [refFlagsL]
theorem not32 {b : Int} (h : U32 b) : bits .xor .u32 IntKind.u32.max b = 4294967295 - b := by
  obtain ⟨b, rfl⟩ := Int.eq_ofNat_of_zero_le h.1
  have h := h.2
  rw [show IntKind.u32.max = ((4294967295 : Nat) : Int) from rfl, u32_xor_nat 4294967295 b (by omega) (by omega)]
  have e : 4294967295 ^^^ b = 4294967295 - b := by
    apply Nat.eq_of_testBit_eq
    intro i
    rw [Nat.testBit_xor, show 4294967295 - b = 2 ^ 32 - (b + 1) by omega, Nat.testBit_two_pow_sub_succ (by omega), show 4294967295 = 2 ^ 32 - 1 by omega, Nat.testBit_two_pow_sub_one]
    by_cases hi : i < 32
    · simp [hi]
    · have : b.testBit i = false := Nat.testBit_lt_two_pow (Nat.lt_of_lt_of_le (show b < 2 ^ 32 by omega) (Nat.pow_le_pow_right (by omega) (by omega)))
      simp [hi, this]
  rw [e]; omega
set_option maxHeartbeats 2000000 in
theorem wordFlags_any (k a b : Int) (w : World) (ha : U32 a) (hb : U32 b) : Calls Try.prog 75 #[.int .i64 k, .int .u32 a, .int .u32 b] w fun e w' => e = .returned (.int .u32 (refFlagsL k a b)) ∧ Ext w w' := by
  have HA := Lib.hid ha
  have HB := Lib.hid hb
  have HNB : Hid (U32 (4294967295 - b)) := Lib.hid ⟨by have := hb.2; omega, by have := hb.1; omega⟩
  have HN := Lib.hid (not32 hb)
  have HS := Lib.hid fun (c : Int) => ov_sum (c := c) ha hb
  have HD := Lib.hid fun (c : Int) => ov_dif (c := c) ha hb
  obtain ⟨ha0, ha1⟩ := ha
  obtain ⟨hb0, hb1⟩ := hb
  rcases (show k < 0 ∨ 5 < k ∨ k = 0 ∨ k = 1 ∨ k = 2 ∨ k = 3 ∨ k = 4 ∨ k = 5 by omega) with h | h | rfl | rfl | rfl | rfl | rfl | rfl
  · have H := Lib.hid (show refFlagsL k a b = 0 by
      unfold refFlagsL
      rw [if_neg (by omega), if_neg (by omega), if_neg (by omega), if_neg (by omega), if_neg (by omega), if_neg (by omega)])
    go_enter Try.func75, Try.ntmps75
    go_wp2_with fail
    go_light; go_ret; exact ⟨ret_int H.out.symm, Ext.refl _⟩
  · have H := Lib.hid (show refFlagsL k a b = 0 by
      unfold refFlagsL
      rw [if_neg (by omega), if_neg (by omega), if_neg (by omega), if_neg (by omega), if_neg (by omega), if_neg (by omega)])
    go_enter Try.func75, Try.ntmps75
    go_wp2_with fail
    go_light; go_ret; exact ⟨ret_int H.out.symm, Ext.refl _⟩
  · go_enter Try.func75, Try.ntmps75
    go_wp2_with fail
    go_light; go_ret; exact ⟨ret_int (by simp [refFlagsL]), Ext.refl _⟩
  · go_enter Try.func75, Try.ntmps75
    go_wp2_with (go_at_call 93; refine (sum_any _ _ _ _ HA.out HB.out (by decide) (by decide)).mono ?_; rintro e w' ⟨rfl, hx⟩)
    go_light; go_ret; refine ⟨ret_int ?_, hx⟩
    have e := HS.out 0 (by decide) (by decide)
    simp only [Int.add_zero] at e ⊢
    rw [e]; simp [refFlagsL]
  · go_enter Try.func75, Try.ntmps75
    go_wp2_with (go_at_call 93; refine (sum_any _ _ _ _ HA.out HB.out (by decide) (by decide)).mono ?_; rintro e w' ⟨rfl, hx⟩)
    go_light; go_ret; refine ⟨ret_int ?_, hx⟩
    rw [HS.out 1 (by decide) (by decide)]; simp [refFlagsL]
  · go_enter Try.func75, Try.ntmps75
    go_wp2_with fail
    rw [HN.out]
    go_wp2_with (go_at_call 93; refine (sum_any _ _ _ _ HA.out HNB.out (by decide) (by decide)).mono ?_; rintro e w' ⟨rfl, hx⟩)
    go_light; go_ret; refine ⟨ret_int ?_, hx⟩
    rw [HD.out 1 (by decide) (by decide)]
    have e1 : (a + (4294967295 - b) + 1) % 4294967296 = (a - b) % 4294967296 := by omega
    have e2 : decide (4294967296 ≤ a + (4294967295 - b) + 1) = decide (b ≤ a) := by rw [Bool.eq_iff_iff]; simp; omega
    rw [e1, e2]
    simp [refFlagsL]
  · go_enter Try.func75, Try.ntmps75
    go_wp2_with fail
    rw [HN.out]
    go_wp2_with (go_at_call 93; refine (sum_any _ _ _ _ HA.out HNB.out (by decide) (by decide)).mono ?_; rintro e w' ⟨rfl, hx⟩)
    go_light; go_ret; refine ⟨ret_int ?_, hx⟩
    have e := HD.out 0 (by decide) (by decide)
    simp only [Int.add_zero, Int.sub_zero] at e ⊢
    rw [e]
    have e1 : (a + (4294967295 - b)) % 4294967296 = (a - b - 1) % 4294967296 := by omega
    have e2 : decide (4294967296 ≤ a + (4294967295 - b)) = decide (b + 1 ≤ a) := by rw [Bool.eq_iff_iff]; simp; omega
    rw [e1, e2]
    simp [refFlagsL]
  · go_enter Try.func75, Try.ntmps75
    go_wp2_with (go_at_call 94; refine (packed_any _ _ _ _).mono ?_; rintro e w' ⟨rfl, hx⟩)
    go_light; go_ret; refine ⟨ret_int ?_, hx⟩
    simp [refFlagsL]
theorem pkL_range (r : Int) (c v : Bool) : 0 ≤ pkL r c v ∧ pkL r c v < 16 := by
  unfold pkL bN
  constructor <;> split <;> split <;> split <;> split <;> omega
theorem and15 {a : Int} (h : U32 a) : bits .and .u32 a 15 = a % 16 := by
  obtain ⟨a, rfl⟩ := Int.eq_ofNat_of_zero_le h.1
  have h := h.2
  rw [show (15 : Int) = ((15 : Nat) : Int) from rfl, u32_and_nat a 15 (by omega) (by omega), Nat.and_two_pow_sub_one_eq_mod a 4]
  omega
theorem flags_range (k a b : Int) (ha : U32 a) : 0 ≤ refFlagsL k a b ∧ refFlagsL k a b < 16 := by
  unfold refFlagsL
  split
  · rw [and15 ha]; omega
  · repeat' split
    all_goals first | exact pkL_range _ _ _ | omega
end Go.Proofs.Ytojofinofpgopaa
