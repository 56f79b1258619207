/- The flags: packed, sum, Flags of word; pack, out, Flags of the reference. -/
import Derived.Test.YtojofinofpgopaaDoorRefOp
import Derived.Test.YtojofinofpgopaaDoorReg
import Derived.Test.YtojofinofpgopaaDoorIrF0
import Derived.Laws.BitsAllLaws
namespace Go.Proofs.YtojofinofpgopaaDoor
open Go.RowKit
def bN (b : Bool) (n : Int) : Int := if b then n else 0
def pkL (r : Int) (c v : Bool) : Int := bN (decide (2147483648 ≤ r)) 8 + bN (decide (r = 0)) 4 + bN c 2 + bN v 1
def outL (n : Int) : Bool := decide (n < -2147483648 ∨ 2147483648 ≤ n)
def refFlagsL (k a b : Int) : Int :=
  if k = 0 then bits .and .u32 a 15
  else if k = 1 then pkL ((a + b) % 4294967296) (decide (4294967296 ≤ a + b)) (outL (wrap32 a + wrap32 b))
  else if k = 2 then pkL ((a + b + 1) % 4294967296) (decide (4294967296 ≤ a + b + 1)) (outL (wrap32 a + wrap32 b + 1))
  else if k = 3 then pkL ((a - b) % 4294967296) (decide (b ≤ a)) (outL (wrap32 a - wrap32 b))
  else if k = 4 then pkL ((a - b - 1) % 4294967296) (decide (b + 1 ≤ a)) (outL (wrap32 a - wrap32 b - 1))
  else if k = 5 then pkL a false false
  else 0
def ovL (a b r : Int) : Bool := bits .and .u32 (bits .and .u32 (bits .xor .u32 a r) (bits .xor .u32 b r)) 2147483648 != 0
/-- The cell of the flags, in memory of the call's own. -/
structure FB (w : World) (B : Nat) (x : Int) (wx : World) : Prop where
  below : Below w.heap.size w wx
  le : w.heap.size ≤ B
  box : wx.heap[B]? = some (.cells #[.int .u32 x] 35 (0, 0))
theorem top_bit {x : Nat} (h : x < 4294967296) : x.testBit 31 = decide (2147483648 ≤ x) := by
  rw [Nat.testBit_eq_decide_div_mod_eq, Bool.eq_iff_iff]; simp; omega
theorem top_and {x : Nat} : (((x &&& 2147483648 : Nat) : Int) != 0) = x.testBit 31 := by
  have h : x &&& 2147483648 = (x.testBit 31).toNat * 2147483648 := by
    apply Nat.eq_of_testBit_eq
    intro i
    rw [Nat.testBit_and, show (2147483648 : Nat) = 2 ^ 31 from rfl, Nat.testBit_two_pow]
    by_cases hi : 31 = i
    · subst hi
      cases x.testBit 31 <;> simp <;> rfl
    · have e : Nat.testBit 2147483648 i = false := by rw [show (2147483648 : Nat) = 2 ^ 31 from rfl, Nat.testBit_two_pow]; simpa using hi
      cases x.testBit 31 <;> simp [hi, e]
  rw [h]; cases x.testBit 31 <;> rfl
theorem ovL_eq {a b r : Int} (ha : U32 a) (hb : U32 b) (hr : U32 r) : ovL a b r = ((decide (2147483648 ≤ a) ^^ decide (2147483648 ≤ r)) && (decide (2147483648 ≤ b) ^^ decide (2147483648 ≤ r))) := by
  obtain ⟨a, rfl⟩ := Int.eq_ofNat_of_zero_le ha.1
  obtain ⟨b, rfl⟩ := Int.eq_ofNat_of_zero_le hb.1
  obtain ⟨r, rfl⟩ := Int.eq_ofNat_of_zero_le hr.1
  have ha := ha.2
  have hb := hb.2
  have hr := hr.2
  have ha' : a < 2 ^ 32 := by omega
  have hb' : b < 2 ^ 32 := by omega
  have hr' : r < 2 ^ 32 := by omega
  have x1 : a ^^^ r < 4294967296 := Nat.xor_lt_two_pow (n := 32) ha' hr'
  have x2 : b ^^^ r < 4294967296 := Nat.xor_lt_two_pow (n := 32) hb' hr'
  have x3 : (a ^^^ r) &&& (b ^^^ r) < 4294967296 := Nat.and_lt_two_pow (n := 32) _ x2
  unfold ovL
  rw [u32_xor_nat a r (by omega) (by omega), u32_xor_nat b r (by omega) (by omega), u32_and_nat _ _ x1 x2]
  have e : ((2147483648 : Int)) = ((2147483648 : Nat) : Int) := rfl
  rw [e, u32_and_nat _ _ x3 (by omega), top_and, Nat.testBit_and, Nat.testBit_xor, Nat.testBit_xor, top_bit (by omega), top_bit (by omega), top_bit (by omega)]
  have d : ∀ n : Nat, decide (2147483648 ≤ n) = decide (((2147483648 : Nat) : Int) ≤ (n : Int)) := fun n => by rw [Bool.eq_iff_iff]; simp; omega
  rw [d a, d b, d r]
theorem ov_sum {a b c : Int} (ha : U32 a) (hb : U32 b) (h0 : 0 ≤ c) (h1 : c ≤ 1) : ovL a b ((a + b + c) % 4294967296) = outL (wrap32 a + wrap32 b + c) := by
  rw [ovL_eq ha hb ⟨by omega, by omega⟩, wrap32_u ha.1 ha.2, wrap32_u hb.1 hb.2]
  obtain ⟨a0, a1⟩ := ha
  obtain ⟨b0, b1⟩ := hb
  unfold outL
  rw [Bool.eq_iff_iff]
  by_cases h1 : 2147483648 ≤ a <;> by_cases h2 : 2147483648 ≤ b <;> by_cases h3 : 2147483648 ≤ (a + b + c) % 4294967296 <;> simp [h1, h2, h3] <;> omega
theorem ov_dif {a b c : Int} (ha : U32 a) (hb : U32 b) (h0 : 0 ≤ c) (h1 : c ≤ 1) : ovL a (4294967295 - b) ((a + (4294967295 - b) + c) % 4294967296) = outL (wrap32 a - wrap32 b - (1 - c)) := by
  have hb' : U32 (4294967295 - b) := ⟨by have := hb.2; omega, by have := hb.1; omega⟩
  rw [ov_sum ha hb' h0 h1]
  have e : wrap32 (4294967295 - b) = - wrap32 b - 1 := by
    rw [wrap32_u hb'.1 hb'.2, wrap32_u hb.1 hb.2]
    obtain ⟨b0, b1⟩ := hb
    split <;> split <;> omega
  rw [e]; congr 1; omega
theorem not32 {b : Int} (h : U32 b) : bits .xor .u32 IntKind.u32.max b = 4294967295 - b := by
  obtain ⟨b, rfl⟩ := Int.eq_ofNat_of_zero_le h.1
  have h := h.2
  rw [show IntKind.u32.max = ((4294967295 : Nat) : Int) from rfl, u32_xor_nat 4294967295 b (by omega) (by omega)]
  have e : 4294967295 ^^^ b = 4294967295 - b := by
    apply Nat.eq_of_testBit_eq
    intro i
    rw [Nat.testBit_xor, show 4294967295 - b = 2 ^ 32 - (b + 1) by omega, Nat.testBit_two_pow_sub_succ (by omega), show 4294967295 = 2 ^ 32 - 1 by omega, Nat.testBit_two_pow_sub_one]
    by_cases hi : i < 32
    · simp [hi]
    · have : b.testBit i = false := Nat.testBit_lt_two_pow (Nat.lt_of_lt_of_le (show b < 2 ^ 32 by omega) (Nat.pow_le_pow_right (by omega) (by omega)))
      simp [hi, this]
  rw [e]; omega
theorem pkL_range (r : Int) (c v : Bool) : 0 ≤ pkL r c v ∧ pkL r c v < 16 := by
  unfold pkL bN
  constructor <;> split <;> split <;> split <;> split <;> omega
theorem and15 {a : Int} (h : U32 a) : bits .and .u32 a 15 = a % 16 := by
  obtain ⟨a, rfl⟩ := Int.eq_ofNat_of_zero_le h.1
  have h := h.2
  rw [show (15 : Int) = ((15 : Nat) : Int) from rfl, u32_and_nat a 15 (by omega) (by omega), Nat.and_two_pow_sub_one_eq_mod a 4]
  omega
theorem flags_range (k a b : Int) (ha : U32 a) : 0 ≤ refFlagsL k a b ∧ refFlagsL k a b < 16 := by
  unfold refFlagsL
  split
  · rw [and15 ha]; omega
  · repeat' split
    all_goals first | exact pkL_range _ _ _ | omega
end Go.Proofs.YtojofinofpgopaaDoor
