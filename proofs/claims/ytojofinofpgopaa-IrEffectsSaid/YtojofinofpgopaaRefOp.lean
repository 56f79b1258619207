/- Contracts of the reference: signed, bit, Op on words. -/
import Derived.Test.YtojofinofpgopaaWord
import Derived.Outline
namespace Go.Proofs.Ytojofinofpgopaa
open Go.RowKit
theorem wrap32_u {a : Int} (h0 : 0 ≤ a) (h1 : a < 4294967296) : wrap32 a = if 2147483648 ≤ a then a - 4294967296 else a := by
  unfold wrap32; split <;> omega
theorem refSigned_any (a : Int) (w : World) (h0 : 0 ≤ a) (h1 : a < 4294967296) :
    Calls Try.prog 57 #[.int .u32 a] w fun e w' => e = .returned (.int .i64 (wrap32 a)) ∧ w = w' := by
  have H := Lib.hid (wrap32_u h0 h1)
  go_enter Try.func57, Try.ntmps57
  go_wp2_with fail
  all_goals (go_light; go_ret; exact ⟨ret_int (by rw [H.out]; split <;> omega), rfl⟩)
theorem refBit_any (b : Bool) (w : World) : Calls Try.prog 58 #[.bool b] w fun e w' => e = .returned (.int .u32 (bitL b)) ∧ w = w' := by
  cases b <;> (go_enter Try.func58, Try.ntmps58; go_wp2; go_ret; exact ⟨rfl, rfl⟩)
set_option maxHeartbeats 2000000 in
theorem refOp_any (c a b : Int) (w : World) (ha : 0 ≤ a) (ha2 : a < 4294967296) (hb : 0 ≤ b) (hb2 : b < 4294967296) :
    Calls Try.prog 22 #[.int .i64 c, .int .u32 a, .int .u32 b] w fun e w' => e = .returned (.int .u32 (wordOpL c a b)) ∧ w = w' := by
  by_cases hc : c < 3 ∨ 15 < c
  · have hz : wordOpL c a b = 0 := by
      have e : ∀ n : Int, 3 ≤ n → n ≤ 15 → ¬ c = n := fun n h1 h2 => by omega
      simp [wordOpL, e]
    have HZ := Lib.hid hz
    clear hz
    rcases hc with hc | hc
    all_goals
      go_enter Try.func22, Try.ntmps22
      go_wp2_with fail
      go_light
      go_ret
      exact ⟨ret_int HZ.out.symm, rfl⟩
  · by_cases h12 : c = 12
    · subst h12
      clear hc
      by_cases hb0 : b = 0
      · subst hb0
        go_enter Try.func22, Try.ntmps22
        go_wp2_with fail
        go_light
        go_ret
        exact ⟨ret_int (by simp [wordOpL]), rfl⟩
      · have hb1 : 1 ≤ b := by omega
        have H := Lib.hid (show a / b = wordOpL 12 a b by simp [wordOpL, hb0])
        have hd : (b == 0) = false := by simpa using hb0
        have hq : 0 ≤ a / b := Int.ediv_nonneg ha hb
        have hq2 : a / b < 4294967296 := Int.lt_of_le_of_lt (Int.ediv_le_self _ ha) ha2
        clear hb0
        go_enter Try.func22, Try.ntmps22
        go_wp2_with fail
        go_light
        go_ret
        exact ⟨ret_int (by rw [← H.out]; try rw [Int.emod_eq_of_lt hq hq2]), rfl⟩
    · have hcs : c = 3 ∨ c = 4 ∨ c = 5 ∨ c = 6 ∨ c = 7 ∨ c = 8 ∨ c = 9 ∨ c = 10 ∨ c = 11 ∨ c = 13 ∨ c = 14 ∨ c = 15 := by omega
      clear hc h12
      rcases hcs with rfl | rfl | rfl | rfl | rfl | rfl | rfl | rfl | rfl | rfl | rfl | rfl
      all_goals
        go_enter Try.func22, Try.ntmps22
        go_wp2_with (first | (go_at_call 57; refine (refSigned_any _ _ (by assumption) (by assumption)).mono ?_; rintro e w' ⟨rfl, rfl⟩) | (go_at_call 58; refine (refBit_any _ _).mono ?_; rintro e w' ⟨rfl, rfl⟩))
        all_goals (go_light; go_ret; refine ⟨ret_int ?_, rfl⟩)
        all_goals first | (simp [wordOpL]; done) | (simp [wordOpL, *]; done)
end Go.Proofs.Ytojofinofpgopaa
