/- Contracts of the reference: formed, first, ordered. -/
import Derived.Test.YtojofinofpgopaaRefA
import Derived.Test.YtojofinofpgopaaIrE
import Derived.Test.YtojofinofpgopaaIrF0
import Derived.Deep.RegionHeld3
namespace Go.Proofs.Ytojofinofpgopaa
open Go.RowKit
attribute [local go_sem ↓] Go.wp_at_zero Go.wp_at_succ

theorem formed_split {o : IOp} : okForm o = (shI o.code && fieldL (shD o.code) o.d && fieldL (shA o.code) o.a && fieldL (shB o.code) o.b && (shN o.code || o.n == 0)) := rfl
set_option maxHeartbeats 1000000 in
theorem refFormed_any (o : IOp) (w : World) :
    Calls Try.prog 48 #[.agg o.v] w fun e w' => e = .returned (.bool (okForm o)) ∧ Below w.heap.size w w' := by
  go_enter Try.func48, Try.ntmps48
  go_wp2_with (first | (go_at_call 38; refine (refShape_any _ _).mono ?_; rintro e w' ⟨rfl, rfl⟩) | (go_at_call 80; refine (refVariable_any _ _ _).mono ?_; rintro e w' ⟨rfl, rfl⟩))
  all_goals (go_light; go_ret; refine ⟨ret_bool ?_, (((Below.refl _ _).alloc (Nat.le_refl _) _).alloc (by simp) _).alloc (by simp; omega) _⟩)
  all_goals (rw [formed_split]; simp [*])

/-- The last mark at or before place i. -/
def firstL (ops : List IOp) : Nat → Nat
  | 0 => 0
  | i + 1 => if (ops.getD (i + 1) noOp).code == 20 then i + 1 else firstL ops i
theorem firstL_le (ops : List IOp) : ∀ i, firstL ops i ≤ i
  | 0 => Nat.le_refl _
  | i + 1 => by
    unfold firstL; split
    · exact Nat.le_refl _
    · exact Nat.le_succ_of_le (firstL_le ops i)
theorem firstL_self {ops : List IOp} {i : Nat} (h : (ops.getD i noOp).code = 20) : firstL ops i = i := by
  cases i with
  | zero => rfl
  | succ i => unfold firstL; rw [if_pos (by rw [h]; rfl)]
theorem firstL_step {ops : List IOp} {k : Nat} (h : ¬ (ops.getD (k + 1) noOp).code = 20) : firstL ops (k + 1) = firstL ops k := by
  rw [firstL, if_neg (by simpa using h)]
set_option maxHeartbeats 1000000 in
theorem refFirst_any (aA aP aO : Option Addr) (cA cP cO : Nat) (b : IBlk) (i : Nat) (w : World) (B : Nat) (hB : B ≤ w.heap.size) (h : BlkAt w B aA aP aO b) (hi : i < b.ops.length) (hl : b.ops.length ≤ 2000) (h0 : (b.ops.getD 0 noOp).code = 20) :
    Calls Try.prog 81 #[blkV aA aP aO cA cP cO b, .int .i64 i] w fun e w' => e = .returned (.int .i64 (firstL b.ops i)) ∧ w.alloc (.cells #[.slice aA b.at_.length cA, .slice aP b.pages.length cP, .slice aO b.ops.length cO] 26) = w' := by
  obtain ⟨g, off, rfl, hg0, hc⟩ := h.ops (by omega)
  have hg := Nat.lt_of_lt_of_le hg0 hB
  have H0 := Lib.hid h0
  clear h0 h
  go_enter Try.func81, Try.ntmps81
  go_wp2_with fail
  go_loop [1] (fun s => ∃ k : Nat, k ≤ i ∧ s = .int .i64 k ∧ firstL b.ops k = firstL b.ops i) (fun s => (intOf s).toNat)
  case atStart => exact ⟨i, Nat.le_refl _, rfl, rfl⟩
  case round =>
    obtain ⟨k, hk, rfl, hf⟩ := hrel
    have ck := (hc k (by omega)).c0
    obtain ⟨cc, hcc⟩ : ∃ cc, (b.ops.getD k noOp).code = cc := ⟨_, rfl⟩
    rw [hcc] at ck
    have HC := Lib.hid hcc
    have HF := Lib.hid hf
    clear hcc hf hc
    have hkk : ((k : Int) * 5).toNat = k * 5 := by omega
    by_cases hm : cc = 20
    · subst hm
      go_wp2_with fail
      go_light
      go_ret
      exact ⟨ret_int (by rw [← HF.out, firstL_self HC.out]), rfl⟩
    · have hk1 : 1 ≤ k := by
        rcases Nat.eq_zero_or_pos k with h | h
        · subst h; exact absurd (HC.out.symm.trans H0.out) hm
        · exact h
      go_wp2_with fail
      go_round
      case rel =>
        go_light
        obtain ⟨k', rfl⟩ : ∃ k', k = k' + 1 := ⟨k - 1, by omega⟩
        exact ⟨k', by omega, by go_num, by rw [← HF.out, firstL_step (by rw [HC.out]; exact hm)]⟩
      case measure => (simp [intOf]; omega)
end Go.Proofs.Ytojofinofpgopaa
