/- Plain: what the checker computes is what the reference checks, condition by condition. -/
import Derived.Test.YtojofinofpgopaaDoorMgB
import Derived.Laws.BitsAllLaws
namespace Go.Proofs.YtojofinofpgopaaDoor
open Go.RowKit

def anyUp (p : IOp → Bool) (ops : List IOp) (a : Nat) : Nat → Bool
  | 0 => false
  | n + 1 => anyUp p ops a n || p (ops.getD (a + n) noOp)
def chgL (o : IOp) : Bool := guestL (writesL o) || o.code == 18 || o.code == 19
def knownL (ops : List IOp) (i : Nat) (v : Int) : Bool := decide (v < 20) || anyUp (fun p => writesL p == v) ops (firstL ops i) (i - firstL ops i)
def orderedL (ops : List IOp) (i : Nat) : Bool := (readsL (ops.getD i noOp)).all (knownL ops i) && (!shL (ops.getD i noOp).code || !anyUp chgL ops (firstL ops i) (i - firstL ops i))
def marksL (ops : List IOp) : Nat → Int
  | 0 => 0
  | k + 1 => marksL ops k + if (ops.getD k noOp).code == 20 then 1 else 0
def scanOk (ops : List IOp) (i : Nat) : Bool :=
  okForm (ops.getD i noOp) && (!((ops.getD i noOp).code == 20) || (ops.getD i noOp).n == marksL ops i) && (endsL (ops.getD i noOp).code == decide (i + 1 = ops.length)) &&
    (!((ops.getD i noOp).code == 23) || (!decide (i + 1 = ops.length) && isExit ops (i + 1)))
def refValidL (b : IBlk) : Bool := headerL b && ((List.range b.ops.length).all (scanOk b.ops) && (List.range b.ops.length).all (orderedL b.ops) && (marksL b.ops b.ops.length == b.at_.length))

theorem and_bit {x : Nat} (hx : x < 4294967296) : bits .and .u32 (x : Int) 1 = ((x % 2 : Nat) : Int) := by
  have := u32_and_nat x 1 hx (by omega)
  rw [nat_mask1] at this
  exact this
theorem tmpBad_nat {W v : Nat} (hW : W < 4294967296) (h : 20 ≤ v) : tmpBad (W : Int) (v : Int) = !W.testBit v := by
  have h1 : ((W : Int) / 2 ^ ((v : Int).toNat)) = ((W / 2 ^ v : Nat) : Int) := by simp
  have h2 : W / 2 ^ v < 4294967296 := Nat.lt_of_le_of_lt (Nat.div_le_self _ _) hW
  unfold tmpBad
  rw [h1, and_bit h2, Nat.testBit_eq_decide_div_mod_eq]
  have hv : (20 : Int) ≤ (v : Int) := by omega
  simp only [hv, decide_true, Bool.true_and]
  rcases Nat.mod_two_eq_zero_or_one (W / 2 ^ v) with h | h <;> simp [h]
theorem setW_nat {W d : Nat} (hW : W < 4294967296) (h : 20 ≤ d) (hd : d < 28) : setW (W : Int) (d : Int) = ((W ||| 2 ^ d : Nat) : Int) := by
  have h1 : (2 : Nat) ^ d < 4294967296 := by
    calc 2 ^ d ≤ 2 ^ 27 := Nat.pow_le_pow_right (by omega) (by omega)
      _ < 4294967296 := by decide
  have h2 : ((2 : Int) ^ ((d : Int).toNat) % 4294967296) = ((2 ^ d : Nat) : Int) := by
    rw [Int.toNat_natCast]
    have : ((2 : Int) ^ d) = ((2 ^ d : Nat) : Int) := by simp
    rw [this]
    exact Int.emod_eq_of_lt (Int.natCast_nonneg _) (by generalize (2 : Nat) ^ d = p at h1 ⊢; omega)
  unfold setW
  have hv : (20 : Int) ≤ (d : Int) := by omega
  rw [if_pos hv, h2, u32_or_nat W _ hW h1]
theorem or_lt {W d : Nat} (hW : W < 4294967296) (hd : d < 28) : W ||| 2 ^ d < 4294967296 := by
  have h1 : (2 : Nat) ^ d < 2 ^ 32 := Nat.pow_lt_pow_right (by omega) (by omega)
  exact Nat.or_lt_two_pow (n := 32) hW h1

/-- The check's state speaks of the n operations from place a on. -/
structure WInv (ops : List IOp) (a n : Nat) (s : ISt) : Prop where
  chg : s.changed = anyUp chgL ops a n
  wr : ∃ W : Nat, s.written = W ∧ W < 4294967296 ∧ ∀ v : Nat, 20 ≤ v → v < 28 → W.testBit v = anyUp (fun p => writesL p == (v : Int)) ops a n
theorem sh_mark {o : IOp} (h : o.code = 20) : shL o.code = false ∧ readsL o = [] ∧ writesL o = -1 ∧ shS o.code = false ∧ endsL o.code = false ∧ chgL o = false := by
  have hA : shA 20 = false := by decide
  have hB : shB 20 = false := by decide
  have hD : shD 20 = false := by decide
  have hw : writesL o = -1 := by simp [writesL, h, hD]
  refine ⟨by rw [h]; decide, by simp [readsL, h, hA, hB], hw, by rw [h]; decide, by rw [h]; decide, ?_⟩
  unfold chgL; rw [hw, h]; decide
theorem setW_neg (W : Int) : setW W (-1) = W := by simp [setW]
theorem reads_all {s : ISt} {o : IOp} {ops : List IOp} {k a n : Nat} (hF : okForm o = true) (hI : WInv ops a n s) (ha : firstL ops k = a) (hn : k - a = n) : okReads s o = (readsL o).all (knownL ops k) := by
  obtain ⟨_, W, hW, hlt, hb⟩ := hI
  unfold okReads
  rw [Bool.eq_iff_iff, List.all_eq_true, List.all_eq_true]
  have key : ∀ v ∈ readsL o, (!tmpBad s.written v) = knownL ops k v := by
    intro v hv
    have hbd := reads_bd hF v hv
    unfold knownL
    rw [ha, hn]
    by_cases h20 : v < 20
    · have : tmpBad s.written v = false := by
        unfold tmpBad
        have : ¬ (20 ≤ v) := by omega
        simp [this]
      rw [this]; simp [h20]
    · obtain ⟨m, rfl⟩ := Int.eq_ofNat_of_zero_le hbd.1
      rw [hW, tmpBad_nat hlt (by omega), hb m (by omega) (by omega)]
      have : ¬ ((m : Int) < 20) := by omega
      simp [this]
  constructor
  · intro h v hv; rw [← key v hv]; exact h v hv
  · intro h v hv; rw [key v hv]; exact h v hv
theorem firstL_mark {ops : List IOp} {k : Nat} (h0 : (ops.getD 0 noOp).code = 20) (h : ¬ (ops.getD k noOp).code = 20) : 0 < k ∧ firstL ops k = firstL ops (k - 1) := by
  cases k with
  | zero => exact absurd h0 h
  | succ k => exact ⟨by omega, firstL_step h⟩
/-- One operation more. -/
theorem next_eq {ops : List IOp} {k : Nat} {s : ISt} (h0 : (ops.getD 0 noOp).code = 20) (hm : s.marks = marksL ops k) (hI : 0 < k → WInv ops (firstL ops (k - 1)) (k - firstL ops (k - 1)) s) :
    nextOk s (ops.getD k noOp) (decide (k + 1 = ops.length)) (!decide (k + 1 = ops.length) && isExit ops (k + 1)) = (scanOk ops k && orderedL ops k) := by
  unfold nextOk scanOk orderedL
  generalize ho : ops.getD k noOp = o
  rw [show okMark s o = (!(o.code == 20) || o.n == marksL ops k) by rw [okMark, hm]]
  cases hF : okForm o
  · simp
  by_cases hc : o.code = 20
  · obtain ⟨hL, hR, hw, hS, hE, hC⟩ := sh_mark hc
    have hr : okReads (markL s o) o = true := by simp [okReads, hR]
    rw [hr, hR]
    unfold okEnd
    rw [hL]
    simp [hc]
    cases decide (k + 1 = ops.length) <;> simp [Bool.and_comm]
  · have hc' : ¬ (ops.getD k noOp).code = 20 := by rw [ho]; exact hc
    obtain ⟨hk, hf⟩ := firstL_mark h0 hc'
    have hI := hI hk
    have hmk : markL s o = s := by simp [markL, hc]
    rw [hmk, reads_all (k := k) hF hI hf rfl]
    unfold okEnd
    rw [hI.chg, hf]
    have : (o.code == 20) = false := by simpa using hc
    rw [this]
    simp only [Bool.not_false, Bool.true_or, Bool.and_true, Bool.true_and]
    cases (readsL o).all (knownL ops k) <;> simp [Bool.and_assoc]
theorem anyUp_one (p : IOp → Bool) (ops : List IOp) (a : Nat) : anyUp p ops a 1 = p (ops.getD a noOp) := by simp [anyUp]
theorem next_inv {ops : List IOp} {k : Nat} {s : ISt} (h0 : (ops.getD 0 noOp).code = 20) (hI : 0 < k → WInv ops (firstL ops (k - 1)) (k - firstL ops (k - 1)) s) (hF : okForm (ops.getD k noOp) = true) :
    WInv ops (firstL ops k) (k + 1 - firstL ops k) (nextSt s (ops.getD k noOp)) := by
  by_cases hc : (ops.getD k noOp).code = 20
  · obtain ⟨hL, hR, hw, hS, hE, hC⟩ := sh_mark hc
    rw [firstL_self hc, show k + 1 - k = 1 by omega]
    generalize ho : ops.getD k noOp = o at *
    have hmk : markL s o = ⟨s.marks + 1, 0, false⟩ := by simp [markL, hc]
    refine ⟨?_, 0, ?_, by omega, fun v h1 h2 => ?_⟩
    · rw [anyUp_one, ho, hC]
      unfold nextSt
      rw [hmk]
      show (false || shS o.code || (decide (0 ≤ writesL o) && decide (writesL o < 20))) = false
      rw [hS, hw]; decide
    · unfold nextSt
      rw [hmk]
      show setW 0 (writesL o) = _
      rw [hw]; rfl
    · rw [anyUp_one, ho, hw]; simp
  · obtain ⟨hk, hf⟩ := firstL_mark h0 hc
    have hI := hI hk
    have hle := firstL_le ops (k - 1)
    generalize ho : ops.getD k noOp = o at *
    have hmk : markL s o = s := by simp [markL, hc]
    have hn : k + 1 - firstL ops k = (k - firstL ops (k - 1)) + 1 := by omega
    have hat : ops.getD (firstL ops (k - 1) + (k - firstL ops (k - 1))) noOp = o := by rw [show firstL ops (k - 1) + (k - firstL ops (k - 1)) = k by omega]; exact ho
    rw [hn, hf]
    obtain ⟨hchg, W, hW, hlt, hb⟩ := hI
    obtain ⟨hw1, hw2, hw3⟩ := writes_bd hF
    refine ⟨?_, ?_⟩
    · unfold anyUp
      rw [hat, ← hchg]
      unfold nextSt
      rw [hmk]
      show (s.changed || shS o.code || _) = (s.changed || chgL o)
      have : (decide (0 ≤ writesL o) && decide (writesL o < 20)) = guestL (writesL o) := by
        unfold guestL
        rw [Bool.eq_iff_iff]; simp; omega
      rw [this]
      unfold chgL shS
      cases s.changed <;> cases guestL (writesL o) <;> simp
    · unfold nextSt
      rw [hmk]
      by_cases hd : 20 ≤ writesL o
      · obtain ⟨d, hd'⟩ := Int.eq_ofNat_of_zero_le (show 0 ≤ writesL o by omega)
        rw [hd'] at hd hw1 ⊢
        refine ⟨W ||| 2 ^ d, ?_, or_lt hlt (by omega), fun v h1 h2 => ?_⟩
        · show setW s.written _ = _
          rw [hW]; exact setW_nat hlt (by omega) (by omega)
        · unfold anyUp
          rw [hat, ← hb v h1 h2, hd', Nat.testBit_or, Nat.testBit_two_pow]
          congr 1
          rw [Bool.eq_iff_iff]; simp; omega
      · refine ⟨W, ?_, hlt, fun v h1 h2 => ?_⟩
        · show setW s.written _ = _
          rw [setW_low (by omega)]; exact hW
        · unfold anyUp
          rw [hat, ← hb v h1 h2]
          have : (writesL o == (v : Int)) = false := by simp; omega
          rw [this]; simp
theorem marks_step {ops : List IOp} {k : Nat} {s : ISt} (hm : s.marks = marksL ops k) : (nextSt s (ops.getD k noOp)).marks = marksL ops (k + 1) := by
  unfold nextSt markL marksL
  split <;> simp [hm]
theorem vrun_ref {ops : List IOp} (h0 : (ops.getD 0 noOp).code = 20) : ∀ k, (match vrun ops k with
    | some s => (∀ i, i < k → (scanOk ops i && orderedL ops i) = true) ∧ s.marks = marksL ops k ∧ (0 < k → WInv ops (firstL ops (k - 1)) (k - firstL ops (k - 1)) s)
    | none => ∃ i, i < k ∧ (scanOk ops i && orderedL ops i) = false)
  | 0 => ⟨fun i hi => by omega, rfl, fun h => by omega⟩
  | k + 1 => by
    have ih := vrun_ref h0 k
    cases hv : vrun ops k with
    | none =>
      rw [hv] at ih
      obtain ⟨i, hi, hb⟩ := ih
      simp only [vrun, hv, Option.bind_none]
      exact ⟨i, by omega, hb⟩
    | some s =>
      rw [hv] at ih
      obtain ⟨hall, hm, hI⟩ := ih
      have he := next_eq h0 hm hI
      simp only [vrun, hv, Option.bind_some, vstep]
      rw [he]
      cases hok : (scanOk ops k && orderedL ops k)
      · exact ⟨k, by omega, hok⟩
      · have hF : okForm (ops.getD k noOp) = true := by
          rw [Bool.and_eq_true] at hok
          have := hok.1
          unfold scanOk at this
          simp only [Bool.and_eq_true] at this
          exact this.1.1.1
        refine ⟨fun i hi => ?_, marks_step hm, fun _ => ?_⟩
        · rcases Nat.lt_or_ge i k with h | h
          · exact hall i h
          · obtain rfl : i = k := by omega
            exact hok
        · rw [Nat.add_sub_cancel]; exact next_inv h0 hI hF
theorem valid_eq (b : IBlk) : validL b = refValidL b := by
  unfold validL refValidL
  cases hh : headerL b
  · rfl
  have h0 : (b.ops.getD 0 noOp).code = 20 := by
    simp only [headerL, Bool.and_eq_true] at hh
    simpa using hh.2.2
  have hr := vrun_ref h0 b.ops.length
  cases hv : vrun b.ops b.ops.length with
  | none =>
    rw [hv] at hr
    obtain ⟨i, hi, hb⟩ := hr
    rw [Bool.and_eq_false_iff] at hb
    rcases hb with hb | hb
    · have : (List.range b.ops.length).all (scanOk b.ops) = false := by rw [List.all_eq_false]; exact ⟨i, by simpa using hi, by simp [hb]⟩
      rw [this]; rfl
    · have : (List.range b.ops.length).all (orderedL b.ops) = false := by rw [List.all_eq_false]; exact ⟨i, by simpa using hi, by simp [hb]⟩
      rw [this]; simp
  | some s =>
    rw [hv] at hr
    obtain ⟨hall, hm, _⟩ := hr
    have h1 : (List.range b.ops.length).all (scanOk b.ops) = true := by
      rw [List.all_eq_true]; intro i hi
      have := hall i (by simpa using hi)
      rw [Bool.and_eq_true] at this; exact this.1
    have h2 : (List.range b.ops.length).all (orderedL b.ops) = true := by
      rw [List.all_eq_true]; intro i hi
      have := hall i (by simpa using hi)
      rw [Bool.and_eq_true] at this; exact this.2
    rw [h1, h2, ← hm]; rfl
end Go.Proofs.YtojofinofpgopaaDoor
