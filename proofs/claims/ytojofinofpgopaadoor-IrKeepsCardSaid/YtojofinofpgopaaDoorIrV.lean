/- Plain facts: what a valid block's operations are; the evaluation of a block without memory. -/
import Derived.Test.YtojofinofpgopaaDoorIrE
import Derived.Test.YtojofinofpgopaaDoorWord
namespace Go.Proofs.YtojofinofpgopaaDoor
open Go.RowKit

theorem vrun_ok {ops : List IOp} : ∀ {n : Nat} {s : ISt}, vrun ops n = some s → ∀ k, k < n → ∃ sk, vrun ops k = some sk ∧ sk.marks ≤ s.marks ∧
    nextOk sk (ops.getD k noOp) (decide (k + 1 = ops.length)) (!decide (k + 1 = ops.length) && isExit ops (k + 1)) = true ∧ (nextSt sk (ops.getD k noOp)).marks ≤ s.marks
  | 0, _, _, k, hk => absurd hk (by omega)
  | n + 1, s, h, k, hk => by
    simp only [vrun, Option.bind_eq_some_iff] at h
    obtain ⟨s', h1, h2⟩ := h
    unfold vstep at h2
    split at h2
    · rename_i hok
      cases h2
      have hm := nextSt_marks s' (ops.getD n noOp)
      rcases Nat.lt_or_ge k n with hkn | hkn
      · obtain ⟨sk, a1, a2, a3, a4⟩ := vrun_ok h1 k hkn
        exact ⟨sk, a1, by omega, a3, by omega⟩
      · obtain rfl : k = n := by omega
        exact ⟨s', h1, hm.1, hok, Int.le_refl _⟩
    · cases h2
/-- What is known of the operations of a valid block. -/
structure VFacts (b : IBlk) : Prop where
  pos : 0 < b.ops.length
  le : b.ops.length ≤ 2000
  first : (b.ops.getD 0 noOp).code = 20
  form : ∀ k, k < b.ops.length → okForm (b.ops.getD k noOp) = true
  mark : ∀ k, k < b.ops.length → (b.ops.getD k noOp).code = 20 → 0 ≤ (b.ops.getD k noOp).n ∧ (b.ops.getD k noOp).n < b.at_.length
  atLe : b.at_.length ≤ 64
  last : ∀ k, k < b.ops.length → endsL (b.ops.getD k noOp).code = decide (k + 1 = b.ops.length)
theorem valid_facts {b : IBlk} (h : validL b = true) : VFacts b := by
  have hh : headerL b = true := by unfold validL at h; simp at h; exact h.1
  have hr : ∃ s, vrun b.ops b.ops.length = some s ∧ s.marks = b.at_.length := by
    unfold validL at h
    simp only [Bool.and_eq_true] at h
    obtain ⟨_, h2⟩ := h
    split at h2
    · exact ⟨_, by assumption, by simpa using h2⟩
    · cases h2
  obtain ⟨s, hs, hm⟩ := hr
  have hd := hh
  simp only [headerL, Bool.and_eq_true, decide_eq_true_eq, beq_iff_eq] at hd
  obtain ⟨_, ⟨⟨⟨h1, h64⟩, h2⟩, h3⟩, h4⟩ := hd
  refine ⟨by omega, h3, h4, fun k hk => ?_, fun k hk hc => ?_, by omega, fun k hk => ?_⟩
  · obtain ⟨sk, _, _, hok, _⟩ := vrun_ok hs k hk
    simp only [nextOk, Bool.and_eq_true] at hok
    exact hok.1.1.1
  · obtain ⟨sk, hsk, _, hok, hn⟩ := vrun_ok hs k hk
    simp only [nextOk, Bool.and_eq_true] at hok
    have hmk := hok.1.2
    have hb := vrun_marks _ _ _ hsk
    simp [okMark] at hmk
    have : (nextSt sk (b.ops.getD k noOp)).marks = sk.marks + 1 := by
      unfold nextSt markL; rw [if_pos (by rw [hc]; rfl)]
    simp only [List.getD_eq_getElem?_getD] at *
    omega
  · obtain ⟨sk, _, _, hok, _⟩ := vrun_ok hs k hk
    simp only [nextOk, Bool.and_eq_true, okEnd] at hok
    have := hok.1.1.2.1.1
    simpa using this
theorem field_lt {b : Bool} {v : Int} (h : fieldL b v = true) : 0 ≤ v ∧ v < 28 := by
  cases b
  · simp [fieldL] at h; omega
  · simp [fieldL] at h; omega
theorem form_bd {o : IOp} (h : okForm o = true) : (0 ≤ o.d ∧ o.d < 28) ∧ (0 ≤ o.a ∧ o.a < 28) ∧ (0 ≤ o.b ∧ o.b < 28) ∧ 1 ≤ o.code ∧ o.code ≤ 25 := by
  simp only [okForm, Bool.and_eq_true] at h
  obtain ⟨⟨⟨⟨hI, hD⟩, hA⟩, hB⟩, _⟩ := h
  simp [shI] at hI
  exact ⟨field_lt hD, field_lt hA, field_lt hB, hI.1, hI.2⟩

/-- An outcome. -/
structure EvOut where
  lv : Bool
  idx : Int
  done : Int
  pc : Int
  vars : List Int
def EvOut.leave (s : EvOut) (at_ : List Int) (cur : Int) : EvOut := { s with lv := true, idx := cur, done := cur, pc := at_.getD cur.toNat 0 }
def EvOut.set (s : EvOut) (d v : Int) : EvOut := { s with vars := s.vars.set d.toNat v }
def EvOut.get (s : EvOut) (a : Int) : Int := s.vars.getD a.toNat 0
/-- One operation, without memory: whether the evaluation stops, the outcome so far, the number of the instruction. -/
def evStep (at_ : List Int) (o : IOp) (s : EvOut) (cur : Int) : Bool × EvOut × Int :=
  if o.code = 20 then (false, s, o.n)
  else if o.code = 1 then (false, s.set o.d o.n, cur)
  else if o.code = 2 then (false, s.set o.d (s.get o.a), cur)
  else if o.code = 16 ∨ o.code = 17 ∨ o.code = 18 ∨ o.code = 19 ∨ o.code = 22 then (true, s.leave at_ cur, cur)
  else if o.code = 21 then (if s.get o.a = 0 then (true, s.leave at_ cur, cur) else (false, s, cur))
  else if o.code = 23 then (if s.get o.a = 0 then (false, s, cur) else (true, { s with pc := o.n }, cur))
  else if o.code = 24 then (false, { s with pc := o.n }, cur)
  else if o.code = 25 then (false, { s with pc := s.get o.a }, cur)
  else (false, s.set o.d (wordOpL o.code (s.get o.a) (s.get o.b)), cur)
def evGo (at_ : List Int) : List IOp → EvOut → Int → EvOut
  | [], s, _ => s
  | o :: rest, s, cur =>
    match evStep at_ o s cur with
    | (true, s', _) => s'
    | (false, s', cur') => evGo at_ rest s' cur'
theorem evGo_cont {at_ : List Int} {ops : List IOp} {k : Nat} {s s' : EvOut} {cur cur' : Int} (hk : k < ops.length) (h : evStep at_ (ops.getD k noOp) s cur = (false, s', cur')) :
    evGo at_ (ops.drop k) s cur = evGo at_ (ops.drop (k + 1)) s' cur' := by
  rw [List.drop_eq_getElem_cons hk, evGo, ← getD_at (d := noOp) hk, h]
theorem evGo_stop {at_ : List Int} {ops : List IOp} {k : Nat} {s s' : EvOut} {cur cur' : Int} (hk : k < ops.length) (h : evStep at_ (ops.getD k noOp) s cur = (true, s', cur')) :
    evGo at_ (ops.drop k) s cur = s' := by
  rw [List.drop_eq_getElem_cons hk, evGo, ← getD_at (d := noOp) hk, h]
end Go.Proofs.YtojofinofpgopaaDoor
