/- Plain: a list of instructions, ended in one of four ways, is a valid block. -/
import Derived.Test.YtojofinofpgopaaPlMade
namespace Go.Proofs.Ytojofinofpgopaa
open Go.RowKit
/-- i instructions: their operations. -/
structure Insns (i : Nat) (l : List IOp) : Prop where
  go : ∃ W ch, vgoP l ⟨0, 0, false⟩ = some ⟨i, W, ch⟩
  len : l.length ≤ 8 * i
  first : 0 < i → (l.getD 0 noOp).code = 20
  un : ∀ o ∈ l, U32 o.n
theorem Insns.nil : Insns 0 [] := ⟨⟨0, false, rfl⟩, Nat.le_refl _, fun h => absurd h (Nat.lt_irrefl 0), fun o h => by cases h⟩
theorem getD_app {l r : List IOp} (h : 0 < l.length) : (l ++ r).getD 0 noOp = l.getD 0 noOp := by
  rw [List.getD_eq_getElem?_getD, List.getElem?_append_left h, ← List.getD_eq_getElem?_getD]
theorem Insns.pos {i : Nat} {l : List IOp} (h : Insns i l) (hi : 0 < i) : 0 < l.length := by
  rcases Nat.eq_zero_or_pos l.length with h0 | h0
  · have := h.first hi
    rw [List.eq_nil_of_length_eq_zero h0] at this
    exact absurd this (by decide)
  · exact h0
/-- A mark. -/
theorem Insns.mark {i : Nat} {l : List IOp} (h : Insns i l) (hi : i ≤ 12) : Insns (i + 1) (l ++ [⟨20, 0, 0, 0, i⟩]) ∧ ∃ s, vgoP (l ++ [⟨20, 0, 0, 0, i⟩]) ⟨0, 0, false⟩ = some s ∧ s = ⟨(i : Int) + 1, 0, false⟩ := by
  obtain ⟨W, ch, hg⟩ := h.go
  obtain ⟨m1, m2⟩ := mark_next i W ch
  have hv : vgoP (l ++ [⟨20, 0, 0, 0, i⟩]) ⟨0, 0, false⟩ = some ⟨(i : Int) + 1, 0, false⟩ := by
    rw [vgoP_app, hg]
    show (if (_ && nextOk ⟨i, W, ch⟩ (markOp i) false false) = true then vgoP [] (nextSt ⟨i, W, ch⟩ (markOp i)) else none) = _
    rw [m1, m2]; rfl
  refine ⟨⟨⟨0, false, hv⟩, by have := h.len; simp; omega, fun _ => ?_, fun o ho => ?_⟩, _, hv, rfl⟩
  · rcases Nat.eq_zero_or_pos i with h0 | h0
    · have : l = [] := List.eq_nil_of_length_eq_zero (by have := h.len; omega)
      subst this; rfl
    · rw [getD_app (h.pos h0)]; exact h.first h0
  · rcases List.mem_append.1 ho with ho | ho
    · exact h.un o ho
    · have : o = ⟨20, 0, 0, 0, i⟩ := by simpa using ho
      subst this
      exact ⟨by simp, by show (i : Int) < _; omega⟩
/-- .. and the operations of its instruction. -/
theorem Insns.ins {i : Nat} {l r : List IOp} (h : Insns i l) (hi : i ≤ 12) (hr : r.length ≤ 7) (hins : ∃ wr W ch, Ins ((i : Int) + 1) wr r W ch) : Insns (i + 1) (l ++ [⟨20, 0, 0, 0, i⟩] ++ r) := by
  obtain ⟨h1, s, h2, rfl⟩ := h.mark hi
  obtain ⟨wr, W, ch, hI⟩ := hins
  refine ⟨⟨W, ch, ?_⟩, by have := h.len; simp; omega, fun _ => ?_, fun o ho => ?_⟩
  · rw [vgoP_app, h2]; exact hI.go
  · rw [getD_app (by simp)]; exact h1.first (by omega)
  · rcases List.mem_append.1 ho with ho | ho
    · exact h1.un o ho
    · exact hI.un o ho
theorem valid_tail {i : Nat} {l r : List IOp} {at_ : List Int} {pg : Int} {q : IOp} (h : Insns i l) (hi : 1 ≤ i) (hi2 : i ≤ 12) (hp : 0 ≤ pg ∧ pg < 4096) (hr : r.length ≤ 10) (hs : ∀ s : ISt, s.marks = i → ∃ s', vgo (q :: r) s = some s' ∧ s'.marks = (at_.length : Int)) (ha : 1 ≤ at_.length ∧ at_.length ≤ 64) :
    validL ⟨at_, [pg], l ++ q :: r⟩ = true := by
  obtain ⟨W, ch, hg⟩ := h.go
  obtain ⟨s', h1, h2⟩ := hs ⟨i, W, ch⟩ rfl
  have hv : vrun (l ++ q :: r) (l ++ q :: r).length = some s' := by
    rw [vgo_run, vgo_of hg]; exact h1
  unfold validL
  dsimp only
  rw [hv]
  dsimp only
  rw [h2]
  have hh : headerL ⟨at_, [pg], l ++ q :: r⟩ = true := by
    unfold headerL
    dsimp only
    have hpg : pagesOk [pg] = true := by
      simp [pagesOk, pageBad]; omega
    have hc : ((l ++ q :: r).getD 0 noOp).code = 20 := by rw [getD_app (h.pos (by omega))]; exact h.first (by omega)
    have hl := h.len
    rw [hpg, hc]
    simp; omega
  rw [hh]; simp
theorem next_end {s : ISt} {o : IOp} (hF : okForm o = true) (hE : endsL o.code = true) (h20 : (o.code == 20) = false) (h23 : (o.code == 23) = false) (hL : shL o.code = false ∨ s.changed = false) (hR : ∀ v ∈ readsL o, v < 20) : nextOk s o true false = true ∧ (nextSt s o).marks = s.marks := by
  have hm : markL s o = s := by unfold markL; rw [h20]; rfl
  constructor
  · have e1 : okEnd s o true false = true := by
      unfold okEnd
      rw [hE, h23]
      rcases hL with h | h <;> simp [h]
    have e2 : okMark s o = true := by unfold okMark; rw [h20]; rfl
    have e3 : okReads (markL s o) o = true := by
      rw [hm]; unfold okReads
      rw [List.all_eq_true]
      intro v hv
      unfold tmpBad
      rw [decide_eq_false (by have := hR v hv; omega)]; rfl
    simp [nextOk, hF, e1, e2, e3]
  · unfold nextSt; rw [hm]
theorem vgo_one {s : ISt} {o : IOp} (h : nextOk s o true false = true ∧ (nextSt s o).marks = s.marks) : ∃ s', vgo [o] s = some s' ∧ s'.marks = s.marks := by
  refine ⟨nextSt s o, ?_, h.2⟩
  show (if nextOk s o true false then vgo [] (nextSt s o) else none) = _
  rw [h.1]; rfl
section
variable {i : Nat} {l : List IOp} {at_ : List Int} {pg : Int}
theorem made_slow {x : Int} (h : Insns i l) (hi : 1 ≤ i) (hi2 : i ≤ 12) (hp : 0 ≤ pg ∧ pg < 4096) (ha : at_.length = i) : validL ⟨at_ ++ [x], [pg], l ++ [⟨20, 0, 0, 0, i⟩, ⟨22, 0, 0, 0, 0⟩]⟩ = true :=
  valid_tail h hi hi2 hp (by simp) (fun s hs => by
    obtain ⟨m, W, ch⟩ := s
    have hm : m = i := hs
    subst hm
    obtain ⟨m1, m2⟩ := mark_next i W ch
    rw [vgo_more (show (20 : Int) ≠ 23 by decide)]
    rw [show nextOk ⟨i, W, ch⟩ ⟨20, 0, 0, 0, i⟩ false false = true from m1, if_pos rfl, show nextSt ⟨i, W, ch⟩ ⟨20, 0, 0, 0, i⟩ = _ from m2]
    obtain ⟨s', e1, e2⟩ := vgo_one (s := ⟨(i : Int) + 1, 0, false⟩) (o := ⟨22, 0, 0, 0, 0⟩) (next_end rfl rfl rfl rfl (.inr rfl) (fun v hv => by cases hv))
    exact ⟨s', e1, by rw [e2]; simp [ha]⟩) (by simp; omega)
theorem made_var {a : Int} (h : Insns i l) (hi : 1 ≤ i) (hi2 : i ≤ 12) (hp : 0 ≤ pg ∧ pg < 4096) (ha : at_.length = i) (h0 : 0 ≤ a ∧ a < 19) : validL ⟨at_, [pg], l ++ [⟨25, 0, a, 0, 0⟩]⟩ = true :=
  valid_tail h hi hi2 hp (by simp) (fun s hs => by
    obtain ⟨s', e1, e2⟩ := vgo_one (s := s) (o := ⟨25, 0, a, 0, 0⟩) (next_end (by
      show (shI 25 && fieldL (shD 25) 0 && fieldL (shA 25) a && fieldL (shB 25) 0 && _) = true
      rw [show shI 25 = true by decide, show shD 25 = false by decide, show shA 25 = true by decide, show shB 25 = false by decide, fieldT h0.1 (by omega) (by omega)]; rfl) rfl rfl rfl (.inl rfl) (fun v hv => by
        have : v = a := by simpa [readsL, shA, shB] using hv
        omega))
    exact ⟨s', e1, by rw [e2, hs, ha]⟩) (by omega)
theorem made_exit {x : Int} (h : Insns i l) (hi : 1 ≤ i) (hi2 : i ≤ 12) (hp : 0 ≤ pg ∧ pg < 4096) (ha : at_.length = i) : validL ⟨at_, [pg], l ++ [⟨24, 0, 0, 0, x⟩]⟩ = true :=
  valid_tail h hi hi2 hp (by simp) (fun s hs => by
    obtain ⟨s', e1, e2⟩ := vgo_exit s x
    exact ⟨s', e1, by rw [e2, hs, ha]⟩) (by omega)
theorem made_if {a x y : Int} (h : Insns i l) (hi : 1 ≤ i) (hi2 : i ≤ 12) (hp : 0 ≤ pg ∧ pg < 4096) (ha : at_.length = i) (h0 : 0 ≤ a ∧ a < 19) : validL ⟨at_, [pg], l ++ [⟨23, 0, a, 0, x⟩, ⟨24, 0, 0, 0, y⟩]⟩ = true :=
  valid_tail h hi hi2 hp (by simp) (fun s hs => by
    have hF : okForm ⟨23, 0, a, 0, x⟩ = true := by
      show (shI 23 && fieldL (shD 23) 0 && fieldL (shA 23) a && fieldL (shB 23) 0 && (shN 23 || _)) = true
      rw [show shI 23 = true by decide, show shD 23 = false by decide, show shA 23 = true by decide, show shB 23 = false by decide, show shN 23 = true by decide, fieldT h0.1 (by omega) (by omega)]; rfl
    have hn : nextOk s ⟨23, 0, a, 0, x⟩ false true = true := by
      have e3 : okReads (markL s ⟨23, 0, a, 0, x⟩) ⟨23, 0, a, 0, x⟩ = true := by
        unfold okReads
        rw [List.all_eq_true]
        intro v hv
        have : v = a := by simpa [readsL, shA, shB] using hv
        unfold tmpBad
        rw [decide_eq_false (by omega)]; rfl
      simp [nextOk, hF, e3, okEnd, okMark, endsL, shL]
    have hm : (nextSt s ⟨23, 0, a, 0, x⟩).marks = s.marks := rfl
    obtain ⟨s', e1, e2⟩ := vgo_exit (nextSt s ⟨23, 0, a, 0, x⟩) y
    refine ⟨s', ?_, by rw [e2, hm, hs, ha]⟩
    rw [vgo_cons]
    show (if nextOk s ⟨23, 0, a, 0, x⟩ false true then vgo [exitOp y] (nextSt s ⟨23, 0, a, 0, x⟩) else none) = _
    rw [hn]; exact e1) (by omega)
end
end Go.Proofs.Ytojofinofpgopaa
