/- Plain: the block of IrArithmetic is valid, and its evaluation is the chain of the operations on words. -/
import Derived.Test.YtojofinofpgopaaPlMany
import Derived.Test.YtojofinofpgopaaPlValid
namespace Go.Proofs.Ytojofinofpgopaa
open Go.RowKit
def pairOps (p : Int × Int) : List IOp := [⟨1, 21, 0, 0, p.2⟩, ⟨3 + p.1 % 13, 20, 20, 21, 0⟩]
def arL (first : Int) (l : List (Int × Int)) : List IOp := [⟨20, 0, 0, 0, 0⟩, ⟨1, 20, 0, 0, first⟩] ++ l.flatMap pairOps
def arEnd : List IOp := [⟨2, 3, 20, 0, 0⟩, ⟨25, 0, 20, 0, 0⟩]
def arBlk (first : Int) (l : List (Int × Int)) : IBlk := ⟨[0], [], arL first l ++ arEnd⟩
def arWant (first : Int) (l : List (Int × Int)) : Int := l.foldl (fun a p => wordOpL (3 + p.1 % 13) a p.2) first
/-- In the first instruction, nothing changed, these temporaries written. -/
structure PS (s : ISt) (vs : List Nat) : Prop where
  marks : s.marks = 1
  chg : s.changed = false
  wr : ∃ W : Nat, s.written = W ∧ W < 4294967296 ∧ ∀ v ∈ vs, W.testBit v = true
theorem PS.weak {s : ISt} {vs us : List Nat} (h : PS s vs) (hs : ∀ v ∈ us, v ∈ vs) : PS s us := by
  obtain ⟨W, h1, h2, h3⟩ := h.wr
  exact ⟨h.marks, h.chg, W, h1, h2, fun v hv => h3 v (hs v hv)⟩
theorem PS.known {s : ISt} {vs : List Nat} {v : Nat} (h : PS s vs) (hv : v ∈ vs) (h20 : 20 ≤ v) : tmpBad s.written (v : Int) = false := by
  obtain ⟨W, h1, h2, h3⟩ := h.wr
  rw [h1, tmpBad_nat h2 h20, h3 v hv]; rfl
theorem PS.put {s : ISt} {vs : List Nat} {d : Nat} (h : PS s vs) (h20 : 20 ≤ d) (h28 : d < 28) : PS ⟨s.marks, setW s.written d, false⟩ (d :: vs) := by
  obtain ⟨W, h1, h2, h3⟩ := h.wr
  refine ⟨h.marks, rfl, W ||| 2 ^ d, ?_, or_lt h2 h28, fun v hv => ?_⟩
  · show setW s.written d = _
    rw [h1]; exact setW_nat h2 h20 h28
  · rw [Nat.testBit_or, Nat.testBit_two_pow]
    rcases List.mem_cons.1 hv with h | h
    · rw [h]; simp
    · rw [h3 v h]; rfl
theorem field_tmp {d : Nat} (h20 : 20 ≤ d) (h28 : d < 28) : fieldL true (d : Int) = true := by
  unfold fieldL
  rw [if_pos rfl, decide_eq_true (show (0 : Int) ≤ d by omega), decide_eq_true (show (d : Int) < 28 by omega)]
  have : ((d : Int) == 19) = false := by rw [beq_eq_false_iff_ne]; omega
  rw [this]; rfl
theorem ps_const {s : ISt} {vs : List Nat} {d : Nat} (x : Int) (h : PS s vs) (h20 : 20 ≤ d) (h28 : d < 28) :
    nextOk s ⟨1, d, 0, 0, x⟩ false false = true ∧ PS (nextSt s ⟨1, d, 0, 0, x⟩) (d :: vs) := by
  have hw : writesL ⟨1, d, 0, 0, x⟩ = (d : Int) := rfl
  have hmk : markL s ⟨1, d, 0, 0, x⟩ = s := rfl
  constructor
  · have hF : okForm ⟨1, d, 0, 0, x⟩ = true := by
      show (shI 1 && fieldL (shD 1) d && fieldL (shA 1) 0 && fieldL (shB 1) 0 && (shN 1 || _)) = true
      rw [show shD 1 = true by decide, field_tmp h20 h28, show shI 1 = true by decide, show shA 1 = false by decide, show shB 1 = false by decide, show shN 1 = true by decide]; rfl
    have hE : okEnd s ⟨1, d, 0, 0, x⟩ false false = true := by simp [okEnd, endsL, shL]
    have hM : okMark s ⟨1, d, 0, 0, x⟩ = true := by simp [okMark]
    have hR : okReads (markL s ⟨1, d, 0, 0, x⟩) ⟨1, d, 0, 0, x⟩ = true := by simp [okReads, readsL, shA, shB]
    simp [nextOk, hF, hE, hM, hR]
  · have : nextSt s ⟨1, d, 0, 0, x⟩ = ⟨s.marks, setW s.written d, false⟩ := by
      unfold nextSt
      rw [hmk, hw, h.chg]
      have h1 : decide ((d : Int) < 20) = false := by simp; omega
      rw [h1]; simp [shS]
    rw [this]; exact h.put h20 h28
theorem bin_sh {c : Int} (h3 : 3 ≤ c) (h15 : c ≤ 15) : shI c = true ∧ shD c = true ∧ shA c = true ∧ shB c = true ∧ shL c = false ∧ shS c = false ∧ endsL c = false ∧ (c == 20) = false ∧ (c == 23) = false := by
  have h1 : (decide (3 ≤ c) && decide (c ≤ 15)) = true := by simp; omega
  refine ⟨by unfold shI; simp; omega, by unfold shD; rw [h1]; simp, by unfold shA; rw [h1]; simp, by unfold shB; rw [h1]; simp, by unfold shL; simp; omega, by unfold shS; simp; omega, by unfold endsL; simp; omega, by simp; omega, by simp; omega⟩
theorem ps_bin {s : ISt} {vs : List Nat} {c : Int} {d a b : Nat} (h : PS s vs) (h3 : 3 ≤ c) (h15 : c ≤ 15) (hd : 20 ≤ d ∧ d < 28) (ha : 20 ≤ a ∧ a < 28) (hb : 20 ≤ b ∧ b < 28) (ma : a ∈ vs) (mb : b ∈ vs) :
    nextOk s ⟨c, d, a, b, 0⟩ false false = true ∧ PS (nextSt s ⟨c, d, a, b, 0⟩) (d :: vs) := by
  obtain ⟨eI, eD, eA, eB, eL, eS, eE, e20, e23⟩ := bin_sh h3 h15
  have hw : writesL ⟨c, d, a, b, 0⟩ = (d : Int) := by simp [writesL, eD]
  have hmk : markL s ⟨c, d, a, b, 0⟩ = s := by simp [markL, e20]
  constructor
  · have hF : okForm ⟨c, d, a, b, 0⟩ = true := by
      show (shI c && fieldL (shD c) d && fieldL (shA c) a && fieldL (shB c) b && (shN c || (0 : Int) == 0)) = true
      rw [eI, eD, eA, eB, field_tmp hd.1 hd.2, field_tmp ha.1 ha.2, field_tmp hb.1 hb.2]; simp
    have hE : okEnd s ⟨c, d, a, b, 0⟩ false false = true := by simp [okEnd, eE, eL, e23]
    have hM : okMark s ⟨c, d, a, b, 0⟩ = true := by simp [okMark, e20]
    have hR : okReads (markL s ⟨c, d, a, b, 0⟩) ⟨c, d, a, b, 0⟩ = true := by
      rw [hmk]
      unfold okReads
      rw [List.all_eq_true]
      intro v hv
      have : v = (a : Int) ∨ v = (b : Int) := by
        have hr : readsL ⟨c, d, a, b, 0⟩ = [(a : Int)] ++ (if !((b : Int) == (a : Int)) then [(b : Int)] else []) := by
          simp [readsL, eA, eB]
        rw [hr, List.mem_append] at hv
        rcases hv with hv | hv
        · exact .inl (by simpa using hv)
        · by_cases hba : (!((b : Int) == (a : Int))) = true
          · rw [if_pos hba] at hv; exact .inr (by simpa using hv)
          · rw [if_neg hba] at hv; cases hv
      rcases this with rfl | rfl
      · rw [h.known ma ha.1]; rfl
      · rw [h.known mb hb.1]; rfl
    simp [nextOk, hF, hE, hM, hR]
  · have : nextSt s ⟨c, d, a, b, 0⟩ = ⟨s.marks, setW s.written d, false⟩ := by
      unfold nextSt
      rw [hmk, hw, h.chg]
      have h1 : decide ((d : Int) < 20) = false := by simp; omega
      rw [h1]
      show ISt.mk _ _ (false || shS c || _) = _
      rw [eS]; simp
    rw [this]; exact h.put hd.1 hd.2
theorem mod13 (x : Int) : 3 ≤ 3 + x % 13 ∧ 3 + x % 13 ≤ 15 := by omega
theorem vgo_pairs (q : IOp) (r : List IOp) : ∀ (l : List (Int × Int)) (s : ISt), PS s [20] → ∃ s', vgo (l.flatMap pairOps ++ q :: r) s = vgo (q :: r) s' ∧ PS s' [20]
  | [], s, h => ⟨s, rfl, h⟩
  | p :: l, s, h => by
    obtain ⟨h1, h2⟩ := ps_const (d := 21) p.2 h (by omega) (by omega)
    obtain ⟨h3, h4⟩ := ps_bin (c := 3 + p.1 % 13) (d := 20) (a := 20) (b := 21) h2 (mod13 _).1 (mod13 _).2 (by omega) (by omega) (by omega) (by simp) (by simp)
    obtain ⟨s', h5, h6⟩ := vgo_pairs q r l _ (h4.weak (us := [20]) (by simp))
    refine ⟨s', ?_, h6⟩
    rw [List.flatMap_cons, List.append_assoc]
    have hne : ∃ q' r', l.flatMap pairOps ++ q :: r = q' :: r' := by cases l.flatMap pairOps <;> exact ⟨_, _, rfl⟩
    obtain ⟨q', r', hqr⟩ := hne
    rw [hqr] at h5 ⊢
    show vgo (⟨1, 21, 0, 0, p.2⟩ :: ⟨3 + p.1 % 13, 20, 20, 21, 0⟩ :: q' :: r') s = _
    rw [vgo_more (by show (1 : Int) ≠ 23; decide), show nextOk s ⟨1, 21, 0, 0, p.2⟩ false false = true from h1, if_pos rfl,
      vgo_more (by have := mod13 p.1; show 3 + p.1 % 13 ≠ 23; omega)]
    rw [show nextOk (nextSt s ⟨1, 21, 0, 0, p.2⟩) ⟨3 + p.1 % 13, 20, 20, 21, 0⟩ false false = true from h3, if_pos rfl]
    exact h5
theorem vgo_end {s : ISt} (h : PS s [20]) : ∃ s', vgo arEnd s = some s' ∧ s'.marks = 1 := by
  have k20 : tmpBad s.written 20 = false := h.known (v := 20) (by simp) (by omega)
  have h1 : nextOk s ⟨2, 3, 20, 0, 0⟩ false false = true := by
    have hF : okForm ⟨2, 3, 20, 0, 0⟩ = true := by decide
    have hE : okEnd s ⟨2, 3, 20, 0, 0⟩ false false = true := by simp [okEnd, endsL, shL]
    have hM : okMark s ⟨2, 3, 20, 0, 0⟩ = true := by simp [okMark]
    have hR : okReads (markL s ⟨2, 3, 20, 0, 0⟩) ⟨2, 3, 20, 0, 0⟩ = true := by
      show (readsL ⟨2, 3, 20, 0, 0⟩).all (fun v => !tmpBad s.written v) = true
      rw [show readsL ⟨2, 3, 20, 0, 0⟩ = [20] from rfl]; simp [k20]
    simp [nextOk, hF, hE, hM, hR]
  have hs : nextSt s ⟨2, 3, 20, 0, 0⟩ = ⟨s.marks, s.written, true⟩ := by
    show ISt.mk s.marks (setW s.written 3) (s.changed || shS 2 || _) = _
    rw [setW_low (by decide), h.chg]; rfl
  have h2 : nextOk ⟨s.marks, s.written, true⟩ ⟨25, 0, 20, 0, 0⟩ true false = true := by
    have hF : okForm ⟨25, 0, 20, 0, 0⟩ = true := by decide
    have hE : okEnd ⟨s.marks, s.written, true⟩ ⟨25, 0, 20, 0, 0⟩ true false = true := by simp [okEnd, endsL, shL]
    have hM : okMark ⟨s.marks, s.written, true⟩ ⟨25, 0, 20, 0, 0⟩ = true := by simp [okMark]
    have hR : okReads (markL ⟨s.marks, s.written, true⟩ ⟨25, 0, 20, 0, 0⟩) ⟨25, 0, 20, 0, 0⟩ = true := by
      show (readsL ⟨25, 0, 20, 0, 0⟩).all (fun v => !tmpBad s.written v) = true
      rw [show readsL ⟨25, 0, 20, 0, 0⟩ = [20] from rfl]; simp [k20]
    simp [nextOk, hF, hE, hM, hR]
  refine ⟨nextSt ⟨s.marks, s.written, true⟩ ⟨25, 0, 20, 0, 0⟩, ?_, ?_⟩
  · unfold arEnd
    rw [vgo_more (by decide), h1, if_pos rfl, hs]
    show (if nextOk ⟨s.marks, s.written, true⟩ ⟨25, 0, 20, 0, 0⟩ true false then vgo [] (nextSt ⟨s.marks, s.written, true⟩ ⟨25, 0, 20, 0, 0⟩) else none) = _
    rw [h2]; rfl
  · show s.marks = 1
    exact h.marks
theorem ar_len (first : Int) (l : List (Int × Int)) : (arBlk first l).ops.length = 2 * l.length + 4 := by
  have : (l.flatMap pairOps).length = 2 * l.length := by
    induction l with
    | nil => rfl
    | cons p l ih => rw [List.flatMap_cons, List.length_append, ih]; simp [pairOps]; omega
  show (arL first l ++ arEnd).length = _
  unfold arL arEnd
  simp only [List.length_append, this, List.length_cons, List.length_nil]; omega
theorem ar_valid (first : Int) (l : List (Int × Int)) (hl : l.length ≤ 40) : validL (arBlk first l) = true := by
  obtain ⟨h1, h2⟩ := mark_next 0 0 false
  have hp0 : PS ⟨((0 : Nat) : Int) + 1, 0, false⟩ [] := ⟨rfl, rfl, 0, rfl, by omega, fun v hv => by simp at hv⟩
  obtain ⟨h3, h4⟩ := ps_const (d := 20) first hp0 (by omega) (by omega)
  obtain ⟨s1, h5, h6⟩ := vgo_pairs ⟨2, 3, 20, 0, 0⟩ [⟨25, 0, 20, 0, 0⟩] l _ (h4.weak (us := [20]) (by simp))
  obtain ⟨s2, h7, h8⟩ := vgo_end h6
  have hv : vrun (arBlk first l).ops (arBlk first l).ops.length = some s2 := by
    rw [vgo_run]
    have hops : (arBlk first l).ops = ⟨20, 0, 0, 0, 0⟩ :: ⟨1, 20, 0, 0, first⟩ :: (l.flatMap pairOps ++ ⟨2, 3, 20, 0, 0⟩ :: [⟨25, 0, 20, 0, 0⟩]) := by
      show arL first l ++ arEnd = _
      unfold arL arEnd; simp
    rw [hops]
    have hne : ∃ q' r', l.flatMap pairOps ++ (⟨2, 3, 20, 0, 0⟩ : IOp) :: [⟨25, 0, 20, 0, 0⟩] = q' :: r' := by cases l.flatMap pairOps <;> exact ⟨_, _, rfl⟩
    obtain ⟨q', r', hqr⟩ := hne
    rw [hqr] at h5 ⊢
    rw [vgo_more (by show (20 : Int) ≠ 23; decide), show nextOk ⟨0, 0, false⟩ ⟨20, 0, 0, 0, 0⟩ false false = true from h1, if_pos rfl, show nextSt ⟨0, 0, false⟩ ⟨20, 0, 0, 0, 0⟩ = ⟨((0 : Nat) : Int) + 1, 0, false⟩ from h2,
      vgo_more (by show (1 : Int) ≠ 23; decide), show nextOk ⟨((0 : Nat) : Int) + 1, 0, false⟩ ⟨1, 20, 0, 0, first⟩ false false = true from h3, if_pos rfl]
    exact h5.trans h7
  have hc : ((arBlk first l).ops.getD 0 noOp).code = 20 := rfl
  have hlen := ar_len first l
  unfold validL
  rw [hv]
  show (headerL (arBlk first l) && (s2.marks == (([0] : List Int).length : Int))) = true
  rw [h8]
  have hp : pagesOk (arBlk first l).pages = true := rfl
  unfold headerL
  rw [hp, hc, hlen]
  have ha : (arBlk first l).at_.length = 1 := rfl
  rw [ha]
  simp; omega
/-! ### The evaluation -/
theorem ev_pairs (at_ : List Int) (r : List IOp) (cur : Int) : ∀ (l : List (Int × Int)) (s : EvOut), s.vars.length = 28 → ∃ vs, vs.length = 28 ∧ vs.getD 20 0 = arWant (s.vars.getD 20 0) l ∧ evGo at_ (l.flatMap pairOps ++ r) s cur = evGo at_ r { s with vars := vs } cur
  | [], s, h => ⟨s.vars, h, rfl, rfl⟩
  | p :: l, s, h => by
    have m := mod13 p.1
    have e1 : evStep at_ ⟨1, 21, 0, 0, p.2⟩ s cur = (false, s.set 21 p.2, cur) := rfl
    have e2 : evStep at_ ⟨3 + p.1 % 13, 20, 20, 21, 0⟩ (s.set 21 p.2) cur = (false, (s.set 21 p.2).set 20 (wordOpL (3 + p.1 % 13) ((s.set 21 p.2).get 20) ((s.set 21 p.2).get 21)), cur) := by
      unfold evStep
      have hne : ∀ n : Int, (n < 3 ∨ 15 < n) → ¬ (3 + p.1 % 13 = n) := fun n hn => by omega
      rw [if_neg (hne 20 (by omega)), if_neg (hne 1 (by omega)), if_neg (hne 2 (by omega)), if_neg (by simp only [hne 16 (by omega), hne 17 (by omega), hne 18 (by omega), hne 19 (by omega), hne 22 (by omega), or_self, not_false_eq_true]),
        if_neg (hne 21 (by omega)), if_neg (hne 23 (by omega)), if_neg (hne 24 (by omega)), if_neg (hne 25 (by omega))]
    have g20 : (s.set 21 p.2).get 20 = s.vars.getD 20 0 := by
      show (s.vars.set 21 p.2).getD 20 0 = _
      simp [List.getD_eq_getElem?_getD]
    have g21 : (s.set 21 p.2).get 21 = p.2 := by
      show (s.vars.set 21 p.2).getD 21 0 = _
      simp [List.getD_eq_getElem?_getD, h]
    have hlen : ((s.set 21 p.2).set 20 (wordOpL (3 + p.1 % 13) ((s.set 21 p.2).get 20) ((s.set 21 p.2).get 21))).vars.length = 28 := by
      simp [EvOut.set, h]
    obtain ⟨vs, v1, v2, v3⟩ := ev_pairs at_ r cur l _ hlen
    refine ⟨vs, v1, ?_, ?_⟩
    · rw [v2, g20, g21]
      have : (((s.set 21 p.2).set 20 (wordOpL (3 + p.1 % 13) (s.vars.getD 20 0) p.2)).vars).getD 20 0 = wordOpL (3 + p.1 % 13) (s.vars.getD 20 0) p.2 := by
        show ((s.vars.set 21 p.2).set 20 _).getD 20 0 = _
        simp [List.getD_eq_getElem?_getD, h]
      rw [this]; rfl
    · rw [List.flatMap_cons, List.append_assoc]
      show evGo at_ (⟨1, 21, 0, 0, p.2⟩ :: ⟨3 + p.1 % 13, 20, 20, 21, 0⟩ :: (l.flatMap pairOps ++ r)) s cur = _
      rw [evGo, e1]
      show evGo at_ (⟨3 + p.1 % 13, 20, 20, 21, 0⟩ :: (l.flatMap pairOps ++ r)) (s.set 21 p.2) cur = _
      rw [evGo, e2]
      exact v3
theorem ar_eval (first : Int) (l : List (Int × Int)) (hl : l.length ≤ 40) {vars : List Int} (hv : vars.length = 28) :
    (evalNil (arBlk first l) vars).done = 1 ∧ (evalNil (arBlk first l) vars).pc = arWant first l ∧ (evalNil (arBlk first l) vars).vars.getD 3 0 = arWant first l := by
  unfold evalNil
  rw [ar_valid first l hl, if_pos rfl]
  have h0 : ((vars.set 20 first)).length = 28 := by simp [hv]
  obtain ⟨vs, v1, v2, v3⟩ := ev_pairs [0] arEnd 0 l ⟨false, 0, 1, 0, vars.set 20 first⟩ h0
  have g : (vars.set 20 first).getD 20 0 = first := by simp [List.getD_eq_getElem?_getD, hv]
  rw [g] at v2
  have he : evGo (arBlk first l).at_ (arBlk first l).ops ⟨false, 0, (arBlk first l).at_.length, 0, vars⟩ 0 = ⟨false, 0, 1, vs.getD 20 0, vs.set 3 (vs.getD 20 0)⟩ := by
    show evGo [0] (arL first l ++ arEnd) ⟨false, 0, 1, 0, vars⟩ 0 = _
    unfold arL
    rw [List.append_assoc]
    show evGo [0] (⟨20, 0, 0, 0, 0⟩ :: ⟨1, 20, 0, 0, first⟩ :: (l.flatMap pairOps ++ arEnd)) ⟨false, 0, 1, 0, vars⟩ 0 = _
    have a1 : evStep [0] ⟨20, 0, 0, 0, 0⟩ ⟨false, 0, 1, 0, vars⟩ 0 = (false, ⟨false, 0, 1, 0, vars⟩, 0) := rfl
    have a2 : evStep [0] ⟨1, 20, 0, 0, first⟩ ⟨false, 0, 1, 0, vars⟩ 0 = (false, ⟨false, 0, 1, 0, vars.set 20 first⟩, 0) := rfl
    rw [evGo, a1]
    show evGo [0] (⟨1, 20, 0, 0, first⟩ :: (l.flatMap pairOps ++ arEnd)) ⟨false, 0, 1, 0, vars⟩ 0 = _
    rw [evGo, a2]
    show evGo [0] (l.flatMap pairOps ++ arEnd) ⟨false, 0, 1, 0, vars.set 20 first⟩ 0 = _
    rw [v3]
    have b20 : (vs.set 3 (vs.getD 20 0)).getD 20 0 = vs.getD 20 0 := by simp [List.getD_eq_getElem?_getD]
    show (⟨false, 0, 1, (vs.set 3 (vs.getD 20 0)).getD 20 0, vs.set 3 (vs.getD 20 0)⟩ : EvOut) = _
    rw [b20]
  rw [he, v2]
  refine ⟨rfl, rfl, ?_⟩
  simp only [EvOut.guests]
  simp [List.getD_eq_getElem?_getD, v1]
end Go.Proofs.Ytojofinofpgopaa
