/- Plain: validity and evaluation along a list; the block of IrMany. -/
import Derived.Test.YtojofinofpgopaaDoorMgG
import Derived.Test.YtojofinofpgopaaDoorPlValid
namespace Go.Proofs.YtojofinofpgopaaDoor
open Go.RowKit
/-- The check along the list. -/
def vgo : List IOp → ISt → Option ISt
  | [], s => some s
  | o :: r, s => if nextOk s o r.isEmpty (match r with | q :: _ => q.code == 24 | [] => false) then vgo r (nextSt s o) else none
theorem vgo_cons (o : IOp) (r : List IOp) (s : ISt) : vgo (o :: r) s = if nextOk s o r.isEmpty (match r with | q :: _ => q.code == 24 | [] => false) then vgo r (nextSt s o) else none := rfl
theorem vgo_step {ops : List IOp} {k : Nat} (hk : k < ops.length) (s : ISt) : vgo (ops.drop k) s = (vstep ops k s).bind (vgo (ops.drop (k + 1))) := by
  rw [List.drop_eq_getElem_cons hk, vgo_cons, ← getD_at (d := noOp) hk]
  have h1 : (ops.drop (k + 1)).isEmpty = decide (k + 1 = ops.length) := by
    rw [Bool.eq_iff_iff]; simp; omega
  have h2 : (match ops.drop (k + 1) with | q :: _ => q.code == 24 | [] => false) = (!decide (k + 1 = ops.length) && isExit ops (k + 1)) := by
    by_cases hl : k + 1 < ops.length
    · rw [List.drop_eq_getElem_cons hl]
      have : ¬ (k + 1 = ops.length) := by omega
      simp [isExit, hl, this]
    · have he : ops.drop (k + 1) = [] := List.drop_eq_nil_of_le (by omega)
      have : k + 1 = ops.length := by omega
      rw [he]; simp [this]
  rw [h1, h2]
  unfold vstep
  split <;> rfl
theorem vgo_all (ops : List IOp) : ∀ (d k : Nat), k + d = ops.length → vrun ops ops.length = (vrun ops k).bind (vgo (ops.drop k))
  | 0, k, h => by
    obtain rfl : k = ops.length := by omega
    rw [List.drop_length]
    cases vrun ops ops.length <;> rfl
  | d + 1, k, h => by
    rw [vgo_all ops d (k + 1) (by omega), vrun, Option.bind_assoc]
    cases vrun ops k with
    | none => rfl
    | some s => exact (vgo_step (by omega) s).symm
theorem vgo_run (ops : List IOp) : vrun ops ops.length = vgo ops ⟨0, 0, false⟩ := by
  rw [vgo_all ops ops.length 0 (by omega)]; rfl
theorem vgo_more {o q : IOp} {r : List IOp} {s : ISt} (h : o.code ≠ 23) : vgo (o :: q :: r) s = if nextOk s o false false then vgo (q :: r) (nextSt s o) else none := by
  rw [vgo_cons]
  have : ∀ x, nextOk s o false x = nextOk s o false false := fun x => by
    unfold nextOk okEnd
    have h' : (o.code == 23) = false := by simpa using h
    simp [h']
  show (if nextOk s o false (q.code == 24) then _ else _) = _
  rw [this]
def constOp (k : Nat) : IOp := ⟨1, (k : Int) % 19, 0, 0, k⟩
def markOp (i : Nat) : IOp := ⟨20, 0, 0, 0, i⟩
def exitOp (n : Int) : IOp := ⟨24, 0, 0, 0, n⟩
def consts (k : Nat) : List IOp := (List.range k).map constOp
def manyL (e i : Nat) : List IOp := (List.range i).flatMap fun i => markOp i :: consts e
def ats (i : Nat) : List Int := (List.range i).map fun (j : Nat) => (j : Int)
def manyBlk (f m : Nat) : IBlk := ⟨ats m, [], manyL f m ++ [exitOp 7]⟩
theorem manyL_succ (e i : Nat) : manyL e (i + 1) = manyL e i ++ (markOp i :: consts e) := by simp [manyL, List.range_succ]
theorem consts_succ (k : Nat) : consts (k + 1) = consts k ++ [constOp k] := by simp [consts, List.range_succ]
theorem consts_len (k : Nat) : (consts k).length = k := by simp [consts]
theorem manyL_len (e i : Nat) : (manyL e i).length = i * (e + 1) := by
  induction i with
  | zero => simp [manyL]
  | succ i ih => rw [manyL_succ, List.length_append, ih]; simp [consts, Nat.succ_mul]
theorem manyL_le {e i m : Nat} (hi : i ≤ m) (hm : m ≤ 70) (he : e ≤ 40) : (manyL e i).length ≤ 2870 := by
  rw [manyL_len]
  calc i * (e + 1) ≤ 70 * 41 := Nat.mul_le_mul (by omega) (by omega)
    _ = 2870 := by decide
theorem ats_succ (i : Nat) : ats (i + 1) = ats i ++ [(i : Int)] := by simp [ats, List.range_succ]
theorem const_next (s : ISt) (k : Nat) : nextOk s (constOp k) false false = true ∧ nextSt s (constOp k) = ⟨s.marks, s.written, true⟩ := by
  have hd : 0 ≤ (k : Int) % 19 ∧ (k : Int) % 19 < 19 := by omega
  have hw : writesL (constOp k) = (k : Int) % 19 := rfl
  constructor
  · have hF : okForm (constOp k) = true := by
      have hf : fieldL true ((k : Int) % 19) = true := by
        unfold fieldL
        rw [if_pos rfl, decide_eq_true hd.1, decide_eq_true (show (k : Int) % 19 < 28 by omega)]
        have : ((k : Int) % 19 == 19) = false := by rw [beq_eq_false_iff_ne]; omega
        rw [this]; rfl
      show (shI 1 && fieldL (shD 1) ((k : Int) % 19) && fieldL (shA 1) 0 && fieldL (shB 1) 0 && (shN 1 || _)) = true
      rw [show shD 1 = true by decide, hf, show shI 1 = true by decide, show shA 1 = false by decide, show shB 1 = false by decide, show shN 1 = true by decide]; rfl
    have hE : okEnd s (constOp k) false false = true := by simp [okEnd, constOp, endsL, shL]
    have hM : okMark s (constOp k) = true := by simp [okMark, constOp]
    have hR : okReads (markL s (constOp k)) (constOp k) = true := by simp [okReads, readsL, constOp, shA, shB]
    simp [nextOk, hF, hE, hM, hR]
  · have hmk : markL s (constOp k) = s := by simp [markL, constOp]
    unfold nextSt
    rw [hmk, hw, setW_low (d := (k : Int) % 19) (by omega)]
    have h20 : (k : Int) % 19 < 20 := by omega
    rw [decide_eq_true hd.1, decide_eq_true h20]; simp
theorem mark_next (i : Nat) (W : Int) (c : Bool) : nextOk ⟨i, W, c⟩ (markOp i) false false = true ∧ nextSt ⟨i, W, c⟩ (markOp i) = ⟨(i : Int) + 1, 0, false⟩ := by
  have hw : writesL (markOp i) = -1 := rfl
  constructor
  · have hF : okForm (markOp i) = true := by simp [okForm, markOp, shI, fieldL, shD, shA, shB, shN]
    have hE : okEnd ⟨i, W, c⟩ (markOp i) false false = true := by simp [okEnd, markOp, endsL, shL]
    have hM : okMark ⟨i, W, c⟩ (markOp i) = true := by simp [okMark, markOp]
    have hR : okReads (markL ⟨i, W, c⟩ (markOp i)) (markOp i) = true := by simp [okReads, readsL, markOp, shA, shB]
    simp [nextOk, hF, hE, hM, hR]
  · have hmk : markL ⟨i, W, c⟩ (markOp i) = ⟨(i : Int) + 1, 0, false⟩ := by simp [markL, markOp]
    unfold nextSt
    rw [hmk, hw, setW_low (by omega)]
    simp [markOp, shS]
theorem vgo_consts (q : IOp) (r : List IOp) : ∀ (l : List Nat) (s : ISt), ∃ c, vgo (l.map constOp ++ q :: r) s = vgo (q :: r) ⟨s.marks, s.written, c⟩
  | [], s => ⟨s.changed, rfl⟩
  | k :: l, s => by
    obtain ⟨c, hc⟩ := vgo_consts q r l ⟨s.marks, s.written, true⟩
    refine ⟨c, ?_⟩
    obtain ⟨h1, h2⟩ := const_next s k
    cases l with
    | nil => rw [List.map_cons, List.map_nil, List.cons_append, List.nil_append, vgo_more (by show (1 : Int) ≠ 23; decide), h1, if_pos rfl, h2]; exact hc
    | cons k2 l => rw [List.map_cons, List.cons_append, List.map_cons, List.cons_append, vgo_more (by show (1 : Int) ≠ 23; decide), h1, if_pos rfl, h2]; exact hc
theorem vgo_many (e : Nat) (q : IOp) (r : List IOp) : ∀ i, ∃ W c, vgo (manyL e i ++ q :: r) ⟨0, 0, false⟩ = vgo (q :: r) ⟨i, W, c⟩
  | 0 => ⟨0, false, by simp [manyL]⟩
  | i + 1 => by
    rw [manyL_succ, List.append_assoc, List.cons_append]
    obtain ⟨W, c, h⟩ := vgo_many e (markOp i) (consts e ++ q :: r) i
    rw [h]
    obtain ⟨h1, h2⟩ := mark_next i W c
    obtain ⟨c', h3⟩ := vgo_consts q r (List.range e) ⟨(i : Int) + 1, 0, false⟩
    refine ⟨0, c', ?_⟩
    have : ∃ q' r', consts e ++ q :: r = q' :: r' := by cases consts e <;> exact ⟨_, _, rfl⟩
    obtain ⟨q', r', hqr⟩ := this
    rw [hqr, vgo_more (by show (20 : Int) ≠ 23; decide), h1, if_pos rfl, h2, ← hqr]
    exact h3
theorem exit_next (s : ISt) (n : Int) : nextOk s (exitOp n) true false = true ∧ (nextSt s (exitOp n)).marks = s.marks := by
  constructor
  · have hF : okForm (exitOp n) = true := by simp [okForm, exitOp, shI, fieldL, shD, shA, shB, shN]
    have hE : okEnd s (exitOp n) true false = true := by simp [okEnd, exitOp, endsL, shL]
    have hM : okMark s (exitOp n) = true := by simp [okMark, exitOp]
    have hR : okReads (markL s (exitOp n)) (exitOp n) = true := by simp [okReads, readsL, exitOp, shA, shB]
    simp [nextOk, hF, hE, hM, hR]
  · simp [nextSt, markL, exitOp]
theorem vgo_exit (s : ISt) (n : Int) : ∃ s', vgo [exitOp n] s = some s' ∧ s'.marks = s.marks := by
  obtain ⟨h1, h2⟩ := exit_next s n
  refine ⟨nextSt s (exitOp n), ?_, h2⟩
  show (if nextOk s (exitOp n) true false then vgo [] (nextSt s (exitOp n)) else none) = _
  rw [h1]; rfl
def manyOk (f m : Nat) : Bool := decide (1 ≤ m) && decide (m ≤ 64) && decide ((manyL f m).length + 1 ≤ 2000)
theorem ats_len (i : Nat) : (ats i).length = i := by simp [ats]
theorem many_valid (f m : Nat) : validL (manyBlk f m) = manyOk f m := by
  obtain ⟨W, c, h1⟩ := vgo_many f (exitOp 7) [] m
  obtain ⟨s, h2, h3⟩ := vgo_exit ⟨m, W, c⟩ 7
  have hv : vrun (manyBlk f m).ops (manyBlk f m).ops.length = some s := by rw [vgo_run]; exact h1.trans h2
  have hm : s.marks == ((manyBlk f m).at_.length : Int) := by
    rw [h3]; show ((m : Int) == ((ats m).length : Int)) = true
    rw [ats_len]; simp
  unfold validL
  rw [hv]
  show (headerL (manyBlk f m) && (s.marks == ((manyBlk f m).at_.length : Int))) = _
  rw [hm, Bool.and_true]
  have hl : (manyBlk f m).ops.length = (manyL f m).length + 1 := by show (manyL f m ++ [exitOp 7]).length = _; simp
  have ha : (manyBlk f m).at_.length = m := ats_len m
  have hp : pagesOk (manyBlk f m).pages = true := rfl
  unfold headerL manyOk
  rw [hp, hl, ha]
  cases m with
  | zero => simp
  | succ m =>
    have hc : ((manyBlk f (m + 1)).ops.getD 0 noOp).code = 20 := by
      have : ∃ r, (manyBlk f (m + 1)).ops = markOp 0 :: r := by
        show ∃ r, manyL f (m + 1) ++ [exitOp 7] = markOp 0 :: r
        unfold manyL
        rw [List.range_succ_eq_map, List.flatMap_cons]
        exact ⟨_, rfl⟩
      obtain ⟨r, hr⟩ := this
      rw [hr]; rfl
    rw [hc]; simp
/-! ### Its evaluation -/
theorem ev_skip (at_ : List Int) (r : List IOp) : ∀ (l : List IOp) (s : EvOut) (cur : Int), (∀ o ∈ l, o.code = 20 ∨ o.code = 1) → ∃ vs cur', evGo at_ (l ++ r) s cur = evGo at_ r { s with vars := vs } cur'
  | [], s, cur, _ => ⟨s.vars, cur, rfl⟩
  | o :: l, s, cur, h => by
    rw [List.cons_append, evGo]
    rcases h o (List.mem_cons_self ..) with hc | hc
    · have he : evStep at_ o s cur = (false, s, o.n) := by unfold evStep; rw [if_pos hc]
      rw [he]
      exact ev_skip at_ r l s o.n (fun p hp => h p (List.mem_cons_of_mem _ hp))
    · have he : evStep at_ o s cur = (false, s.set o.d o.n, cur) := by unfold evStep; rw [if_neg (by rw [hc]; decide), if_pos hc]
      rw [he]
      obtain ⟨vs, cur', h'⟩ := ev_skip at_ r l (s.set o.d o.n) cur (fun p hp => h p (List.mem_cons_of_mem _ hp))
      exact ⟨vs, cur', h'⟩
theorem many_codes (f m : Nat) : ∀ o ∈ manyL f m, o.code = 20 ∨ o.code = 1 := by
  intro o ho
  unfold manyL at ho
  rw [List.mem_flatMap] at ho
  obtain ⟨i, _, hi⟩ := ho
  rcases List.mem_cons.1 hi with h | h
  · exact .inl (by rw [h]; rfl)
  · unfold consts at h
    obtain ⟨k, _, hk⟩ := List.mem_map.1 h
    exact .inr (by rw [← hk]; rfl)
theorem many_eval {f m : Nat} {vars : List Int} (h : manyOk f m = true) : (evalNil (manyBlk f m) vars).done = m ∧ (evalNil (manyBlk f m) vars).pc = 7 := by
  unfold evalNil
  rw [many_valid, h, if_pos rfl]
  obtain ⟨vs, cur, he⟩ := ev_skip (ats m) [exitOp 7] (manyL f m) ⟨false, 0, (ats m).length, 0, vars⟩ 0 (many_codes f m)
  show ((evGo (ats m) (manyL f m ++ [exitOp 7]) ⟨false, 0, (ats m).length, 0, vars⟩ 0).guests).done = _ ∧ ((evGo (ats m) (manyL f m ++ [exitOp 7]) ⟨false, 0, (ats m).length, 0, vars⟩ 0).guests).pc = _
  rw [he]
  have : evGo (ats m) [exitOp 7] { (⟨false, 0, (ats m).length, 0, vars⟩ : EvOut) with vars := vs } cur = ⟨false, 0, (ats m).length, 7, vs⟩ := rfl
  rw [this]
  exact ⟨by show ((ats m).length : Int) = m; rw [ats_len], rfl⟩
end Go.Proofs.YtojofinofpgopaaDoor
/- Plain: the block of IrArithmetic is valid, and its evaluation is the chain of the operations on words. -/
namespace Go.Proofs.YtojofinofpgopaaDoor
open Go.RowKit
def pairOps (p : Int × Int) : List IOp := [⟨1, 21, 0, 0, p.2⟩, ⟨3 + p.1 % 13, 20, 20, 21, 0⟩]
def arL (first : Int) (l : List (Int × Int)) : List IOp := [⟨20, 0, 0, 0, 0⟩, ⟨1, 20, 0, 0, first⟩] ++ l.flatMap pairOps
def arEnd : List IOp := [⟨2, 3, 20, 0, 0⟩, ⟨25, 0, 20, 0, 0⟩]
def arBlk (first : Int) (l : List (Int × Int)) : IBlk := ⟨[0], [], arL first l ++ arEnd⟩
def arWant (first : Int) (l : List (Int × Int)) : Int := l.foldl (fun a p => wordOpL (3 + p.1 % 13) a p.2) first
/-- In the first instruction, nothing changed, these temporaries written. -/
structure PS (s : ISt) (vs : List Nat) : Prop where
  marks : s.marks = 1
  chg : s.changed = false
  wr : ∃ W : Nat, s.written = W ∧ W < 4294967296 ∧ ∀ v ∈ vs, W.testBit v = true
theorem PS.weak {s : ISt} {vs us : List Nat} (h : PS s vs) (hs : ∀ v ∈ us, v ∈ vs) : PS s us := by
  obtain ⟨W, h1, h2, h3⟩ := h.wr
  exact ⟨h.marks, h.chg, W, h1, h2, fun v hv => h3 v (hs v hv)⟩
theorem PS.known {s : ISt} {vs : List Nat} {v : Nat} (h : PS s vs) (hv : v ∈ vs) (h20 : 20 ≤ v) : tmpBad s.written (v : Int) = false := by
  obtain ⟨W, h1, h2, h3⟩ := h.wr
  rw [h1, tmpBad_nat h2 h20, h3 v hv]; rfl
theorem PS.put {s : ISt} {vs : List Nat} {d : Nat} (h : PS s vs) (h20 : 20 ≤ d) (h28 : d < 28) : PS ⟨s.marks, setW s.written d, false⟩ (d :: vs) := by
  obtain ⟨W, h1, h2, h3⟩ := h.wr
  refine ⟨h.marks, rfl, W ||| 2 ^ d, ?_, or_lt h2 h28, fun v hv => ?_⟩
  · show setW s.written d = _
    rw [h1]; exact setW_nat h2 h20 h28
  · rw [Nat.testBit_or, Nat.testBit_two_pow]
    rcases List.mem_cons.1 hv with h | h
    · rw [h]; simp
    · rw [h3 v h]; rfl
theorem field_tmp {d : Nat} (h20 : 20 ≤ d) (h28 : d < 28) : fieldL true (d : Int) = true := by
  unfold fieldL
  rw [if_pos rfl, decide_eq_true (show (0 : Int) ≤ d by omega), decide_eq_true (show (d : Int) < 28 by omega)]
  have : ((d : Int) == 19) = false := by rw [beq_eq_false_iff_ne]; omega
  rw [this]; rfl
theorem ps_const {s : ISt} {vs : List Nat} {d : Nat} (x : Int) (h : PS s vs) (h20 : 20 ≤ d) (h28 : d < 28) :
    nextOk s ⟨1, d, 0, 0, x⟩ false false = true ∧ PS (nextSt s ⟨1, d, 0, 0, x⟩) (d :: vs) := by
  have hw : writesL ⟨1, d, 0, 0, x⟩ = (d : Int) := rfl
  have hmk : markL s ⟨1, d, 0, 0, x⟩ = s := rfl
  constructor
  · have hF : okForm ⟨1, d, 0, 0, x⟩ = true := by
      show (shI 1 && fieldL (shD 1) d && fieldL (shA 1) 0 && fieldL (shB 1) 0 && (shN 1 || _)) = true
      rw [show shD 1 = true by decide, field_tmp h20 h28, show shI 1 = true by decide, show shA 1 = false by decide, show shB 1 = false by decide, show shN 1 = true by decide]; rfl
    have hE : okEnd s ⟨1, d, 0, 0, x⟩ false false = true := by simp [okEnd, endsL, shL]
    have hM : okMark s ⟨1, d, 0, 0, x⟩ = true := by simp [okMark]
    have hR : okReads (markL s ⟨1, d, 0, 0, x⟩) ⟨1, d, 0, 0, x⟩ = true := by simp [okReads, readsL, shA, shB]
    simp [nextOk, hF, hE, hM, hR]
  · have : nextSt s ⟨1, d, 0, 0, x⟩ = ⟨s.marks, setW s.written d, false⟩ := by
      unfold nextSt
      rw [hmk, hw, h.chg]
      have h1 : decide ((d : Int) < 20) = false := by simp; omega
      rw [h1]; simp [shS]
    rw [this]; exact h.put h20 h28
theorem bin_sh {c : Int} (h3 : 3 ≤ c) (h15 : c ≤ 15) : shI c = true ∧ shD c = true ∧ shA c = true ∧ shB c = true ∧ shL c = false ∧ shS c = false ∧ endsL c = false ∧ (c == 20) = false ∧ (c == 23) = false := by
  have h1 : (decide (3 ≤ c) && decide (c ≤ 15)) = true := by simp; omega
  refine ⟨by unfold shI; simp; omega, by unfold shD; rw [h1]; simp, by unfold shA; rw [h1]; simp, by unfold shB; rw [h1]; simp, by unfold shL; simp; omega, by unfold shS; simp; omega, by unfold endsL; simp; omega, by simp; omega, by simp; omega⟩
theorem ps_bin {s : ISt} {vs : List Nat} {c : Int} {d a b : Nat} (h : PS s vs) (h3 : 3 ≤ c) (h15 : c ≤ 15) (hd : 20 ≤ d ∧ d < 28) (ha : 20 ≤ a ∧ a < 28) (hb : 20 ≤ b ∧ b < 28) (ma : a ∈ vs) (mb : b ∈ vs) :
    nextOk s ⟨c, d, a, b, 0⟩ false false = true ∧ PS (nextSt s ⟨c, d, a, b, 0⟩) (d :: vs) := by
  obtain ⟨eI, eD, eA, eB, eL, eS, eE, e20, e23⟩ := bin_sh h3 h15
  have hw : writesL ⟨c, d, a, b, 0⟩ = (d : Int) := by simp [writesL, eD]
  have hmk : markL s ⟨c, d, a, b, 0⟩ = s := by simp [markL, e20]
  constructor
  · have hF : okForm ⟨c, d, a, b, 0⟩ = true := by
      show (shI c && fieldL (shD c) d && fieldL (shA c) a && fieldL (shB c) b && (shN c || (0 : Int) == 0)) = true
      rw [eI, eD, eA, eB, field_tmp hd.1 hd.2, field_tmp ha.1 ha.2, field_tmp hb.1 hb.2]; simp
    have hE : okEnd s ⟨c, d, a, b, 0⟩ false false = true := by simp [okEnd, eE, eL, e23]
    have hM : okMark s ⟨c, d, a, b, 0⟩ = true := by simp [okMark, e20]
    have hR : okReads (markL s ⟨c, d, a, b, 0⟩) ⟨c, d, a, b, 0⟩ = true := by
      rw [hmk]
      unfold okReads
      rw [List.all_eq_true]
      intro v hv
      have : v = (a : Int) ∨ v = (b : Int) := by
        have hr : readsL ⟨c, d, a, b, 0⟩ = [(a : Int)] ++ (if !((b : Int) == (a : Int)) then [(b : Int)] else []) := by
          simp [readsL, eA, eB]
        rw [hr, List.mem_append] at hv
        rcases hv with hv | hv
        · exact .inl (by simpa using hv)
        · by_cases hba : (!((b : Int) == (a : Int))) = true
          · rw [if_pos hba] at hv; exact .inr (by simpa using hv)
          · rw [if_neg hba] at hv; cases hv
      rcases this with rfl | rfl
      · rw [h.known ma ha.1]; rfl
      · rw [h.known mb hb.1]; rfl
    simp [nextOk, hF, hE, hM, hR]
  · have : nextSt s ⟨c, d, a, b, 0⟩ = ⟨s.marks, setW s.written d, false⟩ := by
      unfold nextSt
      rw [hmk, hw, h.chg]
      have h1 : decide ((d : Int) < 20) = false := by simp; omega
      rw [h1]
      show ISt.mk _ _ (false || shS c || _) = _
      rw [eS]; simp
    rw [this]; exact h.put hd.1 hd.2
theorem mod13 (x : Int) : 3 ≤ 3 + x % 13 ∧ 3 + x % 13 ≤ 15 := by omega
theorem vgo_pairs (q : IOp) (r : List IOp) : ∀ (l : List (Int × Int)) (s : ISt), PS s [20] → ∃ s', vgo (l.flatMap pairOps ++ q :: r) s = vgo (q :: r) s' ∧ PS s' [20]
  | [], s, h => ⟨s, rfl, h⟩
  | p :: l, s, h => by
    obtain ⟨h1, h2⟩ := ps_const (d := 21) p.2 h (by omega) (by omega)
    obtain ⟨h3, h4⟩ := ps_bin (c := 3 + p.1 % 13) (d := 20) (a := 20) (b := 21) h2 (mod13 _).1 (mod13 _).2 (by omega) (by omega) (by omega) (by simp) (by simp)
    obtain ⟨s', h5, h6⟩ := vgo_pairs q r l _ (h4.weak (us := [20]) (by simp))
    refine ⟨s', ?_, h6⟩
    rw [List.flatMap_cons, List.append_assoc]
    have hne : ∃ q' r', l.flatMap pairOps ++ q :: r = q' :: r' := by cases l.flatMap pairOps <;> exact ⟨_, _, rfl⟩
    obtain ⟨q', r', hqr⟩ := hne
    rw [hqr] at h5 ⊢
    show vgo (⟨1, 21, 0, 0, p.2⟩ :: ⟨3 + p.1 % 13, 20, 20, 21, 0⟩ :: q' :: r') s = _
    rw [vgo_more (by show (1 : Int) ≠ 23; decide), show nextOk s ⟨1, 21, 0, 0, p.2⟩ false false = true from h1, if_pos rfl,
      vgo_more (by have := mod13 p.1; show 3 + p.1 % 13 ≠ 23; omega)]
    rw [show nextOk (nextSt s ⟨1, 21, 0, 0, p.2⟩) ⟨3 + p.1 % 13, 20, 20, 21, 0⟩ false false = true from h3, if_pos rfl]
    exact h5
theorem vgo_end {s : ISt} (h : PS s [20]) : ∃ s', vgo arEnd s = some s' ∧ s'.marks = 1 := by
  have k20 : tmpBad s.written 20 = false := h.known (v := 20) (by simp) (by omega)
  have h1 : nextOk s ⟨2, 3, 20, 0, 0⟩ false false = true := by
    have hF : okForm ⟨2, 3, 20, 0, 0⟩ = true := by decide
    have hE : okEnd s ⟨2, 3, 20, 0, 0⟩ false false = true := by simp [okEnd, endsL, shL]
    have hM : okMark s ⟨2, 3, 20, 0, 0⟩ = true := by simp [okMark]
    have hR : okReads (markL s ⟨2, 3, 20, 0, 0⟩) ⟨2, 3, 20, 0, 0⟩ = true := by
      show (readsL ⟨2, 3, 20, 0, 0⟩).all (fun v => !tmpBad s.written v) = true
      rw [show readsL ⟨2, 3, 20, 0, 0⟩ = [20] from rfl]; simp [k20]
    simp [nextOk, hF, hE, hM, hR]
  have hs : nextSt s ⟨2, 3, 20, 0, 0⟩ = ⟨s.marks, s.written, true⟩ := by
    show ISt.mk s.marks (setW s.written 3) (s.changed || shS 2 || _) = _
    rw [setW_low (by decide), h.chg]; rfl
  have h2 : nextOk ⟨s.marks, s.written, true⟩ ⟨25, 0, 20, 0, 0⟩ true false = true := by
    have hF : okForm ⟨25, 0, 20, 0, 0⟩ = true := by decide
    have hE : okEnd ⟨s.marks, s.written, true⟩ ⟨25, 0, 20, 0, 0⟩ true false = true := by simp [okEnd, endsL, shL]
    have hM : okMark ⟨s.marks, s.written, true⟩ ⟨25, 0, 20, 0, 0⟩ = true := by simp [okMark]
    have hR : okReads (markL ⟨s.marks, s.written, true⟩ ⟨25, 0, 20, 0, 0⟩) ⟨25, 0, 20, 0, 0⟩ = true := by
      show (readsL ⟨25, 0, 20, 0, 0⟩).all (fun v => !tmpBad s.written v) = true
      rw [show readsL ⟨25, 0, 20, 0, 0⟩ = [20] from rfl]; simp [k20]
    simp [nextOk, hF, hE, hM, hR]
  refine ⟨nextSt ⟨s.marks, s.written, true⟩ ⟨25, 0, 20, 0, 0⟩, ?_, ?_⟩
  · unfold arEnd
    rw [vgo_more (by decide), h1, if_pos rfl, hs]
    show (if nextOk ⟨s.marks, s.written, true⟩ ⟨25, 0, 20, 0, 0⟩ true false then vgo [] (nextSt ⟨s.marks, s.written, true⟩ ⟨25, 0, 20, 0, 0⟩) else none) = _
    rw [h2]; rfl
  · show s.marks = 1
    exact h.marks
theorem ar_len (first : Int) (l : List (Int × Int)) : (arBlk first l).ops.length = 2 * l.length + 4 := by
  have : (l.flatMap pairOps).length = 2 * l.length := by
    induction l with
    | nil => rfl
    | cons p l ih => rw [List.flatMap_cons, List.length_append, ih]; simp [pairOps]; omega
  show (arL first l ++ arEnd).length = _
  unfold arL arEnd
  simp only [List.length_append, this, List.length_cons, List.length_nil]; omega
theorem ar_valid (first : Int) (l : List (Int × Int)) (hl : l.length ≤ 40) : validL (arBlk first l) = true := by
  obtain ⟨h1, h2⟩ := mark_next 0 0 false
  have hp0 : PS ⟨((0 : Nat) : Int) + 1, 0, false⟩ [] := ⟨rfl, rfl, 0, rfl, by omega, fun v hv => by simp at hv⟩
  obtain ⟨h3, h4⟩ := ps_const (d := 20) first hp0 (by omega) (by omega)
  obtain ⟨s1, h5, h6⟩ := vgo_pairs ⟨2, 3, 20, 0, 0⟩ [⟨25, 0, 20, 0, 0⟩] l _ (h4.weak (us := [20]) (by simp))
  obtain ⟨s2, h7, h8⟩ := vgo_end h6
  have hv : vrun (arBlk first l).ops (arBlk first l).ops.length = some s2 := by
    rw [vgo_run]
    have hops : (arBlk first l).ops = ⟨20, 0, 0, 0, 0⟩ :: ⟨1, 20, 0, 0, first⟩ :: (l.flatMap pairOps ++ ⟨2, 3, 20, 0, 0⟩ :: [⟨25, 0, 20, 0, 0⟩]) := by
      show arL first l ++ arEnd = _
      unfold arL arEnd; simp
    rw [hops]
    have hne : ∃ q' r', l.flatMap pairOps ++ (⟨2, 3, 20, 0, 0⟩ : IOp) :: [⟨25, 0, 20, 0, 0⟩] = q' :: r' := by cases l.flatMap pairOps <;> exact ⟨_, _, rfl⟩
    obtain ⟨q', r', hqr⟩ := hne
    rw [hqr] at h5 ⊢
    rw [vgo_more (by show (20 : Int) ≠ 23; decide), show nextOk ⟨0, 0, false⟩ ⟨20, 0, 0, 0, 0⟩ false false = true from h1, if_pos rfl, show nextSt ⟨0, 0, false⟩ ⟨20, 0, 0, 0, 0⟩ = ⟨((0 : Nat) : Int) + 1, 0, false⟩ from h2,
      vgo_more (by show (1 : Int) ≠ 23; decide), show nextOk ⟨((0 : Nat) : Int) + 1, 0, false⟩ ⟨1, 20, 0, 0, first⟩ false false = true from h3, if_pos rfl]
    exact h5.trans h7
  have hc : ((arBlk first l).ops.getD 0 noOp).code = 20 := rfl
  have hlen := ar_len first l
  unfold validL
  rw [hv]
  show (headerL (arBlk first l) && (s2.marks == (([0] : List Int).length : Int))) = true
  rw [h8]
  have hp : pagesOk (arBlk first l).pages = true := rfl
  unfold headerL
  rw [hp, hc, hlen]
  have ha : (arBlk first l).at_.length = 1 := rfl
  rw [ha]
  simp; omega
/-! ### The evaluation -/
theorem ev_pairs (at_ : List Int) (r : List IOp) (cur : Int) : ∀ (l : List (Int × Int)) (s : EvOut), s.vars.length = 28 → ∃ vs, vs.length = 28 ∧ vs.getD 20 0 = arWant (s.vars.getD 20 0) l ∧ evGo at_ (l.flatMap pairOps ++ r) s cur = evGo at_ r { s with vars := vs } cur
  | [], s, h => ⟨s.vars, h, rfl, rfl⟩
  | p :: l, s, h => by
    have m := mod13 p.1
    have e1 : evStep at_ ⟨1, 21, 0, 0, p.2⟩ s cur = (false, s.set 21 p.2, cur) := rfl
    have e2 : evStep at_ ⟨3 + p.1 % 13, 20, 20, 21, 0⟩ (s.set 21 p.2) cur = (false, (s.set 21 p.2).set 20 (wordOpL (3 + p.1 % 13) ((s.set 21 p.2).get 20) ((s.set 21 p.2).get 21)), cur) := by
      unfold evStep
      have hne : ∀ n : Int, (n < 3 ∨ 15 < n) → ¬ (3 + p.1 % 13 = n) := fun n hn => by omega
      rw [if_neg (hne 20 (by omega)), if_neg (hne 1 (by omega)), if_neg (hne 2 (by omega)), if_neg (by simp only [hne 16 (by omega), hne 17 (by omega), hne 18 (by omega), hne 19 (by omega), hne 22 (by omega), or_self, not_false_eq_true]),
        if_neg (hne 21 (by omega)), if_neg (hne 23 (by omega)), if_neg (hne 24 (by omega)), if_neg (hne 25 (by omega))]
    have g20 : (s.set 21 p.2).get 20 = s.vars.getD 20 0 := by
      show (s.vars.set 21 p.2).getD 20 0 = _
      simp [List.getD_eq_getElem?_getD]
    have g21 : (s.set 21 p.2).get 21 = p.2 := by
      show (s.vars.set 21 p.2).getD 21 0 = _
      simp [List.getD_eq_getElem?_getD, h]
    have hlen : ((s.set 21 p.2).set 20 (wordOpL (3 + p.1 % 13) ((s.set 21 p.2).get 20) ((s.set 21 p.2).get 21))).vars.length = 28 := by
      simp [EvOut.set, h]
    obtain ⟨vs, v1, v2, v3⟩ := ev_pairs at_ r cur l _ hlen
    refine ⟨vs, v1, ?_, ?_⟩
    · rw [v2, g20, g21]
      have : (((s.set 21 p.2).set 20 (wordOpL (3 + p.1 % 13) (s.vars.getD 20 0) p.2)).vars).getD 20 0 = wordOpL (3 + p.1 % 13) (s.vars.getD 20 0) p.2 := by
        show ((s.vars.set 21 p.2).set 20 _).getD 20 0 = _
        simp [List.getD_eq_getElem?_getD, h]
      rw [this]; rfl
    · rw [List.flatMap_cons, List.append_assoc]
      show evGo at_ (⟨1, 21, 0, 0, p.2⟩ :: ⟨3 + p.1 % 13, 20, 20, 21, 0⟩ :: (l.flatMap pairOps ++ r)) s cur = _
      rw [evGo, e1]
      show evGo at_ (⟨3 + p.1 % 13, 20, 20, 21, 0⟩ :: (l.flatMap pairOps ++ r)) (s.set 21 p.2) cur = _
      rw [evGo, e2]
      exact v3
theorem ar_eval (first : Int) (l : List (Int × Int)) (hl : l.length ≤ 40) {vars : List Int} (hv : vars.length = 28) :
    (evalNil (arBlk first l) vars).done = 1 ∧ (evalNil (arBlk first l) vars).pc = arWant first l ∧ (evalNil (arBlk first l) vars).vars.getD 3 0 = arWant first l := by
  unfold evalNil
  rw [ar_valid first l hl, if_pos rfl]
  have h0 : ((vars.set 20 first)).length = 28 := by simp [hv]
  obtain ⟨vs, v1, v2, v3⟩ := ev_pairs [0] arEnd 0 l ⟨false, 0, 1, 0, vars.set 20 first⟩ h0
  have g : (vars.set 20 first).getD 20 0 = first := by simp [List.getD_eq_getElem?_getD, hv]
  rw [g] at v2
  have he : evGo (arBlk first l).at_ (arBlk first l).ops ⟨false, 0, (arBlk first l).at_.length, 0, vars⟩ 0 = ⟨false, 0, 1, vs.getD 20 0, vs.set 3 (vs.getD 20 0)⟩ := by
    show evGo [0] (arL first l ++ arEnd) ⟨false, 0, 1, 0, vars⟩ 0 = _
    unfold arL
    rw [List.append_assoc]
    show evGo [0] (⟨20, 0, 0, 0, 0⟩ :: ⟨1, 20, 0, 0, first⟩ :: (l.flatMap pairOps ++ arEnd)) ⟨false, 0, 1, 0, vars⟩ 0 = _
    have a1 : evStep [0] ⟨20, 0, 0, 0, 0⟩ ⟨false, 0, 1, 0, vars⟩ 0 = (false, ⟨false, 0, 1, 0, vars⟩, 0) := rfl
    have a2 : evStep [0] ⟨1, 20, 0, 0, first⟩ ⟨false, 0, 1, 0, vars⟩ 0 = (false, ⟨false, 0, 1, 0, vars.set 20 first⟩, 0) := rfl
    rw [evGo, a1]
    show evGo [0] (⟨1, 20, 0, 0, first⟩ :: (l.flatMap pairOps ++ arEnd)) ⟨false, 0, 1, 0, vars⟩ 0 = _
    rw [evGo, a2]
    show evGo [0] (l.flatMap pairOps ++ arEnd) ⟨false, 0, 1, 0, vars.set 20 first⟩ 0 = _
    rw [v3]
    have b20 : (vs.set 3 (vs.getD 20 0)).getD 20 0 = vs.getD 20 0 := by simp [List.getD_eq_getElem?_getD]
    show (⟨false, 0, 1, (vs.set 3 (vs.getD 20 0)).getD 20 0, vs.set 3 (vs.getD 20 0)⟩ : EvOut) = _
    rw [b20]
  rw [he, v2]
  refine ⟨rfl, rfl, ?_⟩
  simp only [EvOut.guests]
  simp [List.getD_eq_getElem?_getD, v1]
end Go.Proofs.YtojofinofpgopaaDoor
/- Plain: the blocks that babelref12.Made makes are valid. -/
namespace Go.Proofs.YtojofinofpgopaaDoor
open Go.RowKit
/-- The check along operations that are not the last. -/
def vgoP : List IOp → ISt → Option ISt
  | [], s => some s
  | o :: r, s => if (o.code != 23 && nextOk s o false false) = true then vgoP r (nextSt s o) else none
theorem vgoP_app : ∀ (l r : List IOp) (s : ISt), vgoP (l ++ r) s = (vgoP l s).bind (vgoP r)
  | [], _, _ => rfl
  | o :: l, r, s => by
    simp only [List.cons_append, vgoP]
    split
    · exact vgoP_app l r _
    · rfl
theorem vgo_of : ∀ {l : List IOp} {q : IOp} {r : List IOp} {s s' : ISt}, vgoP l s = some s' → vgo (l ++ q :: r) s = vgo (q :: r) s'
  | [], q, r, s, s', h => by cases h; rfl
  | o :: l, q, r, s, s', h => by
    simp only [vgoP] at h
    split at h
    · rename_i hb
      simp only [Bool.and_eq_true, bne_iff_ne, ne_eq] at hb
      have h' := vgo_of (q := q) (r := r) h
      cases l with
      | nil => 
        rw [List.cons_append, List.nil_append, vgo_more hb.1, if_pos hb.2]; exact h'
      | cons o' l =>
        rw [List.cons_append, List.cons_append, vgo_more hb.1, if_pos hb.2]; exact h'
    · cases h
theorem next_in {p W : Int} {ch : Bool} {o : IOp} (hF : okForm o = true) (hE : endsL o.code = false) (h20 : (o.code == 20) = false) (h23 : (o.code == 23) = false) (hL : shL o.code = false ∨ ch = false) (hR : ∀ v ∈ readsL o, tmpBad W v = false) :
    nextOk ⟨p, W, ch⟩ o false false = true ∧ nextSt ⟨p, W, ch⟩ o = ⟨p, setW W (writesL o), ch || shS o.code || (decide (0 ≤ writesL o) && decide (writesL o < 20))⟩ := by
  have hm : markL ⟨p, W, ch⟩ o = ⟨p, W, ch⟩ := by unfold markL; rw [h20]; rfl
  constructor
  · have e1 : okEnd ⟨p, W, ch⟩ o false false = true := by
      unfold okEnd
      rw [hE, h23]
      rcases hL with h | h <;> simp [h]
    have e2 : okMark ⟨p, W, ch⟩ o = true := by unfold okMark; rw [h20]; rfl
    have e3 : okReads (markL ⟨p, W, ch⟩ o) o = true := by
      rw [hm]; unfold okReads
      rw [List.all_eq_true]
      intro v hv
      show (!tmpBad W v) = true
      rw [hR v hv]; rfl
    simp [nextOk, hF, e1, e2, e3]
  · unfold nextSt; rw [hm]
/-- These temporaries are written. -/
def Kn (W : Int) (wr : List Bool) : Prop := ∃ N : Nat, W = N ∧ N < 4294967296 ∧ ∀ t, t < 8 → wr.getD t false = true → N.testBit (20 + t) = true
/-- A variable that may be read. -/
def Rdb (wr : List Bool) (v : Int) : Prop := (0 ≤ v ∧ v < 19) ∨ (20 ≤ v ∧ v < 28 ∧ wr.getD (v - 20).toNat false = true)
theorem Kn.reads {W : Int} {wr : List Bool} {v : Int} (h : Kn W wr) (hv : Rdb wr v) : tmpBad W v = false ∧ fieldL true v = true := by
  obtain ⟨N, rfl, h2, h3⟩ := h
  rcases hv with hv | ⟨h4, h5, h6⟩
  · constructor
    · unfold tmpBad; rw [decide_eq_false (by omega)]; rfl
    · unfold fieldL; rw [if_pos rfl]; simp; omega
  · constructor
    · obtain ⟨k, rfl⟩ := Int.eq_ofNat_of_zero_le (show 0 ≤ v by omega)
      have hb := h3 (k - 20) (by omega) (by rw [← h6]; congr 1; omega)
      rw [show 20 + (k - 20) = k by omega] at hb
      show tmpBad (N : Int) (k : Int) = false
      rw [tmpBad_nat h2 (by omega), hb]; rfl
    · unfold fieldL; rw [if_pos rfl]; simp; omega
theorem Kn.put {W d : Int} {wr : List Bool} (h : Kn W wr) (hd : d < 28) : Kn (setW W d) wr := by
  obtain ⟨N, rfl, h2, h3⟩ := h
  by_cases h20 : 20 ≤ d
  · obtain ⟨k, rfl⟩ := Int.eq_ofNat_of_zero_le (show 0 ≤ d by omega)
    refine ⟨N ||| 2 ^ k, setW_nat h2 (by omega) (by omega), or_lt h2 (by omega), fun t ht hw => ?_⟩
    rw [Nat.testBit_or, h3 t ht hw]; rfl
  · rw [setW_low (by omega)]; exact ⟨N, rfl, h2, h3⟩
theorem Kn.set {W t : Int} {wr : List Bool} (h : Kn W wr) (h0 : 0 ≤ t) (h8 : t < 8) : Kn (setW W (20 + t)) (wr.set t.toNat true) := by
  obtain ⟨N, rfl, h2, h3⟩ := h
  obtain ⟨k, rfl⟩ := Int.eq_ofNat_of_zero_le h0
  refine ⟨N ||| 2 ^ (20 + k), ?_, or_lt h2 (by omega), fun t ht hw => ?_⟩
  · have := setW_nat (d := 20 + k) h2 (by omega) (by omega)
    rw [← this]; congr 1
  · rw [Nat.testBit_or, Nat.testBit_two_pow]
    by_cases he : k = t
    · subst he; simp
    · have : (wr.set (k : Int).toNat true).getD t false = wr.getD t false := by
        rw [List.getD_eq_getElem?_getD, List.getElem?_set_ne (by omega), ← List.getD_eq_getElem?_getD]
      rw [this] at hw
      rw [h3 t ht hw]; rfl
theorem Kn.zero {wr : List Bool} (h : ∀ t, wr.getD t false = false) : Kn 0 wr := ⟨0, rfl, by decide, fun t _ hw => by rw [h t] at hw; cases hw⟩
structure Ins (p : Int) (wr : List Bool) (l : List IOp) (W : Int) (ch : Bool) : Prop where
  go : vgoP l ⟨p, 0, false⟩ = some ⟨p, W, ch⟩
  kn : Kn W wr
  un : ∀ o ∈ l, U32 o.n
theorem Ins.snoc {p W : Int} {wr wr' : List Bool} {l : List IOp} {ch : Bool} {o : IOp} (h : Ins p wr l W ch) (hF : okForm o = true) (hE : endsL o.code = false) (h20 : (o.code == 20) = false) (h23 : (o.code == 23) = false) (hL : shL o.code = false ∨ ch = false) (hR : ∀ v ∈ readsL o, Rdb wr v) (hu : U32 o.n)
    (hk : Kn (setW W (writesL o)) wr') : Ins p wr' (l ++ [o]) (setW W (writesL o)) (ch || shS o.code || (decide (0 ≤ writesL o) && decide (writesL o < 20))) := by
  obtain ⟨e1, e2⟩ := next_in (p := p) hF hE h20 h23 hL (fun v hv => (h.kn.reads (hR v hv)).1)
  refine ⟨?_, hk, fun q hq => ?_⟩
  · rw [vgoP_app, h.go]
    have h23' : (o.code != 23) = true := by rw [bne, h23]; rfl
    simp [vgoP, e1, e2, h23']
  · rcases List.mem_append.1 hq with hq | hq
    · exact h.un q hq
    · have : q = o := by simpa using hq
      subst this; exact hu
theorem fieldT {d : Int} (h0 : 0 ≤ d) (h1 : d < 28) (h2 : d ≠ 19) : fieldL true d = true := by unfold fieldL; rw [if_pos rfl]; simp; omega
theorem u32_0 : U32 0 := ⟨by decide, by decide⟩
section
variable {p W : Int} {wr : List Bool} {l : List IOp}
theorem ins_const {t x : Int} (h : Ins p wr l W false) (h0 : 0 ≤ t) (h8 : t < 8) (hx : U32 x) : ∃ W', Ins p (wr.set t.toNat true) (l ++ [⟨1, 20 + t, 0, 0, x⟩]) W' false := by
  have hw : writesL ⟨1, 20 + t, 0, 0, x⟩ = 20 + t := rfl
  have := h.snoc (o := ⟨1, 20 + t, 0, 0, x⟩) (wr' := wr.set t.toNat true) (by
    show (shI 1 && fieldL (shD 1) (20 + t) && fieldL (shA 1) 0 && fieldL (shB 1) 0 && (shN 1 || _)) = true
    rw [show shD 1 = true by decide, fieldT (by omega) (by omega) (by omega), show shI 1 = true by decide, show shA 1 = false by decide, show shB 1 = false by decide, show shN 1 = true by decide]; rfl) rfl rfl rfl (.inl rfl) (fun v hv => by cases hv) hx (by rw [hw]; exact h.kn.set h0 h8)
  rw [hw, decide_eq_false (show ¬ (20 + t < 20) by omega)] at this
  exact ⟨_, by simpa [shS] using this⟩
theorem ins_load {c t a x : Int} (h : Ins p wr l W false) (hc : c = 16 ∨ c = 17) (h0 : 0 ≤ t) (h8 : t < 8) (ha : Rdb wr a) (hx : U32 x) : ∃ W', Ins p (wr.set t.toNat true) (l ++ [⟨c, 20 + t, a, 0, x⟩]) W' false := by
  have hfa := (h.kn.reads ha).2
  obtain ⟨eI, eD, eA, eB, eN, eE, e20, e23, eS⟩ : shI c = true ∧ shD c = true ∧ shA c = true ∧ shB c = false ∧ shN c = true ∧ endsL c = false ∧ (c == 20) = false ∧ (c == 23) = false ∧ shS c = false := by
    rcases hc with rfl | rfl <;> decide
  have hw : writesL ⟨c, 20 + t, a, 0, x⟩ = 20 + t := by simp [writesL, eD]
  have hr : readsL ⟨c, 20 + t, a, 0, x⟩ = [a] := by simp [readsL, eA, eB]
  have := h.snoc (wr' := wr.set t.toNat true) (o := ⟨c, 20 + t, a, 0, x⟩) (by
    unfold okForm
    dsimp only
    rw [eI, eD, eA, eB, eN, fieldT (by omega) (by omega) (by omega), hfa]; rfl) eE e20 e23 (.inr rfl) (fun v hv => (by
      rw [hr] at hv
      have hva : v = a := by simpa using hv
      subst hva; exact ha)) hx (by rw [hw]; exact h.kn.set h0 h8)
  rw [hw, decide_eq_false (show ¬ (20 + t < 20) by omega)] at this
  exact ⟨_, by simpa [eS] using this⟩
theorem ins_guard {a : Int} (h : Ins p wr l W false) (ha : Rdb wr a) : ∃ W', Ins p wr (l ++ [⟨21, 0, a, 0, 0⟩]) W' false := by
  have hfa := (h.kn.reads ha).2
  have hw : writesL ⟨21, 0, a, 0, 0⟩ = -1 := rfl
  have hr : readsL ⟨21, 0, a, 0, 0⟩ = [a] := rfl
  have := h.snoc (wr' := wr) (o := ⟨21, 0, a, 0, 0⟩) (by
    unfold okForm
    dsimp only
    rw [show shD 21 = false by decide, show shI 21 = true by decide, show shA 21 = true by decide, hfa, show shB 21 = false by decide]; rfl) rfl rfl rfl (.inr rfl) (fun v hv => by
      rw [hr] at hv
      have : v = a := by simpa using hv
      subst this; exact ha) u32_0 (by rw [hw]; exact h.kn.put (by decide))
  rw [hw] at this
  exact ⟨_, by simpa [shS] using this⟩
theorem bin_form {c d a b : Int} (h3 : 3 ≤ c) (h15 : c ≤ 15) (hd : fieldL true d = true) (ha : fieldL true a = true) (hb : fieldL true b = true) : okForm ⟨c, d, a, b, 0⟩ = true ∧ endsL c = false ∧ (c == 20) = false ∧ (c == 23) = false ∧ shL c = false ∧ shS c = false ∧ writesL ⟨c, d, a, b, 0⟩ = d ∧
    ∀ v ∈ readsL ⟨c, d, a, b, 0⟩, v = a ∨ v = b := by
  obtain ⟨eI, eD, eA, eB, eL, eS, eE, e20, e23⟩ := bin_sh h3 h15
  refine ⟨?_, eE, e20, by rw [beq_eq_false_iff_ne]; omega, eL, eS, by simp [writesL, eD], fun v hv => ?_⟩
  · unfold okForm
    dsimp only
    rw [eI, eD, eA, eB, hd, ha, hb]; simp
  · unfold readsL at hv
    dsimp only at hv
    rw [eA, eB] at hv
    rcases List.mem_append.1 hv with hv | hv
    · exact .inl (by simpa using hv)
    · split at hv
      · exact .inr (by simpa using hv)
      · cases hv
theorem ins_bin {c t a b : Int} (h : Ins p wr l W false) (h3 : 3 ≤ c) (h15 : c ≤ 15) (h0 : 0 ≤ t) (h8 : t < 8) (ha : Rdb wr a) (hb : Rdb wr b) : ∃ W', Ins p (wr.set t.toNat true) (l ++ [⟨c, 20 + t, a, b, 0⟩]) W' false := by
  obtain ⟨f1, f2, f3, f4, f5, f6, f7, f8⟩ := bin_form (d := 20 + t) h3 h15 (fieldT (by omega) (by omega) (by omega)) (h.kn.reads ha).2 (h.kn.reads hb).2
  have := h.snoc (wr' := wr.set t.toNat true) f1 f2 f3 f4 (.inl f5) (fun v hv => (f8 v hv).elim (fun e => e ▸ ha) (fun e => e ▸ hb)) u32_0 (by rw [f7]; exact h.kn.set h0 h8)
  rw [f7, decide_eq_false (show ¬ (20 + t < 20) by omega)] at this
  exact ⟨_, by simpa [f6] using this⟩
theorem ins_store {c a b x : Int} (h : Ins p wr l W false) (hc : c = 18 ∨ c = 19) (ha : Rdb wr a) (hb : Rdb wr b) (hx : U32 x) : ∃ W' ch, Ins p wr (l ++ [⟨c, 0, a, b, x⟩]) W' ch := by
  have hfa := (h.kn.reads ha).2
  have hfb := (h.kn.reads hb).2
  obtain ⟨eI, eD, eA, eB, eN, eE, e20, e23⟩ : shI c = true ∧ shD c = false ∧ shA c = true ∧ shB c = true ∧ shN c = true ∧ endsL c = false ∧ (c == 20) = false ∧ (c == 23) = false := by
    rcases hc with rfl | rfl <;> decide
  have hw : writesL ⟨c, 0, a, b, x⟩ = -1 := by simp [writesL, eD]
  refine ⟨_, _, h.snoc (wr' := wr) (o := ⟨c, 0, a, b, x⟩) (by
      unfold okForm
      dsimp only
      rw [eI, eD, eA, eB, eN, hfa, hfb]; rfl) eE e20 e23 (.inr rfl) (fun v hv => (by
        unfold readsL at hv
        dsimp only at hv
        rw [eA, eB] at hv
        rcases List.mem_append.1 hv with hv | hv
        · have hva : v = a := by simpa using hv
          subst hva; exact ha
        · split at hv
          · have hva : v = b := by simpa using hv
            subst hva; exact hb
          · cases hv)) hx (by rw [hw]; exact h.kn.put (by decide))⟩
variable {ch : Bool}
theorem ins_const3 {d x : Int} (h : Ins p wr l W ch) (h0 : 0 ≤ d) (h19 : d < 19) (hx : U32 x) : ∃ W' ch', Ins p wr (l ++ [⟨1, d, 0, 0, x⟩]) W' ch' :=
  ⟨_, _, h.snoc (o := ⟨1, d, 0, 0, x⟩) (wr' := wr) (by
    show (shI 1 && fieldL (shD 1) d && fieldL (shA 1) 0 && fieldL (shB 1) 0 && (shN 1 || _)) = true
    rw [show shD 1 = true by decide, fieldT (by omega) (by omega) (by omega), show shI 1 = true by decide, show shA 1 = false by decide, show shB 1 = false by decide, show shN 1 = true by decide]; rfl) rfl rfl rfl (.inl rfl) (fun v hv => by cases hv) hx (by rw [show writesL ⟨1, d, 0, 0, x⟩ = d from rfl]; exact h.kn.put (by omega))⟩
theorem ins_move3 {d a : Int} (h : Ins p wr l W ch) (h0 : 0 ≤ d) (h19 : d < 19) (ha : Rdb wr a) : ∃ W' ch', Ins p wr (l ++ [⟨2, d, a, 0, 0⟩]) W' ch' :=
  ⟨_, _, h.snoc (o := ⟨2, d, a, 0, 0⟩) (wr' := wr) (by
    show (shI 2 && fieldL (shD 2) d && fieldL (shA 2) a && fieldL (shB 2) 0 && (shN 2 || _)) = true
    rw [show shD 2 = true by decide, fieldT (by omega) (by omega) (by omega), show shI 2 = true by decide, show shA 2 = true by decide, (h.kn.reads ha).2, show shB 2 = false by decide]; rfl) rfl rfl rfl (.inl rfl) (fun v hv => by
      have : v = a := by simpa [readsL, shA, shB] using hv
      subst this; exact ha) u32_0 (by rw [show writesL ⟨2, d, a, 0, 0⟩ = d from rfl]; exact h.kn.put (by omega))⟩
theorem ins_bin3 {c d a b : Int} (h : Ins p wr l W ch) (h3 : 3 ≤ c) (h15 : c ≤ 15) (h0 : 0 ≤ d) (h19 : d < 19) (ha : Rdb wr a) (hb : Rdb wr b) : ∃ W' ch', Ins p wr (l ++ [⟨c, d, a, b, 0⟩]) W' ch' := by
  obtain ⟨f1, f2, f3, f4, f5, f6, f7, f8⟩ := bin_form (d := d) h3 h15 (fieldT (by omega) (by omega) (by omega)) (h.kn.reads ha).2 (h.kn.reads hb).2
  exact ⟨_, _, h.snoc (wr' := wr) f1 f2 f3 f4 (.inl f5) (fun v hv => (f8 v hv).elim (fun e => e ▸ ha) (fun e => e ▸ hb)) u32_0 (by rw [f7]; exact h.kn.put (by omega))⟩
end
end Go.Proofs.YtojofinofpgopaaDoor
/- Plain: a list of instructions, ended in one of four ways, is a valid block. -/
namespace Go.Proofs.YtojofinofpgopaaDoor
open Go.RowKit
/-- i instructions: their operations. -/
structure Insns (i : Nat) (l : List IOp) : Prop where
  go : ∃ W ch, vgoP l ⟨0, 0, false⟩ = some ⟨i, W, ch⟩
  len : l.length ≤ 8 * i
  first : 0 < i → (l.getD 0 noOp).code = 20
  un : ∀ o ∈ l, U32 o.n
theorem Insns.nil : Insns 0 [] := ⟨⟨0, false, rfl⟩, Nat.le_refl _, fun h => absurd h (Nat.lt_irrefl 0), fun o h => by cases h⟩
theorem getD_app {l r : List IOp} (h : 0 < l.length) : (l ++ r).getD 0 noOp = l.getD 0 noOp := by
  rw [List.getD_eq_getElem?_getD, List.getElem?_append_left h, ← List.getD_eq_getElem?_getD]
theorem Insns.pos {i : Nat} {l : List IOp} (h : Insns i l) (hi : 0 < i) : 0 < l.length := by
  rcases Nat.eq_zero_or_pos l.length with h0 | h0
  · have := h.first hi
    rw [List.eq_nil_of_length_eq_zero h0] at this
    exact absurd this (by decide)
  · exact h0
/-- A mark. -/
theorem Insns.mark {i : Nat} {l : List IOp} (h : Insns i l) (hi : i ≤ 12) : Insns (i + 1) (l ++ [⟨20, 0, 0, 0, i⟩]) ∧ ∃ s, vgoP (l ++ [⟨20, 0, 0, 0, i⟩]) ⟨0, 0, false⟩ = some s ∧ s = ⟨(i : Int) + 1, 0, false⟩ := by
  obtain ⟨W, ch, hg⟩ := h.go
  obtain ⟨m1, m2⟩ := mark_next i W ch
  have hv : vgoP (l ++ [⟨20, 0, 0, 0, i⟩]) ⟨0, 0, false⟩ = some ⟨(i : Int) + 1, 0, false⟩ := by
    rw [vgoP_app, hg]
    show (if (_ && nextOk ⟨i, W, ch⟩ (markOp i) false false) = true then vgoP [] (nextSt ⟨i, W, ch⟩ (markOp i)) else none) = _
    rw [m1, m2]; rfl
  refine ⟨⟨⟨0, false, hv⟩, by have := h.len; simp; omega, fun _ => ?_, fun o ho => ?_⟩, _, hv, rfl⟩
  · rcases Nat.eq_zero_or_pos i with h0 | h0
    · have : l = [] := List.eq_nil_of_length_eq_zero (by have := h.len; omega)
      subst this; rfl
    · rw [getD_app (h.pos h0)]; exact h.first h0
  · rcases List.mem_append.1 ho with ho | ho
    · exact h.un o ho
    · have : o = ⟨20, 0, 0, 0, i⟩ := by simpa using ho
      subst this
      exact ⟨by simp, by show (i : Int) < _; omega⟩
/-- .. and the operations of its instruction. -/
theorem Insns.ins {i : Nat} {l r : List IOp} (h : Insns i l) (hi : i ≤ 12) (hr : r.length ≤ 7) (hins : ∃ wr W ch, Ins ((i : Int) + 1) wr r W ch) : Insns (i + 1) (l ++ [⟨20, 0, 0, 0, i⟩] ++ r) := by
  obtain ⟨h1, s, h2, rfl⟩ := h.mark hi
  obtain ⟨wr, W, ch, hI⟩ := hins
  refine ⟨⟨W, ch, ?_⟩, by have := h.len; simp; omega, fun _ => ?_, fun o ho => ?_⟩
  · rw [vgoP_app, h2]; exact hI.go
  · rw [getD_app (by simp)]; exact h1.first (by omega)
  · rcases List.mem_append.1 ho with ho | ho
    · exact h1.un o ho
    · exact hI.un o ho
theorem valid_tail {i : Nat} {l r : List IOp} {at_ : List Int} {pg : Int} {q : IOp} (h : Insns i l) (hi : 1 ≤ i) (hi2 : i ≤ 12) (hp : 0 ≤ pg ∧ pg < 4096) (hr : r.length ≤ 10) (hs : ∀ s : ISt, s.marks = i → ∃ s', vgo (q :: r) s = some s' ∧ s'.marks = (at_.length : Int)) (ha : 1 ≤ at_.length ∧ at_.length ≤ 64) :
    validL ⟨at_, [pg], l ++ q :: r⟩ = true := by
  obtain ⟨W, ch, hg⟩ := h.go
  obtain ⟨s', h1, h2⟩ := hs ⟨i, W, ch⟩ rfl
  have hv : vrun (l ++ q :: r) (l ++ q :: r).length = some s' := by
    rw [vgo_run, vgo_of hg]; exact h1
  unfold validL
  dsimp only
  rw [hv]
  dsimp only
  rw [h2]
  have hh : headerL ⟨at_, [pg], l ++ q :: r⟩ = true := by
    unfold headerL
    dsimp only
    have hpg : pagesOk [pg] = true := by
      simp [pagesOk, pageBad]; omega
    have hc : ((l ++ q :: r).getD 0 noOp).code = 20 := by rw [getD_app (h.pos (by omega))]; exact h.first (by omega)
    have hl := h.len
    rw [hpg, hc]
    simp; omega
  rw [hh]; simp
theorem next_end {s : ISt} {o : IOp} (hF : okForm o = true) (hE : endsL o.code = true) (h20 : (o.code == 20) = false) (h23 : (o.code == 23) = false) (hL : shL o.code = false ∨ s.changed = false) (hR : ∀ v ∈ readsL o, v < 20) : nextOk s o true false = true ∧ (nextSt s o).marks = s.marks := by
  have hm : markL s o = s := by unfold markL; rw [h20]; rfl
  constructor
  · have e1 : okEnd s o true false = true := by
      unfold okEnd
      rw [hE, h23]
      rcases hL with h | h <;> simp [h]
    have e2 : okMark s o = true := by unfold okMark; rw [h20]; rfl
    have e3 : okReads (markL s o) o = true := by
      rw [hm]; unfold okReads
      rw [List.all_eq_true]
      intro v hv
      unfold tmpBad
      rw [decide_eq_false (by have := hR v hv; omega)]; rfl
    simp [nextOk, hF, e1, e2, e3]
  · unfold nextSt; rw [hm]
theorem vgo_one {s : ISt} {o : IOp} (h : nextOk s o true false = true ∧ (nextSt s o).marks = s.marks) : ∃ s', vgo [o] s = some s' ∧ s'.marks = s.marks := by
  refine ⟨nextSt s o, ?_, h.2⟩
  show (if nextOk s o true false then vgo [] (nextSt s o) else none) = _
  rw [h.1]; rfl
section
variable {i : Nat} {l : List IOp} {at_ : List Int} {pg : Int}
theorem made_slow {x : Int} (h : Insns i l) (hi : 1 ≤ i) (hi2 : i ≤ 12) (hp : 0 ≤ pg ∧ pg < 4096) (ha : at_.length = i) : validL ⟨at_ ++ [x], [pg], l ++ [⟨20, 0, 0, 0, i⟩, ⟨22, 0, 0, 0, 0⟩]⟩ = true :=
  valid_tail h hi hi2 hp (by simp) (fun s hs => by
    obtain ⟨m, W, ch⟩ := s
    have hm : m = i := hs
    subst hm
    obtain ⟨m1, m2⟩ := mark_next i W ch
    rw [vgo_more (show (20 : Int) ≠ 23 by decide)]
    rw [show nextOk ⟨i, W, ch⟩ ⟨20, 0, 0, 0, i⟩ false false = true from m1, if_pos rfl, show nextSt ⟨i, W, ch⟩ ⟨20, 0, 0, 0, i⟩ = _ from m2]
    obtain ⟨s', e1, e2⟩ := vgo_one (s := ⟨(i : Int) + 1, 0, false⟩) (o := ⟨22, 0, 0, 0, 0⟩) (next_end rfl rfl rfl rfl (.inr rfl) (fun v hv => by cases hv))
    exact ⟨s', e1, by rw [e2]; simp [ha]⟩) (by simp; omega)
theorem made_var {a : Int} (h : Insns i l) (hi : 1 ≤ i) (hi2 : i ≤ 12) (hp : 0 ≤ pg ∧ pg < 4096) (ha : at_.length = i) (h0 : 0 ≤ a ∧ a < 19) : validL ⟨at_, [pg], l ++ [⟨25, 0, a, 0, 0⟩]⟩ = true :=
  valid_tail h hi hi2 hp (by simp) (fun s hs => by
    obtain ⟨s', e1, e2⟩ := vgo_one (s := s) (o := ⟨25, 0, a, 0, 0⟩) (next_end (by
      show (shI 25 && fieldL (shD 25) 0 && fieldL (shA 25) a && fieldL (shB 25) 0 && _) = true
      rw [show shI 25 = true by decide, show shD 25 = false by decide, show shA 25 = true by decide, show shB 25 = false by decide, fieldT h0.1 (by omega) (by omega)]; rfl) rfl rfl rfl (.inl rfl) (fun v hv => by
        have : v = a := by simpa [readsL, shA, shB] using hv
        omega))
    exact ⟨s', e1, by rw [e2, hs, ha]⟩) (by omega)
theorem made_exit {x : Int} (h : Insns i l) (hi : 1 ≤ i) (hi2 : i ≤ 12) (hp : 0 ≤ pg ∧ pg < 4096) (ha : at_.length = i) : validL ⟨at_, [pg], l ++ [⟨24, 0, 0, 0, x⟩]⟩ = true :=
  valid_tail h hi hi2 hp (by simp) (fun s hs => by
    obtain ⟨s', e1, e2⟩ := vgo_exit s x
    exact ⟨s', e1, by rw [e2, hs, ha]⟩) (by omega)
theorem made_if {a x y : Int} (h : Insns i l) (hi : 1 ≤ i) (hi2 : i ≤ 12) (hp : 0 ≤ pg ∧ pg < 4096) (ha : at_.length = i) (h0 : 0 ≤ a ∧ a < 19) : validL ⟨at_, [pg], l ++ [⟨23, 0, a, 0, x⟩, ⟨24, 0, 0, 0, y⟩]⟩ = true :=
  valid_tail h hi hi2 hp (by simp) (fun s hs => by
    have hF : okForm ⟨23, 0, a, 0, x⟩ = true := by
      show (shI 23 && fieldL (shD 23) 0 && fieldL (shA 23) a && fieldL (shB 23) 0 && (shN 23 || _)) = true
      rw [show shI 23 = true by decide, show shD 23 = false by decide, show shA 23 = true by decide, show shB 23 = false by decide, show shN 23 = true by decide, fieldT h0.1 (by omega) (by omega)]; rfl
    have hn : nextOk s ⟨23, 0, a, 0, x⟩ false true = true := by
      have e3 : okReads (markL s ⟨23, 0, a, 0, x⟩) ⟨23, 0, a, 0, x⟩ = true := by
        unfold okReads
        rw [List.all_eq_true]
        intro v hv
        have : v = a := by simpa [readsL, shA, shB] using hv
        unfold tmpBad
        rw [decide_eq_false (by omega)]; rfl
      simp [nextOk, hF, e3, okEnd, okMark, endsL, shL]
    have hm : (nextSt s ⟨23, 0, a, 0, x⟩).marks = s.marks := rfl
    obtain ⟨s', e1, e2⟩ := vgo_exit (nextSt s ⟨23, 0, a, 0, x⟩) y
    refine ⟨s', ?_, by rw [e2, hm, hs, ha]⟩
    rw [vgo_cons]
    show (if nextOk s ⟨23, 0, a, 0, x⟩ false true then vgo [exitOp y] (nextSt s ⟨23, 0, a, 0, x⟩) else none) = _
    rw [hn]; exact e1) (by omega)
end
end Go.Proofs.YtojofinofpgopaaDoor
