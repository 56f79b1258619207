/- Plain: validity and evaluation along a list; the block of IrMany. -/
import Derived.Test.YtojofinofpgopaaIrG0
namespace Go.Proofs.Ytojofinofpgopaa
open Go.RowKit
/-- The check along the list. -/
def vgo : List IOp → ISt → Option ISt
  | [], s => some s
  | o :: r, s => if nextOk s o r.isEmpty (match r with | q :: _ => q.code == 24 | [] => false) then vgo r (nextSt s o) else none
theorem vgo_cons (o : IOp) (r : List IOp) (s : ISt) : vgo (o :: r) s = if nextOk s o r.isEmpty (match r with | q :: _ => q.code == 24 | [] => false) then vgo r (nextSt s o) else none := rfl
theorem vgo_step {ops : List IOp} {k : Nat} (hk : k < ops.length) (s : ISt) : vgo (ops.drop k) s = (vstep ops k s).bind (vgo (ops.drop (k + 1))) := by
  rw [List.drop_eq_getElem_cons hk, vgo_cons, ← getD_at (d := noOp) hk]
  have h1 : (ops.drop (k + 1)).isEmpty = decide (k + 1 = ops.length) := by
    rw [Bool.eq_iff_iff]; simp; omega
  have h2 : (match ops.drop (k + 1) with | q :: _ => q.code == 24 | [] => false) = (!decide (k + 1 = ops.length) && isExit ops (k + 1)) := by
    by_cases hl : k + 1 < ops.length
    · rw [List.drop_eq_getElem_cons hl]
      have : ¬ (k + 1 = ops.length) := by omega
      simp [isExit, hl, this]
    · have he : ops.drop (k + 1) = [] := List.drop_eq_nil_of_le (by omega)
      have : k + 1 = ops.length := by omega
      rw [he]; simp [this]
  rw [h1, h2]
  unfold vstep
  split <;> rfl
theorem vgo_all (ops : List IOp) : ∀ (d k : Nat), k + d = ops.length → vrun ops ops.length = (vrun ops k).bind (vgo (ops.drop k))
  | 0, k, h => by
    obtain rfl : k = ops.length := by omega
    rw [List.drop_length]
    cases vrun ops ops.length <;> rfl
  | d + 1, k, h => by
    rw [vgo_all ops d (k + 1) (by omega), vrun, Option.bind_assoc]
    cases vrun ops k with
    | none => rfl
    | some s => exact (vgo_step (by omega) s).symm
theorem vgo_run (ops : List IOp) : vrun ops ops.length = vgo ops ⟨0, 0, false⟩ := by
  rw [vgo_all ops ops.length 0 (by omega)]; rfl
theorem vgo_more {o q : IOp} {r : List IOp} {s : ISt} (h : o.code ≠ 23) : vgo (o :: q :: r) s = if nextOk s o false false then vgo (q :: r) (nextSt s o) else none := by
  rw [vgo_cons]
  have : ∀ x, nextOk s o false x = nextOk s o false false := fun x => by
    unfold nextOk okEnd
    have h' : (o.code == 23) = false := by simpa using h
    simp [h']
  show (if nextOk s o false (q.code == 24) then _ else _) = _
  rw [this]
def constOp (k : Nat) : IOp := ⟨1, (k : Int) % 19, 0, 0, k⟩
def markOp (i : Nat) : IOp := ⟨20, 0, 0, 0, i⟩
def exitOp (n : Int) : IOp := ⟨24, 0, 0, 0, n⟩
def consts (k : Nat) : List IOp := (List.range k).map constOp
def manyL (e i : Nat) : List IOp := (List.range i).flatMap fun i => markOp i :: consts e
def ats (i : Nat) : List Int := (List.range i).map fun (j : Nat) => (j : Int)
def manyBlk (f m : Nat) : IBlk := ⟨ats m, [], manyL f m ++ [exitOp 7]⟩
theorem manyL_succ (e i : Nat) : manyL e (i + 1) = manyL e i ++ (markOp i :: consts e) := by simp [manyL, List.range_succ]
theorem consts_succ (k : Nat) : consts (k + 1) = consts k ++ [constOp k] := by simp [consts, List.range_succ]
theorem consts_len (k : Nat) : (consts k).length = k := by simp [consts]
theorem manyL_len (e i : Nat) : (manyL e i).length = i * (e + 1) := by
  induction i with
  | zero => simp [manyL]
  | succ i ih => rw [manyL_succ, List.length_append, ih]; simp [consts, Nat.succ_mul]
theorem manyL_le {e i m : Nat} (hi : i ≤ m) (hm : m ≤ 70) (he : e ≤ 40) : (manyL e i).length ≤ 2870 := by
  rw [manyL_len]
  calc i * (e + 1) ≤ 70 * 41 := Nat.mul_le_mul (by omega) (by omega)
    _ = 2870 := by decide
theorem ats_succ (i : Nat) : ats (i + 1) = ats i ++ [(i : Int)] := by simp [ats, List.range_succ]
theorem const_next (s : ISt) (k : Nat) : nextOk s (constOp k) false false = true ∧ nextSt s (constOp k) = ⟨s.marks, s.written, true⟩ := by
  have hd : 0 ≤ (k : Int) % 19 ∧ (k : Int) % 19 < 19 := by omega
  have hw : writesL (constOp k) = (k : Int) % 19 := rfl
  constructor
  · have hF : okForm (constOp k) = true := by
      have hf : fieldL true ((k : Int) % 19) = true := by
        unfold fieldL
        rw [if_pos rfl, decide_eq_true hd.1, decide_eq_true (show (k : Int) % 19 < 28 by omega)]
        have : ((k : Int) % 19 == 19) = false := by rw [beq_eq_false_iff_ne]; omega
        rw [this]; rfl
      show (shI 1 && fieldL (shD 1) ((k : Int) % 19) && fieldL (shA 1) 0 && fieldL (shB 1) 0 && (shN 1 || _)) = true
      rw [show shD 1 = true by decide, hf, show shI 1 = true by decide, show shA 1 = false by decide, show shB 1 = false by decide, show shN 1 = true by decide]; rfl
    have hE : okEnd s (constOp k) false false = true := by simp [okEnd, constOp, endsL, shL]
    have hM : okMark s (constOp k) = true := by simp [okMark, constOp]
    have hR : okReads (markL s (constOp k)) (constOp k) = true := by simp [okReads, readsL, constOp, shA, shB]
    simp [nextOk, hF, hE, hM, hR]
  · have hmk : markL s (constOp k) = s := by simp [markL, constOp]
    unfold nextSt
    rw [hmk, hw, setW_low (d := (k : Int) % 19) (by omega)]
    have h20 : (k : Int) % 19 < 20 := by omega
    rw [decide_eq_true hd.1, decide_eq_true h20]; simp
theorem mark_next (i : Nat) (W : Int) (c : Bool) : nextOk ⟨i, W, c⟩ (markOp i) false false = true ∧ nextSt ⟨i, W, c⟩ (markOp i) = ⟨(i : Int) + 1, 0, false⟩ := by
  have hw : writesL (markOp i) = -1 := rfl
  constructor
  · have hF : okForm (markOp i) = true := by simp [okForm, markOp, shI, fieldL, shD, shA, shB, shN]
    have hE : okEnd ⟨i, W, c⟩ (markOp i) false false = true := by simp [okEnd, markOp, endsL, shL]
    have hM : okMark ⟨i, W, c⟩ (markOp i) = true := by simp [okMark, markOp]
    have hR : okReads (markL ⟨i, W, c⟩ (markOp i)) (markOp i) = true := by simp [okReads, readsL, markOp, shA, shB]
    simp [nextOk, hF, hE, hM, hR]
  · have hmk : markL ⟨i, W, c⟩ (markOp i) = ⟨(i : Int) + 1, 0, false⟩ := by simp [markL, markOp]
    unfold nextSt
    rw [hmk, hw, setW_low (by omega)]
    simp [markOp, shS]
theorem vgo_consts (q : IOp) (r : List IOp) : ∀ (l : List Nat) (s : ISt), ∃ c, vgo (l.map constOp ++ q :: r) s = vgo (q :: r) ⟨s.marks, s.written, c⟩
  | [], s => ⟨s.changed, rfl⟩
  | k :: l, s => by
    obtain ⟨c, hc⟩ := vgo_consts q r l ⟨s.marks, s.written, true⟩
    refine ⟨c, ?_⟩
    obtain ⟨h1, h2⟩ := const_next s k
    cases l with
    | nil => rw [List.map_cons, List.map_nil, List.cons_append, List.nil_append, vgo_more (by show (1 : Int) ≠ 23; decide), h1, if_pos rfl, h2]; exact hc
    | cons k2 l => rw [List.map_cons, List.cons_append, List.map_cons, List.cons_append, vgo_more (by show (1 : Int) ≠ 23; decide), h1, if_pos rfl, h2]; exact hc
theorem vgo_many (e : Nat) (q : IOp) (r : List IOp) : ∀ i, ∃ W c, vgo (manyL e i ++ q :: r) ⟨0, 0, false⟩ = vgo (q :: r) ⟨i, W, c⟩
  | 0 => ⟨0, false, by simp [manyL]⟩
  | i + 1 => by
    rw [manyL_succ, List.append_assoc, List.cons_append]
    obtain ⟨W, c, h⟩ := vgo_many e (markOp i) (consts e ++ q :: r) i
    rw [h]
    obtain ⟨h1, h2⟩ := mark_next i W c
    obtain ⟨c', h3⟩ := vgo_consts q r (List.range e) ⟨(i : Int) + 1, 0, false⟩
    refine ⟨0, c', ?_⟩
    have : ∃ q' r', consts e ++ q :: r = q' :: r' := by cases consts e <;> exact ⟨_, _, rfl⟩
    obtain ⟨q', r', hqr⟩ := this
    rw [hqr, vgo_more (by show (20 : Int) ≠ 23; decide), h1, if_pos rfl, h2, ← hqr]
    exact h3
theorem exit_next (s : ISt) (n : Int) : nextOk s (exitOp n) true false = true ∧ (nextSt s (exitOp n)).marks = s.marks := by
  constructor
  · have hF : okForm (exitOp n) = true := by simp [okForm, exitOp, shI, fieldL, shD, shA, shB, shN]
    have hE : okEnd s (exitOp n) true false = true := by simp [okEnd, exitOp, endsL, shL]
    have hM : okMark s (exitOp n) = true := by simp [okMark, exitOp]
    have hR : okReads (markL s (exitOp n)) (exitOp n) = true := by simp [okReads, readsL, exitOp, shA, shB]
    simp [nextOk, hF, hE, hM, hR]
  · simp [nextSt, markL, exitOp]
theorem vgo_exit (s : ISt) (n : Int) : ∃ s', vgo [exitOp n] s = some s' ∧ s'.marks = s.marks := by
  obtain ⟨h1, h2⟩ := exit_next s n
  refine ⟨nextSt s (exitOp n), ?_, h2⟩
  show (if nextOk s (exitOp n) true false then vgo [] (nextSt s (exitOp n)) else none) = _
  rw [h1]; rfl
def manyOk (f m : Nat) : Bool := decide (1 ≤ m) && decide (m ≤ 64) && decide ((manyL f m).length + 1 ≤ 2000)
theorem ats_len (i : Nat) : (ats i).length = i := by simp [ats]
theorem many_valid (f m : Nat) : validL (manyBlk f m) = manyOk f m := by
  obtain ⟨W, c, h1⟩ := vgo_many f (exitOp 7) [] m
  obtain ⟨s, h2, h3⟩ := vgo_exit ⟨m, W, c⟩ 7
  have hv : vrun (manyBlk f m).ops (manyBlk f m).ops.length = some s := by rw [vgo_run]; exact h1.trans h2
  have hm : s.marks == ((manyBlk f m).at_.length : Int) := by
    rw [h3]; show ((m : Int) == ((ats m).length : Int)) = true
    rw [ats_len]; simp
  unfold validL
  rw [hv]
  show (headerL (manyBlk f m) && (s.marks == ((manyBlk f m).at_.length : Int))) = _
  rw [hm, Bool.and_true]
  have hl : (manyBlk f m).ops.length = (manyL f m).length + 1 := by show (manyL f m ++ [exitOp 7]).length = _; simp
  have ha : (manyBlk f m).at_.length = m := ats_len m
  have hp : pagesOk (manyBlk f m).pages = true := rfl
  unfold headerL manyOk
  rw [hp, hl, ha]
  cases m with
  | zero => simp
  | succ m =>
    have hc : ((manyBlk f (m + 1)).ops.getD 0 noOp).code = 20 := by
      have : ∃ r, (manyBlk f (m + 1)).ops = markOp 0 :: r := by
        show ∃ r, manyL f (m + 1) ++ [exitOp 7] = markOp 0 :: r
        unfold manyL
        rw [List.range_succ_eq_map, List.flatMap_cons]
        exact ⟨_, rfl⟩
      obtain ⟨r, hr⟩ := this
      rw [hr]; rfl
    rw [hc]; simp
/-! ### Its evaluation -/
theorem ev_skip (at_ : List Int) (r : List IOp) : ∀ (l : List IOp) (s : EvOut) (cur : Int), (∀ o ∈ l, o.code = 20 ∨ o.code = 1) → ∃ vs cur', evGo at_ (l ++ r) s cur = evGo at_ r { s with vars := vs } cur'
  | [], s, cur, _ => ⟨s.vars, cur, rfl⟩
  | o :: l, s, cur, h => by
    rw [List.cons_append, evGo]
    rcases h o (List.mem_cons_self ..) with hc | hc
    · have he : evStep at_ o s cur = (false, s, o.n) := by unfold evStep; rw [if_pos hc]
      rw [he]
      exact ev_skip at_ r l s o.n (fun p hp => h p (List.mem_cons_of_mem _ hp))
    · have he : evStep at_ o s cur = (false, s.set o.d o.n, cur) := by unfold evStep; rw [if_neg (by rw [hc]; decide), if_pos hc]
      rw [he]
      obtain ⟨vs, cur', h'⟩ := ev_skip at_ r l (s.set o.d o.n) cur (fun p hp => h p (List.mem_cons_of_mem _ hp))
      exact ⟨vs, cur', h'⟩
theorem many_codes (f m : Nat) : ∀ o ∈ manyL f m, o.code = 20 ∨ o.code = 1 := by
  intro o ho
  unfold manyL at ho
  rw [List.mem_flatMap] at ho
  obtain ⟨i, _, hi⟩ := ho
  rcases List.mem_cons.1 hi with h | h
  · exact .inl (by rw [h]; rfl)
  · unfold consts at h
    obtain ⟨k, _, hk⟩ := List.mem_map.1 h
    exact .inr (by rw [← hk]; rfl)
theorem many_eval {f m : Nat} {vars : List Int} (h : manyOk f m = true) : (evalNil (manyBlk f m) vars).done = m ∧ (evalNil (manyBlk f m) vars).pc = 7 := by
  unfold evalNil
  rw [many_valid, h, if_pos rfl]
  obtain ⟨vs, cur, he⟩ := ev_skip (ats m) [exitOp 7] (manyL f m) ⟨false, 0, (ats m).length, 0, vars⟩ 0 (many_codes f m)
  show ((evGo (ats m) (manyL f m ++ [exitOp 7]) ⟨false, 0, (ats m).length, 0, vars⟩ 0).guests).done = _ ∧ ((evGo (ats m) (manyL f m ++ [exitOp 7]) ⟨false, 0, (ats m).length, 0, vars⟩ 0).guests).pc = _
  rw [he]
  have : evGo (ats m) [exitOp 7] { (⟨false, 0, (ats m).length, 0, vars⟩ : EvOut) with vars := vs } cur = ⟨false, 0, (ats m).length, 7, vs⟩ := rfl
  rw [this]
  exact ⟨by show ((ats m).length : Int) = m; rw [ats_len], rfl⟩
end Go.Proofs.Ytojofinofpgopaa
