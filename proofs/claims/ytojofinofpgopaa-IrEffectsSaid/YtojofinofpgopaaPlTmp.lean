/- Plain: the outcome of a valid block does not depend on the temporaries. -/
import Derived.Test.YtojofinofpgopaaMgR
import Derived.Test.YtojofinofpgopaaMgP
namespace Go.Proofs.Ytojofinofpgopaa
/-- Equal at the guest's variables, and at the temporaries that have been written. -/
def Ag (W : Int) (l l' : List Int) : Prop := l.length = l'.length ∧ ∀ v : Nat, v ≠ 19 → tmpBad W v = false → l.getD v 0 = l'.getD v 0
theorem tmp_low {W v : Int} (h : v < 20) : tmpBad W v = false := by
  unfold tmpBad; rw [decide_eq_false (by omega)]; rfl
theorem Ag.zero {W : Int} {l l' : List Int} (h : Ag W l l') : Ag 0 l l' := ⟨h.1, fun v hv ht => h.2 v hv (by
  rcases Nat.lt_or_ge v 20 with h1 | h1
  · exact tmp_low (by omega)
  · exfalso
    unfold tmpBad at ht
    rw [decide_eq_true (by omega)] at ht
    have e : (0 : Int) / 2 ^ (v : Int).toNat = 0 := Int.zero_ediv _
    rw [e] at ht
    exact absurd ht (by decide))⟩
theorem set_getD (l : List Int) (i v : Nat) (x : Int) : (l.set i x).getD v 0 = if i = v ∧ v < l.length then x else l.getD v 0 := by
  simp only [List.getD_eq_getElem?_getD, List.getElem?_set]
  by_cases h : i = v
  · subst h
    by_cases h2 : i < l.length
    · simp [h2]
    · simp [h2, List.getElem?_eq_none (show l.length ≤ i by omega)]
  · simp [h]
theorem Ag.set {W : Nat} (hW : W < 4294967296) {l l' : List Int} (h : Ag W l l') {d : Int} (d0 : 0 ≤ d) (d1 : d < 28) (x : Int) : Ag (setW W d) (l.set d.toNat x) (l'.set d.toNat x) := by
  refine ⟨by rw [List.length_set, List.length_set]; exact h.1, fun v hv ht => ?_⟩
  rw [set_getD, set_getD, h.1]
  split
  · rfl
  · rename_i hne
    by_cases hvd : d.toNat = v
    · have hge : ¬ v < l'.length := fun h => hne ⟨hvd, h⟩
      rw [List.getD_eq_getElem?_getD, List.getD_eq_getElem?_getD, List.getElem?_eq_none (by rw [h.1]; omega), List.getElem?_eq_none (by omega)]
    · refine h.2 v hv ?_
      rcases Nat.lt_or_ge v 20 with h1 | h1
      · exact tmp_low (by omega)
      · by_cases h20 : 20 ≤ d
        · obtain ⟨n, rfl⟩ := Int.eq_ofNat_of_zero_le d0
          rw [setW_nat hW (by omega) (by omega), tmpBad_nat (or_lt hW (by omega)) h1] at ht
          rw [tmpBad_nat hW h1]
          rw [Nat.testBit_or, Nat.testBit_two_pow] at ht
          have : n ≠ v := fun e => hvd (by simp [e])
          simpa [this] using ht
        · rw [setW_low (by omega)] at ht; exact ht
theorem setW_nat' {W : Nat} (hW : W < 4294967296) {d : Int} (hd : d < 28) (hd1 : -1 ≤ d) : ∃ W' : Nat, setW W d = W' ∧ W' < 4294967296 := by
  by_cases h20 : 20 ≤ d
  · obtain ⟨n, rfl⟩ := Int.eq_ofNat_of_zero_le (show 0 ≤ d by omega)
    exact ⟨_, setW_nat hW (by omega) (by omega), or_lt hW (by omega)⟩
  · exact ⟨W, setW_low (by omega), hW⟩
theorem reads_A {o : IOp} (h : shA o.code = true) : o.a ∈ readsL o := by simp [readsL, h]
theorem reads_B {o : IOp} (h : shB o.code = true) (hA : shA o.code = true) : o.b ∈ readsL o := by
  by_cases e : o.b = o.a
  · rw [e]; exact reads_A hA
  · simp [readsL, h, hA, e]
theorem get_ag {W : Int} {s : EvOut} {l' : List Int} (h : Ag W s.vars l') {a : Int} (h0 : 0 ≤ a) (h19 : a ≠ 19) (ht : tmpBad W a = false) : EvOut.get { s with vars := l' } a = s.get a := by
  obtain ⟨n, rfl⟩ := Int.eq_ofNat_of_zero_le h0
  exact (h.2 n (by omega) ht).symm
/-- What a step's result agrees in. -/
def AgR (W : Int) (o : IOp) (r : Bool × EvOut × Int × PM) (l'' : List Int) : Prop := if r.1 then Ag 0 r.2.1.vars l'' else Ag (setW W (writesL o)) r.2.1.vars l''
theorem step_ag {o : IOp} (hF : okForm o = true) {W : Nat} (hW : W < 4294967296) (hR : ∀ v ∈ readsL o, tmpBad W v = false) (at_ : List Int) {s : EvOut} {l' : List Int} (hA : Ag W s.vars l') (cur : Int) (m : PM) :
    ∃ l'', evStepM at_ o { s with vars := l' } cur m = ((evStepM at_ o s cur m).1, { (evStepM at_ o s cur m).2.1 with vars := l'' }, (evStepM at_ o s cur m).2.2) ∧ AgR W o (evStepM at_ o s cur m) l'' := by
  have hbd := reads_bd hF
  obtain ⟨⟨d0, d1⟩, _, _, e0, e1⟩ := form_bd hF
  have gA : shA o.code = true → EvOut.get { s with vars := l' } o.a = s.get o.a := fun h => by
    have := hbd _ (reads_A h)
    exact get_ag hA this.1 this.2.2 (hR _ (reads_A h))
  have gB : shA o.code = true → shB o.code = true → EvOut.get { s with vars := l' } o.b = s.get o.b := fun h h2 => by
    have := hbd _ (reads_B h2 h)
    exact get_ag hA this.1 this.2.2 (hR _ (reads_B h2 h))
  have wD : shD o.code = true → writesL o = o.d := fun h => by simp [writesL, h]
  have wN : shD o.code = false → setW W (writesL o) = W := fun h => by simp [writesL, h, setW]
  have keep : ∀ x, shD o.code = true → Ag (setW W (writesL o)) (s.vars.set o.d.toNat x) (l'.set o.d.toNat x) := fun x h => by rw [wD h]; exact hA.set hW d0 d1 x
  have same : shD o.code = false → Ag (setW W (writesL o)) s.vars l' := fun h => by rw [wN h]; exact hA
  have hz := hA.zero
  have hcs : o.code = 20 ∨ o.code = 1 ∨ o.code = 2 ∨ (3 ≤ o.code ∧ o.code ≤ 15) ∨ (o.code = 16 ∨ o.code = 17) ∨ (o.code = 18 ∨ o.code = 19) ∨ o.code = 21 ∨ o.code = 22 ∨ o.code = 23 ∨ o.code = 24 ∨ o.code = 25 := by omega
  rcases hcs with h | h | h | h | h | h | h | h | h | h | h
  · have ev : ∀ s : EvOut, evStepM at_ o s cur m = (false, s, o.n, m) := fun s => by rw [evStepM_other (by omega)]; simp [evStep, h]
    rw [ev, ev]
    exact ⟨l', rfl, same (by rw [h]; rfl)⟩
  · have ev : ∀ s : EvOut, evStepM at_ o s cur m = (false, s.set o.d o.n, cur, m) := fun s => by rw [evStepM_other (by omega)]; simp [evStep, h]
    rw [ev, ev]
    exact ⟨l'.set o.d.toNat o.n, rfl, keep _ (by rw [h]; rfl)⟩
  · have ev : ∀ s : EvOut, evStepM at_ o s cur m = (false, s.set o.d (s.get o.a), cur, m) := fun s => by rw [evStepM_other (by omega)]; simp [evStep, h]
    rw [ev, ev, gA (by rw [h]; rfl)]
    exact ⟨l'.set o.d.toNat (s.get o.a), rfl, keep _ (by rw [h]; rfl)⟩
  · have sA : shA o.code = true := by simp [shA]; omega
    have sB : shB o.code = true := by simp [shB]; omega
    have sD : shD o.code = true := by simp [shD]; omega
    have ev : ∀ s : EvOut, evStepM at_ o s cur m = (false, s.set o.d (wordOpL o.code (s.get o.a) (s.get o.b)), cur, m) := fun s => by
      rw [evStepM_other (by omega)]
      unfold evStep
      rw [if_neg (by omega), if_neg (by omega), if_neg (by omega), if_neg (by omega), if_neg (by omega), if_neg (by omega), if_neg (by omega), if_neg (by omega)]
    rw [ev, ev, gA sA, gB sA sB]
    exact ⟨l'.set o.d.toNat (wordOpL o.code (s.get o.a) (s.get o.b)), rfl, keep _ sD⟩
  · rw [evStepM_ld h, evStepM_ld h]
    have sA : shA o.code = true := by rcases h with h | h <;> rw [h] <;> rfl
    have sD : shD o.code = true := by rcases h with h | h <;> rw [h] <;> rfl
    rw [gA sA]
    cases ldP m (IntKind.u32.wrap (s.get o.a + o.n)) (szL o.code) with
    | none => exact ⟨l', rfl, hz⟩
    | some x => exact ⟨l'.set o.d.toNat x, rfl, keep _ sD⟩
  · rw [evStepM_st h, evStepM_st h]
    have sA : shA o.code = true := by rcases h with h | h <;> rw [h] <;> rfl
    have sB : shB o.code = true := by rcases h with h | h <;> rw [h] <;> rfl
    have sD : shD o.code = false := by rcases h with h | h <;> rw [h] <;> rfl
    rw [gA sA, gB sA sB]
    cases stP m (IntKind.u32.wrap (s.get o.a + o.n)) (s.get o.b) (szL o.code) with
    | none => exact ⟨l', rfl, hz⟩
    | some x => exact ⟨l', rfl, same sD⟩
  · have ev : ∀ s : EvOut, evStepM at_ o s cur m = if s.get o.a = 0 then (true, s.leave at_ cur, cur, m) else (false, s, cur, m) := fun s => by
      rw [evStepM_other (by omega)]; simp only [evStep, h]; by_cases hg : s.get o.a = 0 <;> simp [hg]
    rw [ev, ev, gA (by rw [h]; rfl)]
    split
    · exact ⟨l', rfl, hz⟩
    · exact ⟨l', rfl, same (by rw [h]; rfl)⟩
  · have ev : ∀ s : EvOut, evStepM at_ o s cur m = (true, s.leave at_ cur, cur, m) := fun s => by rw [evStepM_other (by omega)]; simp [evStep, h]
    rw [ev, ev]
    exact ⟨l', rfl, hz⟩
  · have ev : ∀ s : EvOut, evStepM at_ o s cur m = if s.get o.a = 0 then (false, s, cur, m) else (true, { s with pc := o.n }, cur, m) := fun s => by
      rw [evStepM_other (by omega)]; simp only [evStep, h]; by_cases hg : s.get o.a = 0 <;> simp [hg]
    rw [ev, ev, gA (by rw [h]; rfl)]
    split
    · exact ⟨l', rfl, same (by rw [h]; rfl)⟩
    · exact ⟨l', rfl, hz⟩
  · have ev : ∀ s : EvOut, evStepM at_ o s cur m = (false, { s with pc := o.n }, cur, m) := fun s => by rw [evStepM_other (by omega)]; simp [evStep, h]
    rw [ev, ev]
    exact ⟨l', rfl, same (by rw [h]; rfl)⟩
  · have ev : ∀ s : EvOut, evStepM at_ o s cur m = (false, { s with pc := s.get o.a }, cur, m) := fun s => by rw [evStepM_other (by omega)]; simp [evStep, h]
    rw [ev, ev, gA (by rw [h]; rfl)]
    exact ⟨l', rfl, same (by rw [h]; rfl)⟩
theorem next_parts {st : ISt} {o : IOp} {last exit : Bool} (h : nextOk st o last exit = true) : okForm o = true ∧ okEnd st o last exit = true ∧ okMark st o = true ∧ ∀ v ∈ readsL o, tmpBad (markL st o).written v = false := by
  simp only [nextOk, Bool.and_eq_true] at h
  refine ⟨h.1.1.1, h.1.1.2, h.1.2, fun v hv => ?_⟩
  have := h.2
  rw [okReads, List.all_eq_true] at this
  simpa using this v hv
def hd24 (r : List IOp) : Bool := match r with | q :: _ => q.code == 24 | [] => false
theorem vgo_cons' (o : IOp) (r : List IOp) (s : ISt) : vgo (o :: r) s = if nextOk s o r.isEmpty (hd24 r) then vgo r (nextSt s o) else none := rfl
theorem vgo_ok {o : IOp} {r : List IOp} {s fin : ISt} (h : vgo (o :: r) s = some fin) : nextOk s o r.isEmpty (hd24 r) = true ∧ vgo r (nextSt s o) = some fin := by
  rw [vgo_cons'] at h
  by_cases hok : nextOk s o r.isEmpty (hd24 r) = true
  · rw [if_pos hok] at h; exact ⟨hok, h⟩
  · rw [if_neg hok] at h; cases h
theorem go_ag (at_ : List Int) : ∀ (ops : List IOp) (st : ISt) (W : Nat), st.written = W → W < 4294967296 → (∃ fin, vgo ops st = some fin) → ∀ (s : EvOut) (l' : List Int) (cur : Int) (m : PM), Ag W s.vars l' →
    ∃ l'', evGoM at_ ops { s with vars := l' } cur m = ({ (evGoM at_ ops s cur m).1 with vars := l'' }, (evGoM at_ ops s cur m).2) ∧ Ag 0 (evGoM at_ ops s cur m).1.vars l''
  | [], _, _, _, _, _, s, l', cur, m, hA => ⟨l', rfl, hA.zero⟩
  | o :: r, st, W, hst, hW, ⟨fin, hv⟩, s, l', cur, m, hA => by
    obtain ⟨hok, hv⟩ := vgo_ok hv
    obtain ⟨hF, _, _, hR⟩ := next_parts hok
    obtain ⟨W1, hW1e, hW1, hA1⟩ : ∃ W1 : Nat, (markL st o).written = W1 ∧ W1 < 4294967296 ∧ Ag W1 s.vars l' := by
      unfold markL
      split
      · exact ⟨0, rfl, by decide, hA.zero⟩
      · exact ⟨W, hst, hW, hA⟩
    rw [hW1e] at hR
    obtain ⟨w1, w2, _⟩ := writes_bd hF
    obtain ⟨W2, hW2e, hW2⟩ := setW_nat' hW1 w1 w2
    have hst2 : (nextSt st o).written = W2 := by show setW (markL st o).written (writesL o) = _; rw [hW1e, hW2e]
    obtain ⟨l2, hs, hag⟩ := step_ag hF hW1 hR at_ hA1 cur m
    rw [evGoM, evGoM, hs]
    rcases hq : evStepM at_ o s cur m with ⟨b, s', c', m'⟩
    rw [hq] at hag
    cases b
    · simp only [AgR, Bool.false_eq_true, if_false, hW2e] at hag
      exact go_ag at_ r (nextSt st o) W2 hst2 hW2 ⟨fin, hv⟩ s' l2 c' m' hag
    · simp only [AgR, if_true] at hag
      exact ⟨l2, rfl, hag⟩
theorem guests_gz {s : EvOut} (h : s.vars.length = 28) : s.guests.vars = s.vars.take 19 ++ List.replicate 9 0 := by
  obtain ⟨a, b, c, d, l⟩ := s
  match l, h with
  | [v0, v1, v2, v3, v4, v5, v6, v7, v8, v9, v10, v11, v12, v13, v14, v15, v16, v17, v18, v19, v20, v21, v22, v23, v24, v25, v26, v27], _ => rfl
theorem take_ext {l l' : List Int} (hl : l.length = 28) (hl' : l'.length = 28) (h : ∀ v : Nat, v < 19 → l.getD v 0 = l'.getD v 0) : l.take 19 = l'.take 19 := by
  apply List.ext_getElem
  · simp [hl, hl']
  · intro i h1 h2
    have hi : i < 19 := by simp [hl] at h1; omega
    have := h i hi
    rw [List.getD_eq_getElem?_getD, List.getD_eq_getElem?_getD, List.getElem?_eq_getElem (by omega), List.getElem?_eq_getElem (by omega)] at this
    simpa using this
theorem guests_eq {s : EvOut} {l' : List Int} (h : s.vars.length = 28) (hA : Ag 0 s.vars l') : EvOut.guests { s with vars := l' } = s.guests := by
  have hl' : l'.length = 28 := by rw [← hA.1, h]
  have e : (EvOut.guests { s with vars := l' }).vars = s.guests.vars := by
    rw [guests_gz h, guests_gz (s := { s with vars := l' }) hl', take_ext h hl' fun v hv => hA.2 v (by omega) (tmp_low (by omega))]
  obtain ⟨a, b, c, d, l⟩ := s
  show (⟨a, b, c, d, _⟩ : EvOut) = ⟨a, b, c, d, _⟩
  exact congrArg _ e
/-- The temporaries do not matter. -/
theorem evalM_tmp (b : IBlk) {v v' : List Int} (hv : v.length = 28) (hv' : v'.length = 28) (h : ∀ i : Nat, i < 19 → v.getD i 0 = v'.getD i 0) (m : PM) : evalM b v' m = evalM b v m := by
  unfold evalM
  cases hval : validL b
  · rfl
  · simp only [if_true]
    have hrun : ∃ fin, vgo b.ops ⟨0, 0, false⟩ = some fin := by
      unfold validL at hval
      simp only [Bool.and_eq_true] at hval
      have h2 := hval.2
      split at h2
      · rename_i s hs
        exact ⟨s, by rw [← vgo_run]; exact hs⟩
      · cases h2
    have hA : Ag ((0 : Nat) : Int) v v' := ⟨by rw [hv, hv'], fun i hi ht => by
      rcases Nat.lt_or_ge i 20 with h1 | h1
      · exact h i (by omega)
      · exfalso
        rw [tmpBad_nat (by decide) h1] at ht
        simp at ht⟩
    obtain ⟨l2, he, hag⟩ := go_ag b.at_ b.ops ⟨0, 0, false⟩ 0 rfl (by decide) hrun ⟨false, 0, b.at_.length, 0, v⟩ v' 0 m hA
    have he' : evGoM b.at_ b.ops ⟨false, 0, b.at_.length, 0, v'⟩ 0 m = ({ (evGoM b.at_ b.ops ⟨false, 0, b.at_.length, 0, v⟩ 0 m).1 with vars := l2 }, (evGoM b.at_ b.ops ⟨false, 0, b.at_.length, 0, v⟩ 0 m).2) := he
    rw [he', guests_eq (by rw [evGoM_len]; exact hv) hag]
/-- They are 0 afterwards. -/
theorem evalM_zero (b : IBlk) {v : List Int} (hv : v.length = 28) (m : PM) (i : Nat) (hi : 19 ≤ i) : (evalM b v m).1.vars.getD i 0 = 0 := by
  unfold evalM
  split
  · show (EvOut.guests _).vars.getD i 0 = 0
    rw [guests_gz (by rw [evGoM_len]; exact hv), List.getD_eq_getElem?_getD, List.getElem?_append_right (by rw [List.length_take, evGoM_len]; omega), List.getElem?_replicate]
    split <;> rfl
  · show (List.replicate 28 (0 : Int)).getD i 0 = 0
    rw [List.getD_eq_getElem?_getD, List.getElem?_replicate]; split <;> rfl
end Go.Proofs.Ytojofinofpgopaa
