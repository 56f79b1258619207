/- Plain: a block of one operation. -/
import Derived.Test.YtojofinofpgopaaPlCut
namespace Go.Proofs.Ytojofinofpgopaa
def tailL (o : IOp) : List IOp := if endsL o.code then [] else [exitOp 8]
def oneL (o : IOp) : IBlk := ⟨[4], [], [⟨20, 0, 0, 0, 0⟩, o] ++ tailL o⟩
/-- A step on variables that differ at k alone, which it does not read. -/
theorem step_agk {o : IOp} (hF : okForm o = true) {k : Nat} (hR : (k : Int) ∉ readsL o) (at_ : List Int) {s : EvOut} {l' : List Int} (hA : ∀ v : Nat, v ≠ k → s.vars.getD v 0 = l'.getD v 0) (cur : Int) (m : PM) :
    ∃ l'', evStepM at_ o { s with vars := l' } cur m = ((evStepM at_ o s cur m).1, { (evStepM at_ o s cur m).2.1 with vars := l'' }, (evStepM at_ o s cur m).2.2) ∧
      (((evStepM at_ o s cur m).2.1.vars = s.vars ∧ l'' = l' ∧ ((evStepM at_ o s cur m).1 = false → shD o.code = false)) ∨ ((evStepM at_ o s cur m).1 = false ∧ shD o.code = true ∧ ∃ x, (evStepM at_ o s cur m).2.1.vars = s.vars.set o.d.toNat x ∧ l'' = l'.set o.d.toNat x)) := by
  have hbd := reads_bd hF
  obtain ⟨⟨d0, d1⟩, _, _, e0, e1⟩ := form_bd hF
  have get : ∀ a, a ∈ readsL o → EvOut.get { s with vars := l' } a = s.get a := fun a ha => by
    have := hbd a ha
    obtain ⟨n, rfl⟩ := Int.eq_ofNat_of_zero_le this.1
    exact (hA n (fun e => hR (by rw [← e]; exact ha))).symm
  have gA : shA o.code = true → EvOut.get { s with vars := l' } o.a = s.get o.a := fun h => get _ (reads_A h)
  have gB : shA o.code = true → shB o.code = true → EvOut.get { s with vars := l' } o.b = s.get o.b := fun h h2 => get _ (reads_B h2 h)
  have hcs : o.code = 20 ∨ o.code = 1 ∨ o.code = 2 ∨ (3 ≤ o.code ∧ o.code ≤ 15) ∨ (o.code = 16 ∨ o.code = 17) ∨ (o.code = 18 ∨ o.code = 19) ∨ o.code = 21 ∨ o.code = 22 ∨ o.code = 23 ∨ o.code = 24 ∨ o.code = 25 := by omega
  rcases hcs with h | h | h | h | h | h | h | h | h | h | h
  · have ev : ∀ s : EvOut, evStepM at_ o s cur m = (false, s, o.n, m) := fun s => by rw [evStepM_other (by omega)]; simp [evStep, h]
    rw [ev, ev]
    exact ⟨l', rfl, .inl ⟨rfl, rfl, fun _ => by rw [h]; rfl⟩⟩
  · have ev : ∀ s : EvOut, evStepM at_ o s cur m = (false, s.set o.d o.n, cur, m) := fun s => by rw [evStepM_other (by omega)]; simp [evStep, h]
    rw [ev, ev]
    exact ⟨l'.set o.d.toNat o.n, rfl, .inr ⟨rfl, by rw [h]; rfl, _, rfl, rfl⟩⟩
  · have ev : ∀ s : EvOut, evStepM at_ o s cur m = (false, s.set o.d (s.get o.a), cur, m) := fun s => by rw [evStepM_other (by omega)]; simp [evStep, h]
    rw [ev, ev, gA (by rw [h]; rfl)]
    exact ⟨l'.set o.d.toNat (s.get o.a), rfl, .inr ⟨rfl, by rw [h]; rfl, _, rfl, rfl⟩⟩
  · have sA : shA o.code = true := by simp [shA]; omega
    have sB : shB o.code = true := by simp [shB]; omega
    have sD : shD o.code = true := by simp [shD]; omega
    have ev : ∀ s : EvOut, evStepM at_ o s cur m = (false, s.set o.d (wordOpL o.code (s.get o.a) (s.get o.b)), cur, m) := fun s => by
      rw [evStepM_other (by omega)]
      unfold evStep
      rw [if_neg (by omega), if_neg (by omega), if_neg (by omega), if_neg (by omega), if_neg (by omega), if_neg (by omega), if_neg (by omega), if_neg (by omega)]
    rw [ev, ev, gA sA, gB sA sB]
    exact ⟨l'.set o.d.toNat (wordOpL o.code (s.get o.a) (s.get o.b)), rfl, .inr ⟨rfl, sD, _, rfl, rfl⟩⟩
  · rw [evStepM_ld h, evStepM_ld h]
    have sA : shA o.code = true := by rcases h with h | h <;> rw [h] <;> rfl
    have sD : shD o.code = true := by rcases h with h | h <;> rw [h] <;> rfl
    rw [gA sA]
    cases ldP m (IntKind.u32.wrap (s.get o.a + o.n)) (szL o.code) with
    | none => exact ⟨l', rfl, .inl ⟨rfl, rfl, fun h => by cases h⟩⟩
    | some x => exact ⟨l'.set o.d.toNat x, rfl, .inr ⟨rfl, sD, _, rfl, rfl⟩⟩
  · rw [evStepM_st h, evStepM_st h]
    have sA : shA o.code = true := by rcases h with h | h <;> rw [h] <;> rfl
    have sB : shB o.code = true := by rcases h with h | h <;> rw [h] <;> rfl
    have sD : shD o.code = false := by rcases h with h | h <;> rw [h] <;> rfl
    rw [gA sA, gB sA sB]
    cases stP m (IntKind.u32.wrap (s.get o.a + o.n)) (s.get o.b) (szL o.code) with
    | none => exact ⟨l', rfl, .inl ⟨rfl, rfl, fun h => by cases h⟩⟩
    | some x => exact ⟨l', rfl, .inl ⟨rfl, rfl, fun _ => sD⟩⟩
  · have ev : ∀ s : EvOut, evStepM at_ o s cur m = if s.get o.a = 0 then (true, s.leave at_ cur, cur, m) else (false, s, cur, m) := fun s => by
      rw [evStepM_other (by omega)]; simp only [evStep, h]; by_cases hg : s.get o.a = 0 <;> simp [hg]
    rw [ev, ev, gA (by rw [h]; rfl)]
    split
    · exact ⟨l', rfl, .inl ⟨rfl, rfl, fun h => by cases h⟩⟩
    · exact ⟨l', rfl, .inl ⟨rfl, rfl, fun _ => by rw [h]; rfl⟩⟩
  · have ev : ∀ s : EvOut, evStepM at_ o s cur m = (true, s.leave at_ cur, cur, m) := fun s => by rw [evStepM_other (by omega)]; simp [evStep, h]
    rw [ev, ev]
    exact ⟨l', rfl, .inl ⟨rfl, rfl, fun h => by cases h⟩⟩
  · have ev : ∀ s : EvOut, evStepM at_ o s cur m = if s.get o.a = 0 then (false, s, cur, m) else (true, { s with pc := o.n }, cur, m) := fun s => by
      rw [evStepM_other (by omega)]; simp only [evStep, h]; by_cases hg : s.get o.a = 0 <;> simp [hg]
    rw [ev, ev, gA (by rw [h]; rfl)]
    split
    · exact ⟨l', rfl, .inl ⟨rfl, rfl, fun _ => by rw [h]; rfl⟩⟩
    · exact ⟨l', rfl, .inl ⟨rfl, rfl, fun h => by cases h⟩⟩
  · have ev : ∀ s : EvOut, evStepM at_ o s cur m = (false, { s with pc := o.n }, cur, m) := fun s => by rw [evStepM_other (by omega)]; simp [evStep, h]
    rw [ev, ev]
    exact ⟨l', rfl, .inl ⟨rfl, rfl, fun _ => by rw [h]; rfl⟩⟩
  · have ev : ∀ s : EvOut, evStepM at_ o s cur m = (false, { s with pc := s.get o.a }, cur, m) := fun s => by rw [evStepM_other (by omega)]; simp [evStep, h]
    rw [ev, ev, gA (by rw [h]; rfl)]
    exact ⟨l', rfl, .inl ⟨rfl, rfl, fun _ => by rw [h]; rfl⟩⟩
/-- The memory changes by a store alone. -/
theorem step_mem {at_ : List Int} {o : IOp} {s : EvOut} {cur : Int} {m : PM} (h : o.code ≠ 18 ∧ o.code ≠ 19) : (evStepM at_ o s cur m).2.2.2 = m := by
  by_cases h1 : o.code = 16 ∨ o.code = 17
  · rw [evStepM_ld h1]; split <;> rfl
  · rw [evStepM_other (by omega)]
def fixP (o : IOp) (s : EvOut) : EvOut := if endsL o.code then s else { s with pc := 8 }
theorem one_eval {o : IOp} (hv : validL (oneL o) = true) (v : List Int) (m : PM) :
    evalM (oneL o) v m = ((if (evStepM [4] o ⟨false, 0, 1, 0, v⟩ 0 m).1 then (evStepM [4] o ⟨false, 0, 1, 0, v⟩ 0 m).2.1 else fixP o (evStepM [4] o ⟨false, 0, 1, 0, v⟩ 0 m).2.1).guests, (evStepM [4] o ⟨false, 0, 1, 0, v⟩ 0 m).2.2.2) := by
  rw [evalM, if_pos hv]
  have h1 : evGoM (oneL o).at_ (oneL o).ops ⟨false, 0, (oneL o).at_.length, 0, v⟩ 0 m = evGoM [4] (o :: tailL o) ⟨false, 0, 1, 0, v⟩ 0 m := by
    have ev : evStepM [4] (⟨20, 0, 0, 0, 0⟩ : IOp) ⟨false, 0, 1, 0, v⟩ 0 m = (false, ⟨false, 0, 1, 0, v⟩, 0, m) := by rw [evStepM_other (by show (20 : Int) < 16 ∨ 19 < (20 : Int); omega)]; rfl
    show evGoM [4] (⟨20, 0, 0, 0, 0⟩ :: (o :: tailL o)) ⟨false, 0, 1, 0, v⟩ 0 m = _
    rw [go_cons ev]
  rw [h1]
  rcases hq : evStepM [4] o ⟨false, 0, 1, 0, v⟩ 0 m with ⟨b, s', c', m1⟩
  cases b
  · rw [go_cons hq]
    unfold tailL fixP
    by_cases he : endsL o.code = true
    · simp [he, evGoM]
    · simp [he, go_exit]
  · rw [evGoM, hq]; rfl
theorem one_valid {o : IOp} (h1 : 1 ≤ o.code) (h2 : o.code ≤ 25) (h20 : o.code ≠ 20) (hd : 0 ≤ o.d ∧ o.d < 19) (ha : 0 ≤ o.a ∧ o.a < 19) (hb : 0 ≤ o.b ∧ o.b < 19) (zd : shD o.code = false → o.d = 0) (za : shA o.code = false → o.a = 0) (zb : shB o.code = false → o.b = 0) (zn : shN o.code = false → o.n = 0) : validL (oneL o) = true := by
  have fld : ∀ (b : Bool) (v : Int), 0 ≤ v ∧ v < 19 → (b = false → v = 0) → fieldL b v = true := fun b v hv hz => by
    cases b
    · rw [hz rfl]; rfl
    · unfold fieldL; simp; omega
  have hF : okForm o = true := by
    unfold okForm
    rw [fld _ _ hd zd, fld _ _ ha za, fld _ _ hb zb]
    have : shI o.code = true := by simp [shI]; omega
    rw [this]
    cases hn : shN o.code
    · rw [zn hn]; rfl
    · rfl
  have hM : ∀ st : ISt, okMark st o = true := fun st => by simp [okMark, h20]
  have hmk : ∀ st : ISt, markL st o = st := fun st => by unfold markL; rw [if_neg (by simpa using h20)]
  have hR : ∀ st : ISt, okReads (markL st o) o = true := fun st => by
    rw [okReads, List.all_eq_true]
    intro v hv
    have : v = o.a ∨ v = o.b := by
      simp only [readsL, List.mem_append] at hv
      rcases hv with hv | hv
      · split at hv
        · exact .inl (by simpa using hv)
        · cases hv
      · split at hv
        · exact .inr (by simpa using hv)
        · cases hv
    rw [tmp_low (by rcases this with h | h <;> omega)]; rfl
  have hm0 : vgo (oneL o).ops ⟨0, 0, false⟩ = vgo (o :: tailL o) ⟨1, 0, false⟩ := by
    show vgo (⟨20, 0, 0, 0, 0⟩ :: (o :: tailL o)) ⟨0, 0, false⟩ = _
    have := (mark_next 0 0 false).1
    rw [vgo_more (by show (20 : Int) ≠ 23; decide)]
    have e : (markOp 0) = (⟨20, 0, 0, 0, 0⟩ : IOp) := rfl
    rw [← e]
    have h3 := mark_next 0 0 false
    have h4 : nextOk ⟨0, 0, false⟩ (markOp 0) false false = true := h3.1
    rw [if_pos h4]
    have h5 : nextSt ⟨0, 0, false⟩ (markOp 0) = ⟨1, 0, false⟩ := h3.2
    rw [h5]
  have hfin : ∃ fin, vgo (o :: tailL o) ⟨1, 0, false⟩ = some fin ∧ fin.marks = 1 := by
    by_cases he : endsL o.code = true
    · have ht : tailL o = [] := by unfold tailL; rw [if_pos he]
      rw [ht, vgo_cons']
      have hE : okEnd ⟨1, 0, false⟩ o true false = true := by
        have h23 : (o.code == 23) = false := by simp [endsL] at he; simp; omega
        simp [okEnd, he, h23]
      have : nextOk ⟨1, 0, false⟩ o ([] : List IOp).isEmpty (hd24 []) = true := by
        show nextOk ⟨1, 0, false⟩ o true false = true
        simp [nextOk, hF, hE, hM, hR]
      rw [if_pos this]
      exact ⟨_, rfl, (next_other h20).1⟩
    · have ht : tailL o = [exitOp 8] := by unfold tailL; rw [if_neg he]
      rw [ht, vgo_cons']
      have hE : okEnd ⟨1, 0, false⟩ o false true = true := by simp [okEnd, he]
      have : nextOk ⟨1, 0, false⟩ o [exitOp 8].isEmpty (hd24 [exitOp 8]) = true := by
        show nextOk ⟨1, 0, false⟩ o false true = true
        simp [nextOk, hF, hE, hM, hR]
      rw [if_pos this]
      obtain ⟨st2, e1, e2⟩ := vgo_exit (nextSt ⟨1, 0, false⟩ o) 8
      exact ⟨st2, e1, by rw [e2]; exact (next_other h20).1⟩
  obtain ⟨fin, f1, f2⟩ := hfin
  refine valid_of ?_ (hm0.trans f1) f2
  unfold headerL oneL tailL
  split <;> rfl
structure EffL (o : IOp) (k : Nat) (v v' : List Int) (m : PM) : Prop where
  keep : ∀ j : Nat, j < 19 → (j : Int) ≠ writesL o → (evalM (oneL o) v m).1.vars.getD j 0 = v.getD j 0
  mem : o.code ≠ 18 ∧ o.code ≠ 19 → (evalM (oneL o) v m).2 = m
  same : (k : Int) ∉ readsL o → (∀ j : Nat, j < 19 → j ≠ k → (evalM (oneL o) v' m).1.vars.getD j 0 = (evalM (oneL o) v m).1.vars.getD j 0) ∧ (evalM (oneL o) v' m).1.lv = (evalM (oneL o) v m).1.lv ∧ (evalM (oneL o) v' m).1.pc = (evalM (oneL o) v m).1.pc ∧
    ((k : Int) = writesL o → (evalM (oneL o) v m).1.lv = false → (evalM (oneL o) v m).1.vars.getD k 0 = (evalM (oneL o) v' m).1.vars.getD k 0) ∧ (evalM (oneL o) v' m).2 = (evalM (oneL o) v m).2
theorem guests_low {s : EvOut} (h : s.vars.length = 28) {j : Nat} (hj : j < 19) : s.guests.vars.getD j 0 = s.vars.getD j 0 := by
  rw [guests_gz h, List.getD_eq_getElem?_getD, List.getD_eq_getElem?_getD, List.getElem?_append_left (by rw [List.length_take]; omega), List.getElem?_take_of_lt hj]
theorem fixP_vars (o : IOp) (s : EvOut) : (fixP o s).vars = s.vars := by unfold fixP; split <;> rfl
theorem eff_law {o : IOp} (hv : validL (oneL o) = true) (hF : okForm o = true) {v : List Int} (hl : v.length = 28) (k : Nat) (hk : k < 19) (x : Int) (m : PM) : EffL o k v (v.set k x) m := by
  obtain ⟨⟨d0, d1⟩, _, _, _, _⟩ := form_bd hF
  have hw : shD o.code = true → writesL o = o.d := fun h => by simp [writesL, h]
  have hwN : shD o.code = false → writesL o = -1 := fun h => by simp [writesL, h]
  have e1 := one_eval hv v m
  have e2 := one_eval hv (v.set k x) m
  have hstep := fun (hR : (k : Int) ∉ readsL o) => step_agk hF hR [4] (s := ⟨false, 0, 1, 0, v⟩) (l' := v.set k x) (fun j hj => by rw [set_getD, if_neg (by omega)]) 0 m
  have hself : ∃ l'', ((evStepM [4] o ⟨false, 0, 1, 0, v⟩ 0 m).2.1.vars = v ∧ l'' = v ∧ ((evStepM [4] o ⟨false, 0, 1, 0, v⟩ 0 m).1 = false → shD o.code = false)) ∨ ((evStepM [4] o ⟨false, 0, 1, 0, v⟩ 0 m).1 = false ∧ shD o.code = true ∧ ∃ y, (evStepM [4] o ⟨false, 0, 1, 0, v⟩ 0 m).2.1.vars = v.set o.d.toNat y ∧ l'' = v.set o.d.toNat y) := by
    obtain ⟨l2, _, h⟩ := step_agk hF (k := 99) (fun h => by have := reads_bd hF _ h; omega) [4] (s := ⟨false, 0, 1, 0, v⟩) (l' := v) (fun j hj => rfl) 0 m
    exact ⟨l2, h⟩
  have hlen := evStepM_len [4] o ⟨false, 0, 1, 0, v⟩ 0 m
  rcases hq : evStepM [4] o ⟨false, 0, 1, 0, v⟩ 0 m with ⟨b, s1, c1, m1⟩
  rw [hq] at e1 hstep hself hlen
  dsimp only at e1 hstep hself hlen
  have hlen : s1.vars.length = 28 := by rw [hlen]; exact hl
  -- the variables behind
  have hvars : ∀ j : Nat, j < 19 → (evalM (oneL o) v m).1.vars.getD j 0 = s1.vars.getD j 0 := fun j hj => by
    rw [e1]
    cases b
    · show (fixP o s1).guests.vars.getD j 0 = _
      rw [guests_low (by rw [fixP_vars]; exact hlen) hj, fixP_vars]
    · exact guests_low hlen hj
  refine ⟨fun j hj hne => ?_, fun hS => ?_, fun hR => ?_⟩
  · rw [hvars j hj]
    obtain ⟨_, h | ⟨_, hD, y, h, _⟩⟩ := hself
    · rw [h.1]
    · rw [h, set_getD, if_neg]
      rw [hw hD] at hne
      omega
  · rw [e1]
    have := step_mem (at_ := [4]) (s := ⟨false, 0, 1, 0, v⟩) (cur := 0) (m := m) hS
    rw [hq] at this; exact this
  · obtain ⟨l2, h1, h2⟩ := hstep hR
    have hl2 : l2.length = 28 := by
      rcases h2 with ⟨_, h, _⟩ | ⟨_, _, y, _, h⟩ <;> rw [h] <;> simp [hl]
    have h1' : evStepM [4] o ⟨false, 0, 1, 0, v.set k x⟩ 0 m = (b, { s1 with vars := l2 }, c1, m1) := h1
    rw [h1'] at e2
    dsimp only at e2
    have hvars2 : ∀ j : Nat, j < 19 → (evalM (oneL o) (v.set k x) m).1.vars.getD j 0 = l2.getD j 0 := fun j hj => by
      rw [e2]
      cases b
      · show (fixP o { s1 with vars := l2 }).guests.vars.getD j 0 = _
        rw [guests_low (by rw [fixP_vars]; exact hl2) hj, fixP_vars]
      · exact guests_low (s := { s1 with vars := l2 }) hl2 hj
    refine ⟨fun j hj hne => ?_, ?_, ?_, fun hkw hlv => ?_, ?_⟩
    · rw [hvars j hj, hvars2 j hj]
      rcases h2 with ⟨g1, g2, _⟩ | ⟨_, _, y, g1, g2⟩
      · rw [g1, g2, set_getD, if_neg (by omega)]
      · rw [g1, g2, set_getD (v.set k x) o.d.toNat j y, set_getD v o.d.toNat j y, List.length_set, set_getD v k j x, if_neg (show ¬ (k = j ∧ j < v.length) by omega)]
    · rw [e1, e2]
      cases b
      · show (fixP o { s1 with vars := l2 }).lv = (fixP o s1).lv
        unfold fixP; split <;> rfl
      · rfl
    · rw [e1, e2]
      cases b
      · show (fixP o { s1 with vars := l2 }).pc = (fixP o s1).pc
        unfold fixP; split <;> rfl
      · rfl
    · have hD : shD o.code = true := by
        cases h : shD o.code
        · rw [hwN h] at hkw; omega
        · rfl
      rw [hvars k hk, hvars2 k hk]
      rw [hw hD] at hkw
      rcases h2 with ⟨g1, g2, g3⟩ | ⟨_, _, y, g1, g2⟩
      · exfalso
        cases b
        · rw [g3 rfl] at hD; cases hD
        · obtain ⟨_, hs⟩ := evStepM_stop hq
          rcases hs with ⟨_, rfl⟩ | ⟨h23, _, _⟩
          · rw [e1] at hlv; cases hlv
          · rw [h23] at hD; exact absurd hD (by decide)
      · rw [g1, g2, set_getD (v.set k x) o.d.toNat k y, set_getD v o.d.toNat k y, List.length_set, if_pos (show o.d.toNat = k ∧ k < v.length by omega), if_pos (show o.d.toNat = k ∧ k < v.length by omega)]
    · rw [e1, e2]
end Go.Proofs.Ytojofinofpgopaa
