/- Plain: a block that is left, and the block of the instructions before. -/
import Derived.Test.YtojofinofpgopaaPlTmp
namespace Go.Proofs.Ytojofinofpgopaa
/-- A step that goes on: the same with another number of instructions; what it turns. -/
theorem step_shape {at_ : List Int} {o : IOp} (hF : okForm o = true) {s s' : EvOut} {cur c' : Int} {m m' : PM} (h : evStepM at_ o s cur m = (false, s', c', m')) :
    (∀ at2 d, evStepM at2 o { s with done := d } cur m = (false, { s' with done := d }, c', m')) ∧ (shS o.code = false → m' = m) ∧ (s'.vars = s.vars ∨ shD o.code = true ∧ ∃ x, s'.vars = s.vars.set o.d.toNat x) := by
  obtain ⟨_, _, _, e0, e1⟩ := form_bd hF
  have hcs : o.code = 20 ∨ o.code = 1 ∨ o.code = 2 ∨ (3 ≤ o.code ∧ o.code ≤ 15) ∨ (o.code = 16 ∨ o.code = 17) ∨ (o.code = 18 ∨ o.code = 19) ∨ o.code = 21 ∨ o.code = 22 ∨ o.code = 23 ∨ o.code = 24 ∨ o.code = 25 := by omega
  rcases hcs with hc | hc | hc | hc | hc | hc | hc | hc | hc | hc | hc
  · have ev : ∀ at_ (s : EvOut), evStepM at_ o s cur m = (false, s, o.n, m) := fun at_ s => by rw [evStepM_other (by omega)]; simp [evStep, hc]
    rw [ev] at h; cases h
    exact ⟨fun at2 d => ev _ _, fun _ => rfl, .inl rfl⟩
  · have ev : ∀ at_ (s : EvOut), evStepM at_ o s cur m = (false, s.set o.d o.n, cur, m) := fun at_ s => by rw [evStepM_other (by omega)]; simp [evStep, hc]
    rw [ev] at h; cases h
    exact ⟨fun at2 d => ev _ _, fun _ => rfl, .inr ⟨by rw [hc]; rfl, _, rfl⟩⟩
  · have ev : ∀ at_ (s : EvOut), evStepM at_ o s cur m = (false, s.set o.d (s.get o.a), cur, m) := fun at_ s => by rw [evStepM_other (by omega)]; simp [evStep, hc]
    rw [ev] at h; cases h
    exact ⟨fun at2 d => ev _ _, fun _ => rfl, .inr ⟨by rw [hc]; rfl, _, rfl⟩⟩
  · have ev : ∀ at_ (s : EvOut), evStepM at_ o s cur m = (false, s.set o.d (wordOpL o.code (s.get o.a) (s.get o.b)), cur, m) := fun at_ s => by
      rw [evStepM_other (by omega)]
      unfold evStep
      rw [if_neg (by omega), if_neg (by omega), if_neg (by omega), if_neg (by omega), if_neg (by omega), if_neg (by omega), if_neg (by omega), if_neg (by omega)]
    rw [ev] at h; cases h
    exact ⟨fun at2 d => ev _ _, fun _ => rfl, .inr ⟨by simp [shD]; omega, _, rfl⟩⟩
  · have sD : shD o.code = true := by rcases hc with h | h <;> rw [h] <;> rfl
    rw [evStepM_ld hc] at h
    cases hq : ldP m (IntKind.u32.wrap (s.get o.a + o.n)) (szL o.code) with
    | none => rw [hq] at h; cases h
    | some x =>
      rw [hq] at h; cases h
      refine ⟨fun at2 d => ?_, fun _ => rfl, .inr ⟨sD, _, rfl⟩⟩
      rw [evStepM_ld hc]
      show (match ldP m (IntKind.u32.wrap (s.get o.a + o.n)) (szL o.code) with | some v => _ | none => _) = _
      rw [hq]; rfl
  · rw [evStepM_st hc] at h
    cases hq : stP m (IntKind.u32.wrap (s.get o.a + o.n)) (s.get o.b) (szL o.code) with
    | none => rw [hq] at h; cases h
    | some x =>
      rw [hq] at h; cases h
      refine ⟨fun at2 d => ?_, fun hS => ?_, .inl rfl⟩
      · rw [evStepM_st hc]
        show (match stP m (IntKind.u32.wrap (s.get o.a + o.n)) (s.get o.b) (szL o.code) with | some v => _ | none => _) = _
        rw [hq]
      · exfalso; rcases hc with h | h <;> rw [h] at hS <;> exact absurd hS (by decide)
  · have ev : ∀ at_ (s : EvOut), evStepM at_ o s cur m = if s.get o.a = 0 then (true, s.leave at_ cur, cur, m) else (false, s, cur, m) := fun at_ s => by
      rw [evStepM_other (by omega)]; simp only [evStep, hc]; by_cases hg : s.get o.a = 0 <;> simp [hg]
    rw [ev] at h
    by_cases hg : s.get o.a = 0
    · rw [if_pos hg] at h; cases h
    · rw [if_neg hg] at h; cases h
      exact ⟨fun at2 d => by rw [ev]; exact if_neg hg, fun _ => rfl, .inl rfl⟩
  · have ev : ∀ at_ (s : EvOut), evStepM at_ o s cur m = (true, s.leave at_ cur, cur, m) := fun at_ s => by rw [evStepM_other (by omega)]; simp [evStep, hc]
    rw [ev] at h; cases h
  · have ev : ∀ at_ (s : EvOut), evStepM at_ o s cur m = if s.get o.a = 0 then (false, s, cur, m) else (true, { s with pc := o.n }, cur, m) := fun at_ s => by
      rw [evStepM_other (by omega)]; simp only [evStep, hc]; by_cases hg : s.get o.a = 0 <;> simp [hg]
    rw [ev] at h
    by_cases hg : s.get o.a = 0
    · rw [if_pos hg] at h; cases h
      exact ⟨fun at2 d => by rw [ev]; exact if_pos hg, fun _ => rfl, .inl rfl⟩
    · rw [if_neg hg] at h; cases h
  · have ev : ∀ at_ (s : EvOut), evStepM at_ o s cur m = (false, { s with pc := o.n }, cur, m) := fun at_ s => by rw [evStepM_other (by omega)]; simp [evStep, hc]
    rw [ev] at h; cases h
    exact ⟨fun at2 d => ev _ _, fun _ => rfl, .inl rfl⟩
  · have ev : ∀ at_ (s : EvOut), evStepM at_ o s cur m = (false, { s with pc := s.get o.a }, cur, m) := fun at_ s => by rw [evStepM_other (by omega)]; simp [evStep, hc]
    rw [ev] at h; cases h
    exact ⟨fun at2 d => ev _ _, fun _ => rfl, .inl rfl⟩
def Gq (l l' : List Int) : Prop := l.length = l'.length ∧ ∀ v : Nat, v < 19 → l.getD v 0 = l'.getD v 0
theorem Gq.refl (l : List Int) : Gq l l := ⟨rfl, fun _ _ => rfl⟩
theorem Gq.trans {a b c : List Int} (h : Gq a b) (k : Gq b c) : Gq a c := ⟨h.1.trans k.1, fun v hv => (h.2 v hv).trans (k.2 v hv)⟩
def pI (i : Int) (o : IOp) : Bool := !(o.code == 20) || decide (o.n < i)
def cutL (b : IBlk) (i : Nat) : IBlk := ⟨b.at_.take i, b.pages, b.ops.takeWhile (pI i) ++ [exitOp (b.at_.getD i 0)]⟩
theorem go_cons {at_ : List Int} {o : IOp} {r : List IOp} {s s' : EvOut} {cur c' : Int} {m m' : PM} (h : evStepM at_ o s cur m = (false, s', c', m')) : evGoM at_ (o :: r) s cur m = evGoM at_ r s' c' m' := by rw [evGoM, h]
theorem go_exit (at_ : List Int) (a : Int) (s : EvOut) (cur : Int) (m : PM) : evGoM at_ [exitOp a] s cur m = ({ s with pc := a }, m) := by
  have ev : evStepM at_ (exitOp a) s cur m = (false, { s with pc := a }, cur, m) := by rw [evStepM_other (by show (24 : Int) < 16 ∨ 19 < (24 : Int); omega)]; rfl
  rw [go_cons ev]; rfl
theorem vgo_mono : ∀ {ops : List IOp} {st fin : ISt}, vgo ops st = some fin → st.marks ≤ fin.marks
  | [], st, fin, h => by
    have : some st = some fin := h
    cases this; exact Int.le_refl _
  | o :: r, st, fin, h => Int.le_trans (nextSt_marks st o).1 (vgo_mono (vgo_ok h).2)
theorem next_mark {st : ISt} {o : IOp} (h : o.code = 20) : nextSt st o = ⟨st.marks + 1, 0, false⟩ := by
  obtain ⟨_, _, hw, hS, _, _⟩ := sh_mark h
  unfold nextSt
  have hm : markL st o = ⟨st.marks + 1, 0, false⟩ := by unfold markL; rw [if_pos (by rw [h]; rfl)]
  rw [hm, hw, hS, setW_neg]; rfl
theorem next_other {st : ISt} {o : IOp} (h : o.code ≠ 20) : (nextSt st o).marks = st.marks ∧ (nextSt st o).changed = (st.changed || shS o.code || (decide (0 ≤ writesL o) && decide (writesL o < 20))) := by
  have hm : markL st o = st := by unfold markL; rw [if_neg (by simpa using h)]
  unfold nextSt
  rw [hm]; exact ⟨rfl, rfl⟩
/-- What it is to be left. -/
structure LvC (at2 : List Int) (a d : Int) (ops : List IOp) (st fin : ISt) (s : EvOut) (cur : Int) (m : PM) (out : EvOut) (m' : PM) : Prop where
  lo : st.marks - 1 ≤ out.idx
  hi : out.idx < fin.marks
  z : st.marks = 0 → 0 ≤ out.idx
  cut : st.marks - 1 < out.idx → ∃ outC, evGoM at2 (ops.takeWhile (pI out.idx) ++ [exitOp a]) { s with done := d } cur m = (outC, m') ∧ outC.lv = false ∧ outC.pc = a ∧ Gq outC.vars out.vars
  eq : out.idx = st.marks - 1 → st.changed = false ∧ m' = m ∧ Gq s.vars out.vars
theorem leave_main (at_ at2 : List Int) (a d : Int) : ∀ (ops : List IOp) (st fin : ISt), vgo ops st = some fin → ∀ (s : EvOut) (cur : Int) (m : PM) (out : EvOut) (m' : PM),
    ((0 < st.marks ∧ cur = st.marks - 1) ∨ (st.marks = 0 ∧ ∃ o r, ops = o :: r ∧ o.code = 20)) → s.lv = false → evGoM at_ ops s cur m = (out, m') → out.lv = true → LvC at2 a d ops st fin s cur m out m'
  | [], st, fin, hv, s, cur, m, out, m', hcur, hlv, hgo, hout => by
    have : (s, m) = (out, m') := hgo
    cases this
    rw [hlv] at hout; cases hout
  | o :: r, st, fin, hv, s, cur, m, out, m', hcur, hlv, hgo, hout => by
    have hmono := vgo_mono hv
    obtain ⟨hok, hv'⟩ := vgo_ok hv
    obtain ⟨hF, hE, hM, hR⟩ := next_parts hok
    rcases hq : evStepM at_ o s cur m with ⟨b, s', c', m1⟩
    cases b
    · -- it goes on
      rw [go_cons hq] at hgo
      obtain ⟨k1, k2, k3, k4⟩ := evStepM_keep hq
      obtain ⟨g1, g2, g3⟩ := step_shape hF hq
      by_cases h20 : o.code = 20
      · have hn : o.n = st.marks := by simpa [okMark, h20] using hM
        have hst := next_mark (st := st) h20
        rw [hst] at hv'
        rw [if_pos h20, hn] at k4
        have hs0 : s' = s ∧ m1 = m := by
          have ev : evStepM at_ o s cur m = (false, s, o.n, m) := by rw [evStepM_other (by omega)]; simp [evStep, h20]
          rw [ev] at hq; cases hq; exact ⟨rfl, rfl⟩
        obtain ⟨rfl, rfl⟩ := hs0
        have hpos : 0 ≤ st.marks := by rcases hcur with h | h <;> omega
        have ih := leave_main at_ at2 a d r _ fin hv' s' c' m1 out m' (.inl ⟨by show 0 < st.marks + 1; omega, by show c' = st.marks + 1 - 1; omega⟩) hlv hgo hout
        obtain ⟨i1, i2, i3, i4, i5⟩ := ih
        have j1 : st.marks ≤ out.idx := by have : st.marks + 1 - 1 ≤ out.idx := i1; omega
        refine ⟨by omega, i2, fun _ => by omega, fun _ => ?_, fun h => by omega⟩
        by_cases he : out.idx = st.marks
        · obtain ⟨_, e2, e3⟩ := i5 (by show out.idx = st.marks + 1 - 1; omega)
          have hp : pI out.idx o = false := by simp [pI, h20, hn, he]
          rw [List.takeWhile_cons, hp]
          refine ⟨{ s' with done := d, pc := a }, ?_, hlv, rfl, e3⟩
          show evGoM at2 [exitOp a] _ _ _ = _
          rw [go_exit, e2]
        · obtain ⟨outC, f1, f2, f3, f4⟩ := i4 (by show st.marks + 1 - 1 < out.idx; omega)
          have hp : pI out.idx o = true := by simp [pI, h20, hn]; omega
          rw [List.takeWhile_cons, hp]
          exact ⟨outC, by show evGoM at2 (o :: (r.takeWhile (pI out.idx) ++ [exitOp a])) _ _ _ = _; rw [go_cons (g1 at2 d)]; exact f1, f2, f3, f4⟩
      · obtain ⟨n1, n2⟩ := next_other (st := st) h20
        rw [if_neg h20] at k4
        have hpos : 0 < st.marks ∧ cur = st.marks - 1 := by
          rcases hcur with h | ⟨_, o', r', e, h⟩
          · exact h
          · cases e; exact absurd h h20
        have ih := leave_main at_ at2 a d r _ fin hv' s' c' m1 out m' (.inl ⟨by rw [n1]; omega, by rw [n1, k4]; exact hpos.2⟩) (by rw [k1]; exact hlv) hgo hout
        obtain ⟨i1, i2, i3, i4, i5⟩ := ih
        rw [n1] at i1 i4 i5
        have hp : pI out.idx o = true := by simp [pI, h20]
        refine ⟨i1, i2, fun h => by omega, fun h => ?_, fun h => ?_⟩
        · obtain ⟨outC, f1, f2, f3, f4⟩ := i4 h
          rw [List.takeWhile_cons, hp]
          exact ⟨outC, by show evGoM at2 (o :: (r.takeWhile (pI out.idx) ++ [exitOp a])) _ _ _ = _; rw [go_cons (g1 at2 d)]; exact f1, f2, f3, f4⟩
        · obtain ⟨e1, e2, e3⟩ := i5 h
          rw [n2] at e1
          simp only [Bool.or_eq_false_iff, Bool.and_eq_false_iff, decide_eq_false_iff_not] at e1
          obtain ⟨⟨c1, c2⟩, c3⟩ := e1
          refine ⟨c1, by rw [e2, g2 c2], ?_⟩
          rcases g3 with g3 | ⟨hD, x, g3⟩
          · rw [← g3]; exact e3
          · refine Gq.trans ?_ e3
            have hw : writesL o = o.d := by simp [writesL, hD]
            obtain ⟨⟨d0, _⟩, _⟩ := form_bd hF
            rw [hw] at c3
            have hd20 : 20 ≤ o.d := by rcases c3 with h | h <;> omega
            rw [g3]
            refine ⟨by rw [List.length_set], fun v hv => ?_⟩
            rw [set_getD, if_neg (by omega)]
    · -- it stops
      rw [evGoM, hq] at hgo
      have hgo : (s', m1) = (out, m') := hgo
      cases hgo
      obtain ⟨hm, hs⟩ := evStepM_stop hq
      rcases hs with ⟨hL, rfl⟩ | ⟨_, _, rfl⟩
      · have h20 : o.code ≠ 20 := fun h => by rw [h] at hL; exact absurd hL (by decide)
        have hpos : 0 < st.marks ∧ cur = st.marks - 1 := by
          rcases hcur with h | ⟨_, o', r', e, h⟩
          · exact h
          · cases e; exact absurd h h20
        have hidx : (s.leave at_ cur).idx = cur := rfl
        refine ⟨by rw [hidx]; omega, by rw [hidx]; omega, fun h => by omega, fun h => by rw [hidx] at h; omega, fun _ => ⟨?_, hm, Gq.refl _⟩⟩
        simp only [okEnd, Bool.and_eq_true] at hE
        have := hE.2
        rw [hL] at this
        simpa using this
      · rw [show ({ s with pc := o.n } : EvOut).lv = s.lv from rfl, hlv] at hout; cases hout
/-- Left: where. -/
theorem leave_at (at_ : List Int) : ∀ (ops : List IOp) (s : EvOut) (cur : Int) (m : PM), s.lv = false → (evGoM at_ ops s cur m).1.lv = true → (evGoM at_ ops s cur m).1.done = (evGoM at_ ops s cur m).1.idx ∧ (evGoM at_ ops s cur m).1.pc = at_.getD (evGoM at_ ops s cur m).1.idx.toNat 0
  | [], s, cur, m, h, h2 => by
    have : s.lv = true := h2
    rw [h] at this; cases this
  | o :: r, s, cur, m, h, h2 => by
    rcases hq : evStepM at_ o s cur m with ⟨b, s', c', m1⟩
    cases b
    · rw [go_cons hq] at h2 ⊢
      exact leave_at at_ r s' c' m1 (by rw [(evStepM_keep hq).1]; exact h) h2
    · have e : evGoM at_ (o :: r) s cur m = (s', m1) := by rw [evGoM, hq]
      rw [e] at h2 ⊢
      obtain ⟨_, hs⟩ := evStepM_stop hq
      rcases hs with ⟨_, rfl⟩ | ⟨_, _, rfl⟩
      · exact ⟨rfl, rfl⟩
      · have : s.lv = true := h2
        rw [h] at this; cases this
/-- Not left. -/
theorem stay_at (at_ : List Int) : ∀ (ops : List IOp) (s : EvOut) (cur : Int) (m : PM), (evGoM at_ ops s cur m).1.lv = false → (evGoM at_ ops s cur m).1.done = s.done ∧ (evGoM at_ ops s cur m).1.idx = s.idx
  | [], s, cur, m, h => ⟨rfl, rfl⟩
  | o :: r, s, cur, m, h => by
    rcases hq : evStepM at_ o s cur m with ⟨b, s', c', m1⟩
    cases b
    · rw [go_cons hq] at h ⊢
      obtain ⟨k1, k2, k3, _⟩ := evStepM_keep hq
      obtain ⟨i1, i2⟩ := stay_at at_ r s' c' m1 h
      exact ⟨by rw [i1, k3], by rw [i2, k2]⟩
    · have e : evGoM at_ (o :: r) s cur m = (s', m1) := by rw [evGoM, hq]
      rw [e] at h ⊢
      obtain ⟨_, hs⟩ := evStepM_stop hq
      rcases hs with ⟨_, rfl⟩ | ⟨_, _, rfl⟩
      · cases h
      · exact ⟨rfl, rfl⟩
theorem nextOk_exit {st : ISt} {o : IOp} {x : Bool} (h : nextOk st o false x = true) : nextOk st o false true = true := by
  unfold nextOk okEnd at h ⊢
  simp only [Bool.and_eq_true] at h ⊢
  obtain ⟨⟨⟨h1, ⟨⟨h2, _⟩, h3⟩⟩, h4⟩, h5⟩ := h
  exact ⟨⟨⟨h1, ⟨⟨h2, by simp⟩, h3⟩⟩, h4⟩, h5⟩
theorem cut_vgo (a : Int) (i : Int) : ∀ (ops : List IOp) (st fin : ISt), vgo ops st = some fin → st.marks ≤ i → i < fin.marks → ∃ st2, vgo (ops.takeWhile (pI i) ++ [exitOp a]) st = some st2 ∧ st2.marks = i
  | [], st, fin, h, h1, h2 => by
    have : some st = some fin := h
    cases this; omega
  | o :: r, st, fin, h, h1, h2 => by
    obtain ⟨hok, hv'⟩ := vgo_ok h
    obtain ⟨hF, hE, hM, hR⟩ := next_parts hok
    -- the rest is not empty
    have hne : r ≠ [] ∨ o.code = 20 := by
      by_cases h20 : o.code = 20
      · exact .inr h20
      · refine .inl fun e => ?_
        subst e
        have : some (nextSt st o) = some fin := hv'
        cases this
        rw [(next_other h20).1] at h2; omega
    have hlast : r.isEmpty = false := by
      rcases hne with h | h
      · cases r with
        | nil => exact absurd rfl h
        | cons _ _ => rfl
      · have : endsL o.code = r.isEmpty := by
          simp only [okEnd, Bool.and_eq_true, beq_iff_eq] at hE; exact hE.1.1
        rw [← this, h]; rfl
    rw [hlast] at hok
    by_cases hp : pI i o = true
    · have hm' : (nextSt st o).marks ≤ i := by
        by_cases h20 : o.code = 20
        · have hn : o.n = st.marks := by simpa [okMark, h20] using hM
          rw [next_mark h20]
          simp [pI, h20, hn] at hp
          show st.marks + 1 ≤ i; omega
        · rw [(next_other h20).1]; exact h1
      obtain ⟨st2, e1, e2⟩ := cut_vgo a i r _ fin hv' hm' h2
      refine ⟨st2, ?_, e2⟩
      rw [List.takeWhile_cons, hp]
      show vgo (o :: (r.takeWhile (pI i) ++ [exitOp a])) st = _
      have hE2 : (r.takeWhile (pI i) ++ [exitOp a]).isEmpty = false := by cases r.takeWhile (pI i) <;> rfl
      rw [vgo_cons', hE2]
      have hx : nextOk st o false (hd24 (r.takeWhile (pI i) ++ [exitOp a])) = true := by
        cases r with
        | nil => exact nextOk_exit hok
        | cons q r' =>
          rw [List.takeWhile_cons]
          by_cases hpq : pI i q = true
          · rw [hpq]; exact hok
          · rw [Bool.not_eq_true] at hpq
            rw [hpq]; exact nextOk_exit hok
      rw [if_pos hx]; exact e1
    · rw [Bool.not_eq_true] at hp
      have h20 : o.code = 20 := by
        simp [pI] at hp; exact hp.1
      have hn : o.n = st.marks := by simpa [okMark, h20] using hM
      simp [pI, h20, hn] at hp
      obtain ⟨st2, e1, e2⟩ := vgo_exit st a
      refine ⟨st2, ?_, by omega⟩
      rw [List.takeWhile_cons, show pI i o = false by simp [pI, h20, hn]; omega]
      exact e1
theorem valid_run {b : IBlk} (h : validL b = true) : headerL b = true ∧ ∃ fin, vgo b.ops ⟨0, 0, false⟩ = some fin ∧ fin.marks = b.at_.length := by
  unfold validL at h
  simp only [Bool.and_eq_true] at h
  obtain ⟨hh, h2⟩ := h
  split at h2
  · rename_i s hs
    exact ⟨hh, s, by rw [← vgo_run]; exact hs, by simpa using h2⟩
  · cases h2
theorem valid_of {b : IBlk} (hh : headerL b = true) {fin : ISt} (h : vgo b.ops ⟨0, 0, false⟩ = some fin) (hm : fin.marks = b.at_.length) : validL b = true := by
  unfold validL
  rw [hh, vgo_run, h]
  simp [hm]
theorem takeWhile_lt {i : Int} : ∀ {ops : List IOp} {st fin : ISt}, vgo ops st = some fin → i < fin.marks → st.marks ≤ i → (ops.takeWhile (pI i)).length < ops.length
  | [], st, fin, h, h1, h2 => by
    have : some st = some fin := h
    cases this; omega
  | o :: r, st, fin, h, h1, h2 => by
    obtain ⟨hok, hv'⟩ := vgo_ok h
    obtain ⟨hF, hE, hM, hR⟩ := next_parts hok
    rw [List.takeWhile_cons]
    by_cases hp : pI i o = true
    · rw [hp]
      have hm' : (nextSt st o).marks ≤ i := by
        by_cases h20 : o.code = 20
        · have hn : o.n = st.marks := by simpa [okMark, h20] using hM
          rw [next_mark h20]
          simp [pI, h20, hn] at hp
          show st.marks + 1 ≤ i; omega
        · rw [(next_other h20).1]; exact h2
      have := takeWhile_lt hv' h1 hm'
      show (r.takeWhile (pI i)).length + 1 < r.length + 1
      omega
    · rw [Bool.not_eq_true] at hp
      rw [hp]; show 0 < r.length + 1; omega
theorem cut_valid {b : IBlk} (h : validL b = true) {i : Nat} (h1 : 1 ≤ i) (h2 : i < b.at_.length) : validL (cutL b i) = true := by
  obtain ⟨hh, fin, hv, hm⟩ := valid_run h
  obtain ⟨st2, e1, e2⟩ := cut_vgo (b.at_.getD i 0) i b.ops _ fin hv (by show (0 : Int) ≤ i; omega) (by omega)
  have hlt := takeWhile_lt hv (i := (i : Int)) (by omega) (by show (0 : Int) ≤ i; omega)
  have hlen : ((b.at_.take i).length : Int) = i := by rw [List.length_take]; omega
  refine valid_of ?_ e1 (by rw [e2]; exact hlen.symm)
  have VF := valid_facts h
  have h0 := VF.first
  simp only [headerL, Bool.and_eq_true, decide_eq_true_eq, beq_iff_eq] at hh ⊢
  obtain ⟨hp, ⟨⟨⟨p1, p2⟩, p3⟩, p4⟩, p5⟩ := hh
  refine ⟨hp, ⟨⟨⟨?_, ?_⟩, ?_⟩, ?_⟩, ?_⟩
  · show 1 ≤ (b.at_.take i).length; omega
  · show (b.at_.take i).length ≤ 64; omega
  · show 1 ≤ (b.ops.takeWhile (pI i) ++ [exitOp _]).length; rw [List.length_append]; simp
  · show (b.ops.takeWhile (pI i) ++ [exitOp _]).length ≤ 2000; rw [List.length_append, List.length_singleton]; omega
  · show ((b.ops.takeWhile (pI i) ++ [exitOp _]).getD 0 noOp).code = 20
    cases hb : b.ops with
    | nil => rw [hb] at p3; simp at p3
    | cons o r =>
      rw [hb] at h0 hv
      have h20 : o.code = 20 := h0
      obtain ⟨hok, _⟩ := vgo_ok hv
      have hn : o.n = 0 := by simpa [okMark, h20] using (next_parts hok).2.2.1
      rw [List.takeWhile_cons, show pI i o = true by simp [pI, h20, hn]; omega]
      exact h20
/-- P12.6: a block that is left. -/
theorem leaves_law {b : IBlk} (h : validL b = true) {v : List Int} (hv : v.length = 28) (m : PM) (hl : (evalM b v m).1.lv = true) :
    ∃ i : Nat, (evalM b v m).1.idx = i ∧ i < b.at_.length ∧ (evalM b v m).1.done = i ∧ (evalM b v m).1.pc = b.at_.getD i 0 ∧
      (i = 0 → (evalM b v m).1.vars = v.take 19 ++ List.replicate 9 0 ∧ (evalM b v m).2 = m) ∧
      (0 < i → validL (cutL b i) = true ∧ (evalM (cutL b i) v m).1.lv = false ∧ (evalM (cutL b i) v m).1.pc = b.at_.getD i 0 ∧ (evalM (cutL b i) v m).1.vars = (evalM b v m).1.vars ∧ (evalM (cutL b i) v m).2 = (evalM b v m).2) := by
  obtain ⟨hh, fin, hrun, hm⟩ := valid_run h
  have VF := valid_facts h
  have hE : ∀ m, evalM b v m = ((evGoM b.at_ b.ops ⟨false, 0, b.at_.length, 0, v⟩ 0 m).1.guests, (evGoM b.at_ b.ops ⟨false, 0, b.at_.length, 0, v⟩ 0 m).2) := fun m => by rw [evalM, if_pos h]
  rw [hE] at hl ⊢
  rcases hg : evGoM b.at_ b.ops ⟨false, 0, b.at_.length, 0, v⟩ 0 m with ⟨out, m'⟩
  rw [hg] at hl
  have hl : out.lv = true := hl
  have hol : out.vars.length = 28 := by
    have := evGoM_len b.at_ b.ops ⟨false, 0, b.at_.length, 0, v⟩ 0 m
    rw [hg] at this; rw [this]; exact hv
  have hat := leave_at b.at_ b.ops ⟨false, 0, b.at_.length, 0, v⟩ 0 m rfl (by rw [hg]; exact hl)
  rw [hg] at hat
  obtain ⟨hd, hp⟩ := hat
  have hpre : (0 : Int) < (0 : Int) ∧ (0 : Int) = 0 - 1 ∨ (0 : Int) = 0 ∧ ∃ o r, b.ops = o :: r ∧ o.code = 20 := by
    refine .inr ⟨rfl, ?_⟩
    have h0 := VF.first
    have hpos := VF.pos
    cases hb : b.ops with
    | nil => rw [hb] at hpos; simp at hpos
    | cons o r => rw [hb] at h0; exact ⟨o, r, rfl, h0⟩
  have key : ∀ (at2 : List Int) (a d : Int), LvC at2 a d b.ops ⟨0, 0, false⟩ fin ⟨false, 0, b.at_.length, 0, v⟩ 0 m out m' := fun at2 a d =>
    leave_main b.at_ at2 a d b.ops _ fin hrun _ 0 m out m' hpre rfl hg hl
  obtain ⟨k1, k2, k3, k4, k5⟩ := key [] 0 0
  have k3 := k3 rfl
  obtain ⟨i, hi⟩ := Int.eq_ofNat_of_zero_le k3
  rw [hi] at hd hp k2
  rw [Int.toNat_natCast] at hp
  refine ⟨i, hi, by omega, hd, hp, fun h0 => ?_, fun hpos => ?_⟩
  · obtain ⟨outC, f1, f2, f3, f4⟩ := (key b.at_ 0 0).cut (by show (0 : Int) - 1 < out.idx; omega)
    have htw : b.ops.takeWhile (pI out.idx) = [] := by
      obtain ⟨_, o, r, e, h20⟩ := hpre.resolve_left (by omega)
      rw [e] at hrun ⊢
      have hn : o.n = 0 := by simpa [okMark, h20] using (next_parts (vgo_ok hrun).1).2.2.1
      rw [List.takeWhile_cons, show pI out.idx o = false by simp [pI, h20, hn, hi, h0]]
      rfl
    rw [htw, List.nil_append, go_exit] at f1
    cases f1
    refine ⟨?_, rfl⟩
    show out.guests.vars = _
    rw [guests_gz hol]
    have hq : Gq v out.vars := f4
    rw [take_ext hv hol hq.2]
  · have hcv := cut_valid h hpos (by omega)
    obtain ⟨outC, f1, f2, f3, f4⟩ := (key (b.at_.take i) (b.at_.getD i 0) (b.at_.take i).length).cut (by show (0 : Int) - 1 < out.idx; omega)
    have hC : evalM (cutL b i) v m = (outC.guests, m') := by
      rw [evalM, if_pos hcv]
      have e : evGoM (cutL b i).at_ (cutL b i).ops ⟨false, 0, (cutL b i).at_.length, 0, v⟩ 0 m = (outC, m') := by
        rw [hi] at f1; exact f1
      rw [e]
    rw [hC]
    refine ⟨hcv, f2, f3, ?_, rfl⟩
    show outC.guests.vars = out.guests.vars
    have hcl : outC.vars.length = 28 := by rw [f4.1, hol]
    rw [guests_gz hcl, guests_gz hol, take_ext hcl hol f4.2]
theorem stays_law {b : IBlk} (h : validL b = true) {v : List Int} (m : PM) (hl : (evalM b v m).1.lv = false) : (evalM b v m).1.idx = 0 ∧ (evalM b v m).1.done = b.at_.length := by
  have hE : evalM b v m = ((evGoM b.at_ b.ops ⟨false, 0, b.at_.length, 0, v⟩ 0 m).1.guests, (evGoM b.at_ b.ops ⟨false, 0, b.at_.length, 0, v⟩ 0 m).2) := by rw [evalM, if_pos h]
  rw [hE] at hl ⊢
  obtain ⟨h1, h2⟩ := stay_at b.at_ b.ops ⟨false, 0, b.at_.length, 0, v⟩ 0 m hl
  exact ⟨h2, h1⟩
end Go.Proofs.Ytojofinofpgopaa
