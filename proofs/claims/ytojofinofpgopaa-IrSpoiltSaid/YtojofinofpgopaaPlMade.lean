/- Plain: the blocks that babelref12.Made makes are valid. -/
import Derived.Test.YtojofinofpgopaaPlArith
namespace Go.Proofs.Ytojofinofpgopaa
open Go.RowKit
/-- The check along operations that are not the last. -/
def vgoP : List IOp → ISt → Option ISt
  | [], s => some s
  | o :: r, s => if (o.code != 23 && nextOk s o false false) = true then vgoP r (nextSt s o) else none
theorem vgoP_app : ∀ (l r : List IOp) (s : ISt), vgoP (l ++ r) s = (vgoP l s).bind (vgoP r)
  | [], _, _ => rfl
  | o :: l, r, s => by
    simp only [List.cons_append, vgoP]
    split
    · exact vgoP_app l r _
    · rfl
theorem vgo_of : ∀ {l : List IOp} {q : IOp} {r : List IOp} {s s' : ISt}, vgoP l s = some s' → vgo (l ++ q :: r) s = vgo (q :: r) s'
  | [], q, r, s, s', h => by cases h; rfl
  | o :: l, q, r, s, s', h => by
    simp only [vgoP] at h
    split at h
    · rename_i hb
      simp only [Bool.and_eq_true, bne_iff_ne, ne_eq] at hb
      have h' := vgo_of (q := q) (r := r) h
      cases l with
      | nil => 
        rw [List.cons_append, List.nil_append, vgo_more hb.1, if_pos hb.2]; exact h'
      | cons o' l =>
        rw [List.cons_append, List.cons_append, vgo_more hb.1, if_pos hb.2]; exact h'
    · cases h
theorem next_in {p W : Int} {ch : Bool} {o : IOp} (hF : okForm o = true) (hE : endsL o.code = false) (h20 : (o.code == 20) = false) (h23 : (o.code == 23) = false) (hL : shL o.code = false ∨ ch = false) (hR : ∀ v ∈ readsL o, tmpBad W v = false) :
    nextOk ⟨p, W, ch⟩ o false false = true ∧ nextSt ⟨p, W, ch⟩ o = ⟨p, setW W (writesL o), ch || shS o.code || (decide (0 ≤ writesL o) && decide (writesL o < 20))⟩ := by
  have hm : markL ⟨p, W, ch⟩ o = ⟨p, W, ch⟩ := by unfold markL; rw [h20]; rfl
  constructor
  · have e1 : okEnd ⟨p, W, ch⟩ o false false = true := by
      unfold okEnd
      rw [hE, h23]
      rcases hL with h | h <;> simp [h]
    have e2 : okMark ⟨p, W, ch⟩ o = true := by unfold okMark; rw [h20]; rfl
    have e3 : okReads (markL ⟨p, W, ch⟩ o) o = true := by
      rw [hm]; unfold okReads
      rw [List.all_eq_true]
      intro v hv
      show (!tmpBad W v) = true
      rw [hR v hv]; rfl
    simp [nextOk, hF, e1, e2, e3]
  · unfold nextSt; rw [hm]
/-- These temporaries are written. -/
def Kn (W : Int) (wr : List Bool) : Prop := ∃ N : Nat, W = N ∧ N < 4294967296 ∧ ∀ t, t < 8 → wr.getD t false = true → N.testBit (20 + t) = true
/-- A variable that may be read. -/
def Rdb (wr : List Bool) (v : Int) : Prop := (0 ≤ v ∧ v < 19) ∨ (20 ≤ v ∧ v < 28 ∧ wr.getD (v - 20).toNat false = true)
theorem Kn.reads {W : Int} {wr : List Bool} {v : Int} (h : Kn W wr) (hv : Rdb wr v) : tmpBad W v = false ∧ fieldL true v = true := by
  obtain ⟨N, rfl, h2, h3⟩ := h
  rcases hv with hv | ⟨h4, h5, h6⟩
  · constructor
    · unfold tmpBad; rw [decide_eq_false (by omega)]; rfl
    · unfold fieldL; rw [if_pos rfl]; simp; omega
  · constructor
    · obtain ⟨k, rfl⟩ := Int.eq_ofNat_of_zero_le (show 0 ≤ v by omega)
      have hb := h3 (k - 20) (by omega) (by rw [← h6]; congr 1; omega)
      rw [show 20 + (k - 20) = k by omega] at hb
      show tmpBad (N : Int) (k : Int) = false
      rw [tmpBad_nat h2 (by omega), hb]; rfl
    · unfold fieldL; rw [if_pos rfl]; simp; omega
theorem Kn.put {W d : Int} {wr : List Bool} (h : Kn W wr) (hd : d < 28) : Kn (setW W d) wr := by
  obtain ⟨N, rfl, h2, h3⟩ := h
  by_cases h20 : 20 ≤ d
  · obtain ⟨k, rfl⟩ := Int.eq_ofNat_of_zero_le (show 0 ≤ d by omega)
    refine ⟨N ||| 2 ^ k, setW_nat h2 (by omega) (by omega), or_lt h2 (by omega), fun t ht hw => ?_⟩
    rw [Nat.testBit_or, h3 t ht hw]; rfl
  · rw [setW_low (by omega)]; exact ⟨N, rfl, h2, h3⟩
theorem Kn.set {W t : Int} {wr : List Bool} (h : Kn W wr) (h0 : 0 ≤ t) (h8 : t < 8) : Kn (setW W (20 + t)) (wr.set t.toNat true) := by
  obtain ⟨N, rfl, h2, h3⟩ := h
  obtain ⟨k, rfl⟩ := Int.eq_ofNat_of_zero_le h0
  refine ⟨N ||| 2 ^ (20 + k), ?_, or_lt h2 (by omega), fun t ht hw => ?_⟩
  · have := setW_nat (d := 20 + k) h2 (by omega) (by omega)
    rw [← this]; congr 1
  · rw [Nat.testBit_or, Nat.testBit_two_pow]
    by_cases he : k = t
    · subst he; simp
    · have : (wr.set (k : Int).toNat true).getD t false = wr.getD t false := by
        rw [List.getD_eq_getElem?_getD, List.getElem?_set_ne (by omega), ← List.getD_eq_getElem?_getD]
      rw [this] at hw
      rw [h3 t ht hw]; rfl
theorem Kn.zero {wr : List Bool} (h : ∀ t, wr.getD t false = false) : Kn 0 wr := ⟨0, rfl, by decide, fun t _ hw => by rw [h t] at hw; cases hw⟩
structure Ins (p : Int) (wr : List Bool) (l : List IOp) (W : Int) (ch : Bool) : Prop where
  go : vgoP l ⟨p, 0, false⟩ = some ⟨p, W, ch⟩
  kn : Kn W wr
  un : ∀ o ∈ l, U32 o.n
theorem Ins.snoc {p W : Int} {wr wr' : List Bool} {l : List IOp} {ch : Bool} {o : IOp} (h : Ins p wr l W ch) (hF : okForm o = true) (hE : endsL o.code = false) (h20 : (o.code == 20) = false) (h23 : (o.code == 23) = false) (hL : shL o.code = false ∨ ch = false) (hR : ∀ v ∈ readsL o, Rdb wr v) (hu : U32 o.n)
    (hk : Kn (setW W (writesL o)) wr') : Ins p wr' (l ++ [o]) (setW W (writesL o)) (ch || shS o.code || (decide (0 ≤ writesL o) && decide (writesL o < 20))) := by
  obtain ⟨e1, e2⟩ := next_in (p := p) hF hE h20 h23 hL (fun v hv => (h.kn.reads (hR v hv)).1)
  refine ⟨?_, hk, fun q hq => ?_⟩
  · rw [vgoP_app, h.go]
    have h23' : (o.code != 23) = true := by rw [bne, h23]; rfl
    simp [vgoP, e1, e2, h23']
  · rcases List.mem_append.1 hq with hq | hq
    · exact h.un q hq
    · have : q = o := by simpa using hq
      subst this; exact hu
theorem fieldT {d : Int} (h0 : 0 ≤ d) (h1 : d < 28) (h2 : d ≠ 19) : fieldL true d = true := by unfold fieldL; rw [if_pos rfl]; simp; omega
theorem u32_0 : U32 0 := ⟨by decide, by decide⟩
section
variable {p W : Int} {wr : List Bool} {l : List IOp}
theorem ins_const {t x : Int} (h : Ins p wr l W false) (h0 : 0 ≤ t) (h8 : t < 8) (hx : U32 x) : ∃ W', Ins p (wr.set t.toNat true) (l ++ [⟨1, 20 + t, 0, 0, x⟩]) W' false := by
  have hw : writesL ⟨1, 20 + t, 0, 0, x⟩ = 20 + t := rfl
  have := h.snoc (o := ⟨1, 20 + t, 0, 0, x⟩) (wr' := wr.set t.toNat true) (by
    show (shI 1 && fieldL (shD 1) (20 + t) && fieldL (shA 1) 0 && fieldL (shB 1) 0 && (shN 1 || _)) = true
    rw [show shD 1 = true by decide, fieldT (by omega) (by omega) (by omega), show shI 1 = true by decide, show shA 1 = false by decide, show shB 1 = false by decide, show shN 1 = true by decide]; rfl) rfl rfl rfl (.inl rfl) (fun v hv => by cases hv) hx (by rw [hw]; exact h.kn.set h0 h8)
  rw [hw, decide_eq_false (show ¬ (20 + t < 20) by omega)] at this
  exact ⟨_, by simpa [shS] using this⟩
theorem ins_load {c t a x : Int} (h : Ins p wr l W false) (hc : c = 16 ∨ c = 17) (h0 : 0 ≤ t) (h8 : t < 8) (ha : Rdb wr a) (hx : U32 x) : ∃ W', Ins p (wr.set t.toNat true) (l ++ [⟨c, 20 + t, a, 0, x⟩]) W' false := by
  have hfa := (h.kn.reads ha).2
  obtain ⟨eI, eD, eA, eB, eN, eE, e20, e23, eS⟩ : shI c = true ∧ shD c = true ∧ shA c = true ∧ shB c = false ∧ shN c = true ∧ endsL c = false ∧ (c == 20) = false ∧ (c == 23) = false ∧ shS c = false := by
    rcases hc with rfl | rfl <;> decide
  have hw : writesL ⟨c, 20 + t, a, 0, x⟩ = 20 + t := by simp [writesL, eD]
  have hr : readsL ⟨c, 20 + t, a, 0, x⟩ = [a] := by simp [readsL, eA, eB]
  have := h.snoc (wr' := wr.set t.toNat true) (o := ⟨c, 20 + t, a, 0, x⟩) (by
    unfold okForm
    dsimp only
    rw [eI, eD, eA, eB, eN, fieldT (by omega) (by omega) (by omega), hfa]; rfl) eE e20 e23 (.inr rfl) (fun v hv => (by
      rw [hr] at hv
      have hva : v = a := by simpa using hv
      subst hva; exact ha)) hx (by rw [hw]; exact h.kn.set h0 h8)
  rw [hw, decide_eq_false (show ¬ (20 + t < 20) by omega)] at this
  exact ⟨_, by simpa [eS] using this⟩
theorem ins_guard {a : Int} (h : Ins p wr l W false) (ha : Rdb wr a) : ∃ W', Ins p wr (l ++ [⟨21, 0, a, 0, 0⟩]) W' false := by
  have hfa := (h.kn.reads ha).2
  have hw : writesL ⟨21, 0, a, 0, 0⟩ = -1 := rfl
  have hr : readsL ⟨21, 0, a, 0, 0⟩ = [a] := rfl
  have := h.snoc (wr' := wr) (o := ⟨21, 0, a, 0, 0⟩) (by
    unfold okForm
    dsimp only
    rw [show shD 21 = false by decide, show shI 21 = true by decide, show shA 21 = true by decide, hfa, show shB 21 = false by decide]; rfl) rfl rfl rfl (.inr rfl) (fun v hv => by
      rw [hr] at hv
      have : v = a := by simpa using hv
      subst this; exact ha) u32_0 (by rw [hw]; exact h.kn.put (by decide))
  rw [hw] at this
  exact ⟨_, by simpa [shS] using this⟩
theorem bin_form {c d a b : Int} (h3 : 3 ≤ c) (h15 : c ≤ 15) (hd : fieldL true d = true) (ha : fieldL true a = true) (hb : fieldL true b = true) : okForm ⟨c, d, a, b, 0⟩ = true ∧ endsL c = false ∧ (c == 20) = false ∧ (c == 23) = false ∧ shL c = false ∧ shS c = false ∧ writesL ⟨c, d, a, b, 0⟩ = d ∧
    ∀ v ∈ readsL ⟨c, d, a, b, 0⟩, v = a ∨ v = b := by
  obtain ⟨eI, eD, eA, eB, eL, eS, eE, e20, e23⟩ := bin_sh h3 h15
  refine ⟨?_, eE, e20, by rw [beq_eq_false_iff_ne]; omega, eL, eS, by simp [writesL, eD], fun v hv => ?_⟩
  · unfold okForm
    dsimp only
    rw [eI, eD, eA, eB, hd, ha, hb]; simp
  · unfold readsL at hv
    dsimp only at hv
    rw [eA, eB] at hv
    rcases List.mem_append.1 hv with hv | hv
    · exact .inl (by simpa using hv)
    · split at hv
      · exact .inr (by simpa using hv)
      · cases hv
theorem ins_bin {c t a b : Int} (h : Ins p wr l W false) (h3 : 3 ≤ c) (h15 : c ≤ 15) (h0 : 0 ≤ t) (h8 : t < 8) (ha : Rdb wr a) (hb : Rdb wr b) : ∃ W', Ins p (wr.set t.toNat true) (l ++ [⟨c, 20 + t, a, b, 0⟩]) W' false := by
  obtain ⟨f1, f2, f3, f4, f5, f6, f7, f8⟩ := bin_form (d := 20 + t) h3 h15 (fieldT (by omega) (by omega) (by omega)) (h.kn.reads ha).2 (h.kn.reads hb).2
  have := h.snoc (wr' := wr.set t.toNat true) f1 f2 f3 f4 (.inl f5) (fun v hv => (f8 v hv).elim (fun e => e ▸ ha) (fun e => e ▸ hb)) u32_0 (by rw [f7]; exact h.kn.set h0 h8)
  rw [f7, decide_eq_false (show ¬ (20 + t < 20) by omega)] at this
  exact ⟨_, by simpa [f6] using this⟩
theorem ins_store {c a b x : Int} (h : Ins p wr l W false) (hc : c = 18 ∨ c = 19) (ha : Rdb wr a) (hb : Rdb wr b) (hx : U32 x) : ∃ W' ch, Ins p wr (l ++ [⟨c, 0, a, b, x⟩]) W' ch := by
  have hfa := (h.kn.reads ha).2
  have hfb := (h.kn.reads hb).2
  obtain ⟨eI, eD, eA, eB, eN, eE, e20, e23⟩ : shI c = true ∧ shD c = false ∧ shA c = true ∧ shB c = true ∧ shN c = true ∧ endsL c = false ∧ (c == 20) = false ∧ (c == 23) = false := by
    rcases hc with rfl | rfl <;> decide
  have hw : writesL ⟨c, 0, a, b, x⟩ = -1 := by simp [writesL, eD]
  refine ⟨_, _, h.snoc (wr' := wr) (o := ⟨c, 0, a, b, x⟩) (by
      unfold okForm
      dsimp only
      rw [eI, eD, eA, eB, eN, hfa, hfb]; rfl) eE e20 e23 (.inr rfl) (fun v hv => (by
        unfold readsL at hv
        dsimp only at hv
        rw [eA, eB] at hv
        rcases List.mem_append.1 hv with hv | hv
        · have hva : v = a := by simpa using hv
          subst hva; exact ha
        · split at hv
          · have hva : v = b := by simpa using hv
            subst hva; exact hb
          · cases hv)) hx (by rw [hw]; exact h.kn.put (by decide))⟩
variable {ch : Bool}
theorem ins_const3 {d x : Int} (h : Ins p wr l W ch) (h0 : 0 ≤ d) (h19 : d < 19) (hx : U32 x) : ∃ W' ch', Ins p wr (l ++ [⟨1, d, 0, 0, x⟩]) W' ch' :=
  ⟨_, _, h.snoc (o := ⟨1, d, 0, 0, x⟩) (wr' := wr) (by
    show (shI 1 && fieldL (shD 1) d && fieldL (shA 1) 0 && fieldL (shB 1) 0 && (shN 1 || _)) = true
    rw [show shD 1 = true by decide, fieldT (by omega) (by omega) (by omega), show shI 1 = true by decide, show shA 1 = false by decide, show shB 1 = false by decide, show shN 1 = true by decide]; rfl) rfl rfl rfl (.inl rfl) (fun v hv => by cases hv) hx (by rw [show writesL ⟨1, d, 0, 0, x⟩ = d from rfl]; exact h.kn.put (by omega))⟩
theorem ins_move3 {d a : Int} (h : Ins p wr l W ch) (h0 : 0 ≤ d) (h19 : d < 19) (ha : Rdb wr a) : ∃ W' ch', Ins p wr (l ++ [⟨2, d, a, 0, 0⟩]) W' ch' :=
  ⟨_, _, h.snoc (o := ⟨2, d, a, 0, 0⟩) (wr' := wr) (by
    show (shI 2 && fieldL (shD 2) d && fieldL (shA 2) a && fieldL (shB 2) 0 && (shN 2 || _)) = true
    rw [show shD 2 = true by decide, fieldT (by omega) (by omega) (by omega), show shI 2 = true by decide, show shA 2 = true by decide, (h.kn.reads ha).2, show shB 2 = false by decide]; rfl) rfl rfl rfl (.inl rfl) (fun v hv => by
      have : v = a := by simpa [readsL, shA, shB] using hv
      subst this; exact ha) u32_0 (by rw [show writesL ⟨2, d, a, 0, 0⟩ = d from rfl]; exact h.kn.put (by omega))⟩
theorem ins_bin3 {c d a b : Int} (h : Ins p wr l W ch) (h3 : 3 ≤ c) (h15 : c ≤ 15) (h0 : 0 ≤ d) (h19 : d < 19) (ha : Rdb wr a) (hb : Rdb wr b) : ∃ W' ch', Ins p wr (l ++ [⟨c, d, a, b, 0⟩]) W' ch' := by
  obtain ⟨f1, f2, f3, f4, f5, f6, f7, f8⟩ := bin_form (d := d) h3 h15 (fieldT (by omega) (by omega) (by omega)) (h.kn.reads ha).2 (h.kn.reads hb).2
  exact ⟨_, _, h.snoc (wr' := wr) f1 f2 f3 f4 (.inl f5) (fun v hv => (f8 v hv).elim (fun e => e ▸ ha) (fun e => e ▸ hb)) u32_0 (by rw [f7]; exact h.kn.put (by omega))⟩
end
end Go.Proofs.Ytojofinofpgopaa
