/- What was printed tells the block: plain. -/
import Derived.Test.YtojofinofpgopaaDoorDPl
import Derived.Test.YtojofinofpgopaaDoorIrE
import Derived.Test.YtojofinofpgopaaDoorIrF0
namespace Go.Proofs.YtojofinofpgopaaDoor
theorem sep_inj {s : UInt8} : ∀ {a b x y : List UInt8}, s ∉ a → s ∉ b → a ++ s :: x = b ++ s :: y → a = b ∧ x = y
  | [], [], x, y, _, _, h => ⟨rfl, by simpa using h⟩
  | [], c :: b, x, y, _, hb, h => by
    injection h with h1 _
    exact absurd (by rw [h1]; exact List.mem_cons_self ..) hb
  | c :: a, [], x, y, ha, _, h => by
    injection h with h1 _
    exact absurd (by rw [← h1]; exact List.mem_cons_self ..) ha
  | c :: a, d :: b, x, y, ha, hb, h => by
    injection h with h1 h2
    obtain ⟨e1, e2⟩ := sep_inj (fun hm => ha (List.mem_cons_of_mem _ hm)) (fun hm => hb (List.mem_cons_of_mem _ hm)) h2
    exact ⟨by rw [h1, e1], e2⟩
def toks : List UInt8 → List (List UInt8)
  | [] => [[]]
  | c :: r => if c = 32 then [] :: toks r else match toks r with | t :: ts => (c :: t) :: ts | [] => [[c]]
theorem toks_none : ∀ {a : List UInt8}, (32 : UInt8) ∉ a → toks a = [a]
  | [], _ => rfl
  | c :: r, h => by
    have h1 : ¬ c = 32 := fun e => h (by rw [e]; exact List.mem_cons_self ..)
    rw [toks, if_neg h1, toks_none fun hm => h (List.mem_cons_of_mem _ hm)]
theorem toks_cons {x : List UInt8} : ∀ {a : List UInt8}, (32 : UInt8) ∉ a → toks (a ++ 32 :: x) = a :: toks x
  | [], _ => by rw [List.nil_append, toks, if_pos rfl]
  | c :: r, h => by
    have h1 : ¬ c = 32 := fun e => h (by rw [e]; exact List.mem_cons_self ..)
    rw [List.cons_append, toks, if_neg h1, toks_cons fun hm => h (List.mem_cons_of_mem _ hm)]
/-! ### Names -/
def nameT : List (List UInt8) := [[114, 48], [114, 49], [114, 50], [114, 51], [114, 52], [114, 53], [114, 54], [114, 55], [114, 56], [114, 57], [114, 49, 48], [114, 49, 49], [114, 49, 50], [114, 49, 51], [114, 49, 52], [114, 49, 53], [102, 107], [102, 97], [102, 98], [112, 99], [116, 48], [116, 49], [116, 50], [116, 51], [116, 52], [116, 53], [116, 54], [116, 55]]
theorem nameL_nat (k : Nat) (h : k < 28) : nameL (k : Int) = nameT.getD k [] := by
  have hk : k = 0 ∨ k = 1 ∨ k = 2 ∨ k = 3 ∨ k = 4 ∨ k = 5 ∨ k = 6 ∨ k = 7 ∨ k = 8 ∨ k = 9 ∨ k = 10 ∨ k = 11 ∨ k = 12 ∨ k = 13 ∨ k = 14 ∨ k = 15 ∨ k = 16 ∨ k = 17 ∨ k = 18 ∨ k = 19 ∨ k = 20 ∨ k = 21 ∨ k = 22 ∨ k = 23 ∨ k = 24 ∨ k = 25 ∨ k = 26 ∨ k = 27 := by omega
  rcases hk with rfl | rfl | rfl | rfl | rfl | rfl | rfl | rfl | rfl | rfl | rfl | rfl | rfl | rfl | rfl | rfl | rfl | rfl | rfl | rfl | rfl | rfl | rfl | rfl | rfl | rfl | rfl | rfl
  · exact (nameL_r (v := 0) (by decide) (by decide)).trans (by rw [show Int.toNat 0 = 0 from rfl, Lib.decDigits_one (by decide)]; rfl)
  · exact (nameL_r (v := 1) (by decide) (by decide)).trans (by rw [show Int.toNat 1 = 1 from rfl, Lib.decDigits_one (by decide)]; rfl)
  · exact (nameL_r (v := 2) (by decide) (by decide)).trans (by rw [show Int.toNat 2 = 2 from rfl, Lib.decDigits_one (by decide)]; rfl)
  · exact (nameL_r (v := 3) (by decide) (by decide)).trans (by rw [show Int.toNat 3 = 3 from rfl, Lib.decDigits_one (by decide)]; rfl)
  · exact (nameL_r (v := 4) (by decide) (by decide)).trans (by rw [show Int.toNat 4 = 4 from rfl, Lib.decDigits_one (by decide)]; rfl)
  · exact (nameL_r (v := 5) (by decide) (by decide)).trans (by rw [show Int.toNat 5 = 5 from rfl, Lib.decDigits_one (by decide)]; rfl)
  · exact (nameL_r (v := 6) (by decide) (by decide)).trans (by rw [show Int.toNat 6 = 6 from rfl, Lib.decDigits_one (by decide)]; rfl)
  · exact (nameL_r (v := 7) (by decide) (by decide)).trans (by rw [show Int.toNat 7 = 7 from rfl, Lib.decDigits_one (by decide)]; rfl)
  · exact (nameL_r (v := 8) (by decide) (by decide)).trans (by rw [show Int.toNat 8 = 8 from rfl, Lib.decDigits_one (by decide)]; rfl)
  · exact (nameL_r (v := 9) (by decide) (by decide)).trans (by rw [show Int.toNat 9 = 9 from rfl, Lib.decDigits_one (by decide)]; rfl)
  · exact (nameL_r (v := 10) (by decide) (by decide)).trans (by rw [show Int.toNat 10 = 10 from rfl, Lib.decDigits_two (by decide) (by decide)]; rfl)
  · exact (nameL_r (v := 11) (by decide) (by decide)).trans (by rw [show Int.toNat 11 = 11 from rfl, Lib.decDigits_two (by decide) (by decide)]; rfl)
  · exact (nameL_r (v := 12) (by decide) (by decide)).trans (by rw [show Int.toNat 12 = 12 from rfl, Lib.decDigits_two (by decide) (by decide)]; rfl)
  · exact (nameL_r (v := 13) (by decide) (by decide)).trans (by rw [show Int.toNat 13 = 13 from rfl, Lib.decDigits_two (by decide) (by decide)]; rfl)
  · exact (nameL_r (v := 14) (by decide) (by decide)).trans (by rw [show Int.toNat 14 = 14 from rfl, Lib.decDigits_two (by decide) (by decide)]; rfl)
  · exact (nameL_r (v := 15) (by decide) (by decide)).trans (by rw [show Int.toNat 15 = 15 from rfl, Lib.decDigits_two (by decide) (by decide)]; rfl)
  · exact nameL16
  · exact nameL17
  · exact nameL18
  · exact nameL19
  · exact (nameL_t (v := 20) (by decide) (by decide)).trans (by rw [show Int.toNat (20 - 20) = 0 from rfl, Lib.decDigits_one (by decide)]; rfl)
  · exact (nameL_t (v := 21) (by decide) (by decide)).trans (by rw [show Int.toNat (21 - 20) = 1 from rfl, Lib.decDigits_one (by decide)]; rfl)
  · exact (nameL_t (v := 22) (by decide) (by decide)).trans (by rw [show Int.toNat (22 - 20) = 2 from rfl, Lib.decDigits_one (by decide)]; rfl)
  · exact (nameL_t (v := 23) (by decide) (by decide)).trans (by rw [show Int.toNat (23 - 20) = 3 from rfl, Lib.decDigits_one (by decide)]; rfl)
  · exact (nameL_t (v := 24) (by decide) (by decide)).trans (by rw [show Int.toNat (24 - 20) = 4 from rfl, Lib.decDigits_one (by decide)]; rfl)
  · exact (nameL_t (v := 25) (by decide) (by decide)).trans (by rw [show Int.toNat (25 - 20) = 5 from rfl, Lib.decDigits_one (by decide)]; rfl)
  · exact (nameL_t (v := 26) (by decide) (by decide)).trans (by rw [show Int.toNat (26 - 20) = 6 from rfl, Lib.decDigits_one (by decide)]; rfl)
  · exact (nameL_t (v := 27) (by decide) (by decide)).trans (by rw [show Int.toNat (27 - 20) = 7 from rfl, Lib.decDigits_one (by decide)]; rfl)
theorem nameL_fin (v : Fin 28) : nameL (v.val : Int) = nameT.getD v.val [] := nameL_nat v.val v.2
theorem nameT_ok : ∀ v : Fin 28, (32 : UInt8) ∉ nameT.getD v.val [] ∧ (10 : UInt8) ∉ nameT.getD v.val [] ∧ (nameT.getD v.val []).headD 0 ∈ [(114 : UInt8), 116, 102, 112] := by decide
theorem nameT_inj : ∀ v w : Fin 28, nameT.getD v.val [] = nameT.getD w.val [] → v = w := by decide
def In28 (v : Int) : Prop := 0 ≤ v ∧ v < 28
theorem name_fin {v : Int} (h : In28 v) : ∃ k : Fin 28, v = (k.val : Int) ∧ nameL v = nameT.getD k.val [] := by
  have h1 : v = ((v.toNat : Nat) : Int) := (Int.toNat_of_nonneg h.1).symm
  have h2 : v.toNat < 28 := by have := h.2; have := h.1; omega
  exact ⟨⟨v.toNat, h2⟩, h1, (congrArg nameL h1).trans (nameL_fin ⟨_, h2⟩)⟩
theorem name_no {v : Int} (h : In28 v) : (32 : UInt8) ∉ nameL v ∧ (10 : UInt8) ∉ nameL v := by
  obtain ⟨k, _, e⟩ := name_fin h
  rw [e]; exact ⟨(nameT_ok k).1, (nameT_ok k).2.1⟩
theorem name_head {v : Int} (h : In28 v) : (nameL v).headD 0 ∈ [(114 : UInt8), 116, 102, 112] := by
  obtain ⟨k, _, e⟩ := name_fin h
  rw [e]; exact (nameT_ok k).2.2
theorem name_inj {v w : Int} (h : In28 v) (h' : In28 w) (e : nameL v = nameL w) : v = w := by
  obtain ⟨k, e1, e2⟩ := name_fin h
  obtain ⟨j, e3, e4⟩ := name_fin h'
  rw [e1, e3, nameT_inj k j (by rw [← e2, ← e4, e])]
/-! ### Numerals -/
def digB (c : UInt8) : Bool := decide (48 ≤ c.toNat) && decide (c.toNat ≤ 57)
theorem digC_nat (u : Nat) : (digC u).toNat = 48 + u % 10 := by unfold digC; rw [UInt8.toNat_ofNat']; omega
theorem dec_dig (u : Nat) : ∀ c ∈ Lib.decDigits u, digB c = true := by
  induction u using Nat.strongRecOn with
  | _ u ih =>
    rw [dec_pre, decPre]
    intro c hc
    have h0 : digB (digC u) = true := by
      have := digC_nat u
      simp only [digB, Bool.and_eq_true, decide_eq_true_iff]; omega
    split at hc
    · simp at hc; rw [hc]; exact h0
    · rcases List.mem_append.1 hc with hc | hc
      · exact ih (u / 10) (by omega) c hc
      · simp at hc; rw [hc]; exact h0
theorem dec_no {u : Nat} {c : UInt8} (h : digB c = false) : c ∉ Lib.decDigits u := fun hm => by rw [dec_dig u c hm] at h; cases h
theorem dec_ne (u : Nat) : Lib.decDigits u ≠ [] := by rw [dec_pre]; simp
theorem dec_head (u : Nat) : digB ((Lib.decDigits u).headD 0) = true := by
  cases h : Lib.decDigits u with
  | nil => exact absurd h (dec_ne u)
  | cons c r => exact dec_dig u c (by rw [h]; exact List.mem_cons_self ..)
def valD (l : List UInt8) : Nat := l.foldl (fun a c => a * 10 + (c.toNat - 48)) 0
theorem valD_dec (u : Nat) : valD (Lib.decDigits u) = u := by
  induction u using Nat.strongRecOn with
  | _ u ih =>
    rw [dec_pre, decPre]
    split
    · rename_i h
      show 0 * 10 + ((digC u).toNat - 48) = u
      rw [digC_nat]; omega
    · rename_i h
      have := ih (u / 10) (by omega)
      unfold valD at this ⊢
      rw [List.foldl_append, this]
      show u / 10 * 10 + ((digC u).toNat - 48) = u
      rw [digC_nat]; omega
theorem dec_inj {u v : Nat} (h : Lib.decDigits u = Lib.decDigits v) : u = v := by rw [← valD_dec u, h, valD_dec]
theorem hexD_nat : ∀ d : Fin 16, (hexD d.val).toNat = if d.val < 10 then 48 + d.val else 87 + d.val := by decide
theorem hexD_inj : ∀ d e : Fin 16, hexD d.val = hexD e.val → d = e := by decide
theorem hexD_no : ∀ d : Fin 16, hexD d.val ≠ 32 ∧ hexD d.val ≠ 10 := by decide
theorem hexN_no (a k : Nat) : (32 : UInt8) ∉ hexN a k ∧ (10 : UInt8) ∉ hexN a k := by
  induction k generalizing a with
  | zero => simp [hexN]
  | succ k ih =>
    have h := hexD_no ⟨a % 16, Nat.mod_lt _ (by decide)⟩
    rw [hexN]
    have := ih (a / 16)
    simp only [List.mem_append, List.mem_singleton, not_or]
    exact ⟨⟨this.1, Ne.symm h.1⟩, ⟨this.2, Ne.symm h.2⟩⟩
theorem hexN_inj {k : Nat} : ∀ {a b : Nat}, a < 16 ^ k → b < 16 ^ k → hexN a k = hexN b k → a = b := by
  induction k with
  | zero => intro a b h1 h2 _; simp at h1 h2; omega
  | succ k ih =>
    intro a b h1 h2 h
    rw [hexN, hexN] at h
    have h3 := List.append_inj h (by rw [hexN_len, hexN_len])
    have e1 := ih (a := a / 16) (b := b / 16) (by rw [Nat.pow_succ] at h1; omega) (by rw [Nat.pow_succ] at h2; omega) h3.1
    have e2 := h3.2
    injection e2 with e2
    have e3 := hexD_inj ⟨a % 16, Nat.mod_lt _ (by decide)⟩ ⟨b % 16, Nat.mod_lt _ (by decide)⟩ e2
    have e4 : a % 16 = b % 16 := congrArg Fin.val e3
    omega
end Go.Proofs.YtojofinofpgopaaDoor
/- What was printed tells the operations: plain. -/
namespace Go.Proofs.YtojofinofpgopaaDoor
structure Fm (o : IOp) : Prop where
  c0 : 1 ≤ o.code
  c1 : o.code ≤ 25
  d : shD o.code = true → In28 o.d
  d0 : shD o.code = false → o.d = 0
  a : shA o.code = true → In28 o.a
  a0 : shA o.code = false → o.a = 0
  b : shB o.code = true → In28 o.b
  b0 : shB o.code = false → o.b = 0
  n0 : shN o.code = false → o.n = 0
theorem fieldL_in {h : Bool} {v : Int} (e : fieldL h v = true) : (h = true → In28 v) ∧ (h = false → v = 0) := by
  unfold fieldL at e
  cases h
  · exact ⟨fun x => (by cases x), fun _ => by simpa using e⟩
  · refine ⟨fun _ => ?_, fun x => by cases x⟩
    simp at e
    exact ⟨e.1.1, e.1.2⟩
theorem Fm.of {o : IOp} (h : okForm o = true) : Fm o := by
  simp only [okForm, Bool.and_eq_true] at h
  obtain ⟨⟨⟨⟨h1, h2⟩, h3⟩, h4⟩, h5⟩ := h
  simp only [shI, Bool.and_eq_true, decide_eq_true_iff] at h1
  exact ⟨h1.1, h1.2, (fieldL_in h2).1, (fieldL_in h2).2, (fieldL_in h3).1, (fieldL_in h3).2, (fieldL_in h4).1, (fieldL_in h4).2, fun e => by rw [e] at h5; simpa using h5⟩
def unitL (c : Int) : List UInt8 := if c = 16 ∨ c = 18 then [119, 111, 114, 100] else [98, 121, 116, 101]
theorem unit_no (c : Int) : (32 : UInt8) ∉ unitL c ∧ (10 : UInt8) ∉ unitL c := by unfold unitL; split <;> decide
theorem sym_fin : ∀ k : Fin 13, (32 : UInt8) ∉ symL.getD k.val [] ∧ (10 : UInt8) ∉ symL.getD k.val [] ∧ symL.findIdx (· == symL.getD k.val []) = k.val := by decide
theorem sym_at {c : Int} (h : 3 ≤ c ∧ c ≤ 15) : (32 : UInt8) ∉ symL.getD (c - 3).toNat [] ∧ (10 : UInt8) ∉ symL.getD (c - 3).toNat [] ∧ symL.findIdx (· == symL.getD (c - 3).toNat []) = (c - 3).toNat := sym_fin ⟨(c - 3).toNat, by omega⟩
theorem not_app {s : UInt8} {a b : List UInt8} (h1 : s ∉ a) (h2 : s ∉ b) : s ∉ a ++ b := fun hm => (List.mem_append.1 hm).elim h1 h2
section
variable {o : IOp} {t : List Int}
theorem T1 (f : Fm o) (h : o.code = 1) : toks (lineL o t) = [nameL o.d, [61], Lib.decDigits o.n.toNat] := by
  have hd := name_no (f.d (by simp [shD, h]))
  have e : lineL o t = nameL o.d ++ 32 :: ([61] ++ 32 :: Lib.decDigits o.n.toNat) := by rw [lineL1 h]; simp
  rw [e, toks_cons hd.1, toks_cons (by decide), toks_none (dec_no (by decide))]
theorem T2 (f : Fm o) (h : o.code = 2) : toks (lineL o t) = [nameL o.d, [61], nameL o.a] := by
  have hd := name_no (f.d (by simp [shD, h]))
  have ha := name_no (f.a (by simp [shA, h]))
  have e : lineL o t = nameL o.d ++ 32 :: ([61] ++ 32 :: nameL o.a) := by rw [lineL2 h]; simp
  rw [e, toks_cons hd.1, toks_cons (by decide), toks_none ha.1]
theorem Tl (f : Fm o) (h : o.code = 16 ∨ o.code = 17) : toks (lineL o t) = [nameL o.d, [61], unitL o.code ++ [91] ++ nameL o.a, [43], Lib.decDigits o.n.toNat ++ [93]] := by
  have hd := name_no (f.d (by rcases h with h | h <;> simp [shD, h]))
  have ha := name_no (f.a (by rcases h with h | h <;> simp [shA, h]))
  have e : lineL o t = nameL o.d ++ 32 :: ([61] ++ 32 :: ((unitL o.code ++ [91] ++ nameL o.a) ++ 32 :: ([43] ++ 32 :: (Lib.decDigits o.n.toNat ++ [93])))) := by rw [lineLl h]; simp [cellL, unitL]
  rw [e, toks_cons hd.1, toks_cons (by decide), toks_cons (not_app (not_app (unit_no _).1 (by decide)) ha.1), toks_cons (by decide), toks_none (not_app (dec_no (by decide)) (by decide))]
theorem Ts (f : Fm o) (h : o.code = 18 ∨ o.code = 19) : toks (lineL o t) = [unitL o.code ++ [91] ++ nameL o.a, [43], Lib.decDigits o.n.toNat ++ [93], [61], nameL o.b] := by
  have hb := name_no (f.b (by rcases h with h | h <;> simp [shB, h]))
  have ha := name_no (f.a (by rcases h with h | h <;> simp [shA, h]))
  have e : lineL o t = (unitL o.code ++ [91] ++ nameL o.a) ++ 32 :: ([43] ++ 32 :: ((Lib.decDigits o.n.toNat ++ [93]) ++ 32 :: ([61] ++ 32 :: nameL o.b))) := by rw [lineLs h]; simp [cellL, unitL]
  rw [e, toks_cons (not_app (not_app (unit_no _).1 (by decide)) ha.1), toks_cons (by decide), toks_cons (not_app (dec_no (by decide)) (by decide)), toks_cons (by decide), toks_none hb.1]
theorem T20 (h : o.code = 20) (hn : o.n < t.length) : toks (lineL o t) = [Lib.decDigits o.n.toNat ++ [58], hexN (t.getD o.n.toNat 0).toNat 8] := by
  have e : lineL o t = (Lib.decDigits o.n.toNat ++ [58]) ++ 32 :: hexN (t.getD o.n.toNat 0).toNat 8 := by rw [lineL20 h hn]; simp
  rw [e, toks_cons (not_app (dec_no (by decide)) (by decide)), toks_none (hexN_no _ _).1]
theorem T21 (f : Fm o) (h : o.code = 21) : toks (lineL o t) = [[103, 117, 97, 114, 100], nameL o.a] := by
  have ha := name_no (f.a (by simp [shA, h]))
  have e : lineL o t = [103, 117, 97, 114, 100] ++ 32 :: nameL o.a := by rw [lineL21 h]; simp
  rw [e, toks_cons (by decide), toks_none ha.1]
theorem T22 (h : o.code = 22) : toks (lineL o t) = [[115, 108, 111, 119]] := by rw [lineL22 h]; decide
theorem T23 (f : Fm o) (h : o.code = 23) : toks (lineL o t) = [[105, 102], nameL o.a, [101, 120, 105, 116], Lib.decDigits o.n.toNat] := by
  have ha := name_no (f.a (by simp [shA, h]))
  have e : lineL o t = [105, 102] ++ 32 :: (nameL o.a ++ 32 :: ([101, 120, 105, 116] ++ 32 :: Lib.decDigits o.n.toNat)) := by rw [lineL23 h]; simp
  rw [e, toks_cons (by decide), toks_cons ha.1, toks_cons (by decide), toks_none (dec_no (by decide))]
theorem T24 (h : o.code = 24) : toks (lineL o t) = [[101, 120, 105, 116], Lib.decDigits o.n.toNat] := by
  have e : lineL o t = [101, 120, 105, 116] ++ 32 :: Lib.decDigits o.n.toNat := by rw [lineL24 h]; simp
  rw [e, toks_cons (by decide), toks_none (dec_no (by decide))]
theorem T25 (f : Fm o) (h : o.code = 25) : toks (lineL o t) = [[101, 120, 105, 116], nameL o.a] := by
  have ha := name_no (f.a (by simp [shA, h]))
  have e : lineL o t = [101, 120, 105, 116] ++ 32 :: nameL o.a := by rw [lineL25 h]; simp
  rw [e, toks_cons (by decide), toks_none ha.1]
theorem Tbi (f : Fm o) (h : 3 ≤ o.code ∧ o.code ≤ 15) : toks (lineL o t) = [nameL o.d, [61], nameL o.a, symL.getD (o.code - 3).toNat [], nameL o.b] := by
  have hd := name_no (f.d (by simp [shD, h]))
  have ha := name_no (f.a (by simp [shA, h]))
  have hb := name_no (f.b (by simp [shB, h]))
  have e : lineL o t = nameL o.d ++ 32 :: ([61] ++ 32 :: (nameL o.a ++ 32 :: (symL.getD (o.code - 3).toNat [] ++ 32 :: nameL o.b))) := by
    rw [lineLb h]; simp only [List.append_assoc, List.cons_append, List.nil_append]
  rw [e, toks_cons hd.1, toks_cons (by decide), toks_cons ha.1, toks_cons (sym_at h).1, toks_none hb.1]
end
def codeT : List (List UInt8) → Int
  | [_] => 22
  | [x, y] => if digB (x.headD 0) then 20 else if x.headD 0 = 103 then 21 else if digB (y.headD 0) then 24 else 25
  | [_, _, z] => if digB (z.headD 0) then 1 else 2
  | [_, _, _, _] => 23
  | [x, y, z, u, _] => if y = [43] then (if x.headD 0 = 119 then 18 else 19) else if z.headD 0 = 119 then 16 else if z.headD 0 = 98 then 17 else 3 + (symL.findIdx (· == u) : Nat)
  | _ => 0
theorem nh {v : Int} (h : In28 v) : digB ((nameL v).headD 0) = false ∧ (nameL v).headD 0 ≠ 119 ∧ (nameL v).headD 0 ≠ 98 := by
  have := name_head h
  simp only [List.mem_cons, List.not_mem_nil, or_false] at this
  rcases this with h | h | h | h <;> (rw [h]; decide)
theorem head_app {a b : List UInt8} (h : a ≠ []) : (a ++ b).headD 0 = a.headD 0 := by
  cases a with
  | nil => exact absurd rfl h
  | cons c r => rfl
theorem unit_head (c : Int) (x : List UInt8) : (unitL c ++ [91] ++ x).headD 0 = if c = 16 ∨ c = 18 then 119 else 98 := by
  unfold unitL; split <;> rfl
theorem codeT_line {o : IOp} {t : List Int} (f : Fm o) (hn : o.code = 20 → o.n < t.length) : codeT (toks (lineL o t)) = o.code := by
  have hc : o.code = 1 ∨ o.code = 2 ∨ (3 ≤ o.code ∧ o.code ≤ 15) ∨ (o.code = 16 ∨ o.code = 17) ∨ (o.code = 18 ∨ o.code = 19) ∨ o.code = 20 ∨ o.code = 21 ∨ o.code = 22 ∨ o.code = 23 ∨ o.code = 24 ∨ o.code = 25 := by
    have := f.c0; have := f.c1; omega
  rcases hc with h | h | h | h | h | h | h | h | h | h | h
  · rw [T1 f h, codeT, if_pos (dec_head _), h]
  · rw [T2 f h, codeT, (nh (f.a (by simp [shA, h]))).1, h]; rfl
  · rw [Tbi f h, codeT, if_neg (by decide), if_neg (nh (f.a (by simp [shA, h]))).2.1, if_neg (nh (f.a (by simp [shA, h]))).2.2, (sym_at h).2.2]; omega
  · rw [Tl f h, codeT, if_neg (by decide), unit_head]
    rcases h with h | h <;> (rw [h]; decide)
  · rw [Ts f h, codeT, if_pos rfl, unit_head]
    rcases h with h | h <;> (rw [h]; decide)
  · rw [T20 h (hn h), codeT, head_app (dec_ne _), if_pos (dec_head _), h]
  · rw [T21 f h, codeT, h]; rfl
  · rw [T22 h, codeT, h]
  · rw [T23 f h, codeT, h]
  · rw [T24 h, codeT, if_neg (by decide), if_neg (by decide), if_pos (dec_head _), h]
  · rw [T25 f h, codeT, if_neg (by decide), if_neg (by decide), (nh (f.a (by simp [shA, h]))).1, h]; rfl
theorem app_inj_right {a b c : List UInt8} (h : a ++ c = b ++ c) : a = b := List.append_cancel_right h
theorem toN {n m : Int} (h1 : 0 ≤ n) (h2 : 0 ≤ m) (h : n.toNat = m.toNat) : n = m := by omega
theorem op_ext {o p : IOp} (h1 : o.code = p.code) (h2 : o.d = p.d) (h3 : o.a = p.a) (h4 : o.b = p.b) (h5 : o.n = p.n) : o = p := by
  cases o; cases p; simp_all
theorem lineL_inj {o p : IOp} {t t' : List Int} (f : Fm o) (g : Fm p) (hn : o.code = 20 → o.n < t.length) (hn' : p.code = 20 → p.n < t'.length) (u : 0 ≤ o.n) (u' : 0 ≤ p.n) (e : lineL o t = lineL p t') : o = p ∧ (o.code = 20 → hexN (t.getD o.n.toNat 0).toNat 8 = hexN (t'.getD p.n.toNat 0).toNat 8) := by
  have hcode : o.code = p.code := by rw [← codeT_line f hn, e, codeT_line g hn']
  have et : toks (lineL o t) = toks (lineL p t') := by rw [e]
  have hc : o.code = 1 ∨ o.code = 2 ∨ (3 ≤ o.code ∧ o.code ≤ 15) ∨ (o.code = 16 ∨ o.code = 17) ∨ (o.code = 18 ∨ o.code = 19) ∨ o.code = 20 ∨ o.code = 21 ∨ o.code = 22 ∨ o.code = 23 ∨ o.code = 24 ∨ o.code = 25 := by
    have := f.c0; have := f.c1; omega
  have D1 : shD o.code = true → nameL o.d = nameL p.d → o.d = p.d := fun h1 h2 => name_inj (f.d h1) (g.d (by rw [← hcode]; exact h1)) h2
  have D0 : shD o.code = false → o.d = p.d := fun h1 => by rw [f.d0 h1, g.d0 (by rw [← hcode]; exact h1)]
  have A1 : shA o.code = true → nameL o.a = nameL p.a → o.a = p.a := fun h1 h2 => name_inj (f.a h1) (g.a (by rw [← hcode]; exact h1)) h2
  have A0 : shA o.code = false → o.a = p.a := fun h1 => by rw [f.a0 h1, g.a0 (by rw [← hcode]; exact h1)]
  have B1 : shB o.code = true → nameL o.b = nameL p.b → o.b = p.b := fun h1 h2 => name_inj (f.b h1) (g.b (by rw [← hcode]; exact h1)) h2
  have B0 : shB o.code = false → o.b = p.b := fun h1 => by rw [f.b0 h1, g.b0 (by rw [← hcode]; exact h1)]
  have N1 : Lib.decDigits o.n.toNat = Lib.decDigits p.n.toNat → o.n = p.n := fun h1 => toN u u' (dec_inj h1)
  have N0 : shN o.code = false → o.n = p.n := fun h1 => by rw [f.n0 h1, g.n0 (by rw [← hcode]; exact h1)]
  rcases hc with h | h | h | h | h | h | h | h | h | h | h
  · have h' := h; rw [hcode] at h'
    rw [T1 f h, T1 g h'] at et
    simp only [List.cons.injEq, and_true, true_and] at et
    exact ⟨op_ext hcode (D1 (by simp [shD, h]) et.1) (A0 (by simp [shA, h])) (B0 (by simp [shB, h])) (N1 et.2), fun h2 => by omega⟩
  · have h' := h; rw [hcode] at h'
    rw [T2 f h, T2 g h'] at et
    simp only [List.cons.injEq, and_true, true_and] at et
    exact ⟨op_ext hcode (D1 (by simp [shD, h]) et.1) (A1 (by simp [shA, h]) et.2) (B0 (by simp [shB, h])) (N0 (by simp [shN, h])), fun h2 => by omega⟩
  · have h' := h; rw [hcode] at h'
    rw [Tbi f h, Tbi g h'] at et
    simp only [List.cons.injEq, and_true, true_and] at et
    have e20 : ∀ n : Int, n < 3 ∨ 15 < n → (o.code == n) = false := fun n h1 => by simp; omega
    exact ⟨op_ext hcode (D1 (by simp [shD, h]) et.1) (A1 (by simp [shA, h]) et.2.1) (B1 (by simp [shB, h]) et.2.2.2) (N0 (by simp [shN, e20])), fun h2 => by omega⟩
  · have h' := h; rw [hcode] at h'
    rw [Tl f h, Tl g h', hcode] at et
    simp only [List.cons.injEq, and_true, true_and, List.append_cancel_left_eq] at et
    have := app_inj_right et.2.2
    refine ⟨op_ext hcode (D1 (by rcases h with h | h <;> simp [shD, h]) et.1) (A1 (by rcases h with h | h <;> simp [shA, h]) et.2.1) (B0 (by rcases h with h | h <;> simp [shB, h])) (N1 this), fun h2 => by omega⟩
  · have h' := h; rw [hcode] at h'
    rw [Ts f h, Ts g h', hcode] at et
    simp only [List.cons.injEq, and_true, true_and, List.append_cancel_left_eq] at et
    have := app_inj_right et.2.1
    refine ⟨op_ext hcode (D0 (by rcases h with h | h <;> simp [shD, h])) (A1 (by rcases h with h | h <;> simp [shA, h]) et.1) (B1 (by rcases h with h | h <;> simp [shB, h]) et.2.2) (N1 this), fun h2 => by omega⟩
  · have h' := h; rw [hcode] at h'
    rw [T20 h (hn h), T20 h' (hn' h')] at et
    simp only [List.cons.injEq, and_true, true_and] at et
    exact ⟨op_ext hcode (D0 (by simp [shD, h])) (A0 (by simp [shA, h])) (B0 (by simp [shB, h])) (N1 (app_inj_right et.1)), fun _ => et.2⟩
  · have h' := h; rw [hcode] at h'
    rw [T21 f h, T21 g h'] at et
    simp only [List.cons.injEq, and_true, true_and] at et
    exact ⟨op_ext hcode (D0 (by simp [shD, h])) (A1 (by simp [shA, h]) et) (B0 (by simp [shB, h])) (N0 (by simp [shN, h])), fun h2 => by omega⟩
  · exact ⟨op_ext hcode (D0 (by simp [shD, h])) (A0 (by simp [shA, h])) (B0 (by simp [shB, h])) (N0 (by simp [shN, h])), fun h2 => by omega⟩
  · have h' := h; rw [hcode] at h'
    rw [T23 f h, T23 g h'] at et
    simp only [List.cons.injEq, and_true, true_and] at et
    exact ⟨op_ext hcode (D0 (by simp [shD, h])) (A1 (by simp [shA, h]) et.1) (B0 (by simp [shB, h])) (N1 et.2), fun h2 => by omega⟩
  · have h' := h; rw [hcode] at h'
    rw [T24 h, T24 h'] at et
    simp only [List.cons.injEq, and_true, true_and] at et
    exact ⟨op_ext hcode (D0 (by simp [shD, h])) (A0 (by simp [shA, h])) (B0 (by simp [shB, h])) (N1 et), fun h2 => by omega⟩
  · have h' := h; rw [hcode] at h'
    rw [T25 f h, T25 g h'] at et
    simp only [List.cons.injEq, and_true, true_and] at et
    exact ⟨op_ext hcode (D0 (by simp [shD, h])) (A1 (by simp [shA, h]) et) (B0 (by simp [shB, h])) (N0 (by simp [shN, h])), fun h2 => by omega⟩
end Go.Proofs.YtojofinofpgopaaDoor
/- What was printed tells a valid block: plain. -/
namespace Go.Proofs.YtojofinofpgopaaDoor
theorem eqD {α : Type} {l l' : List α} {d : α} (hl : l.length = l'.length) (h : ∀ k, k < l.length → l.getD k d = l'.getD k d) : l = l' := by
  apply List.ext_getElem hl
  intro k h1 h2
  have := h k h1
  rwa [getD_at h1, getD_at h2] at this
structure VrF (ops : List IOp) (k : Nat) (s : ISt) : Prop where
  fm : ∀ q, q < k → Fm (ops.getD q noOp)
  m0 : 0 ≤ s.marks
  mark : ∀ q, q < k → (ops.getD q noOp).code = 20 → 0 ≤ (ops.getD q noOp).n ∧ (ops.getD q noOp).n < s.marks
  all : ∀ i : Nat, (i : Int) < s.marks → ∃ q, q < k ∧ (ops.getD q noOp).code = 20 ∧ (ops.getD q noOp).n = i
theorem vrun_facts {ops : List IOp} : ∀ {k : Nat} {s : ISt}, vrun ops k = some s → VrF ops k s
  | 0, s, h => by
    simp only [vrun, Option.some.injEq] at h
    subst h
    exact ⟨fun q hq => absurd hq (Nat.not_lt_zero _), Int.le_refl _, fun q hq => absurd hq (Nat.not_lt_zero _), fun i hi => absurd hi (by show ¬ (i : Int) < 0; omega)⟩
  | k + 1, s, h => by
    simp only [vrun, Option.bind_eq_some_iff] at h
    obtain ⟨s', h1, h2⟩ := h
    have F := vrun_facts h1
    unfold vstep at h2
    split at h2
    · rename_i hok
      simp only [Option.some.injEq] at h2
      obtain ⟨o, ho⟩ : ∃ o, ops.getD k noOp = o := ⟨_, rfl⟩
      rw [ho] at h2 hok
      simp only [nextOk, Bool.and_eq_true] at hok
      obtain ⟨⟨⟨hf, _⟩, hm⟩, _⟩ := hok
      have hmarks : s.marks = if o.code = 20 then s'.marks + 1 else s'.marks := by
        rw [← h2]
        unfold nextSt markL
        by_cases hc : o.code = 20
        · simp [hc]
        · simp [hc]
      have F0 := F.m0
      have hmk : o.code = 20 → o.n = s'.marks := fun hc => by simpa [okMark, hc] using hm
      refine ⟨fun q hq => ?_, ?_, fun q hq hc => ?_, fun i hi => ?_⟩
      · rcases Nat.lt_or_ge q k with h3 | h3
        · exact F.fm q h3
        · rw [show q = k by omega, ho]; exact Fm.of hf
      · rw [hmarks]; split <;> omega
      · rcases Nat.lt_or_ge q k with h3 | h3
        · have := F.mark q h3 hc
          refine ⟨this.1, ?_⟩
          rw [hmarks]; split <;> omega
        · rw [show q = k by omega, ho] at hc ⊢
          rw [hmarks, if_pos hc, hmk hc]; omega
      · by_cases h3 : (i : Int) < s'.marks
        · obtain ⟨q, h4, h5⟩ := F.all i h3
          exact ⟨q, by omega, h5⟩
        · by_cases hc : o.code = 20
          · rw [hmarks, if_pos hc] at hi
            exact ⟨k, by omega, by rw [ho]; exact hc, by rw [ho, hmk hc]; omega⟩
          · rw [hmarks, if_neg hc] at hi
            exact absurd hi h3
    · cases h2
structure VaP (b : IBlk) : Prop where
  hd : headerL b = true
  run : ∃ s, vrun b.ops b.ops.length = some s ∧ s.marks = b.at_.length
theorem validP_facts {b : IBlk} (h : validL b = true) : VaP b := by
  simp only [validL, Bool.and_eq_true] at h
  refine ⟨h.1, ?_⟩
  cases hq : vrun b.ops b.ops.length with
  | none => rw [hq] at h; cases h.2
  | some s => rw [hq] at h; exact ⟨s, rfl, eq_of_beq h.2⟩
theorem valid_pages {b : IBlk} (h : validL b = true) : ∀ p ∈ b.pages, 0 ≤ p ∧ p < 4096 := fun p hp => by
  have h1 := (validP_facts h).hd
  simp only [headerL, Bool.and_eq_true, pagesOk, List.all_eq_true] at h1
  obtain ⟨k, hk, e⟩ := List.getElem_of_mem hp
  have := h1.1 k (List.mem_range.2 hk)
  simp only [pageBad, getD_at hk, e, Bool.not_eq_true', Bool.or_eq_false_iff, decide_eq_false_iff_not] at this
  omega
theorem cell_no {c a n : Int} (ha : In28 a) : (10 : UInt8) ∉ cellL c a n := by
  have e : cellL c a n = unitL c ++ [91] ++ nameL a ++ [32, 43, 32] ++ Lib.decDigits n.toNat ++ [93] := rfl
  rw [e]
  exact not_app (not_app (not_app (not_app (not_app (unit_no _).2 (by decide)) (name_no ha).2) (by decide)) (dec_no (by decide))) (by decide)
theorem line_no {o : IOp} {t : List Int} (f : Fm o) : (10 : UInt8) ∉ lineL o t := by
  have hc : o.code = 1 ∨ o.code = 2 ∨ (3 ≤ o.code ∧ o.code ≤ 15) ∨ (o.code = 16 ∨ o.code = 17) ∨ (o.code = 18 ∨ o.code = 19) ∨ o.code = 20 ∨ o.code = 21 ∨ o.code = 22 ∨ o.code = 23 ∨ o.code = 24 ∨ o.code = 25 := by
    have := f.c0; have := f.c1; omega
  rcases hc with h | h | h | h | h | h | h | h | h | h | h
  · rw [lineL1 h]; exact not_app (not_app (name_no (f.d (by simp [shD, h]))).2 (by decide)) (dec_no (by decide))
  · rw [lineL2 h]; exact not_app (not_app (name_no (f.d (by simp [shD, h]))).2 (by decide)) (name_no (f.a (by simp [shA, h]))).2
  · rw [lineLb h]; exact not_app (not_app (not_app (not_app (not_app (not_app (name_no (f.d (by simp [shD, h]))).2 (by decide)) (name_no (f.a (by simp [shA, h]))).2) (by decide)) (sym_at h).2.1) (by decide)) (name_no (f.b (by simp [shB, h]))).2
  · rw [lineLl h]; exact not_app (not_app (name_no (f.d (by rcases h with h | h <;> simp [shD, h]))).2 (by decide)) (cell_no (f.a (by rcases h with h | h <;> simp [shA, h])))
  · rw [lineLs h]; exact not_app (not_app (cell_no (f.a (by rcases h with h | h <;> simp [shA, h]))) (by decide)) (name_no (f.b (by rcases h with h | h <;> simp [shB, h]))).2
  · by_cases hn : o.n < t.length
    · rw [lineL20 h hn]; exact not_app (not_app (dec_no (by decide)) (by decide)) (hexN_no _ _).2
    · rw [lineL20q h hn]; exact not_app (dec_no (by decide)) (by decide)
  · rw [lineL21 h]; exact not_app (by decide) (name_no (f.a (by simp [shA, h]))).2
  · rw [lineL22 h]; decide
  · rw [lineL23 h]; exact not_app (not_app (not_app (by decide) (name_no (f.a (by simp [shA, h]))).2) (by decide)) (dec_no (by decide))
  · rw [lineL24 h]; exact not_app (by decide) (dec_no (by decide))
  · rw [lineL25 h]; exact not_app (by decide) (name_no (f.a (by simp [shA, h]))).2
theorem lines_inj {t t' : List Int} : ∀ {l l' : List IOp}, (∀ o ∈ l, (10 : UInt8) ∉ lineL o t) → (∀ o ∈ l', (10 : UInt8) ∉ lineL o t') → linesL l t = linesL l' t' → l.length = l'.length ∧ ∀ k, k < l.length → lineL (l.getD k noOp) t = lineL (l'.getD k noOp) t'
  | [], [], _, _, _ => ⟨rfl, fun k hk => absurd hk (Nat.not_lt_zero _)⟩
  | [], p :: r, _, _, h => by simp [linesL] at h
  | o :: r, [], _, _, h => by simp [linesL] at h
  | o :: r, p :: r', ho, hp, h => by
    have e1 : linesL (o :: r) t = lineL o t ++ 10 :: linesL r t := by simp [linesL]
    have e2 : linesL (p :: r') t' = lineL p t' ++ 10 :: linesL r' t' := by simp [linesL]
    rw [e1, e2] at h
    obtain ⟨h1, h2⟩ := sep_inj (ho o (List.mem_cons_self ..)) (hp p (List.mem_cons_self ..)) h
    obtain ⟨h3, h4⟩ := lines_inj (fun x hx => ho x (List.mem_cons_of_mem _ hx)) (fun x hx => hp x (List.mem_cons_of_mem _ hx)) h2
    refine ⟨by rw [List.length_cons, List.length_cons, h3], fun k hk => ?_⟩
    cases k with
    | zero => exact h1
    | succ k => exact h4 k (by rw [List.length_cons] at hk; omega)
theorem itoa_pos {p : Int} (h : 0 ≤ p) : Lib.itoa p = Lib.decDigits p.toNat := by rw [Lib.itoa, if_neg (by omega)]
def pgT (l : List Int) : List UInt8 := (l.map fun p => [32] ++ Lib.itoa p).flatten
theorem pgT_tail : ∀ (l : List Int), ∃ x, pgT l ++ [32] = 32 :: x
  | [] => ⟨[], rfl⟩
  | p :: r => ⟨Lib.itoa p ++ pgT r ++ [32], by simp [pgT]⟩
theorem pgT_inj : ∀ {l l' : List Int}, (∀ p ∈ l, 0 ≤ p) → (∀ p ∈ l', 0 ≤ p) → pgT l ++ [32] = pgT l' ++ [32] → l = l'
  | [], [], _, _, _ => rfl
  | [], p :: r, _, _, h => by simp [pgT] at h
  | p :: r, [], _, _, h => by simp [pgT] at h
  | p :: r, q :: r', hp, hq, h => by
    obtain ⟨x, hx⟩ := pgT_tail r
    obtain ⟨y, hy⟩ := pgT_tail r'
    have e1 : pgT (p :: r) ++ [32] = 32 :: (Lib.itoa p ++ (pgT r ++ [32])) := by simp [pgT]
    have e2 : pgT (q :: r') ++ [32] = 32 :: (Lib.itoa q ++ (pgT r' ++ [32])) := by simp [pgT]
    rw [e1, e2, hx, hy, itoa_pos (hp p (List.mem_cons_self ..)), itoa_pos (hq q (List.mem_cons_self ..))] at h
    injection h with _ h
    obtain ⟨h1, h2⟩ := sep_inj (dec_no (by decide)) (dec_no (by decide)) h
    have h3 := toN (hp p (List.mem_cons_self ..)) (hq q (List.mem_cons_self ..)) (dec_inj h1)
    rw [h3, pgT_inj (fun x hx => hp x (List.mem_cons_of_mem _ hx)) (fun x hx => hq x (List.mem_cons_of_mem _ hx)) (by rw [hx, hy, h2])]
theorem pages_no {l : List Int} (h : ∀ p ∈ l, 0 ≤ p) : (10 : UInt8) ∉ pagesL l := by
  refine not_app (by decide) fun hm => ?_
  obtain ⟨x, hx, h10⟩ := List.mem_flatten.1 hm
  obtain ⟨p, hp, rfl⟩ := List.mem_map.1 hx
  rw [itoa_pos (h p hp)] at h10
  exact not_app (by decide) (dec_no (by decide)) h10
theorem print_inj {b c : IBlk} (hb : validL b = true) (hc : validL c = true) (uA : ∀ v ∈ b.at_, U32 v) (uO : ∀ o ∈ b.ops, U32 o.n) (vA : ∀ v ∈ c.at_, U32 v) (vO : ∀ o ∈ c.ops, U32 o.n) (h : printL b = printL c) : b.at_ = c.at_ ∧ b.pages = c.pages ∧ b.ops = c.ops := by
  have pb : ∀ p ∈ b.pages, 0 ≤ p := fun p hp => (valid_pages hb p hp).1
  have pc : ∀ p ∈ c.pages, 0 ≤ p := fun p hp => (valid_pages hc p hp).1
  obtain ⟨s, hs, hsm⟩ := (validP_facts hb).run
  obtain ⟨s', hs', hsm'⟩ := (validP_facts hc).run
  have F := vrun_facts hs
  have F' := vrun_facts hs'
  have fb : ∀ o ∈ b.ops, Fm o := fun o ho => by
    obtain ⟨k, hk, e⟩ := List.getElem_of_mem ho
    rw [← e, ← getD_at (d := noOp) hk]; exact F.fm k hk
  have fc : ∀ o ∈ c.ops, Fm o := fun o ho => by
    obtain ⟨k, hk, e⟩ := List.getElem_of_mem ho
    rw [← e, ← getD_at (d := noOp) hk]; exact F'.fm k hk
  have e1 : printL b = pagesL b.pages ++ 10 :: linesL b.ops b.at_ := by simp [printL]
  have e2 : printL c = pagesL c.pages ++ 10 :: linesL c.ops c.at_ := by simp [printL]
  rw [e1, e2] at h
  obtain ⟨h1, h2⟩ := sep_inj (pages_no pb) (pages_no pc) h
  have hP : b.pages = c.pages := by
    unfold pagesL at h1
    have := List.append_cancel_left h1
    exact pgT_inj pb pc (by unfold pgT; rw [this])
  obtain ⟨hl, hk⟩ := lines_inj (fun o ho => line_no (fb o ho)) (fun o ho => line_no (fc o ho)) h2
  have key : ∀ k, k < b.ops.length → b.ops.getD k noOp = c.ops.getD k noOp ∧ ((b.ops.getD k noOp).code = 20 → hexN (b.at_.getD (b.ops.getD k noOp).n.toNat 0).toNat 8 = hexN (c.at_.getD (c.ops.getD k noOp).n.toNat 0).toNat 8) := fun k hkl => by
    have u0 := uO _ (show b.ops.getD k noOp ∈ b.ops by rw [getD_at hkl]; exact List.getElem_mem _)
    have v0 := vO _ (show c.ops.getD k noOp ∈ c.ops by rw [getD_at (by omega)]; exact List.getElem_mem _)
    exact lineL_inj (F.fm k hkl) (F'.fm k (by omega)) (fun h20 => by have := (F.mark k hkl h20).2; omega) (fun h20 => by have := (F'.mark k (by omega) h20).2; omega) u0.1 v0.1 (hk k hkl)
  have hO : b.ops = c.ops := eqD hl fun k hk => (key k hk).1
  have hlen : b.at_.length = c.at_.length := by
    rw [hO, hs', Option.some.injEq] at hs
    rw [← hs, hsm'] at hsm
    omega
  refine ⟨eqD (d := 0) hlen fun i hi => ?_, hP, hO⟩
  obtain ⟨q, hq, h20, hn⟩ := F.all i (by omega)
  have h3 := (key q hq).2 h20
  rw [← (key q hq).1, hn, Int.toNat_natCast] at h3
  have u1 := uA _ (show b.at_.getD i 0 ∈ b.at_ by rw [getD_at hi]; exact List.getElem_mem _)
  have v1 := vA _ (show c.at_.getD i 0 ∈ c.at_ by rw [getD_at (by omega)]; exact List.getElem_mem _)
  exact toN u1.1 v1.1 (hexN_inj (by have := u1.2; have := u1.1; omega) (by have := v1.2; have := v1.1; omega) h3)
end Go.Proofs.YtojofinofpgopaaDoor
