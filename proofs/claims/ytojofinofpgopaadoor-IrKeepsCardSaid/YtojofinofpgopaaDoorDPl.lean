/- What a block prints as: plain. -/
import Derived.Test.YtojofinofpgopaaDoorStr
import Derived.Test.YtojofinofpgopaaDoorIrC
namespace Go.Proofs.YtojofinofpgopaaDoor
def nameL (v : Int) : List UInt8 :=
  if 0 ≤ v ∧ v < 16 then [114] ++ Lib.decDigits v.toNat
  else if 20 ≤ v ∧ v < 28 then [116] ++ Lib.decDigits (v - 20).toNat
  else if v = 16 then [102, 107] else if v = 17 then [102, 97] else if v = 18 then [102, 98] else if v = 19 then [112, 99] else [63]
theorem nameL_r {v : Int} (h1 : 0 ≤ v) (h2 : v < 16) : nameL v = [114] ++ Lib.decDigits v.toNat := by rw [nameL, if_pos ⟨h1, h2⟩]
theorem nameL_t {v : Int} (h1 : 20 ≤ v) (h2 : v < 28) : nameL v = [116] ++ Lib.decDigits (v - 20).toNat := by rw [nameL, if_neg (by omega), if_pos ⟨h1, h2⟩]
theorem nameL_q {v : Int} (h1 : ¬ (0 ≤ v ∧ v < 16)) (h2 : ¬ (20 ≤ v ∧ v < 28)) (h3 : v ≠ 16) (h4 : v ≠ 17) (h5 : v ≠ 18) (h6 : v ≠ 19) : nameL v = [63] := by
  rw [nameL, if_neg h1, if_neg h2, if_neg h3, if_neg h4, if_neg h5, if_neg h6]
theorem nameL16 : nameL 16 = [102, 107] := by decide
theorem nameL17 : nameL 17 = [102, 97] := by decide
theorem nameL18 : nameL 18 = [102, 98] := by decide
theorem nameL19 : nameL 19 = [112, 99] := by decide
theorem nameL_len (v : Int) : (nameL v).length ≤ 3 := by
  unfold nameL
  split
  · have := dec_len (u := v.toNat) (k := 2) (by omega) (by decide)
    simp; omega
  · split
    · have := dec_len (u := (v - 20).toNat) (k := 1) (by omega) (by decide)
      simp; omega
    · repeat' split
      all_goals simp
def cellL (c a n : Int) : List UInt8 := (if c = 16 ∨ c = 18 then [119, 111, 114, 100] else [98, 121, 116, 101]) ++ [91] ++ nameL a ++ [32, 43, 32] ++ Lib.decDigits n.toNat ++ [93]
def hexD (d : Nat) : UInt8 := if d < 10 then UInt8.ofNat (48 + d) else UInt8.ofNat (87 + d)
/-- The last k hexadecimal digits of a number. -/
def hexN (a : Nat) : Nat → List UInt8
  | 0 => []
  | k + 1 => hexN (a / 16) k ++ [hexD (a % 16)]
theorem hexN_len (a k : Nat) : (hexN a k).length = k := by
  induction k generalizing a with
  | zero => rfl
  | succ k ih => rw [hexN, List.length_append, ih]; rfl
theorem hexN_head (a k : Nat) : hexN a (k + 1) = hexD (a / 16 ^ k % 16) :: hexN a k := by
  induction k generalizing a with
  | zero => simp [hexN]
  | succ k ih =>
    rw [hexN, ih, hexN, Nat.div_div_eq_div_mul, Nat.pow_succ, Nat.mul_comm 16]
    rfl
def symL : List (List UInt8) := [[43], [45], [38], [124], [94], [60, 60], [62, 62], [62, 62, 62], [42], [47], [61, 61], [60], [60, 115]]
def lineL (o : IOp) (at_ : List Int) : List UInt8 :=
  if o.code = 1 then nameL o.d ++ [32, 61, 32] ++ Lib.decDigits o.n.toNat
  else if o.code = 2 then nameL o.d ++ [32, 61, 32] ++ nameL o.a
  else if o.code = 16 ∨ o.code = 17 then nameL o.d ++ [32, 61, 32] ++ cellL o.code o.a o.n
  else if o.code = 18 ∨ o.code = 19 then cellL o.code o.a o.n ++ [32, 61, 32] ++ nameL o.b
  else if o.code = 20 then (if o.n < at_.length then Lib.decDigits o.n.toNat ++ [58, 32] ++ hexN (at_.getD o.n.toNat 0).toNat 8 else Lib.decDigits o.n.toNat ++ [58, 32, 63])
  else if o.code = 21 then [103, 117, 97, 114, 100, 32] ++ nameL o.a
  else if o.code = 22 then [115, 108, 111, 119]
  else if o.code = 23 then [105, 102, 32] ++ nameL o.a ++ [32, 101, 120, 105, 116, 32] ++ Lib.decDigits o.n.toNat
  else if o.code = 24 then [101, 120, 105, 116, 32] ++ Lib.decDigits o.n.toNat
  else if o.code = 25 then [101, 120, 105, 116, 32] ++ nameL o.a
  else if 3 ≤ o.code ∧ o.code ≤ 15 then nameL o.d ++ [32, 61, 32] ++ nameL o.a ++ [32] ++ symL.getD (o.code - 3).toNat [] ++ [32] ++ nameL o.b
  else [63]
theorem lineL1 {o : IOp} {t : List Int} (h : o.code = 1) : lineL o t = nameL o.d ++ [32, 61, 32] ++ Lib.decDigits o.n.toNat := by simp [lineL, h]
theorem lineL2 {o : IOp} {t : List Int} (h : o.code = 2) : lineL o t = nameL o.d ++ [32, 61, 32] ++ nameL o.a := by simp [lineL, h]
theorem lineLl {o : IOp} {t : List Int} (h : o.code = 16 ∨ o.code = 17) : lineL o t = nameL o.d ++ [32, 61, 32] ++ cellL o.code o.a o.n := by rcases h with h | h <;> simp [lineL, h]
theorem lineLs {o : IOp} {t : List Int} (h : o.code = 18 ∨ o.code = 19) : lineL o t = cellL o.code o.a o.n ++ [32, 61, 32] ++ nameL o.b := by rcases h with h | h <;> simp [lineL, h]
theorem lineL20 {o : IOp} {t : List Int} (h : o.code = 20) (hn : o.n < t.length) : lineL o t = Lib.decDigits o.n.toNat ++ [58, 32] ++ hexN (t.getD o.n.toNat 0).toNat 8 := by simp [lineL, h, hn]
theorem lineL20q {o : IOp} {t : List Int} (h : o.code = 20) (hn : ¬ o.n < t.length) : lineL o t = Lib.decDigits o.n.toNat ++ [58, 32, 63] := by simp [lineL, h, hn]
theorem lineL21 {o : IOp} {t : List Int} (h : o.code = 21) : lineL o t = [103, 117, 97, 114, 100, 32] ++ nameL o.a := by simp [lineL, h]
theorem lineL22 {o : IOp} {t : List Int} (h : o.code = 22) : lineL o t = [115, 108, 111, 119] := by simp [lineL, h]
theorem lineL23 {o : IOp} {t : List Int} (h : o.code = 23) : lineL o t = [105, 102, 32] ++ nameL o.a ++ [32, 101, 120, 105, 116, 32] ++ Lib.decDigits o.n.toNat := by simp [lineL, h]
theorem lineL24 {o : IOp} {t : List Int} (h : o.code = 24) : lineL o t = [101, 120, 105, 116, 32] ++ Lib.decDigits o.n.toNat := by simp [lineL, h]
theorem lineL25 {o : IOp} {t : List Int} (h : o.code = 25) : lineL o t = [101, 120, 105, 116, 32] ++ nameL o.a := by simp [lineL, h]
theorem lineLb {o : IOp} {t : List Int} (h : 3 ≤ o.code ∧ o.code ≤ 15) : lineL o t = nameL o.d ++ [32, 61, 32] ++ nameL o.a ++ [32] ++ symL.getD (o.code - 3).toNat [] ++ [32] ++ nameL o.b := by
  have e : ∀ n : Int, n < 3 ∨ 15 < n → ¬ o.code = n := fun n h1 => by omega
  simp [lineL, h.1, h.2, e]
theorem lineLq {o : IOp} {t : List Int} (h : o.code < 1 ∨ 25 < o.code) : lineL o t = [63] := by
  have e : ∀ n : Int, 1 ≤ n → n ≤ 25 → ¬ o.code = n := fun n h1 h2 => by omega
  have e2 : ¬ (3 ≤ o.code ∧ o.code ≤ 15) := by omega
  simp [lineL, e, e2]
theorem cellL_len (c a n : Int) (h : n.toNat < 4294967296) : (cellL c a n).length ≤ 22 := by
  have h1 := nameL_len a
  have h2 := dec_len (u := n.toNat) (k := 10) (by omega) (by decide)
  unfold cellL
  split <;> (simp only [List.length_append, List.length_cons, List.length_nil]; omega)
theorem symL_len (k : Nat) : (symL.getD k []).length ≤ 3 := by
  unfold symL
  match k with
  | 0 | 1 | 2 | 3 | 4 | 5 | 6 | 7 | 8 | 9 | 10 | 11 | 12 => decide
  | _ + 13 => exact Nat.zero_le 3
theorem lineL_len (o : IOp) (t : List Int) (h : o.n.toNat < 4294967296) : (lineL o t).length ≤ 40 := by
  have h1 := nameL_len o.a
  have h3 := nameL_len o.b
  have h4 := nameL_len o.d
  have h2 := dec_len (u := o.n.toNat) (k := 10) (by omega) (by decide)
  have h5 := cellL_len o.code o.a o.n h
  have h6 := symL_len (o.code - 3).toNat
  have h7 := hexN_len (t.getD o.n.toNat 0).toNat 8
  have hc : o.code = 1 ∨ o.code = 2 ∨ (3 ≤ o.code ∧ o.code ≤ 15) ∨ (o.code = 16 ∨ o.code = 17) ∨ (o.code = 18 ∨ o.code = 19) ∨ o.code = 20 ∨ o.code = 21 ∨ o.code = 22 ∨ o.code = 23 ∨ o.code = 24 ∨ o.code = 25 ∨ (o.code < 1 ∨ 25 < o.code) := by omega
  rcases hc with h | h | h | h | h | h | h | h | h | h | h | h
  · rw [lineL1 h]; simp only [List.length_append, List.length_cons, List.length_nil]; omega
  · rw [lineL2 h]; simp only [List.length_append, List.length_cons, List.length_nil]; omega
  · rw [lineLb h]; simp only [List.length_append, List.length_cons, List.length_nil]; omega
  · rw [lineLl h]; simp only [List.length_append, List.length_cons, List.length_nil]; omega
  · rw [lineLs h]; simp only [List.length_append, List.length_cons, List.length_nil]; omega
  · by_cases hn : o.n < t.length
    · rw [lineL20 h hn]; simp only [List.length_append, List.length_cons, List.length_nil]; omega
    · rw [lineL20q h hn]; simp only [List.length_append, List.length_cons, List.length_nil]; omega
  · rw [lineL21 h]; simp only [List.length_append, List.length_cons, List.length_nil]; omega
  · rw [lineL22 h]; decide
  · rw [lineL23 h]; simp only [List.length_append, List.length_cons, List.length_nil]; omega
  · rw [lineL24 h]; simp only [List.length_append, List.length_cons, List.length_nil]; omega
  · rw [lineL25 h]; simp only [List.length_append, List.length_cons, List.length_nil]; omega
  · rw [lineLq h]; decide
def pagesL (l : List Int) : List UInt8 := [112, 97, 103, 101, 115] ++ (l.map fun p => [32] ++ Lib.itoa p).flatten
def linesL (l : List IOp) (at_ : List Int) : List UInt8 := (l.map fun o => lineL o at_ ++ [10]).flatten
def printL (b : IBlk) : List UInt8 := pagesL b.pages ++ [10] ++ linesL b.ops b.at_
end Go.Proofs.YtojofinofpgopaaDoor
