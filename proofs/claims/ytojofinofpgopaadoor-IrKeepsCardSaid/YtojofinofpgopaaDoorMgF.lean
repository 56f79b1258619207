/- Contracts of the reference: signed, bit, Op on words. -/
import Derived.Test.YtojofinofpgopaaDoorWord
import Derived.Test.YtojofinofpgopaaDoorReg
import Derived.Test.YtojofinofpgopaaDoorIrF0
import Derived.Outline
import Derived.Laws.BitsAllLaws
import Derived.Laws.CopyOwn
import Derived.Deep.RegionLaw
import Derived.Deep.MidRow
namespace Go.Proofs.YtojofinofpgopaaDoor
open Go.RowKit
theorem wrap32_u {a : Int} (h0 : 0 ≤ a) (h1 : a < 4294967296) : wrap32 a = if 2147483648 ≤ a then a - 4294967296 else a := by
  unfold wrap32; split <;> omega
end Go.Proofs.YtojofinofpgopaaDoor
/- The flags: packed, sum, Flags of word; pack, out, Flags of the reference. -/
namespace Go.Proofs.YtojofinofpgopaaDoor
open Go.RowKit
def bN (b : Bool) (n : Int) : Int := if b then n else 0
def pkL (r : Int) (c v : Bool) : Int := bN (decide (2147483648 ≤ r)) 8 + bN (decide (r = 0)) 4 + bN c 2 + bN v 1
def outL (n : Int) : Bool := decide (n < -2147483648 ∨ 2147483648 ≤ n)
def refFlagsL (k a b : Int) : Int :=
  if k = 0 then bits .and .u32 a 15
  else if k = 1 then pkL ((a + b) % 4294967296) (decide (4294967296 ≤ a + b)) (outL (wrap32 a + wrap32 b))
  else if k = 2 then pkL ((a + b + 1) % 4294967296) (decide (4294967296 ≤ a + b + 1)) (outL (wrap32 a + wrap32 b + 1))
  else if k = 3 then pkL ((a - b) % 4294967296) (decide (b ≤ a)) (outL (wrap32 a - wrap32 b))
  else if k = 4 then pkL ((a - b - 1) % 4294967296) (decide (b + 1 ≤ a)) (outL (wrap32 a - wrap32 b - 1))
  else if k = 5 then pkL a false false
  else 0
def ovL (a b r : Int) : Bool := bits .and .u32 (bits .and .u32 (bits .xor .u32 a r) (bits .xor .u32 b r)) 2147483648 != 0
/-- The cell of the flags, in memory of the call's own. -/
structure FB (w : World) (B : Nat) (x : Int) (wx : World) : Prop where
  below : Below w.heap.size w wx
  le : w.heap.size ≤ B
  box : wx.heap[B]? = some (.cells #[.int .u32 x] 35 (0, 0))
theorem top_bit {x : Nat} (h : x < 4294967296) : x.testBit 31 = decide (2147483648 ≤ x) := by
  rw [Nat.testBit_eq_decide_div_mod_eq, Bool.eq_iff_iff]; simp; omega
theorem top_and {x : Nat} : (((x &&& 2147483648 : Nat) : Int) != 0) = x.testBit 31 := by
  have h : x &&& 2147483648 = (x.testBit 31).toNat * 2147483648 := by
    apply Nat.eq_of_testBit_eq
    intro i
    rw [Nat.testBit_and, show (2147483648 : Nat) = 2 ^ 31 from rfl, Nat.testBit_two_pow]
    by_cases hi : 31 = i
    · subst hi
      cases x.testBit 31 <;> simp <;> rfl
    · have e : Nat.testBit 2147483648 i = false := by rw [show (2147483648 : Nat) = 2 ^ 31 from rfl, Nat.testBit_two_pow]; simpa using hi
      cases x.testBit 31 <;> simp [hi, e]
  rw [h]; cases x.testBit 31 <;> rfl
theorem ovL_eq {a b r : Int} (ha : U32 a) (hb : U32 b) (hr : U32 r) : ovL a b r = ((decide (2147483648 ≤ a) ^^ decide (2147483648 ≤ r)) && (decide (2147483648 ≤ b) ^^ decide (2147483648 ≤ r))) := by
  obtain ⟨a, rfl⟩ := Int.eq_ofNat_of_zero_le ha.1
  obtain ⟨b, rfl⟩ := Int.eq_ofNat_of_zero_le hb.1
  obtain ⟨r, rfl⟩ := Int.eq_ofNat_of_zero_le hr.1
  have ha := ha.2
  have hb := hb.2
  have hr := hr.2
  have ha' : a < 2 ^ 32 := by omega
  have hb' : b < 2 ^ 32 := by omega
  have hr' : r < 2 ^ 32 := by omega
  have x1 : a ^^^ r < 4294967296 := Nat.xor_lt_two_pow (n := 32) ha' hr'
  have x2 : b ^^^ r < 4294967296 := Nat.xor_lt_two_pow (n := 32) hb' hr'
  have x3 : (a ^^^ r) &&& (b ^^^ r) < 4294967296 := Nat.and_lt_two_pow (n := 32) _ x2
  unfold ovL
  rw [u32_xor_nat a r (by omega) (by omega), u32_xor_nat b r (by omega) (by omega), u32_and_nat _ _ x1 x2]
  have e : ((2147483648 : Int)) = ((2147483648 : Nat) : Int) := rfl
  rw [e, u32_and_nat _ _ x3 (by omega), top_and, Nat.testBit_and, Nat.testBit_xor, Nat.testBit_xor, top_bit (by omega), top_bit (by omega), top_bit (by omega)]
  have d : ∀ n : Nat, decide (2147483648 ≤ n) = decide (((2147483648 : Nat) : Int) ≤ (n : Int)) := fun n => by rw [Bool.eq_iff_iff]; simp; omega
  rw [d a, d b, d r]
theorem ov_sum {a b c : Int} (ha : U32 a) (hb : U32 b) (h0 : 0 ≤ c) (h1 : c ≤ 1) : ovL a b ((a + b + c) % 4294967296) = outL (wrap32 a + wrap32 b + c) := by
  rw [ovL_eq ha hb ⟨by omega, by omega⟩, wrap32_u ha.1 ha.2, wrap32_u hb.1 hb.2]
  obtain ⟨a0, a1⟩ := ha
  obtain ⟨b0, b1⟩ := hb
  unfold outL
  rw [Bool.eq_iff_iff]
  by_cases h1 : 2147483648 ≤ a <;> by_cases h2 : 2147483648 ≤ b <;> by_cases h3 : 2147483648 ≤ (a + b + c) % 4294967296 <;> simp [h1, h2, h3] <;> omega
theorem ov_dif {a b c : Int} (ha : U32 a) (hb : U32 b) (h0 : 0 ≤ c) (h1 : c ≤ 1) : ovL a (4294967295 - b) ((a + (4294967295 - b) + c) % 4294967296) = outL (wrap32 a - wrap32 b - (1 - c)) := by
  have hb' : U32 (4294967295 - b) := ⟨by have := hb.2; omega, by have := hb.1; omega⟩
  rw [ov_sum ha hb' h0 h1]
  have e : wrap32 (4294967295 - b) = - wrap32 b - 1 := by
    rw [wrap32_u hb'.1 hb'.2, wrap32_u hb.1 hb.2]
    obtain ⟨b0, b1⟩ := hb
    split <;> split <;> omega
  rw [e]; congr 1; omega
theorem not32 {b : Int} (h : U32 b) : bits .xor .u32 IntKind.u32.max b = 4294967295 - b := by
  obtain ⟨b, rfl⟩ := Int.eq_ofNat_of_zero_le h.1
  have h := h.2
  rw [show IntKind.u32.max = ((4294967295 : Nat) : Int) from rfl, u32_xor_nat 4294967295 b (by omega) (by omega)]
  have e : 4294967295 ^^^ b = 4294967295 - b := by
    apply Nat.eq_of_testBit_eq
    intro i
    rw [Nat.testBit_xor, show 4294967295 - b = 2 ^ 32 - (b + 1) by omega, Nat.testBit_two_pow_sub_succ (by omega), show 4294967295 = 2 ^ 32 - 1 by omega, Nat.testBit_two_pow_sub_one]
    by_cases hi : i < 32
    · simp [hi]
    · have : b.testBit i = false := Nat.testBit_lt_two_pow (Nat.lt_of_lt_of_le (show b < 2 ^ 32 by omega) (Nat.pow_le_pow_right (by omega) (by omega)))
      simp [hi, this]
  rw [e]; omega
theorem pkL_range (r : Int) (c v : Bool) : 0 ≤ pkL r c v ∧ pkL r c v < 16 := by
  unfold pkL bN
  constructor <;> split <;> split <;> split <;> split <;> omega
theorem and15 {a : Int} (h : U32 a) : bits .and .u32 a 15 = a % 16 := by
  obtain ⟨a, rfl⟩ := Int.eq_ofNat_of_zero_le h.1
  have h := h.2
  rw [show (15 : Int) = ((15 : Nat) : Int) from rfl, u32_and_nat a 15 (by omega) (by omega), Nat.and_two_pow_sub_one_eq_mod a 4]
  omega
theorem flags_range (k a b : Int) (ha : U32 a) : 0 ≤ refFlagsL k a b ∧ refFlagsL k a b < 16 := by
  unfold refFlagsL
  split
  · rw [and15 ha]; omega
  · repeat' split
    all_goals first | exact pkL_range _ _ _ | omega
end Go.Proofs.YtojofinofpgopaaDoor
/- States and variables: Enter and Leave of ir. -/
namespace Go.Proofs.YtojofinofpgopaaDoor
open Go.RowKit
structure MSt where
  pc : Int
  r : List Int
  f : Int
  c : List Int
  steps : Int
  due : Int
def u32s (l : List Int) : List Value := l.map (Value.int .u32)
def stL (s : MSt) : List Value := .int .u32 s.pc :: (u32s s.r ++ (.int .u32 s.f :: (u32s s.c ++ [.int .i64 s.steps, .int .i64 s.due])))
def stV (s : MSt) : Value := .agg (stL s).toArray
structure StOk (s : MSt) : Prop where
  r16 : s.r.length = 16
  c4 : s.c.length = 4
  ru : ∀ v ∈ s.r, U32 v
  fu : U32 s.f
def z28 : List Int := List.replicate 28 0
theorem u32s_len (l : List Int) : (u32s l).length = l.length := List.length_map ..
theorem u32s_take (l : List Int) (n : Nat) : u32s (l.take n) = (u32s l).take n := List.map_take
theorem u32s_drop (l : List Int) (n : Nat) : u32s (l.drop n) = (u32s l).drop n := List.map_drop
theorem u32s_app (l m : List Int) : u32s (l ++ m) = u32s l ++ u32s m := List.map_append
theorem u32s_one (l : List Int) : ∀ v ∈ u32s l, v.oneCell' = true := by
  intro v hv
  obtain ⟨n, _, rfl⟩ := List.mem_map.1 hv
  rfl
theorem stL_len {s : MSt} (h : StOk s) : (stL s).length = 24 := by
  simp [stL, u32s_len, h.r16, h.c4]
theorem stL_r {s : MSt} {j : Nat} {v : Value} (hv : (u32s s.r)[j]? = some v) : (stL s)[1 + j]? = some v := by
  have hj : j < (u32s s.r).length := (List.getElem?_eq_some_iff.1 hv).1
  rw [Nat.add_comm]
  show (u32s s.r ++ _)[j]? = _
  rw [List.getElem?_append_left hj, hv]
theorem stL_f {s : MSt} (h : StOk s) : (stL s)[17]? = some (.int .u32 s.f) := by
  show (u32s s.r ++ _)[16]? = _
  rw [List.getElem?_append_right (by rw [u32s_len, h.r16]; omega), u32s_len, h.r16]; rfl
theorem lcell {w : World} {b i : Nat} {L : List Value} {t : TypeId} {v : Value} (h : w.heap[b]? = some (.cells L.toArray t (0, 0))) (hv : L[i]? = some v) : w.cell? ⟨b, i, none⟩ = some v :=
  heap_cell h (by rw [List.getElem?_toArray]; exact hv)
theorem lseg {w : World} {b o : Nat} {L cs : List Value} {t : TypeId} (h : w.heap[b]? = some (.cells L.toArray t (0, 0))) (hc : ∀ (j : Nat) (v : Value), cs[j]? = some v → L[o + j]? = some v) :
    ∀ (j : Nat) (v : Value), cs[j]? = some v → w.cell? ((⟨b, o, none⟩ : Addr).add j) = some v := fun j v hv => by
  rw [Go.WideShapes.add_plain]; exact lcell h (hc j v hv)
theorem take_sub {cs : List Value} {n j : Nat} {v : Value} (h : (cs.take n)[j]? = some v) : cs[j]? = some v := by
  rw [List.getElem?_take] at h
  split at h
  · exact h
  · simp at h
section
variable {P : Program}
theorem step_copy_row {ops : Array Oper} {o : Oper} {a : Act} {w : World} {K : Act → World → Prop} {Q : Exit → Act → World → Prop} {E : Prop} (hgd : o.guard = none) (d s : Operand) (dT sT : TypeId)
    (ho : o.op = .call { callee := .builtin .copy, args := #[d, s], argTypes := #[dT, sT] }) (elem : TypeId) (hu : P.underlying dT = some (.slice elem)) (hsz : (P.info? elem).map (·.size) = some 1)
    (g off dLen dCap : Nat) (ad : Addr) (sLen sCap : Nat) (hd : a.eval d = .slice (some ⟨g, off, none⟩) dLen dCap) (hs : a.eval s = .slice (some ad) sLen sCap)
    (cur : Array Value) (t : TypeId) (hg : w.heap[g]? = some (.cells cur t (0, 0))) (cs : List Value) (hn : cs.length = Nat.min sLen dLen)
    (hsrc : ∀ j v, cs[j]? = some v → w.cell? (ad.add j) = some v) (hfit : off + cs.length ≤ cur.size) (h1 : ∀ v ∈ cs, v.oneCell' = true)
    (h : K (a.put o.dst (goInt cs.length)) (w.setRow g (cur.toList.take off ++ (cs ++ cur.toList.drop (off + cs.length))).toArray)) :
    if Region.wanted o (yielded ops a.tmps) = true then Oper.wp P o a w K Q else E := by
  have hw : Region.wanted o (yielded ops a.tmps) = true := by simp [Region.wanted, hgd]
  rw [if_pos hw]
  have hrun := run_copy_row (P := P) w dT sT o.type elem g off dLen dCap ad sLen sCap cur t cs hu hsz hg hn hsrc hfit h1
  unfold Oper.wp
  simp [execOp, ho, resolve, invoke, builtin, hd, hs, hrun, Result.andThen]
  exact h
end
theorem stL_r1 {s : MSt} {j : Nat} {v : Value} (hv : (((u32s s.r).drop 1).take 15)[j]? = some v) : (stL s)[2 + j]? = some v := by
  have h1 := take_sub hv
  rw [List.getElem?_drop] at h1
  have := stL_r h1
  rw [show 2 + j = 1 + (1 + j) by omega]; exact this
def enterL (k : Int) (s : MSt) : List Int :=
  if k = 1 then (s.r.take 8 ++ z28.drop 8).set 17 (bits .and .u32 s.f 15) else if k = 2 then z28.take 1 ++ ((s.r.drop 1).take 15 ++ z28.drop 16) else z28
theorem enterL_len (k : Int) {s : MSt} (h : StOk s) : (enterL k s).length = 28 := by
  unfold enterL
  split
  · simp [h.r16, z28]
  · split
    · simp [h.r16, z28]
    · rfl
theorem u28_info {x : List Int} (h : x.length = 28) : (Tryd.prog.info? 39).map (·.size) = some (u32s x).toArray.size := by
  rw [List.size_toArray, u32s_len, h]; kernel_rfl
theorem u28_all (x : List Int) : (u32s x).toArray.all (·.oneCell') = true := by
  simp [u32s, Value.oneCell']
theorem u28_size {x : List Int} (h : x.length = 28) : (u32s z28).toArray.size = (u32s x).toArray.size := by
  rw [List.size_toArray, List.size_toArray, u32s_len, u32s_len, h]; rfl
end Go.Proofs.YtojofinofpgopaaDoor
/- Leave of ir. -/
namespace Go.Proofs.YtojofinofpgopaaDoor
open Go.RowKit
def z16 : List Int := List.replicate 16 0
def st0 : MSt := ⟨0, z16, 0, [0, 0, 0, 0], 0, 0⟩
def leaveL (k : Int) (s : MSt) (x : List Int) : MSt :=
  if k = 1 then { s with r := x.take 8 ++ z16.drop 8, f := refFlagsL (x.getD 16 0) (x.getD 17 0) (x.getD 18 0) }
  else if k = 2 then { s with r := (x.take 16).set 0 0, f := 0 } else s
theorem setCells_row {w : World} {g o : Nat} {L vs : List Value} {t : TypeId} (hg : w.heap[g]? = some (.cells L.toArray t (0, 0))) (hl : o + vs.length ≤ L.length) (h1 : ∀ v ∈ vs, v.oneCell' = true) :
    w.setCells g o vs = w.setRow g (L.take o ++ (vs ++ L.drop (o + vs.length))).toArray := by
  have a := run_storeCells_cells (P := Tryd.prog) g o vs 0 w (fun j hj => by rw [show o + 0 + j = o + j by omega, lcell hg (List.getElem?_eq_getElem (by omega))]; rfl) (fun j hj => heap_free hg) h1
  have b := run_storeCells_at Tryd.prog g o t vs 0 L.toArray w hg (by simpa using hl) h1
  rw [a] at b
  simpa using b
section
variable {w : World} {s : MSt} {x : List Int} {wx w' : World}
theorem stL_seg {s : MSt} (R : List Int) (n : Nat) (hn : R.length = n) (h : n ≤ s.r.length) : (stL s).take 1 ++ (u32s R ++ (stL s).drop (1 + (u32s R).length)) = stL { s with r := R ++ s.r.drop n } := by
  rw [u32s_len, hn, Nat.add_comm 1 n]
  show Value.int .u32 s.pc :: (u32s R ++ (u32s s.r ++ _).drop n) = Value.int .u32 s.pc :: (u32s (R ++ s.r.drop n) ++ _)
  rw [List.drop_append_of_le_length (by rw [u32s_len]; exact h), u32s_app, u32s_drop, List.append_assoc]
end
theorem stL_f' {s : MSt} (h : s.r.length = 16) : (stL s)[17]? = some (.int .u32 s.f) := by
  show (u32s s.r ++ _)[16]? = _
  rw [List.getElem?_append_right (by rw [u32s_len, h]; omega), u32s_len, h]; rfl
theorem st_all (s : MSt) : (stL s).toArray.all (·.oneCell') = true := by
  simp [stL, u32s, Value.oneCell']
theorem st_size {s : MSt} (h16 : s.r.length = 16) (h4 : s.c.length = 4) : (stL st0).toArray.size = (stL s).toArray.size := by
  have : (stL s).toArray.size = 24 := by simp [stL, u32s_len, h16, h4]
  rw [this]; rfl
theorem leaveL_len (k : Int) {s : MSt} {x : List Int} (h : StOk s) (hx : x.length = 28) : (leaveL k s x).r.length = 16 ∧ (leaveL k s x).c.length = 4 := by
  unfold leaveL
  split
  · exact ⟨by simp [hx, z16], h.c4⟩
  · split
    · exact ⟨by simp [hx], h.c4⟩
    · exact ⟨h.r16, h.c4⟩
end Go.Proofs.YtojofinofpgopaaDoor
