/- Contracts of the leaf functions of package ir (shapeOf, field, ends, size, Writes, MayLeave). -/
import Derived.Test.YtojofinofpgopaaDoorBase
namespace Go.Proofs.YtojofinofpgopaaDoor
open Go.RowKit

/-! ### The shapes of operations -/
def shD (c : Int) : Bool := c == 1 || c == 2 || c == 16 || c == 17 || (decide (3 ≤ c) && decide (c ≤ 15))
def shA (c : Int) : Bool := c == 2 || c == 16 || c == 17 || c == 18 || c == 19 || c == 21 || c == 23 || c == 25 || (decide (3 ≤ c) && decide (c ≤ 15))
def shB (c : Int) : Bool := c == 18 || c == 19 || (decide (3 ≤ c) && decide (c ≤ 15))
def shN (c : Int) : Bool := c == 1 || c == 16 || c == 17 || c == 18 || c == 19 || c == 20 || c == 24 || c == 23
def shL (c : Int) : Bool := c == 16 || c == 17 || c == 18 || c == 19 || c == 21 || c == 22
def shS (c : Int) : Bool := c == 18 || c == 19
def shI (c : Int) : Bool := decide (1 ≤ c) && decide (c ≤ 25)
def shV (c : Int) : Array Value := #[.bool (shD c), .bool (shA c), .bool (shB c), .bool (shN c), .bool (shL c), .bool (shS c)]
theorem sh_low (c : Int) (h : c < 3) (h1 : ¬ c = 1) (h2 : ¬ c = 2) : shV c = #[.bool false, .bool false, .bool false, .bool false, .bool false, .bool false] ∧ shI c = false := by
  simp only [shV, shD, shA, shB, shN, shL, shS, shI]
  have h3 : ¬ (3 ≤ c) := by omega
  have h4 : ¬ (1 ≤ c) := by omega
  simp [h1, h2, h3, h4]; omega
theorem sh_mid (c : Int) (h : 3 ≤ c) (hn : c ≠ 16 ∧ c ≠ 17 ∧ c ≠ 18 ∧ c ≠ 19 ∧ c ≠ 20 ∧ c ≠ 21 ∧ c ≠ 22 ∧ c ≠ 23 ∧ c ≠ 24 ∧ c ≠ 25) : shV c = #[.bool (decide (c ≤ 15)), .bool (decide (c ≤ 15)), .bool (decide (c ≤ 15)), .bool false, .bool false, .bool false] ∧ shI c = decide (c ≤ 15) := by
  obtain ⟨a, b, d, e, f, g, i, j, k, l⟩ := hn
  have h1 : ¬ c = 1 := by omega
  have h2 : ¬ c = 2 := by omega
  simp only [shV, shD, shA, shB, shN, shL, shS, shI]
  by_cases h15 : c ≤ 15
  · simp [*]; omega
  · simp [*]; omega
set_option maxHeartbeats 400000 in
theorem shapeOf_raw (c : Int) (w : World) :
    Calls Tryd.prog 44 #[.int .i64 c] w fun e w' => e = .returned (.tuple #[.agg (shV c), .bool (shI c)]) ∧ w.alloc (.cells (shV c) 95) = w' := by
  go_enter Tryd.func44, Tryd.ntmps44
  go_wp2
  all_goals go_light
  all_goals simp only [beq_iff_eq, beq_eq_false_iff_ne, ne_eq] at *
  all_goals (try subst_vars)
  all_goals first
    | (refine bodyPost_ret (v := .tuple #[.agg (shV _), .bool (shI _)]) ?_ rfl ⟨rfl, rfl⟩; simp [results, Tryd.results44, go_sem]; (constructor <;> rfl))
    | (obtain ⟨e1, e2⟩ := sh_low c (by omega) (by omega) (by omega); rw [e1, e2]; refine bodyPost_ret (v := .tuple #[.agg _, .bool _]) ?_ rfl ⟨rfl, rfl⟩; simp [results, Tryd.results44, go_sem])
    | (obtain ⟨e1, e2⟩ := sh_mid c (by omega) (by omega); rw [e1, e2]; refine bodyPost_ret (v := .tuple #[.agg _, .bool _]) ?_ rfl ⟨rfl, rfl⟩; simp [results, Tryd.results44, go_sem])

abbrev shW (c : Int) : Array Value := #[.bool (shD c), .bool (shA c), .bool (shB c), .bool (shN c), .bool (shL c), .bool (shS c)]
theorem shapeOf_any (c : Int) (w : World) :
    Calls Tryd.prog 44 #[.int .i64 c] w fun e w' => e = .returned (.tuple #[.agg (shW c), .bool (shI c)]) ∧ w.alloc (.cells (shW c) 95) = w' := shapeOf_raw c w

/-- A field of an operation: a variable if the operation has it, else 0. -/
def fieldL (has : Bool) (v : Int) : Bool := if has then decide (0 ≤ v) && decide (v < 28) && !(v == 19) else v == 0
theorem field_any (has : Bool) (v : Int) (w : World) :
    Calls Tryd.prog 45 #[.bool has, .int .i64 v] w fun e w' => e = .returned (.bool (fieldL has v)) ∧ w = w' := by
  cases has
  · go_enter Tryd.func45, Tryd.ntmps45
    go_wp2
    go_ret
    exact ⟨rfl, rfl⟩
  · go_enter Tryd.func45, Tryd.ntmps45
    go_wp2
    all_goals (go_light; go_ret; refine ⟨ret_bool ?_, rfl⟩)
    all_goals (simp only [fieldL]; simp [*, bne]; try omega)
def endsL (c : Int) : Bool := c == 24 || c == 25 || c == 22
theorem ends_any (c : Int) (w : World) :
    Calls Tryd.prog 46 #[.int .i64 c] w fun e w' => e = .returned (.bool (endsL c)) ∧ w = w' := by
  go_enter Tryd.func46, Tryd.ntmps46
  go_wp2
  all_goals (go_light; go_ret; refine ⟨ret_bool ?_, rfl⟩)
  all_goals (simp only [endsL]; try simp [*])
def sizeL (c : Int) : Int := if c == 16 || c == 18 then 4 else 1
theorem size_any (c : Int) (w : World) :
    Calls Tryd.prog 29 #[.int .i64 c] w fun e w' => e = .returned (.int .i64 (sizeL c)) ∧ w = w' := by
  go_enter Tryd.func29, Tryd.ntmps29
  go_wp2
  all_goals (go_light; go_ret; refine ⟨ret_int ?_, rfl⟩)
  all_goals (simp only [sizeL]; simp [*])
  rename_i h; rcases h with h | h <;> simp_all

/-- An operation, and its value. -/
structure IOp where
  code : Int
  d : Int
  a : Int
  b : Int
  n : Int
deriving DecidableEq
abbrev IOp.v (o : IOp) : Array Value := #[.int .i64 o.code, .int .i64 o.d, .int .i64 o.a, .int .i64 o.b, .int .u32 o.n]
def writesL (o : IOp) : Int := if shD o.code then o.d else -1
theorem writes_any (o : IOp) (w : World) :
    Calls Tryd.prog 48 #[.agg o.v] w fun e w' => e = .returned (.int .i64 (writesL o)) ∧ Below w.heap.size w w' := by
  go_enter Tryd.func48, Tryd.ntmps48
  go_wp2_with (go_at_call 44; refine (shapeOf_any _ _).mono ?_; rintro e w' ⟨rfl, rfl⟩)
  all_goals (go_light; go_ret; refine ⟨ret_int ?_, ?_⟩)
  all_goals first | (simp [writesL, *]; done) | skip
  all_goals exact (((Below.refl _ _).alloc (Nat.le_refl _) _).alloc (by simp) _).alloc (by simp; omega) _
end Go.Proofs.YtojofinofpgopaaDoor
