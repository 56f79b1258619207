/- Contracts: word.Op and its table of closures. -/
import Derived.Test.YtojofinofpgopaaDoorBase
import Derived.Deep.DeepCutAuto
namespace Go.Proofs.YtojofinofpgopaaDoor
open Go.RowKit

def bitL (b : Bool) : Int := if b then 1 else 0
theorem bit_any (b : Bool) (w : World) : Calls Tryd.prog 75 #[.bool b] w fun e w' => e = .returned (.int .u32 (bitL b)) ∧ w = w' := by
  cases b <;> (go_enter Tryd.func75, Tryd.ntmps75; go_wp2; go_ret; exact ⟨rfl, rfl⟩)
/-- An operation on words. -/
def wordOpL (c a b : Int) : Int :=
  if c = 3 then (a + b) % 4294967296
  else if c = 4 then (a - b) % 4294967296
  else if c = 5 then bits .and .u32 a b
  else if c = 6 then bits .or .u32 a b
  else if c = 7 then bits .xor .u32 a b
  else if c = 8 then a * 2 ^ (b % 32).toNat % 4294967296
  else if c = 9 then a / 2 ^ (b % 32).toNat
  else if c = 10 then wrap32 a / 2 ^ (b % 32).toNat % 4294967296
  else if c = 11 then a * b % 4294967296
  else if c = 12 then if b = 0 then 0 else a / b
  else if c = 13 then bitL (a == b)
  else if c = 14 then bitL (decide (a < b))
  else if c = 15 then bitL (decide (wrap32 a < wrap32 b))
  else 0
theorem ops1 (a b : Int) (w : World) (_ha : 0 ≤ a) (_ha2 : a < 4294967296) (_hb : 0 ≤ b) (_hb2 : b < 4294967296) :
    Calls Tryd.prog 64 #[.int .u32 a, .int .u32 b] w fun e w' => e = .returned (.int .u32 (wordOpL 3 a b)) ∧ w = w' := by
  go_enter Tryd.func64, Tryd.ntmps64
  go_wp2_with fail
  go_light; go_ret; exact ⟨ret_int (by simp [wordOpL]), rfl⟩
theorem ops2 (a b : Int) (w : World) (_ha : 0 ≤ a) (_ha2 : a < 4294967296) (_hb : 0 ≤ b) (_hb2 : b < 4294967296) :
    Calls Tryd.prog 65 #[.int .u32 a, .int .u32 b] w fun e w' => e = .returned (.int .u32 (wordOpL 4 a b)) ∧ w = w' := by
  go_enter Tryd.func65, Tryd.ntmps65
  go_wp2_with fail
  go_light; go_ret; exact ⟨ret_int (by simp [wordOpL]), rfl⟩
theorem ops3 (a b : Int) (w : World) (_ha : 0 ≤ a) (_ha2 : a < 4294967296) (_hb : 0 ≤ b) (_hb2 : b < 4294967296) :
    Calls Tryd.prog 66 #[.int .u32 a, .int .u32 b] w fun e w' => e = .returned (.int .u32 (wordOpL 5 a b)) ∧ w = w' := by
  go_enter Tryd.func66, Tryd.ntmps66
  go_wp2_with fail
  go_light; go_ret; exact ⟨ret_int (by simp [wordOpL]), rfl⟩
theorem ops4 (a b : Int) (w : World) (_ha : 0 ≤ a) (_ha2 : a < 4294967296) (_hb : 0 ≤ b) (_hb2 : b < 4294967296) :
    Calls Tryd.prog 67 #[.int .u32 a, .int .u32 b] w fun e w' => e = .returned (.int .u32 (wordOpL 6 a b)) ∧ w = w' := by
  go_enter Tryd.func67, Tryd.ntmps67
  go_wp2_with fail
  go_light; go_ret; exact ⟨ret_int (by simp [wordOpL]), rfl⟩
theorem ops5 (a b : Int) (w : World) (_ha : 0 ≤ a) (_ha2 : a < 4294967296) (_hb : 0 ≤ b) (_hb2 : b < 4294967296) :
    Calls Tryd.prog 68 #[.int .u32 a, .int .u32 b] w fun e w' => e = .returned (.int .u32 (wordOpL 7 a b)) ∧ w = w' := by
  go_enter Tryd.func68, Tryd.ntmps68
  go_wp2_with fail
  go_light; go_ret; exact ⟨ret_int (by simp [wordOpL]), rfl⟩
theorem ops6 (a b : Int) (w : World) (_ha : 0 ≤ a) (_ha2 : a < 4294967296) (_hb : 0 ≤ b) (_hb2 : b < 4294967296) :
    Calls Tryd.prog 69 #[.int .u32 a, .int .u32 b] w fun e w' => e = .returned (.int .u32 (wordOpL 8 a b)) ∧ w = w' := by
  go_enter Tryd.func69, Tryd.ntmps69
  go_wp2_with fail
  go_light; go_ret; exact ⟨ret_int (by simp [wordOpL]), rfl⟩
theorem ops7 (a b : Int) (w : World) (_ha : 0 ≤ a) (_ha2 : a < 4294967296) (_hb : 0 ≤ b) (_hb2 : b < 4294967296) :
    Calls Tryd.prog 70 #[.int .u32 a, .int .u32 b] w fun e w' => e = .returned (.int .u32 (wordOpL 9 a b)) ∧ w = w' := by
  go_enter Tryd.func70, Tryd.ntmps70
  go_wp2_with fail
  go_light; go_ret; exact ⟨ret_int (by simp [wordOpL]), rfl⟩
theorem ops8 (a b : Int) (w : World) (_ha : 0 ≤ a) (_ha2 : a < 4294967296) (_hb : 0 ≤ b) (_hb2 : b < 4294967296) :
    Calls Tryd.prog 71 #[.int .u32 a, .int .u32 b] w fun e w' => e = .returned (.int .u32 (wordOpL 10 a b)) ∧ w = w' := by
  go_enter Tryd.func71, Tryd.ntmps71
  go_wp2_with fail
  go_light; go_ret; exact ⟨ret_int (by simp [wordOpL]), rfl⟩
theorem ops9 (a b : Int) (w : World) (_ha : 0 ≤ a) (_ha2 : a < 4294967296) (_hb : 0 ≤ b) (_hb2 : b < 4294967296) :
    Calls Tryd.prog 72 #[.int .u32 a, .int .u32 b] w fun e w' => e = .returned (.int .u32 (wordOpL 11 a b)) ∧ w = w' := by
  go_enter Tryd.func72, Tryd.ntmps72
  go_wp2_with fail
  go_light; go_ret; exact ⟨ret_int (by simp [wordOpL]), rfl⟩
theorem ops10 (a b : Int) (w : World) (_ha : 0 ≤ a) (_ha2 : a < 4294967296) (_hb : 0 ≤ b) (_hb2 : b < 4294967296) :
    Calls Tryd.prog 73 #[.int .u32 a, .int .u32 b] w fun e w' => e = .returned (.int .u32 (wordOpL 12 a b)) ∧ w = w' := by
  by_cases h0 : b = 0
  · subst h0
    go_enter Tryd.func73, Tryd.ntmps73
    go_wp2_with fail
    go_light; go_ret; exact ⟨ret_int (by simp [wordOpL]), rfl⟩
  · have h1 : (b == 0) = false := by simpa using h0
    have h2 : 1 ≤ b := by omega
    have h3 : a / b < 4294967296 := Int.lt_of_le_of_lt (Int.ediv_le_self _ _ha) _ha2
    have h4 : 0 ≤ a / b := Int.ediv_nonneg _ha _hb
    go_enter Tryd.func73, Tryd.ntmps73
    go_wp2_with fail
    go_light; go_ret; exact ⟨ret_int (by simp [wordOpL, h0]), rfl⟩
theorem ops11 (a b : Int) (w : World) (_ha : 0 ≤ a) (_ha2 : a < 4294967296) (_hb : 0 ≤ b) (_hb2 : b < 4294967296) :
    Calls Tryd.prog 74 #[.int .u32 a, .int .u32 b] w fun e w' => e = .returned (.int .u32 (wordOpL 13 a b)) ∧ w = w' := by
  go_enter Tryd.func74, Tryd.ntmps74
  go_wp2_with (go_at_call 75; refine (bit_any _ _).mono ?_; rintro e w' ⟨rfl, rfl⟩)
  go_light; go_ret; exact ⟨ret_int (by simp [wordOpL]), rfl⟩
theorem ops12 (a b : Int) (w : World) (_ha : 0 ≤ a) (_ha2 : a < 4294967296) (_hb : 0 ≤ b) (_hb2 : b < 4294967296) :
    Calls Tryd.prog 76 #[.int .u32 a, .int .u32 b] w fun e w' => e = .returned (.int .u32 (wordOpL 14 a b)) ∧ w = w' := by
  go_enter Tryd.func76, Tryd.ntmps76
  go_wp2_with (go_at_call 75; refine (bit_any _ _).mono ?_; rintro e w' ⟨rfl, rfl⟩)
  go_light; go_ret; exact ⟨ret_int (by simp [wordOpL]), rfl⟩
theorem ops13 (a b : Int) (w : World) (_ha : 0 ≤ a) (_ha2 : a < 4294967296) (_hb : 0 ≤ b) (_hb2 : b < 4294967296) :
    Calls Tryd.prog 77 #[.int .u32 a, .int .u32 b] w fun e w' => e = .returned (.int .u32 (wordOpL 15 a b)) ∧ w = w' := by
  go_enter Tryd.func77, Tryd.ntmps77
  go_wp2_with (go_at_call 75; refine (bit_any _ _).mono ?_; rintro e w' ⟨rfl, rfl⟩)
  go_light; go_ret; exact ⟨ret_int (by simp [wordOpL]), rfl⟩

def opsMap : Array MapEntry := #[⟨.int .i64 3, .func (.func 64) #[] #[], 0⟩, ⟨.int .i64 4, .func (.func 65) #[] #[], 1⟩, ⟨.int .i64 5, .func (.func 66) #[] #[], 2⟩, ⟨.int .i64 6, .func (.func 67) #[] #[], 3⟩, ⟨.int .i64 7, .func (.func 68) #[] #[], 4⟩, ⟨.int .i64 8, .func (.func 69) #[] #[], 5⟩, ⟨.int .i64 9, .func (.func 70) #[] #[], 6⟩, ⟨.int .i64 10, .func (.func 71) #[] #[], 7⟩, ⟨.int .i64 11, .func (.func 72) #[] #[], 8⟩, ⟨.int .i64 12, .func (.func 73) #[] #[], 9⟩, ⟨.int .i64 13, .func (.func 74) #[] #[], 10⟩, ⟨.int .i64 14, .func (.func 76) #[] #[], 11⟩, ⟨.int .i64 15, .func (.func 77) #[] #[], 12⟩]
def OpsPost (w : World) (e : Ending) (w' : World) : Prop := ∃ r, e = .returned (.map (some r)) ∧ w'.heap[r]? = some (.map opsMap 13) ∧ Below w.heap.size w w'
theorem ops_any (w : World) : Calls Tryd.prog 54 #[] w (OpsPost w) := by
  have hmm := @run_makeMap Tryd.prog
  go_enter Tryd.func54, Tryd.ntmps54
  have hb0 : Below w.heap.size w (w.alloc (.map #[] 0)) := (Below.refl _ _).alloc (Nat.le_refl _) _
  have hr0 := heap_alloc_new w (.map #[] 0)
  go_wp2_with (refine wpList_insert rfl 107 (.tmp 1) _ _ rfl Tryd.underlying107 Tryd.underlying3 w.heap.size _ _ _ _ rfl rfl rfl (by assumption) (by rfl) ?_; intro w1 hr0 hg1; have hb0 := hb0.grown hg1 hb0.size (fun k hk => by cases hk; exact Nat.le_refl _); clear hg1)
  go_light
  go_ret
  exact ⟨w.heap.size, rfl, by assumption, by assumption⟩
theorem zeroOp (w : World) : (zeroValue 105).run Tryd.prog w = .ok .nilFunc w := by kernel_rfl
theorem ops_none {c : Int} (h : c < 3 ∨ 15 < c) : Instr.findNow (.int .i64) (.int .i64 c) opsMap.toList 0 = some none := by
  have e : ∀ n : Int, 3 ≤ n → n ≤ 15 → (c == n) = false := fun n h1 h2 => by simp; omega
  simp [opsMap, Instr.findNow, Instr.sameNow, e]
set_option maxHeartbeats 2000000 in
theorem wordOp_any (c a b : Int) (w : World) (ha : 0 ≤ a) (ha2 : a < 4294967296) (hb : 0 ≤ b) (hb2 : b < 4294967296) :
    Calls Tryd.prog 30 #[.int .i64 c, .int .u32 a, .int .u32 b] w fun e w' => e = .returned (.int .u32 (wordOpL c a b)) ∧ Below w.heap.size w w' := by
  by_cases hc : c < 3 ∨ 15 < c
  · have hz : wordOpL c a b = 0 := by
      have e : ∀ n : Int, 3 ≤ n → n ≤ 15 → ¬ c = n := fun n h1 h2 => by omega
      simp [wordOpL, e]
    go_enter Tryd.func30, Tryd.ntmps30
    go_wp2_with (go_at_call 54; refine (ops_any _).mono ?_; rintro e w1 ⟨r, rfl, hm, hb1⟩; have hrun := run_lookup_none Tryd.underlying107 Tryd.underlying3 (zeroOp w1) hm (ops_none hc))
    go_light
    go_ret
    exact ⟨ret_int hz.symm, by assumption⟩
  · have hcs : c = 3 ∨ c = 4 ∨ c = 5 ∨ c = 6 ∨ c = 7 ∨ c = 8 ∨ c = 9 ∨ c = 10 ∨ c = 11 ∨ c = 12 ∨ c = 13 ∨ c = 14 ∨ c = 15 := by omega
    clear hc
    rcases hcs with rfl | rfl | rfl | rfl | rfl | rfl | rfl | rfl | rfl | rfl | rfl | rfl | rfl
    · go_enter Tryd.func30, Tryd.ntmps30
      go_wp2_with (first | (go_at_call 54; refine (ops_any _).mono ?_; rintro e w1 ⟨r, rfl, hm, hb1⟩; have hrun := run_lookup_at (n := 3) Tryd.underlying107 Tryd.underlying3 hm rfl) | (go_at_call 64; refine (ops1 _ _ _ ha ha2 hb hb2).mono ?_; rintro e w' ⟨rfl, rfl⟩))
      go_light
      go_ret
      exact ⟨rfl, by assumption⟩
    · go_enter Tryd.func30, Tryd.ntmps30
      go_wp2_with (first | (go_at_call 54; refine (ops_any _).mono ?_; rintro e w1 ⟨r, rfl, hm, hb1⟩; have hrun := run_lookup_at (n := 4) Tryd.underlying107 Tryd.underlying3 hm rfl) | (go_at_call 65; refine (ops2 _ _ _ ha ha2 hb hb2).mono ?_; rintro e w' ⟨rfl, rfl⟩))
      go_light
      go_ret
      exact ⟨rfl, by assumption⟩
    · go_enter Tryd.func30, Tryd.ntmps30
      go_wp2_with (first | (go_at_call 54; refine (ops_any _).mono ?_; rintro e w1 ⟨r, rfl, hm, hb1⟩; have hrun := run_lookup_at (n := 5) Tryd.underlying107 Tryd.underlying3 hm rfl) | (go_at_call 66; refine (ops3 _ _ _ ha ha2 hb hb2).mono ?_; rintro e w' ⟨rfl, rfl⟩))
      go_light
      go_ret
      exact ⟨rfl, by assumption⟩
    · go_enter Tryd.func30, Tryd.ntmps30
      go_wp2_with (first | (go_at_call 54; refine (ops_any _).mono ?_; rintro e w1 ⟨r, rfl, hm, hb1⟩; have hrun := run_lookup_at (n := 6) Tryd.underlying107 Tryd.underlying3 hm rfl) | (go_at_call 67; refine (ops4 _ _ _ ha ha2 hb hb2).mono ?_; rintro e w' ⟨rfl, rfl⟩))
      go_light
      go_ret
      exact ⟨rfl, by assumption⟩
    · go_enter Tryd.func30, Tryd.ntmps30
      go_wp2_with (first | (go_at_call 54; refine (ops_any _).mono ?_; rintro e w1 ⟨r, rfl, hm, hb1⟩; have hrun := run_lookup_at (n := 7) Tryd.underlying107 Tryd.underlying3 hm rfl) | (go_at_call 68; refine (ops5 _ _ _ ha ha2 hb hb2).mono ?_; rintro e w' ⟨rfl, rfl⟩))
      go_light
      go_ret
      exact ⟨rfl, by assumption⟩
    · go_enter Tryd.func30, Tryd.ntmps30
      go_wp2_with (first | (go_at_call 54; refine (ops_any _).mono ?_; rintro e w1 ⟨r, rfl, hm, hb1⟩; have hrun := run_lookup_at (n := 8) Tryd.underlying107 Tryd.underlying3 hm rfl) | (go_at_call 69; refine (ops6 _ _ _ ha ha2 hb hb2).mono ?_; rintro e w' ⟨rfl, rfl⟩))
      go_light
      go_ret
      exact ⟨rfl, by assumption⟩
    · go_enter Tryd.func30, Tryd.ntmps30
      go_wp2_with (first | (go_at_call 54; refine (ops_any _).mono ?_; rintro e w1 ⟨r, rfl, hm, hb1⟩; have hrun := run_lookup_at (n := 9) Tryd.underlying107 Tryd.underlying3 hm rfl) | (go_at_call 70; refine (ops7 _ _ _ ha ha2 hb hb2).mono ?_; rintro e w' ⟨rfl, rfl⟩))
      go_light
      go_ret
      exact ⟨rfl, by assumption⟩
    · go_enter Tryd.func30, Tryd.ntmps30
      go_wp2_with (first | (go_at_call 54; refine (ops_any _).mono ?_; rintro e w1 ⟨r, rfl, hm, hb1⟩; have hrun := run_lookup_at (n := 10) Tryd.underlying107 Tryd.underlying3 hm rfl) | (go_at_call 71; refine (ops8 _ _ _ ha ha2 hb hb2).mono ?_; rintro e w' ⟨rfl, rfl⟩))
      go_light
      go_ret
      exact ⟨rfl, by assumption⟩
    · go_enter Tryd.func30, Tryd.ntmps30
      go_wp2_with (first | (go_at_call 54; refine (ops_any _).mono ?_; rintro e w1 ⟨r, rfl, hm, hb1⟩; have hrun := run_lookup_at (n := 11) Tryd.underlying107 Tryd.underlying3 hm rfl) | (go_at_call 72; refine (ops9 _ _ _ ha ha2 hb hb2).mono ?_; rintro e w' ⟨rfl, rfl⟩))
      go_light
      go_ret
      exact ⟨rfl, by assumption⟩
    · go_enter Tryd.func30, Tryd.ntmps30
      go_wp2_with (first | (go_at_call 54; refine (ops_any _).mono ?_; rintro e w1 ⟨r, rfl, hm, hb1⟩; have hrun := run_lookup_at (n := 12) Tryd.underlying107 Tryd.underlying3 hm rfl) | (go_at_call 73; refine (ops10 _ _ _ ha ha2 hb hb2).mono ?_; rintro e w' ⟨rfl, rfl⟩))
      go_light
      go_ret
      exact ⟨rfl, by assumption⟩
    · go_enter Tryd.func30, Tryd.ntmps30
      go_wp2_with (first | (go_at_call 54; refine (ops_any _).mono ?_; rintro e w1 ⟨r, rfl, hm, hb1⟩; have hrun := run_lookup_at (n := 13) Tryd.underlying107 Tryd.underlying3 hm rfl) | (go_at_call 74; refine (ops11 _ _ _ ha ha2 hb hb2).mono ?_; rintro e w' ⟨rfl, rfl⟩))
      go_light
      go_ret
      exact ⟨rfl, by assumption⟩
    · go_enter Tryd.func30, Tryd.ntmps30
      go_wp2_with (first | (go_at_call 54; refine (ops_any _).mono ?_; rintro e w1 ⟨r, rfl, hm, hb1⟩; have hrun := run_lookup_at (n := 14) Tryd.underlying107 Tryd.underlying3 hm rfl) | (go_at_call 76; refine (ops12 _ _ _ ha ha2 hb hb2).mono ?_; rintro e w' ⟨rfl, rfl⟩))
      go_light
      go_ret
      exact ⟨rfl, by assumption⟩
    · go_enter Tryd.func30, Tryd.ntmps30
      go_wp2_with (first | (go_at_call 54; refine (ops_any _).mono ?_; rintro e w1 ⟨r, rfl, hm, hb1⟩; have hrun := run_lookup_at (n := 15) Tryd.underlying107 Tryd.underlying3 hm rfl) | (go_at_call 77; refine (ops13 _ _ _ ha ha2 hb hb2).mono ?_; rintro e w' ⟨rfl, rfl⟩))
      go_light
      go_ret
      exact ⟨rfl, by assumption⟩
end Go.Proofs.YtojofinofpgopaaDoor
