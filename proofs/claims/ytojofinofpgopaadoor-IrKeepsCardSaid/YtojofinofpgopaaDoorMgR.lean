/- The reference's memory: what it holds; New, In, right. -/
import Derived.Test.YtojofinofpgopaaDoorMgM
import Derived.Test.YtojofinofpgopaaDoorMgG
import Derived.Laws.BitsAllLaws
namespace Go.Proofs.YtojofinofpgopaaDoor
open Go.RowKit
structure Rm where
  M : Nat
  D : Nat
  E : Nat
  I : Nat
  O : Nat
  Q : Nat
  b : List Int
  r : List Int
abbrev sl (g l : Nat) : Value := .slice (some ⟨g, 0, none⟩) l l
structure Rm.Ok (ν : Rm) : Prop where
  lb : ν.b.length = 768
  lr : ν.r.length = 3
  u8 : ∀ v ∈ ν.b, U8 v
  nd : [ν.M, ν.D, ν.E].Nodup
section
variable {ν : Rm} {w : World}
end
theorem i64s_at {l : List Int} {i : Nat} (hi : i < l.length) {o : Nat} (ho : o = i) : (i64s l)[o]? = some (.int .i64 (l.getD i 0)) := by
  subst ho
  rw [i64s, List.getElem?_map, List.getElem?_eq_getElem hi, List.getD_eq_getElem?_getD, List.getElem?_eq_getElem hi]; rfl
/-- Has the page of an address the right r (1 or 2)? -/
def rightR (rs : List Int) (a r : Int) : Bool := decide (a < 768) && ((IntKind.i64.wrap ((rs.getD (a / 256).toNat 0).tdiv r)).tmod 2 == 1)
end Go.Proofs.YtojofinofpgopaaDoor
/- The reference's memory: New, Poke, Protect. -/
namespace Go.Proofs.YtojofinofpgopaaDoor
open Go.RowKit
theorem made_i64 (n : Nat) : madeCells (Value.int .i64 0).cells (n * 1) = (i64s (List.replicate n 0)).toArray := by
  show madeCells #[Value.int .i64 0] (n * 1) = _
  rw [made_one, Nat.mul_one, i64s, List.map_replicate]
abbrev z768 : List Int := List.replicate 768 0
abbrev z3 : List Int := List.replicate 3 0
end Go.Proofs.YtojofinofpgopaaDoor
/- The reference's memory: Poke, Protect; Setup.model. -/
namespace Go.Proofs.YtojofinofpgopaaDoor
open Go.RowKit
theorem pokeL_len (b : List Int) (s : ByteArray) : ∀ i, (pokeL b s i).length = b.length
  | 0 => rfl
  | i + 1 => by show (List.set _ _ _).length = _; rw [List.length_set]; exact pokeL_len b s i
theorem pokeL_u8 {b : List Int} (h : ∀ v ∈ b, U8 v) (s : ByteArray) : ∀ i, ∀ v ∈ pokeL b s i, U8 v
  | 0 => h
  | i + 1 => mem_set (pokeL_u8 h s i) (sByte_u8 s i)
abbrev Rm.pk (ν : Rm) (s : ByteArray) (i : Nat) : Rm := { ν with b := pokeL ν.b s i }
theorem Rm.Ok.pk {ν : Rm} (h : ν.Ok) (s : ByteArray) (i : Nat) : (ν.pk s i).Ok := ⟨by show (pokeL ν.b s i).length = 768; rw [pokeL_len, h.lb], h.lr, pokeL_u8 h.u8 s i, h.nd⟩
abbrev Rm.pr (ν : Rm) (n : Nat) (r : Int) : Rm := { ν with r := ν.r.set n r }
theorem Rm.Ok.pr {ν : Rm} (h : ν.Ok) (n : Nat) (r : Int) : (ν.pr n r).Ok := ⟨h.lb, by show (ν.r.set n r).length = 3; rw [List.length_set]; exact h.lr, h.u8, h.nd⟩
end Go.Proofs.YtojofinofpgopaaDoor
/- Setup.model: the reference's memory that a setup describes. -/
namespace Go.Proofs.YtojofinofpgopaaDoor
open Go.RowKit
structure SrI (x : Su) (M : Nat) (j : Rm × Nat) : Prop where
  ok : j.1.Ok
  M : j.1.M = M
  by_ : j.1.b = suBytes x
  le : j.2 ≤ 3
  r : j.1.r = rlL x j.2
end Go.Proofs.YtojofinofpgopaaDoor
/- The reference's memory: check. -/
namespace Go.Proofs.YtojofinofpgopaaDoor
open Go.RowKit
/-- The first address that lacks a right, as the reference finds it. -/
def rchk (rs : List Int) (a r : Int) (i : Nat) : Nat → Option Int
  | 0 => none
  | c + 1 => if rightR rs (adr a i) r then rchk rs a r (i + 1) c else some (adr a i)
def rchkV : Option Int → List Value
  | none => [.int .u32 0, .int .u32 0, .bool true]
  | some x => [.int .u32 0, .int .u32 x, .bool false]
theorem rchk_ok {rs : List Int} {a r : Int} {i c : Nat} (hc : 0 < c) (h : rightR rs (adr a i) r = true) : rchk rs a r i c = rchk rs a r (i + 1) (c - 1) := by
  obtain ⟨c, rfl⟩ : ∃ d, c = d + 1 := ⟨c - 1, by omega⟩
  rw [rchk, if_pos h, Nat.add_sub_cancel]
theorem rchk_bad {rs : List Int} {a r : Int} {i c : Nat} (hc : 0 < c) (h : rightR rs (adr a i) r = false) : rchk rs a r i c = some (adr a i) := by
  obtain ⟨c, rfl⟩ : ∃ d, c = d + 1 := ⟨c - 1, by omega⟩
  rw [rchk, if_neg (by rw [h]; exact Bool.false_ne_true)]
end Go.Proofs.YtojofinofpgopaaDoor
/- The reference's memory: Load. -/
namespace Go.Proofs.YtojofinofpgopaaDoor
open Go.RowKit
theorem rchk_all {rs : List Int} {a r : Int} : ∀ {c i : Nat}, rchk rs a r i c = none → ∀ j, i ≤ j → j < i + c → rightR rs (adr a j) r = true
  | 0, _, _, j, h1, h2 => by omega
  | c + 1, i, h, j, h1, h2 => by
    rw [rchk] at h
    split at h
    · rename_i hg
      by_cases e : i = j
      · subst e; exact hg
      · exact rchk_all h j (by omega) (by omega)
    · cases h
theorem right_lt {rs : List Int} {a r : Int} (h : rightR rs a r = true) : a < 768 := by
  unfold rightR at h
  simp only [Bool.and_eq_true, decide_eq_true_eq] at h
  exact h.1
def rloadGo (b : List Int) (a : Int) : Nat → Int → Int
  | 0, v => v
  | k + 1, v => rloadGo b a k (IntKind.u32.wrap (IntKind.u32.wrap (v * 256) + byteAt b (adr a k)))
def rloadV (rs b : List Int) (a : Int) (n : Nat) : List Value := match rchk rs a 1 0 n with
  | none => [.int .u32 (rloadGo b a n 0), .int .u32 0, .bool true]
  | some x => [.int .u32 0, .int .u32 x, .bool false]
theorem rbyte_u8 {ν : Rm} (ok : ν.Ok) (a : Int) : U8 (byteAt ν.b a) := by
  unfold byteAt
  rw [List.getD_eq_getElem?_getD]
  cases h : ν.b[a.toNat]? with
  | none => exact ⟨by decide, by decide⟩
  | some v => exact ok.u8 v (List.mem_of_getElem? h)
end Go.Proofs.YtojofinofpgopaaDoor
/- The reference's memory: Store. -/
namespace Go.Proofs.YtojofinofpgopaaDoor
open Go.RowKit
/-- What is left of x after i bytes. -/
def rx (x : Int) : Nat → Int
  | 0 => x
  | i + 1 => rx x i / 256
def rstoreGo (b : List Int) (a x : Int) : Nat → List Int
  | 0 => b
  | i + 1 => (rstoreGo b a x i).set (adr a i).toNat (IntKind.u8.wrap (rx x i))
def rstoreB (rs b : List Int) (a : Int) (n : Nat) (x : Int) : List Int := match rchk rs a 2 0 n with
  | none => rstoreGo b a x n
  | some _ => b
theorem rx_u32 {x : Int} (h : U32 x) : ∀ i, U32 (rx x i)
  | 0 => h
  | i + 1 => by
    have := rx_u32 h i
    show 0 ≤ rx x i / 256 ∧ rx x i / 256 < 4294967296
    have h1 := this.1
    have h2 := this.2
    omega
theorem rstoreGo_len (b : List Int) (a x : Int) : ∀ i, (rstoreGo b a x i).length = b.length
  | 0 => rfl
  | i + 1 => by show (List.set _ _ _).length = _; rw [List.length_set]; exact rstoreGo_len b a x i
theorem rstoreGo_u8 {b : List Int} (h : ∀ v ∈ b, U8 v) (a x : Int) : ∀ i, ∀ v ∈ rstoreGo b a x i, U8 v
  | 0 => h
  | i + 1 => mem_set (rstoreGo_u8 h a x i) (u8_wrap _)
abbrev Rm.st (ν : Rm) (b : List Int) : Rm := { ν with b := b }
theorem Rm.Ok.st {ν : Rm} (h : ν.Ok) {b : List Int} (h1 : b.length = 768) (h2 : ∀ v ∈ b, U8 v) : (ν.st b).Ok := ⟨h1, h.lr, h2, h.nd⟩
end Go.Proofs.YtojofinofpgopaaDoor
/- The two memories agree: plain laws. -/
namespace Go.Proofs.YtojofinofpgopaaDoor
theorem right_bad7 : ∀ x : Fin 8, ∀ r : Fin 2, ((IntKind.i64.wrap (((x.val : Nat) : Int).tdiv ((r.val : Nat) + 1 : Int))).tmod 2 == 1) = !(bits .and .i64 ((x.val : Nat) : Int) ((r.val : Nat) + 1 : Int) == 0) := by decide
theorem right_bad {rs : List Int} (h : ∀ v ∈ rs, 0 ≤ v ∧ v ≤ 7) (a r : Int) (hr : r = 1 ∨ r = 2) : rightR rs a r = !badR rs a r := by
  have hv : 0 ≤ rs.getD (a / 256).toNat 0 ∧ rs.getD (a / 256).toNat 0 ≤ 7 := by
    rw [List.getD_eq_getElem?_getD]
    cases hq : rs[(a / 256).toNat]? with
    | none => exact ⟨by decide, by decide⟩
    | some v => exact h v (List.mem_of_getElem? hq)
  unfold rightR badR
  obtain ⟨v, hve⟩ : ∃ v, rs.getD (a / 256).toNat 0 = v := ⟨_, rfl⟩
  rw [hve] at hv ⊢
  obtain ⟨m, rfl⟩ := Int.eq_ofNat_of_zero_le hv.1
  have hm : m < 8 := by omega
  have key := right_bad7 ⟨m, hm⟩
  rcases hr with rfl | rfl
  · have k0 := key 0
    simp only [Fin.val_zero] at k0
    by_cases ha : a < 768
    · simp [ha]; simpa using k0
    · simp [ha]
  · have k1 := key 1
    by_cases ha : a < 768
    · simp [ha]; simpa using k1
    · simp [ha]
theorem chk_eq {rs : List Int} (h : ∀ v ∈ rs, 0 ≤ v ∧ v ≤ 7) (a r : Int) (hr : r = 1 ∨ r = 2) : ∀ c i, rchk rs a r i c = chkL rs a r i c
  | 0, _ => rfl
  | c + 1, i => by
    rw [rchk, chkL, right_bad h (adr a i) r hr, chk_eq h a r hr c (i + 1)]
    cases badR rs (adr a i) r <;> rfl
theorem u8_nat {m : Nat} : IntKind.u8.wrap (m : Int) = ((m % 256 : Nat) : Int) := by
  simp only [IntKind.wrap, IntKind.bits, IntKind.signed]
  simp
theorem rx_nat (m : Nat) : ∀ i, rx (m : Int) i = ((m / 256 ^ i : Nat) : Int)
  | 0 => by simp [rx]
  | i + 1 => by
    show rx (m : Int) i / 256 = _
    rw [rx_nat m i, Nat.pow_succ, ← Nat.div_div_eq_div_mul]
    rfl
theorem byte_eq {m : Nat} (hm : m < 4294967296) {i : Nat} (hi : i < 4) : byteOf (m : Int) i = IntKind.u8.wrap (rx (m : Int) i) := by
  rw [rx_nat, byteOf]
  congr 1
  have h8 : (8 * (i : Int)).toNat = 8 * i := by omega
  have hmin : min (8 * (i : Int)).toNat IntKind.u32.bits = 8 * i := by
    rw [h8]
    show min (8 * i) 32 = 8 * i
    omega
  rw [hmin]
  have e : (2 : Int) ^ (8 * i) = ((256 ^ i : Nat) : Int) := by
    rw [show (256 : Nat) = 2 ^ 8 by decide, ← Nat.pow_mul]; simp
  rw [e, Int.fdiv_eq_ediv_of_nonneg _ (Int.natCast_nonneg _)]
  rfl
theorem store_eq {b : List Int} {a x : Int} (hx : U32 x) : ∀ n, n ≤ 4 → rstoreGo b a x n = storeGo b a x n
  | 0, _ => rfl
  | i + 1, h => by
    obtain ⟨m, rfl⟩ := Int.eq_ofNat_of_zero_le hx.1
    have hm := hx.2
    show (rstoreGo b a m i).set _ _ = (storeGo b a m i).set _ _
    rw [store_eq hx i (by omega), byte_eq (by omega) (by omega)]
end Go.Proofs.YtojofinofpgopaaDoor
/- Loads agree. -/
namespace Go.Proofs.YtojofinofpgopaaDoor
theorem wrap_u32 (x : Int) : IntKind.u32.wrap x = x % 4294967296 := by
  simp only [IntKind.wrap, IntKind.bits, IntKind.signed]
  simp
theorem or_add {k b : Nat} (hb : b < 256) : (k * 256) ||| b = k * 256 + b := by
  have := Nat.two_pow_add_eq_or_of_lt (i := 8) (b := b) hb k
  rw [Nat.mul_comm] at this
  exact this.symm
theorem load_step {v b : Int} (hv : 0 ≤ v) (hb : U8 b) : bits .or .u32 (IntKind.u32.wrap (v * 2 ^ (min (8 : Int).toNat IntKind.u32.bits))) b = IntKind.u32.wrap (IntKind.u32.wrap (v * 256) + b) := by
  obtain ⟨m, rfl⟩ := Int.eq_ofNat_of_zero_le hv
  obtain ⟨c, rfl⟩ := Int.eq_ofNat_of_zero_le hb.1
  have hc := hb.2
  have e : (2 : Int) ^ (min (8 : Int).toNat IntKind.u32.bits) = 256 := by decide
  rw [e]
  have e2 : IntKind.u32.wrap ((m : Int) * 256) = ((m % 16777216 * 256 : Nat) : Int) := by rw [wrap_u32]; omega
  rw [e2, u32_or_nat _ _ (by omega) (by omega), or_add (by omega), wrap_u32]
  omega
theorem load_eq {b : List Int} (hb : ∀ a, U8 (byteAt b a)) (a : Int) : ∀ n v, 0 ≤ v → rloadGo b a n v = loadGo b a n v
  | 0, _, _ => rfl
  | k + 1, v, hv => by
    show rloadGo b a k _ = loadGo b a k _
    rw [load_step hv (hb _)]
    exact load_eq hb a k _ (u32_wrap _).1
end Go.Proofs.YtojofinofpgopaaDoor
/- Plain: the evaluation of a block with a memory. -/
namespace Go.Proofs.YtojofinofpgopaaDoor
open Go.RowKit
/-- A memory: the rights of its pages and its bytes; none: no memory. -/
abbrev PM := Option (List Int × List Int)
structure MemOk (r : List Int × List Int) : Prop where
  len : r.2.length = 768
  u8 : ∀ v ∈ r.2, U8 v
  lr : r.1.length = 3
def PMok (m : PM) : Prop := ∀ r, m = some r → MemOk r
theorem MemOk.at_ {r : List Int × List Int} (h : MemOk r) (a : Int) : U8 (byteAt r.2 a) := by
  unfold byteAt
  rw [List.getD_eq_getElem?_getD]
  cases hq : r.2[a.toNat]? with
  | none => exact ⟨by decide, by decide⟩
  | some v => exact h.u8 v (List.mem_of_getElem? hq)
theorem mm_ok {μ : Mm} (h : μ.Ok) : PMok (some (μ.rs, μ.bytes)) := fun r e => by
  cases e
  refine ⟨h.toWf.bytes_len, fun v hv => ?_, by show (μ.p.map (·.r)).length = 3; rw [List.length_map, h.toWf.len]⟩
  obtain ⟨p, hp, hv⟩ := List.mem_flatMap.1 hv
  exact (h.toWf.c p hp).2.1 v hv
theorem rm_ok {ν : Rm} (h : ν.Ok) : PMok (some (ν.r, ν.b)) := fun r e => by
  cases e
  exact ⟨h.lb, h.u8, h.lr⟩
def szL (c : Int) : Nat := if c = 16 ∨ c = 18 then 4 else 1
theorem szL_in (c : Int) : 1 ≤ szL c ∧ szL c ≤ 4 := by unfold szL; split <;> omega
def ldP : PM → Int → Nat → Option Int
  | none, _, _ => none
  | some r, a, n => match chkL r.1 a 1 0 n with
    | none => some (loadGo r.2 a n 0)
    | some _ => none
def stP : PM → Int → Int → Nat → Option PM
  | none, _, _, _ => none
  | some r, a, v, n => match chkL r.1 a 2 0 n with
    | none => some (some (r.1, storeGo r.2 a v n))
    | some _ => none
theorem storeGo_len (b : List Int) (a x : Int) : ∀ i, (storeGo b a x i).length = b.length
  | 0 => rfl
  | i + 1 => by show (List.set _ _ _).length = _; rw [List.length_set]; exact storeGo_len b a x i
theorem storeGo_u8 {b : List Int} (h : ∀ v ∈ b, U8 v) (a x : Int) : ∀ i, ∀ v ∈ storeGo b a x i, U8 v
  | 0 => h
  | i + 1 => mem_set (storeGo_u8 h a x i) (u8_wrap _)
theorem stP_ok {m m' : PM} {a v : Int} {n : Nat} (h : PMok m) (hs : stP m a v n = some m') : PMok m' := by
  cases m with
  | none => cases hs
  | some r =>
    unfold stP at hs
    dsimp only at hs
    split at hs
    · cases hs
      intro r' e
      cases e
      have h0 := h r rfl
      exact ⟨by show (storeGo _ _ _ _).length = 768; rw [storeGo_len]; exact h0.len, storeGo_u8 h0.u8 a v n, h0.lr⟩
    · cases hs
theorem ldP_u32 {m : PM} {a v : Int} {n : Nat} (h : PMok m) (hn : 1 ≤ n) (hs : ldP m a n = some v) : U32 v := by
  cases m with
  | none => cases hs
  | some r =>
    unfold ldP at hs
    dsimp only at hs
    split at hs
    · cases hs
      have h0 := h r rfl
      rw [← load_eq h0.at_ a n 0 (by decide)]
      obtain ⟨k, rfl⟩ : ∃ k, n = k + 1 := ⟨n - 1, by omega⟩
      clear hn
      have : ∀ k v, U32 (rloadGo r.2 a (k + 1) v) := fun k => by
        induction k with
        | zero => intro v; exact u32_wrap _
        | succ k ih => intro v; exact ih _
      exact this k 0
    · cases hs
/-- One operation: whether the evaluation stops, the outcome so far, the number of the instruction, the memory. -/
def evStepM (at_ : List Int) (o : IOp) (s : EvOut) (cur : Int) (m : PM) : Bool × EvOut × Int × PM :=
  if o.code = 16 ∨ o.code = 17 then
    match ldP m (IntKind.u32.wrap (s.get o.a + o.n)) (szL o.code) with
    | some v => (false, s.set o.d v, cur, m)
    | none => (true, s.leave at_ cur, cur, m)
  else if o.code = 18 ∨ o.code = 19 then
    match stP m (IntKind.u32.wrap (s.get o.a + o.n)) (s.get o.b) (szL o.code) with
    | some m' => (false, s, cur, m')
    | none => (true, s.leave at_ cur, cur, m)
  else ((evStep at_ o s cur).1, (evStep at_ o s cur).2.1, (evStep at_ o s cur).2.2, m)
def evGoM (at_ : List Int) : List IOp → EvOut → Int → PM → EvOut × PM
  | [], s, _, m => (s, m)
  | o :: rest, s, cur, m =>
    match evStepM at_ o s cur m with
    | (true, s', _, m') => (s', m')
    | (false, s', cur', m') => evGoM at_ rest s' cur' m'
theorem evGoM_cont {at_ : List Int} {ops : List IOp} {k : Nat} {s s' : EvOut} {cur cur' : Int} {m m' : PM} (hk : k < ops.length) (h : evStepM at_ (ops.getD k noOp) s cur m = (false, s', cur', m')) :
    evGoM at_ (ops.drop k) s cur m = evGoM at_ (ops.drop (k + 1)) s' cur' m' := by
  rw [List.drop_eq_getElem_cons hk, evGoM, ← getD_at (d := noOp) hk, h]
theorem evGoM_stop {at_ : List Int} {ops : List IOp} {k : Nat} {s s' : EvOut} {cur cur' : Int} {m m' : PM} (hk : k < ops.length) (h : evStepM at_ (ops.getD k noOp) s cur m = (true, s', cur', m')) :
    evGoM at_ (ops.drop k) s cur m = (s', m') := by
  rw [List.drop_eq_getElem_cons hk, evGoM, ← getD_at (d := noOp) hk, h]
def evalM (b : IBlk) (vars : List Int) (m : PM) : EvOut × PM :=
  if validL b then ((evGoM b.at_ b.ops ⟨false, 0, b.at_.length, 0, vars⟩ 0 m).1.guests, (evGoM b.at_ b.ops ⟨false, 0, b.at_.length, 0, vars⟩ 0 m).2) else (zeroOut, m)
theorem evStepM_nil (at_ : List Int) (o : IOp) (s : EvOut) (cur : Int) : evStepM at_ o s cur none = ((evStep at_ o s cur).1, (evStep at_ o s cur).2.1, (evStep at_ o s cur).2.2, none) := by
  unfold evStepM ldP stP
  by_cases h1 : o.code = 16 ∨ o.code = 17
  · rw [if_pos h1]
    have : evStep at_ o s cur = (true, s.leave at_ cur, cur) := by
      unfold evStep; rcases h1 with h | h <;> rw [h] <;> simp
    rw [this]
  · rw [if_neg h1]
    by_cases h2 : o.code = 18 ∨ o.code = 19
    · rw [if_pos h2]
      have : evStep at_ o s cur = (true, s.leave at_ cur, cur) := by
        unfold evStep; rcases h2 with h | h <;> rw [h] <;> simp
      rw [this]
    · rw [if_neg h2]
theorem evGoM_nil (at_ : List Int) : ∀ (ops : List IOp) (s : EvOut) (cur : Int), evGoM at_ ops s cur none = (evGo at_ ops s cur, none)
  | [], _, _ => rfl
  | o :: rest, s, cur => by
    rw [evGoM, evStepM_nil, evGo]
    rcases h : evStep at_ o s cur with ⟨b, s', c'⟩
    cases b
    · exact evGoM_nil at_ rest s' c'
    · rfl
theorem evalM_nil (b : IBlk) (vars : List Int) : evalM b vars none = (evalNil b vars, none) := by
  unfold evalM evalNil
  split
  · rw [evGoM_nil]
  · rfl
/-- A load. -/
theorem evStepM_ld {at_ : List Int} {o : IOp} {s : EvOut} {cur : Int} {m : PM} (h : o.code = 16 ∨ o.code = 17) : evStepM at_ o s cur m = match ldP m (IntKind.u32.wrap (s.get o.a + o.n)) (szL o.code) with
    | some v => (false, s.set o.d v, cur, m)
    | none => (true, s.leave at_ cur, cur, m) := by rw [evStepM, if_pos h]
theorem evStepM_st {at_ : List Int} {o : IOp} {s : EvOut} {cur : Int} {m : PM} (h : o.code = 18 ∨ o.code = 19) : evStepM at_ o s cur m = match stP m (IntKind.u32.wrap (s.get o.a + o.n)) (s.get o.b) (szL o.code) with
    | some m' => (false, s, cur, m')
    | none => (true, s.leave at_ cur, cur, m) := by rw [evStepM, if_neg (by omega), if_pos h]
theorem evStepM_other {at_ : List Int} {o : IOp} {s : EvOut} {cur : Int} {m : PM} (h : o.code < 16 ∨ 19 < o.code) : evStepM at_ o s cur m = ((evStep at_ o s cur).1, (evStep at_ o s cur).2.1, (evStep at_ o s cur).2.2, m) := by rw [evStepM, if_neg (by omega), if_neg (by omega)]
end Go.Proofs.YtojofinofpgopaaDoor
/- The reference's memory: Page. -/
namespace Go.Proofs.YtojofinofpgopaaDoor
open Go.RowKit
theorem yf_sliceLoHi {P : Program} {n : Nat} {m : List (Nat × Value)} {ty : TypeId} {H : World → Prop} {x lo hi : Operand} {t e : TypeId} {k k' : IntKind} {g o len cap i j size c : Nat} {a b : Int} (hx : ev m x = some (.slice (some ⟨g, o, none⟩) len cap)) (hl : ev m lo = some (.int k a)) (hh : ev m hi = some (.int k' b)) (ht : P.underlying t = some (.slice e)) (hs' : (P.info? e).map (·.size) = some size) (ha : a = i) (hb : b = j) (hij : i ≤ j) (hj : j ≤ cap) (hi' : i < cap) (hc : o + i * size = c) :
    YF P (.slice t x (some lo) (some hi) none) ty n m H (.slice (some ⟨g, c, none⟩) (j - i) (cap - i)) := fun _ w d pos af gd hs hw => by
  subst ha; subst hb; subst hc
  have h1 : ¬ (cap < j) := by omega
  have h2 : ¬ (cap = i) := by omega
  have h3 : ¬ (j < i) := by omega
  have h4 : (i : Int) ≤ j := by omega
  have h5 : i ≤ cap := by omega
  simp [Yl, execOp, hs.ev hx, hs.ev hl, hs.ev hh, Instr.sliceAt, run_underlying ht, Instr.slice, Instr.sliceBounds, Instr.sliceBound, asIntOf, run_sizeOf hs', hj, h2, hij, Addr.add, Result.andThen]
end Go.Proofs.YtojofinofpgopaaDoor
/- Plain: what a step of the evaluation keeps. -/
namespace Go.Proofs.YtojofinofpgopaaDoor
theorem evStep_keep {at_ : List Int} {o : IOp} {s s' : EvOut} {cur c' : Int} (h : evStep at_ o s cur = (false, s', c')) : s'.lv = s.lv ∧ s'.idx = s.idx ∧ s'.done = s.done ∧ c' = if o.code = 20 then o.n else cur := by
  unfold evStep at h
  repeat' split at h
  all_goals first
    | (simp only [Prod.mk.injEq, Bool.true_eq_false, false_and] at h; done)
    | (simp only [Prod.mk.injEq, true_and] at h; obtain ⟨rfl, rfl⟩ := h; refine ⟨rfl, rfl, rfl, ?_⟩; first | (rw [if_pos (by assumption)]; done) | (rw [if_neg (by omega)]; done))
theorem evStepM_keep {at_ : List Int} {o : IOp} {s s' : EvOut} {cur c' : Int} {m m' : PM} (h : evStepM at_ o s cur m = (false, s', c', m')) : s'.lv = s.lv ∧ s'.idx = s.idx ∧ s'.done = s.done ∧ c' = if o.code = 20 then o.n else cur := by
  by_cases h1 : o.code = 16 ∨ o.code = 17
  · rw [evStepM_ld h1] at h
    split at h
    · simp only [Prod.mk.injEq, true_and] at h
      obtain ⟨rfl, rfl, _⟩ := h
      exact ⟨rfl, rfl, rfl, by rw [if_neg (by omega)]⟩
    · simp at h
  · by_cases h2 : o.code = 18 ∨ o.code = 19
    · rw [evStepM_st h2] at h
      split at h
      · simp only [Prod.mk.injEq, true_and] at h
        obtain ⟨rfl, rfl, _⟩ := h
        exact ⟨rfl, rfl, rfl, by rw [if_neg (by omega)]⟩
      · simp at h
    · rw [evStepM_other (by omega)] at h
      simp only [Prod.mk.injEq] at h
      obtain ⟨h3, h4, h5, _⟩ := h
      exact evStep_keep (Prod.ext h3 (Prod.ext h4 h5))
/-- A step that stops leaves, or is an exit that is taken. -/
theorem evStep_stop {at_ : List Int} {o : IOp} {s s' : EvOut} {cur c' : Int} (h : evStep at_ o s cur = (true, s', c')) : (shL o.code = true ∧ s' = s.leave at_ cur) ∨ (o.code = 23 ∧ s.get o.a ≠ 0 ∧ s' = { s with pc := o.n }) := by
  unfold evStep at h
  repeat' split at h
  all_goals first
    | (simp only [Prod.mk.injEq, Bool.false_eq_true, false_and] at h; done)
    | (simp only [Prod.mk.injEq, true_and] at h; obtain ⟨rfl, rfl⟩ := h; first | (left; refine ⟨?_, rfl⟩; simp [shL]; omega) | (right; exact ⟨by assumption, by assumption, rfl⟩))
theorem evStepM_stop {at_ : List Int} {o : IOp} {s s' : EvOut} {cur c' : Int} {m m' : PM} (h : evStepM at_ o s cur m = (true, s', c', m')) : m' = m ∧ ((shL o.code = true ∧ s' = s.leave at_ cur) ∨ (o.code = 23 ∧ s.get o.a ≠ 0 ∧ s' = { s with pc := o.n })) := by
  by_cases h1 : o.code = 16 ∨ o.code = 17
  · rw [evStepM_ld h1] at h
    split at h
    · simp at h
    · simp only [Prod.mk.injEq, true_and] at h
      obtain ⟨rfl, _, rfl⟩ := h
      exact ⟨rfl, .inl ⟨by rcases h1 with h | h <;> rw [h] <;> rfl, rfl⟩⟩
  · by_cases h2 : o.code = 18 ∨ o.code = 19
    · rw [evStepM_st h2] at h
      split at h
      · simp at h
      · simp only [Prod.mk.injEq, true_and] at h
        obtain ⟨rfl, _, rfl⟩ := h
        exact ⟨rfl, .inl ⟨by rcases h2 with h | h <;> rw [h] <;> rfl, rfl⟩⟩
    · rw [evStepM_other (by omega)] at h
      simp only [Prod.mk.injEq] at h
      obtain ⟨h3, h4, h5, h6⟩ := h
      exact ⟨h6.symm, evStep_stop (Prod.ext h3 (Prod.ext h4 h5))⟩
theorem evStepM_slow {at_ : List Int} {o : IOp} {s : EvOut} {cur : Int} {m : PM} (h : o.code = 22) : (evStepM at_ o s cur m).1 = true := by
  rw [evStepM_other (by omega)]; simp [evStep, h]
theorem evStep_vlen (at_ : List Int) (o : IOp) (s : EvOut) (cur : Int) : (evStep at_ o s cur).2.1.vars.length = s.vars.length := by
  unfold evStep
  repeat' split
  all_goals simp [EvOut.set, EvOut.leave]
theorem evStepM_len (at_ : List Int) (o : IOp) (s : EvOut) (cur : Int) (m : PM) : (evStepM at_ o s cur m).2.1.vars.length = s.vars.length := by
  by_cases h1 : o.code = 16 ∨ o.code = 17
  · rw [evStepM_ld h1]; split <;> simp [EvOut.set, EvOut.leave]
  · by_cases h2 : o.code = 18 ∨ o.code = 19
    · rw [evStepM_st h2]; split <;> simp [EvOut.leave]
    · rw [evStepM_other (by omega)]; exact evStep_vlen at_ o s cur
theorem evGoM_len (at_ : List Int) : ∀ (ops : List IOp) (s : EvOut) (cur : Int) (m : PM), (evGoM at_ ops s cur m).1.vars.length = s.vars.length
  | [], _, _, _ => rfl
  | o :: rest, s, cur, m => by
    have hl := evStepM_len at_ o s cur m
    rw [evGoM]
    rcases h : evStepM at_ o s cur m with ⟨b, s', c', m'⟩
    rw [h] at hl
    cases b
    · exact (evGoM_len at_ rest s' c' m').trans hl
    · exact hl
theorem evalM_len {vars : List Int} (h : vars.length = 28) (b : IBlk) (m : PM) : (evalM b vars m).1.vars.length = 28 := by
  unfold evalM
  split
  · show ((evGoM _ _ _ _ _).1.guests).vars.length = 28
    simp [EvOut.guests, evGoM_len, h]
  · rfl
end Go.Proofs.YtojofinofpgopaaDoor
