/- A row is equal to itself: variables and states compared. -/
import Derived.Test.YtojofinofpgopaaSxJ
import Derived.Test.YtojofinofpgopaaStB
import Derived.ChangeKeysEq
namespace Go.Proofs.Ytojofinofpgopaa
open Go.RowKit
theorem eqItems_refl {P : Program} {d : Nat} {e : TypeId} {k : IntKind} (he : P.underlying e = some (.int k)) {xs : Array Value} (w : World) : ∀ is : List Nat, (∀ i ∈ is, ∃ a, xs[i]? = some (.int k a)) → (Op.eqItems (d + 1) e 1 xs xs is).run P w = .ok true w
  | [], _ => by simp [Op.eqItems]
  | i :: is, h => by
    obtain ⟨a, ha⟩ := h i (List.mem_cons_self ..)
    have ih := eqItems_refl (d := d) he w is fun j hj => h j (List.mem_cons_of_mem _ hj)
    have hp := run_part1 (P := P) (t := e) (off := i * 1) he rfl (by rw [Nat.mul_one]; exact ha)
    have hq := run_equalIn_int (P := P) w d e k k a a he
    simp only [Op.eqItems, Sem.run_bind, hp, hq, Result.andThen]
    simpa using ih
theorem arr_refl {P : Program} {d n : Nat} {t e : TypeId} {k : IntKind} {i : TypeInfo} (ht : P.underlying t = some (.array n e)) (he : P.underlying e = some (.int k)) (hi : P.info? e = some i) (hc : P.cellsOf e = 1) {xs : Array Value} (h : ∀ i, i < n → ∃ a, xs[i]? = some (.int k a)) (w : World) : (Op.equalIn (d + 2) t (.agg xs) (.agg xs)).run P w = .ok true w := by
  rw [run_equalIn_array (P := P) w (d + 1) xs xs ht hi, hc]
  exact eqItems_refl he w _ fun j hj => h j (List.mem_range.1 hj)
theorem eqFields_refl {P : Program} {d : Nat} {xs : Array Value} (w : World) : ∀ fs : List Field, (∀ f ∈ fs, ∃ v, (∀ w, (part f.type xs f.offset).run P w = .ok v w) ∧ ∀ w, (Op.equalIn d f.type v v).run P w = .ok true w) → (Op.eqFields d xs xs fs).run P w = .ok true w
  | [], _ => by simp [Op.eqFields]
  | f :: fs, h => by
    obtain ⟨v, h1, h2⟩ := h f (List.mem_cons_self ..)
    have ih := eqFields_refl (d := d) w fs fun g hg => h g (List.mem_cons_of_mem _ hg)
    unfold Op.eqFields
    split
    · simp only [Sem.run_bind, h1, h2, Result.andThen]
      simpa using ih
    · exact ih
theorem u32s_get {l : List Int} {i : Nat} (hi : i < l.length) : ∃ a, (u32s l).toArray[i]? = some (.int .u32 a) := ⟨l[i], by simp [u32s, hi]⟩
theorem eq28 {l : List Int} (h : l.length = 28) (w : World) : (Op.equalIn 10000 37 (.agg (u32s l).toArray) (.agg (u32s l).toArray)).run Try.prog w = .ok true w := by
  obtain ⟨i, hi⟩ : ∃ i, Try.prog.info? 34 = some i := Option.isSome_iff_exists.1 (by kernel_rfl)
  exact arr_refl (d := 9998) Try.underlying37 Try.underlying34 hi (by kernel_rfl) (fun i hi => u32s_get (by omega)) w
theorem stL_part {s : MSt} {n o : Nat} (h : ∀ i, i < n → ∃ a, (stL s)[o + i]? = some (.int .u32 a)) : ∀ i, i < n → ∃ a, ((stL s).toArray.extract o (o + n))[i]? = some (.int .u32 a) := fun i hi => by
  obtain ⟨a, ha⟩ := h i hi
  refine ⟨a, ?_⟩
  have hlt := (List.getElem?_eq_some_iff.1 ha).1
  rw [Array.getElem?_extract_of_lt (by simp; omega)]
  have := (List.getElem?_eq_some_iff.1 ha).2
  simp [this]
theorem stL_c {s : MSt} (h16 : s.r.length = 16) {i : Nat} (hi : i < s.c.length) : ∃ a, (stL s)[18 + i]? = some (.int .u32 a) := by
  refine ⟨s.c[i], ?_⟩
  rw [show 18 + i = (17 + i) + 1 by omega]
  show (u32s s.r ++ (.int .u32 s.f :: (u32s s.c ++ _)))[17 + i]? = _
  rw [List.getElem?_append_right (by rw [u32s_len]; omega), u32s_len, h16, show 17 + i - 16 = i + 1 by omega]
  show (u32s s.c ++ _)[i]? = _
  rw [List.getElem?_append_left (by rw [u32s_len]; omega)]
  simp [u32s, hi]
theorem stL_n {s : MSt} (h16 : s.r.length = 16) (h4 : s.c.length = 4) : (stL s)[22]? = some (.int .i64 s.steps) ∧ (stL s)[23]? = some (.int .i64 s.due) := by
  obtain ⟨pc, r, f, c, st, du⟩ := s
  match r, h16, c, h4 with
  | [a0, a1, a2, a3, a4, a5, a6, a7, a8, a9, a10, a11, a12, a13, a14, a15], _, [c0, c1, c2, c3], _ => exact ⟨rfl, rfl⟩
theorem stL_rr {s : MSt} (h16 : s.r.length = 16) {i : Nat} (hi : i < 16) : ∃ a, (stL s)[1 + i]? = some (.int .u32 a) := by
  refine ⟨s.r[i], stL_r ?_⟩
  simp [u32s, h16, hi]
set_option maxRecDepth 100000 in
theorem eqSt {s : MSt} (h16 : s.r.length = 16) (h4 : s.c.length = 4) (w : World) : (Op.equalIn 10000 75 (.agg (stL s).toArray) (.agg (stL s).toArray)).run Try.prog w = .ok true w := by
  obtain ⟨i, hi⟩ : ∃ i, Try.prog.info? 34 = some i := Option.isSome_iff_exists.1 (by kernel_rfl)
  have hf : Try.prog.underlying 75 = some (.struct (Try.prog.fieldsOf 75)) := by kernel_rfl
  have hN := stL_n h16 h4
  rw [show (10000 : Nat) = 9999 + 1 from rfl, run_equalIn_struct (P := Try.prog) w 9999 75 _ _ hf (by kernel_rfl)]
  refine eqFields_refl w _ ?_
  have int : ∀ (k : IntKind) (t : TypeId) (o : Nat) (a : Int), Try.prog.underlying t = some (.int k) → (stL s)[o]? = some (.int k a) → ∃ v, (∀ w, (part t (stL s).toArray o).run Try.prog w = .ok v w) ∧ ∀ w, (Op.equalIn 9999 t v v).run Try.prog w = .ok true w := fun k t o a ht ho =>
    ⟨.int k a, fun w => run_part1 ht rfl (by simpa using ho) w, fun w => by rw [run_equalIn_int (P := Try.prog) w 9998 t k k a a ht]; simp⟩
  have arr : ∀ (t : TypeId) (o n : Nat), Try.prog.underlying t = some (.array n 34) → (Try.prog.info? t).map (·.size) = some n → (∀ i, i < n → ∃ a, (stL s)[o + i]? = some (.int .u32 a)) → ∃ v, (∀ w, (part t (stL s).toArray o).run Try.prog w = .ok v w) ∧ ∀ w, (Op.equalIn 9999 t v v).run Try.prog w = .ok true w := fun t o n ht hs h =>
    ⟨_, fun w => run_partR ht rfl hs w, fun w => arr_refl (d := 9997) ht Try.underlying34 hi (by kernel_rfl) (stL_part h) w⟩
  have hfs := hf.symm.trans Try.underlying75
  injection hfs with hfs
  injection hfs with hfs
  rw [hfs]
  intro f hfm
  simp only [List.mem_cons, List.not_mem_nil, or_false] at hfm
  rcases hfm with rfl | rfl | rfl | rfl | rfl | rfl
  · exact int .u32 _ 0 s.pc (by kernel_rfl) rfl
  · exact arr _ 1 16 (by kernel_rfl) (by kernel_rfl) (fun i hi => stL_rr h16 hi)
  · exact int .u32 _ 17 s.f (by kernel_rfl) (stL_f' h16)
  · exact arr _ 18 4 (by kernel_rfl) (by kernel_rfl) (fun i hi => stL_c h16 (by omega))
  · exact int .i64 _ 22 s.steps (by kernel_rfl) hN.1
  · exact int .i64 _ 23 s.due (by kernel_rfl) hN.2
end Go.Proofs.Ytojofinofpgopaa
