/- States and variables, opened. -/
import Derived.Test.YtojofinofpgopaaArg3
import Derived.Test.YtojofinofpgopaaStB
import Derived.OpenShut
namespace Go.Proofs.Ytojofinofpgopaa
open Go.Joins Go.ChangeShapes Go.WideShapes Go.ChangeAt Go.RowKit Go.Deep
section
variable {H : Type} {enc : TypeId × Value → H} {w : World} {base : Nat} {held : Bool} {fuel : Nat} {y : DataW H × List MemPlace}
theorem open_u32s {t : TypeId} {n : Nat} {cs : List Value} (ht : Try.prog.underlying t = some (.array n 34)) (hct : Try.prog.cellsOf t = n) (h : DataW.trod enc Try.prog w base (fun _ => true) held fuel t cs = some y) :
    ∃ l : List Int, cs = u32s l ∧ l.length = n ∧ ∀ v ∈ l, U32 v := by
  have hC1 : Try.prog.cellsOf 34 = 1 := by kernel_rfl
  obtain ⟨xs, f, _, _, hcl, hxl, hg⟩ := DataW.trod_array ht h
  rw [hct] at hcl
  have each : ∀ i, i < n → ∃ a : Int, cs[i]? = some (.int .u32 a) ∧ U32 a := by
    intro i hi
    have h1 := hg i hi
    rw [hC1, Nat.mul_one, List.getElem?_eq_getElem (by omega)] at h1
    obtain ⟨a, e, _, wf⟩ := DataW.trod_int Try.underlying34 h1
    refine ⟨a, ?_, wf_u32 wf⟩
    have h2 : ((cs.drop i).take 1)[0]? = some (.int .u32 a) := by rw [e]; rfl
    rw [List.getElem?_take_of_lt (by omega), List.getElem?_drop] at h2
    exact h2
  obtain ⟨l, hlen, hp⟩ := list_of 0 n each
  refine ⟨l, ?_, hlen, fun v hv => ?_⟩
  · apply List.ext_getElem?
    intro i
    by_cases hi : i < n
    · rw [(hp i hi).1, u32s, List.getElem?_map, List.getElem?_eq_getElem (by omega), List.getD_eq_getElem?_getD, List.getElem?_eq_getElem (by omega)]; rfl
    · rw [List.getElem?_eq_none (by omega), List.getElem?_eq_none (by rw [u32s_len]; omega)]
  · obtain ⟨i, hi, rfl⟩ := List.getElem_of_mem hv
    have := (hp i (by omega)).2
    rw [List.getD_eq_getElem?_getD, List.getElem?_eq_getElem hi] at this; exact this
end
section
variable {H : Type} {enc : TypeId × Value → H} {w : World} {base : Nat} {held : Bool} {r : Reach} {b0 : Nat} {v : Value} {d : DataW H} {p : List MemPlace}
set_option maxRecDepth 100000 in
theorem open_vars (hv : Value.okWide Try.prog w r b0 37 v) (h : DataW.Trod enc Try.prog w base (fun _ => true) held 37 v d p) : ∃ l : List Int, v = .agg (u32s l).toArray ∧ l.length = 28 ∧ ∀ v ∈ l, U32 v := by
  obtain ⟨cs, rfl, hsz⟩ := okWide_arr Try.underlying37 hv
  obtain ⟨fuel, hf⟩ := h
  obtain ⟨l, e, hl, hu⟩ := open_u32s Try.underlying37 (by kernel_rfl) hf
  refine ⟨l, ?_, hl, hu⟩
  rw [← e]; rfl
set_option maxRecDepth 100000 in
theorem open_state (hv : Value.okWide Try.prog w r b0 75 v) (h : DataW.Trod enc Try.prog w base (fun _ => true) held 75 v d p) : ∃ s : MSt, v = stV s ∧ StOk s := by
  have hS := Try.underlying75
  obtain ⟨cs, rfl, hsz⟩ := okWide_struct hS hv
  have hC : Try.prog.cellsOf 75 = 24 := by kernel_rfl
  have hC1 : Try.prog.cellsOf 34 = 1 := by kernel_rfl
  have hCi : Try.prog.cellsOf 3 = 1 := by kernel_rfl
  have hCr : Try.prog.cellsOf 72 = 16 := by kernel_rfl
  have hCc : Try.prog.cellsOf 73 = 4 := by kernel_rfl
  obtain ⟨l⟩ := cs
  match l, hsz.trans hC with
  | [c0, c1, c2, c3, c4, c5, c6, c7, c8, c9, c10, c11, c12, c13, c14, c15, c16, c17, c18, c19, c20, c21, c22, c23], _ =>
    obtain ⟨fuel, hf⟩ := h
    obtain ⟨xs, n, _, _, _, hlen, hg⟩ := DataW.trod_struct hS hf
    match xs, hlen with
    | [y0, y1, y2, y3, y4, y5], _ =>
      have t0 : DataW.trod enc Try.prog w base (fun _ => true) held n 34 (([c0, c1, c2, c3, c4, c5, c6, c7, c8, c9, c10, c11, c12, c13, c14, c15, c16, c17, c18, c19, c20, c21, c22, c23].drop 0).take (Try.prog.cellsOf 34)) = some y0 := hg 0 _ rfl
      have t1 : DataW.trod enc Try.prog w base (fun _ => true) held n 72 (([c0, c1, c2, c3, c4, c5, c6, c7, c8, c9, c10, c11, c12, c13, c14, c15, c16, c17, c18, c19, c20, c21, c22, c23].drop 1).take (Try.prog.cellsOf 72)) = some y1 := hg 1 _ rfl
      have t2 : DataW.trod enc Try.prog w base (fun _ => true) held n 34 (([c0, c1, c2, c3, c4, c5, c6, c7, c8, c9, c10, c11, c12, c13, c14, c15, c16, c17, c18, c19, c20, c21, c22, c23].drop 17).take (Try.prog.cellsOf 34)) = some y2 := hg 2 _ rfl
      have t3 : DataW.trod enc Try.prog w base (fun _ => true) held n 73 (([c0, c1, c2, c3, c4, c5, c6, c7, c8, c9, c10, c11, c12, c13, c14, c15, c16, c17, c18, c19, c20, c21, c22, c23].drop 18).take (Try.prog.cellsOf 73)) = some y3 := hg 3 _ rfl
      have t4 : DataW.trod enc Try.prog w base (fun _ => true) held n 3 (([c0, c1, c2, c3, c4, c5, c6, c7, c8, c9, c10, c11, c12, c13, c14, c15, c16, c17, c18, c19, c20, c21, c22, c23].drop 22).take (Try.prog.cellsOf 3)) = some y4 := hg 4 _ rfl
      have t5 : DataW.trod enc Try.prog w base (fun _ => true) held n 3 (([c0, c1, c2, c3, c4, c5, c6, c7, c8, c9, c10, c11, c12, c13, c14, c15, c16, c17, c18, c19, c20, c21, c22, c23].drop 23).take (Try.prog.cellsOf 3)) = some y5 := hg 5 _ rfl
      rw [hC1] at t0 t2
      rw [hCr] at t1
      rw [hCc] at t3
      rw [hCi] at t4 t5
      obtain ⟨a0, e0, _, w0⟩ := DataW.trod_int Try.underlying34 (show DataW.trod enc Try.prog w base (fun _ => true) held n 34 [c0] = some y0 from t0)
      obtain ⟨r, er, hr, ur⟩ := open_u32s Try.underlying72 hCr (show DataW.trod enc Try.prog w base (fun _ => true) held n 72 [c1, c2, c3, c4, c5, c6, c7, c8, c9, c10, c11, c12, c13, c14, c15, c16] = some y1 from t1)
      obtain ⟨a2, e2, _, w2⟩ := DataW.trod_int Try.underlying34 (show DataW.trod enc Try.prog w base (fun _ => true) held n 34 [c17] = some y2 from t2)
      obtain ⟨c, ec, hc, _⟩ := open_u32s Try.underlying73 hCc (show DataW.trod enc Try.prog w base (fun _ => true) held n 73 [c18, c19, c20, c21] = some y3 from t3)
      obtain ⟨a4, e4, _, _⟩ := DataW.trod_int Try.underlying3 (show DataW.trod enc Try.prog w base (fun _ => true) held n 3 [c22] = some y4 from t4)
      obtain ⟨a5, e5, _, _⟩ := DataW.trod_int Try.underlying3 (show DataW.trod enc Try.prog w base (fun _ => true) held n 3 [c23] = some y5 from t5)
      simp only [List.cons.injEq, and_true] at e0 e2 e4 e5
      subst e0 e2 e4 e5
      refine ⟨⟨a0, r, a2, c, a4, a5⟩, ?_, hr, hc, ur, wf_u32 w2⟩
      show _ = Value.agg (.int .u32 a0 :: (u32s r ++ (.int .u32 a2 :: (u32s c ++ [.int .i64 a4, .int .i64 a5])))).toArray
      rw [← er, ← ec]; rfl
end
end Go.Proofs.Ytojofinofpgopaa
