/- A setup, opened; arrays of words. -/
import Derived.Test.YtojofinofpgopaaArgS
import Derived.Test.YtojofinofpgopaaMgV
namespace Go.Proofs.Ytojofinofpgopaa
open Go.Joins Go.ChangeShapes Go.WideShapes Go.ChangeAt Go.RowKit Go.Deep
section
variable {H : Type} {enc : TypeId × Value → H} {w : World} {base : Nat} {held : Bool} {r : Reach} {b0 : Nat} {v : Value} {d : DataW H} {p : List MemPlace}
set_option maxRecDepth 100000 in
theorem open_setup (hv : Value.okWide Try.prog w r b0 50 v) (h : DataW.Trod enc Try.prog w base (fun _ => true) held 50 v d p) :
    ∃ x : Su, v = .agg (suC x).toArray ∧ (∀ n ∈ x.v, U32 n) ∧ RdIn (fun k => w.heap.size ≤ k) x.vA (u32s x.v) w ∧ x.v.length ≤ x.vc ∧ x.vc ≤ maxLen := by
  have hS := Try.underlying50
  obtain ⟨cs, rfl, hsz⟩ := okWide_struct hS hv
  have hC : Try.prog.cellsOf 50 = 5 := by kernel_rfl
  have hC1 : Try.prog.cellsOf 34 = 1 := by kernel_rfl
  have hC3 : Try.prog.cellsOf 30 = 3 := by kernel_rfl
  have hCs : Try.prog.cellsOf 22 = 1 := by kernel_rfl
  obtain ⟨l⟩ := cs
  match l, hsz.trans hC with
  | [c0, c1, c2, c3, c4], _ =>
    obtain ⟨fuel, hf⟩ := h
    obtain ⟨xs, n, _, _, _, hlen, hg⟩ := DataW.trod_struct hS hf
    match xs, hlen with
    | [y0, y1, y2], _ =>
      have t0 : DataW.trod enc Try.prog w base (fun _ => true) held n 30 (([c0, c1, c2, c3, c4].drop 0).take (Try.prog.cellsOf 30)) = some y0 := hg 0 _ rfl
      have t1 : DataW.trod enc Try.prog w base (fun _ => true) held n 34 (([c0, c1, c2, c3, c4].drop 3).take (Try.prog.cellsOf 34)) = some y1 := hg 1 _ rfl
      have t2 : DataW.trod enc Try.prog w base (fun _ => true) held n 22 (([c0, c1, c2, c3, c4].drop 4).take (Try.prog.cellsOf 22)) = some y2 := hg 2 _ rfl
      rw [hC3] at t0
      rw [hC1] at t1
      rw [hCs] at t2
      obtain ⟨z0, z1, z2, _, _, q0, q1, q2⟩ := trod_array3 Try.underlying30 (by kernel_rfl) (show DataW.trod enc Try.prog w base (fun _ => true) held n 30 [c0, c1, c2] = some y0 from t0)
      obtain ⟨a0, e0, _, _⟩ := DataW.trod_int Try.underlying3 q0
      obtain ⟨a1, e1, _, _⟩ := DataW.trod_int Try.underlying3 q1
      obtain ⟨a2, e2, _, _⟩ := DataW.trod_int Try.underlying3 q2
      obtain ⟨a3, e3, _, _⟩ := DataW.trod_int Try.underlying34 (show DataW.trod enc Try.prog w base (fun _ => true) held n 34 [c3] = some y1 from t1)
      obtain ⟨A, cap, vl, rfl, g1, g2, g3, g4⟩ := open_arr Try.underlying22 Try.underlying34 (by kernel_rfl) (show DataW.trod enc Try.prog w base (fun _ => true) held n 22 [c4] = some y2 from t2)
      simp only [List.cons.injEq, and_true] at e0 e1 e2 e3
      subst e0 e1 e2 e3
      exact ⟨⟨a0, a1, a2, a3, A, cap, vl⟩, rfl, fun m hm => wf_u32 (g4 m hm), arr_rdIn g3, g1, g2⟩
set_option maxRecDepth 100000 in
theorem open_words {t : TypeId} {n : Nat} (ht : Try.prog.underlying t = some (.array n 34)) (hct : Try.prog.cellsOf t = n) (hv : Value.okWide Try.prog w r b0 t v) (h : DataW.Trod enc Try.prog w base (fun _ => true) held t v d p) : ∃ l : List Int, v = .agg (u32s l).toArray ∧ l.length = n ∧ ∀ v ∈ l, U32 v := by
  obtain ⟨cs, rfl, hsz⟩ := okWide_arr ht hv
  obtain ⟨fuel, hf⟩ := h
  obtain ⟨l, e, hl, hu⟩ := open_u32s ht hct hf
  refine ⟨l, ?_, hl, hu⟩
  rw [← e]; rfl
end
end Go.Proofs.Ytojofinofpgopaa
