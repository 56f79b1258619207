/- A setup, opened; arrays of words. -/
import Derived.Test.YtojofinofpgopaaDoorArgS
import Derived.Test.YtojofinofpgopaaDoorMgV
namespace Go.Proofs.YtojofinofpgopaaDoor
open Go.Joins Go.ChangeShapes Go.WideShapes Go.ChangeAt Go.RowKit Go.Deep
section
variable {H : Type} {enc : TypeId × Value → H} {w : World} {base : Nat} {held : Bool} {r : Reach} {b0 : Nat} {v : Value} {d : DataW H} {p : List MemPlace}
set_option maxRecDepth 100000 in
theorem open_setup (hv : Value.okWide Tryd.prog w r b0 37 v) (h : DataW.Trod enc Tryd.prog w base (fun _ => true) held 37 v d p) :
    ∃ x : Su, v = .agg (suC x).toArray ∧ (∀ n ∈ x.v, U32 n) ∧ RdIn (fun k => w.heap.size ≤ k) x.vA (u32s x.v) w ∧ x.v.length ≤ x.vc ∧ x.vc ≤ maxLen := by
  have hS := Tryd.underlying37
  obtain ⟨cs, rfl, hsz⟩ := okWide_struct hS hv
  have hC : Tryd.prog.cellsOf 37 = 5 := by kernel_rfl
  have hC1 : Tryd.prog.cellsOf 35 = 1 := by kernel_rfl
  have hC3 : Tryd.prog.cellsOf 23 = 3 := by kernel_rfl
  have hCs : Tryd.prog.cellsOf 25 = 1 := by kernel_rfl
  obtain ⟨l⟩ := cs
  match l, hsz.trans hC with
  | [c0, c1, c2, c3, c4], _ =>
    obtain ⟨fuel, hf⟩ := h
    obtain ⟨xs, n, _, _, _, hlen, hg⟩ := DataW.trod_struct hS hf
    match xs, hlen with
    | [y0, y1, y2], _ =>
      have t0 : DataW.trod enc Tryd.prog w base (fun _ => true) held n 23 (([c0, c1, c2, c3, c4].drop 0).take (Tryd.prog.cellsOf 23)) = some y0 := hg 0 _ rfl
      have t1 : DataW.trod enc Tryd.prog w base (fun _ => true) held n 35 (([c0, c1, c2, c3, c4].drop 3).take (Tryd.prog.cellsOf 35)) = some y1 := hg 1 _ rfl
      have t2 : DataW.trod enc Tryd.prog w base (fun _ => true) held n 25 (([c0, c1, c2, c3, c4].drop 4).take (Tryd.prog.cellsOf 25)) = some y2 := hg 2 _ rfl
      rw [hC3] at t0
      rw [hC1] at t1
      rw [hCs] at t2
      obtain ⟨z0, z1, z2, _, _, q0, q1, q2⟩ := trod_array3 Tryd.underlying23 (by kernel_rfl) (show DataW.trod enc Tryd.prog w base (fun _ => true) held n 23 [c0, c1, c2] = some y0 from t0)
      obtain ⟨a0, e0, _, _⟩ := DataW.trod_int Tryd.underlying3 q0
      obtain ⟨a1, e1, _, _⟩ := DataW.trod_int Tryd.underlying3 q1
      obtain ⟨a2, e2, _, _⟩ := DataW.trod_int Tryd.underlying3 q2
      obtain ⟨a3, e3, _, _⟩ := DataW.trod_int Tryd.underlying35 (show DataW.trod enc Tryd.prog w base (fun _ => true) held n 35 [c3] = some y1 from t1)
      obtain ⟨A, cap, vl, rfl, g1, g2, g3, g4⟩ := open_arr Tryd.underlying25 Tryd.underlying35 (by kernel_rfl) (show DataW.trod enc Tryd.prog w base (fun _ => true) held n 25 [c4] = some y2 from t2)
      simp only [List.cons.injEq, and_true] at e0 e1 e2 e3
      subst e0 e1 e2 e3
      exact ⟨⟨a0, a1, a2, a3, A, cap, vl⟩, rfl, fun m hm => wf_u32 (g4 m hm), arr_rdIn g3, g1, g2⟩
set_option maxRecDepth 100000 in
theorem open_words {t : TypeId} {n : Nat} (ht : Tryd.prog.underlying t = some (.array n 35)) (hct : Tryd.prog.cellsOf t = n) (hv : Value.okWide Tryd.prog w r b0 t v) (h : DataW.Trod enc Tryd.prog w base (fun _ => true) held t v d p) : ∃ l : List Int, v = .agg (u32s l).toArray ∧ l.length = n ∧ ∀ v ∈ l, U32 v := by
  obtain ⟨cs, rfl, hsz⟩ := okWide_arr ht hv
  obtain ⟨fuel, hf⟩ := h
  obtain ⟨l, e, hl, hu⟩ := open_u32s ht hct hf
  refine ⟨l, ?_, hl, hu⟩
  rw [← e]; rfl
end
end Go.Proofs.YtojofinofpgopaaDoor
