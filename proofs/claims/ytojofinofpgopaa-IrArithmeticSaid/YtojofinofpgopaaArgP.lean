/- A slice of pairs of numbers, opened. -/
import Derived.Test.YtojofinofpgopaaArg
import Derived.Test.YtojofinofpgopaaLwArith
import Derived.OpenShut
namespace Go.Proofs.Ytojofinofpgopaa
open Go.Joins Go.ChangeShapes Go.WideShapes Go.ChangeAt Go.RowKit Go.Deep
section
variable {H : Type} {enc : TypeId × Value → H} {w : World} {base : Nat} {held : Bool} {fuel : Nat} {v : Value} {y : DataW H × List MemPlace}
set_option maxRecDepth 100000 in
theorem open_pairs (h : DataW.trod enc Try.prog w base (fun _ => true) held fuel 42 [v] = some y) :
    ∃ A cap, ∃ l : List (Int × Int), v = .slice A l.length cap ∧ l.length ≤ cap ∧ cap ≤ maxLen ∧ PairsArr w w.heap.size A l ∧ ∀ p ∈ l, U32 p.1 ∧ U32 p.2 := by
  have hC : Try.prog.cellsOf 43 = 2 := by kernel_rfl
  have hC1 : Try.prog.cellsOf 34 = 1 := by kernel_rfl
  rcases open_slice Try.underlying42 h with ⟨hcs, _⟩ | ⟨a, len, cap, m, n, D, Pl, hcs, _, hl, hm, hmm, _, hel⟩
  · refine ⟨none, 0, [], by simpa using hcs, by simp, by unfold maxLen; omega, fun h0 => by simp at h0, fun n hn => by simp at hn⟩
  · simp only [if_true] at hmm
    subst hmm
    have each : ∀ i, i < len → ∃ p : Int × Int, (w.cell? (a.add (i * 2)) = some (.int .u32 p.1) ∧ w.cell? (a.add (i * 2 + 1)) = some (.int .u32 p.2)) ∧ U32 p.1 ∧ U32 p.2 := by
      intro i hi
      obtain ⟨cs', hc, ht⟩ := hel i (by omega)
      rw [hC] at hc
      obtain ⟨_, hcl, hat⟩ := World.cells?_some hc
      obtain ⟨xs, f, _, _, _, hxl, hg⟩ := DataW.trod_array Try.underlying43 ht
      match cs', hcl with
      | [c0, c1], _ =>
        match xs, hxl with
        | [y0, y1], _ =>
          have t0 := hg 0 (by omega)
          have t1 := hg 1 (by omega)
          rw [hC1] at t0 t1
          obtain ⟨a0, e0, _, w0⟩ := DataW.trod_int Try.underlying34 (show DataW.trod enc Try.prog w base (fun _ => true) held f 34 [c0] = some y0 from t0)
          obtain ⟨a1, e1, _, w1⟩ := DataW.trod_int Try.underlying34 (show DataW.trod enc Try.prog w base (fun _ => true) held f 34 [c1] = some y1 from t1)
          simp only [List.cons.injEq, and_true] at e0 e1
          subst e0 e1
          have k0 := hat 0 (by omega)
          have k1 := hat 1 (by omega)
          rw [Go.Deep.add_add] at k0 k1
          exact ⟨(a0, a1), ⟨k0, k1⟩, wf_u32 w0, wf_u32 w1⟩
    obtain ⟨l, hlen, hp⟩ := list_of (0, 0) len each
    refine ⟨some a, m, l, by rw [hlen]; simpa using hcs, by omega, hm, fun h0 => ?_, fun p hpm => ?_⟩
    · have h00 := (hp 0 (by omega)).1.1
      obtain ⟨b, off, spot⟩ := a
      have hspot : spot = none := by simpa [Addr.add] using World.cell?_spot h00
      subst hspot
      refine ⟨b, off, rfl, ?_, fun i hi => ?_⟩
      · rw [Go.WideShapes.add_plain] at h00; exact cell_lt h00
      · obtain ⟨⟨k0, k1⟩, _⟩ := hp i (by omega)
        rw [Go.WideShapes.add_plain] at k0 k1
        exact ⟨k0, by rw [Nat.add_assoc]; exact k1⟩
    · obtain ⟨i, hi, rfl⟩ := List.getElem_of_mem hpm
      have := (hp i (by omega)).2
      rw [getD_at hi] at this; exact this
end
end Go.Proofs.Ytojofinofpgopaa
