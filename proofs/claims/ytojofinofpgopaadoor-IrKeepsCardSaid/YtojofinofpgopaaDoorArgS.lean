/- States and variables, opened. -/
import Derived.Test.YtojofinofpgopaaDoorArg3
import Derived.Test.YtojofinofpgopaaDoorMgF
import Derived.OpenShut
namespace Go.Proofs.YtojofinofpgopaaDoor
open Go.Joins Go.ChangeShapes Go.WideShapes Go.ChangeAt Go.RowKit Go.Deep
section
variable {H : Type} {enc : TypeId × Value → H} {w : World} {base : Nat} {held : Bool} {fuel : Nat} {y : DataW H × List MemPlace}
theorem open_u32s {t : TypeId} {n : Nat} {cs : List Value} (ht : Tryd.prog.underlying t = some (.array n 35)) (hct : Tryd.prog.cellsOf t = n) (h : DataW.trod enc Tryd.prog w base (fun _ => true) held fuel t cs = some y) :
    ∃ l : List Int, cs = u32s l ∧ l.length = n ∧ ∀ v ∈ l, U32 v := by
  have hC1 : Tryd.prog.cellsOf 35 = 1 := by kernel_rfl
  obtain ⟨xs, f, _, _, hcl, hxl, hg⟩ := DataW.trod_array ht h
  rw [hct] at hcl
  have each : ∀ i, i < n → ∃ a : Int, cs[i]? = some (.int .u32 a) ∧ U32 a := by
    intro i hi
    have h1 := hg i hi
    rw [hC1, Nat.mul_one, List.getElem?_eq_getElem (by omega)] at h1
    obtain ⟨a, e, _, wf⟩ := DataW.trod_int Tryd.underlying35 h1
    refine ⟨a, ?_, wf_u32 wf⟩
    have h2 : ((cs.drop i).take 1)[0]? = some (.int .u32 a) := by rw [e]; rfl
    rw [List.getElem?_take_of_lt (by omega), List.getElem?_drop] at h2
    exact h2
  obtain ⟨l, hlen, hp⟩ := list_of 0 n each
  refine ⟨l, ?_, hlen, fun v hv => ?_⟩
  · apply List.ext_getElem?
    intro i
    by_cases hi : i < n
    · rw [(hp i hi).1, u32s, List.getElem?_map, List.getElem?_eq_getElem (by omega), List.getD_eq_getElem?_getD, List.getElem?_eq_getElem (by omega)]; rfl
    · rw [List.getElem?_eq_none (by omega), List.getElem?_eq_none (by rw [u32s_len]; omega)]
  · obtain ⟨i, hi, rfl⟩ := List.getElem_of_mem hv
    have := (hp i (by omega)).2
    rw [List.getD_eq_getElem?_getD, List.getElem?_eq_getElem hi] at this; exact this
end
section
variable {H : Type} {enc : TypeId × Value → H} {w : World} {base : Nat} {held : Bool} {r : Reach} {b0 : Nat} {v : Value} {d : DataW H} {p : List MemPlace}
set_option maxRecDepth 100000 in
theorem open_vars (hv : Value.okWide Tryd.prog w r b0 39 v) (h : DataW.Trod enc Tryd.prog w base (fun _ => true) held 39 v d p) : ∃ l : List Int, v = .agg (u32s l).toArray ∧ l.length = 28 ∧ ∀ v ∈ l, U32 v := by
  obtain ⟨cs, rfl, hsz⟩ := okWide_arr Tryd.underlying39 hv
  obtain ⟨fuel, hf⟩ := h
  obtain ⟨l, e, hl, hu⟩ := open_u32s Tryd.underlying39 (by kernel_rfl) hf
  refine ⟨l, ?_, hl, hu⟩
  rw [← e]; rfl
end
end Go.Proofs.YtojofinofpgopaaDoor
