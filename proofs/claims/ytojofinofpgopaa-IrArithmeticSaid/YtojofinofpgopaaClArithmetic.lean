/- The law IrArithmetic holds for every first word and every slice of pairs: the block of constants and operations on words is valid, and is evaluated to the chain of the operations themselves. No condition beyond the row's own. -/
import Derived.Test.YtojofinofpgopaaArg
import Derived.Test.YtojofinofpgopaaArgP
namespace Go.Proofs.Ytojofinofpgopaa
open Go.Joins Go.ChangeShapes Go.WideShapes Go.ChangeAt Go.RowKit Go.Deep
set_option maxRecDepth 100000 in
theorem irArithmetic_lifted (os : Os) (started : os.Started) (H : Type) (enc : TypeId × Value → H) :
    ReturnsInHanded {} Try.checked os 6 .any (Rows.irArithmeticSpec.pre6 enc Try.prog Try.f6 Rows.irArithmeticRow.domain false) (Rows.irArithmeticSpec.post enc Try.prog Try.f6 false true false false) := by
  refine returnsInHanded_of_change (C := Try.checked) own started (by kernel_rfl) Try.func6
    (ChangeSpec.witness6 (enc := enc) (C := Try.checked) false ⟨#[], #[.int .u32 0, .slice none 0 0], []⟩ 8 (by kernel_rfl) (by kernel_rfl) (by kernel_rfl) (by kernel_rfl)) ?_
  intro W base args ds gs before hval0 hW hcnd _
  have hval : ∀ (j : Nat) t v, Try.f6.params[j]? = some t → args[j]? = some v → Value.okWide Try.prog W .any base t v := hval0
  have hW' := hW
  obtain ⟨p, q, hA0, hV, rfl, hfz, hnd⟩ := hW
  have hA : DataW.TrodAll enc Try.prog W 0 (fun _ => true) true Try.f6.params.toList args.toList ds p := hA0
  rw [Try.params6] at hA hval
  obtain ⟨v0, v1, d0, d1, p0, p1, rfl, rfl, rfl, h0, h1⟩ := trodAll_two hA
  obtain ⟨rfl, rfl⟩ := trodVars_none hV
  obtain ⟨a0, rfl, rfl, rfl, w0⟩ := open_int Try.underlying34 (hval 0 34 v0 rfl rfl) h0
  obtain ⟨f1, h1⟩ := h1
  obtain ⟨x1, x2, x3, rfl⟩ := okWide_slice Try.underlying42 (hval 1 42 v1 rfl rfl)
  obtain ⟨A, cap, l, hv, hl, hm, hp, hu⟩ := open_pairs (v := .slice x1 x2 x3) h1
  rw [hv]
  rw [hv] at hW'
  exact (irArith_any a0 A cap l W (wf_u32 w0) hp hl hu).mono fun e W' h => law_end (s := Rows.irArithmeticSpec) rfl rfl rfl rfl (by kernel_rfl) rfl hW' h
theorem irArithmetic_holds : Rows.IrArithmeticSaid :=
  OpenClaim.holds_of_wide 6 Try.f6 rfl rfl rfl rfl rfl rfl rfl ⟨rfl, rfl, rfl, rfl, rfl⟩ rfl rfl rfl rfl rfl (by kernel_rfl) Try.func6 (by kernel_rfl)
    (of_decide_eq_true (by kernel_rfl)) (by unfold Func.isWrapper; first | (rw [if_pos (by decide +kernel)]; kernel_rfl) | (rw [if_neg (by decide +kernel)]; exact ⟨rfl, rfl⟩))
    (fun os started H enc _ => irArithmetic_lifted os started H enc)
#print axioms irArithmetic_holds
end Go.Proofs.Ytojofinofpgopaa
