/- The law IrLeaves holds for all numbers and all setups. No condition beyond the row's own. -/
import Derived.Test.YtojofinofpgopaaArgSu
import Derived.Test.YtojofinofpgopaaLwLeave
namespace Go.Proofs.Ytojofinofpgopaa
open Go.Joins Go.ChangeShapes Go.WideShapes Go.ChangeAt Go.RowKit Go.Deep
set_option maxRecDepth 100000 in
theorem irLeaves_lifted (os : Os) (started : os.Started) (H : Type) (enc : TypeId × Value → H) :
    ReturnsInHanded {} Try.checked os 10 .any (Rows.irLeavesSpec.pre6 enc Try.prog Try.f10 Rows.irLeavesRow.domain false) (Rows.irLeavesSpec.post enc Try.prog Try.f10 false true false false) := by
  refine returnsInHanded_of_change (C := Try.checked) own started (by kernel_rfl) Try.func10
    (ChangeSpec.witness6 (enc := enc) (C := Try.checked) false ⟨#[], #[.slice none 0 0, .agg #[.int .i64 0, .int .i64 0, .int .i64 0, .int .u32 0, .slice none 0 0]], []⟩ 8 (by kernel_rfl) (by kernel_rfl) (by kernel_rfl) (by kernel_rfl)) ?_
  intro W base args ds gs before hval0 hW hcnd _
  have hval : ∀ (j : Nat) t v, Try.f10.params[j]? = some t → args[j]? = some v → Value.okWide Try.prog W .any base t v := hval0
  have hW' := hW
  obtain ⟨p, q, hA0, hV, rfl, hfz, hnd⟩ := hW
  have hA : DataW.TrodAll enc Try.prog W 0 (fun _ => true) true Try.f10.params.toList args.toList ds p := hA0
  rw [Try.params10] at hA hval
  obtain ⟨v0, v1, d0, d1, p0, p1, rfl, rfl, rfl, h0, h1⟩ := trodAll_two hA
  obtain ⟨rfl, rfl⟩ := trodVars_none hV
  obtain ⟨A, cap, s, rfl, hcc, hmm, hArr⟩ := open_nums (hval 0 23 v0 rfl rfl) h0
  obtain ⟨x, rfl, hxu, hxr, _, _⟩ := open_setup (hval 1 50 v1 rfl rfl) h1
  exact (irLeaves_any A cap s x hxu W ⟨arr_rdIn hArr, hxr⟩ (Nat.le_trans hcc hmm) hcc).mono fun e W' h => law_end (s := Rows.irLeavesSpec) rfl rfl rfl rfl (by kernel_rfl) rfl hW' h
theorem irLeaves_holds : Rows.IrLeavesSaid :=
  OpenClaim.holds_of_wide 10 Try.f10 rfl rfl rfl rfl rfl rfl rfl ⟨rfl, rfl, rfl, rfl, rfl⟩ rfl rfl rfl rfl rfl (by kernel_rfl) Try.func10 (by kernel_rfl)
    (of_decide_eq_true (by kernel_rfl)) (by unfold Func.isWrapper; first | (rw [if_pos (by decide +kernel)]; kernel_rfl) | (rw [if_neg (by decide +kernel)]; exact ⟨rfl, rfl⟩))
    (fun os started H enc _ => irLeaves_lifted os started H enc)
#print axioms irLeaves_holds
end Go.Proofs.Ytojofinofpgopaa
