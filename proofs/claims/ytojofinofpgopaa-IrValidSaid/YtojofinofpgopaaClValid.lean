/- The law IrValid holds for every block: Valid agrees with the reference, which checks each condition on its own. No condition beyond the row's own. -/
import Derived.Test.YtojofinofpgopaaArg
import Derived.Test.YtojofinofpgopaaLwValid
namespace Go.Proofs.Ytojofinofpgopaa
open Go.Joins Go.ChangeShapes Go.WideShapes Go.ChangeAt Go.RowKit Go.Deep
set_option maxRecDepth 100000 in
theorem irValid_lifted (os : Os) (started : os.Started) (H : Type) (enc : TypeId × Value → H) :
    ReturnsInHanded {} Try.checked os 3 .any (Rows.irValidSpec.pre6 enc Try.prog Try.f3 Rows.irValidRow.domain false) (Rows.irValidSpec.post enc Try.prog Try.f3 false true false false) := by
  refine returnsInHanded_of_change (C := Try.checked) own started (by kernel_rfl) Try.func3
    (ChangeSpec.witness6 (enc := enc) (C := Try.checked) false ⟨#[], #[.agg #[.slice none 0 0, .slice none 0 0, .slice none 0 0]], []⟩ 8 (by kernel_rfl) (by kernel_rfl) (by kernel_rfl) (by kernel_rfl)) ?_
  intro W base args ds gs before hval0 hW hcnd _
  have hval : ∀ (j : Nat) t v, Try.f3.params[j]? = some t → args[j]? = some v → Value.okWide Try.prog W .any base t v := hval0
  have hW' := hW
  obtain ⟨p, q, hA0, hV, rfl, hfz, hnd⟩ := hW
  have hA : DataW.TrodAll enc Try.prog W 0 (fun _ => true) true Try.f3.params.toList args.toList ds p := hA0
  rw [Try.params3] at hA hval
  obtain ⟨v0, d0, rfl, rfl, h0⟩ := trodAll_one hA
  obtain ⟨rfl, rfl⟩ := trodVars_none hV
  obtain ⟨aA, aP, aO, cA, cP, cO, b, rfl, hb, hN, lA, lP, lO, _⟩ := open_blk (hval 0 26 v0 rfl rfl) h0
  exact (irValid_any aA aP aO cA cP cO b W hb hN lA lP lO).mono fun e W' h => law_end (s := Rows.irValidSpec) rfl rfl rfl rfl (by kernel_rfl) rfl hW' h
theorem irValid_holds : Rows.IrValidSaid :=
  OpenClaim.holds_of_wide 3 Try.f3 rfl rfl rfl rfl rfl rfl rfl ⟨rfl, rfl, rfl, rfl, rfl⟩ rfl rfl rfl rfl rfl (by kernel_rfl) Try.func3 (by kernel_rfl)
    (of_decide_eq_true (by kernel_rfl)) (by unfold Func.isWrapper; first | (rw [if_pos (by decide +kernel)]; kernel_rfl) | (rw [if_neg (by decide +kernel)]; exact ⟨rfl, rfl⟩))
    (fun os started H enc _ => irValid_lifted os started H enc)
#print axioms irValid_holds
end Go.Proofs.Ytojofinofpgopaa
