/- The law IrTemporaries holds for all numbers, all setups and all nine other values. No condition beyond the row's own. -/
import Derived.Test.YtojofinofpgopaaArgSu
import Derived.Test.YtojofinofpgopaaLwTemp
namespace Go.Proofs.Ytojofinofpgopaa
open Go.Joins Go.ChangeShapes Go.WideShapes Go.ChangeAt Go.RowKit Go.Deep
set_option maxRecDepth 100000 in
theorem irTemporaries_lifted (os : Os) (started : os.Started) (H : Type) (enc : TypeId × Value → H) :
    ReturnsInHanded {} Try.checked os 11 .any (Rows.irTemporariesSpec.pre6 enc Try.prog Try.f11 Rows.irTemporariesRow.domain false) (Rows.irTemporariesSpec.post enc Try.prog Try.f11 false true false false) := by
  refine returnsInHanded_of_change (C := Try.checked) own started (by kernel_rfl) Try.func11
    (ChangeSpec.witness6 (enc := enc) (C := Try.checked) false ⟨#[], #[.slice none 0 0, .agg #[.int .i64 0, .int .i64 0, .int .i64 0, .int .u32 0, .slice none 0 0], .agg #[.int .u32 0, .int .u32 0, .int .u32 0, .int .u32 0, .int .u32 0, .int .u32 0, .int .u32 0, .int .u32 0, .int .u32 0]], []⟩ 8 (by kernel_rfl) (by kernel_rfl) (by kernel_rfl) (by kernel_rfl)) ?_
  intro W base args ds gs before hval0 hW hcnd _
  have hval : ∀ (j : Nat) t v, Try.f11.params[j]? = some t → args[j]? = some v → Value.okWide Try.prog W .any base t v := hval0
  have hW' := hW
  obtain ⟨p, q, hA0, hV, rfl, hfz, hnd⟩ := hW
  have hA : DataW.TrodAll enc Try.prog W 0 (fun _ => true) true Try.f11.params.toList args.toList ds p := hA0
  rw [Try.params11] at hA hval
  obtain ⟨v0, v1, v2, d0, d1, d2, p0, p1, p2, rfl, rfl, rfl, h0, h1, h2⟩ := trodAll_three hA
  obtain ⟨rfl, rfl⟩ := trodVars_none hV
  obtain ⟨A, cap, s, rfl, hcc, hmm, hArr⟩ := open_nums (hval 0 23 v0 rfl rfl) h0
  obtain ⟨x, rfl, hxu, hxr, _, _⟩ := open_setup (hval 1 50 v1 rfl rfl) h1
  obtain ⟨ot, rfl, hot, hou⟩ := open_words Try.underlying64 (by kernel_rfl) (hval 2 64 v2 rfl rfl) h2
  exact (irTemporaries_any A cap s x hxu ot hot hou W ⟨arr_rdIn hArr, hxr⟩ (Nat.le_trans hcc hmm) hcc).mono fun e W' h => law_end (s := Rows.irTemporariesSpec) rfl rfl rfl rfl (by kernel_rfl) rfl hW' h
theorem irTemporaries_holds : Rows.IrTemporariesSaid :=
  OpenClaim.holds_of_wide 11 Try.f11 rfl rfl rfl rfl rfl rfl rfl ⟨rfl, rfl, rfl, rfl, rfl⟩ rfl rfl rfl rfl rfl (by kernel_rfl) Try.func11 (by kernel_rfl)
    (of_decide_eq_true (by kernel_rfl)) (by unfold Func.isWrapper; first | (rw [if_pos (by decide +kernel)]; kernel_rfl) | (rw [if_neg (by decide +kernel)]; exact ⟨rfl, rfl⟩))
    (fun os started H enc _ => irTemporaries_lifted os started H enc)
#print axioms irTemporaries_holds
end Go.Proofs.Ytojofinofpgopaa
