/- The law IrSpoilt holds for all numbers and all changes. No condition beyond the row's own. -/
import Derived.Test.YtojofinofpgopaaArg3
import Derived.Test.YtojofinofpgopaaLwSpoilt
namespace Go.Proofs.Ytojofinofpgopaa
open Go.Joins Go.ChangeShapes Go.WideShapes Go.ChangeAt Go.RowKit Go.Deep
set_option maxRecDepth 100000 in
theorem irSpoilt_lifted (os : Os) (started : os.Started) (H : Type) (enc : TypeId × Value → H) :
    ReturnsInHanded {} Try.checked os 4 .any (Rows.irSpoiltSpec.pre6 enc Try.prog Try.f4 Rows.irSpoiltRow.domain false) (Rows.irSpoiltSpec.post enc Try.prog Try.f4 false true false false) := by
  refine returnsInHanded_of_change (C := Try.checked) own started (by kernel_rfl) Try.func4
    (ChangeSpec.witness6 (enc := enc) (C := Try.checked) false ⟨#[], #[.slice none 0 0, .agg #[.int .i64 0, .int .i64 0, .int .i64 0], .agg #[.int .i64 0, .int .i64 0, .int .i64 0]], []⟩ 8 (by kernel_rfl) (by kernel_rfl) (by kernel_rfl) (by kernel_rfl)) ?_
  intro W base args ds gs before hval0 hW hcnd _
  have hval : ∀ (j : Nat) t v, Try.f4.params[j]? = some t → args[j]? = some v → Value.okWide Try.prog W .any base t v := hval0
  have hW' := hW
  obtain ⟨p, q, hA0, hV, rfl, hfz, hnd⟩ := hW
  have hA : DataW.TrodAll enc Try.prog W 0 (fun _ => true) true Try.f4.params.toList args.toList ds p := hA0
  rw [Try.params4] at hA hval
  obtain ⟨v0, v1, v2, d0, d1, d2, p0, p1, p2, rfl, rfl, rfl, h0, h1, h2⟩ := trodAll_three hA
  obtain ⟨rfl, rfl⟩ := trodVars_none hV
  obtain ⟨A, cap, s, rfl, hcc, hmm, hArr⟩ := open_nums (hval 0 23 v0 rfl rfl) h0
  obtain ⟨q0, q1, q2, rfl⟩ := open_int3 (hval 1 30 v1 rfl rfl) h1
  obtain ⟨r0, r1, r2, rfl⟩ := open_int3 (hval 2 30 v2 rfl rfl) h2
  exact (irSpoilt_any A cap s q0 q1 q2 r0 r1 r2 W (arr_rdIn hArr) (Nat.le_trans hcc hmm) hcc).mono fun e W' h => law_end (s := Rows.irSpoiltSpec) rfl rfl rfl rfl (by kernel_rfl) rfl hW' h
theorem irSpoilt_holds : Rows.IrSpoiltSaid :=
  OpenClaim.holds_of_wide 4 Try.f4 rfl rfl rfl rfl rfl rfl rfl ⟨rfl, rfl, rfl, rfl, rfl⟩ rfl rfl rfl rfl rfl (by kernel_rfl) Try.func4 (by kernel_rfl)
    (of_decide_eq_true (by kernel_rfl)) (by unfold Func.isWrapper; first | (rw [if_pos (by decide +kernel)]; kernel_rfl) | (rw [if_neg (by decide +kernel)]; exact ⟨rfl, rfl⟩))
    (fun os started H enc _ => irSpoilt_lifted os started H enc)
#print axioms irSpoilt_holds
end Go.Proofs.Ytojofinofpgopaa
