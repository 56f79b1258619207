/- The law IrEffects holds for all operations, all setups and all other values. No condition beyond the row's own. -/
import Derived.Test.YtojofinofpgopaaArgSu
import Derived.Test.YtojofinofpgopaaLwEff
namespace Go.Proofs.Ytojofinofpgopaa
open Go.Joins Go.ChangeShapes Go.WideShapes Go.ChangeAt Go.RowKit Go.Deep
set_option maxRecDepth 100000 in
theorem irEffects_lifted (os : Os) (started : os.Started) (H : Type) (enc : TypeId × Value → H) :
    ReturnsInHanded {} Try.checked os 12 .any (Rows.irEffectsSpec.pre6 enc Try.prog Try.f12 Rows.irEffectsRow.domain false) (Rows.irEffectsSpec.post enc Try.prog Try.f12 false true false false) := by
  refine returnsInHanded_of_change (C := Try.checked) own started (by kernel_rfl) Try.func12
    (ChangeSpec.witness6 (enc := enc) (C := Try.checked) false ⟨#[], #[.agg #[.int .i64 0, .int .i64 0, .int .i64 0, .int .i64 0, .int .u32 0], .agg #[.int .i64 0, .int .i64 0, .int .i64 0, .int .u32 0, .slice none 0 0], .agg #[.int .u32 0, .int .u32 0]], []⟩ 8 (by kernel_rfl) (by kernel_rfl) (by kernel_rfl) (by kernel_rfl)) ?_
  intro W base args ds gs before hval0 hW hcnd _
  have hval : ∀ (j : Nat) t v, Try.f12.params[j]? = some t → args[j]? = some v → Value.okWide Try.prog W .any base t v := hval0
  have hW' := hW
  obtain ⟨pl, ql, hA0, hV, rfl, hfz, hnd⟩ := hW
  have hA : DataW.TrodAll enc Try.prog W 0 (fun _ => true) true Try.f12.params.toList args.toList ds pl := hA0
  rw [Try.params12] at hA hval
  obtain ⟨v0, v1, v2, d0, d1, d2, p0, p1, p2, rfl, rfl, rfl, h0, h1, h2⟩ := trodAll_three hA
  obtain ⟨rfl, rfl⟩ := trodVars_none hV
  obtain ⟨o, rfl, hon⟩ := open_op (hval 0 36 v0 rfl rfl) h0
  obtain ⟨x, rfl, hxu, hxr, _, _⟩ := open_setup (hval 1 50 v1 rfl rfl) h1
  obtain ⟨ot, rfl, hot, hou⟩ := open_words Try.underlying43 (by kernel_rfl) (hval 2 43 v2 rfl rfl) h2
  obtain ⟨p, q, rfl⟩ := two_of hot
  exact (irEffects_any o hon x hxu p q (hou p (List.mem_cons_self ..)) (hou q (List.mem_cons_of_mem _ (List.mem_cons_self ..))) W hxr).mono fun e W' h => law_end (s := Rows.irEffectsSpec) rfl rfl rfl rfl (by kernel_rfl) rfl hW' h
theorem irEffects_holds : Rows.IrEffectsSaid :=
  OpenClaim.holds_of_wide 12 Try.f12 rfl rfl rfl rfl rfl rfl rfl ⟨rfl, rfl, rfl, rfl, rfl⟩ rfl rfl rfl rfl rfl (by kernel_rfl) Try.func12 (by kernel_rfl)
    (of_decide_eq_true (by kernel_rfl)) (by unfold Func.isWrapper; first | (rw [if_pos (by decide +kernel)]; kernel_rfl) | (rw [if_neg (by decide +kernel)]; exact ⟨rfl, rfl⟩))
    (fun os started H enc _ => irEffects_lifted os started H enc)
#print axioms irEffects_holds
end Go.Proofs.Ytojofinofpgopaa
