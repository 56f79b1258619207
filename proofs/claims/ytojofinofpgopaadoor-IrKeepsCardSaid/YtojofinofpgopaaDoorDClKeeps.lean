/- The law IrKeeps holds for all numbers, all changes and all setups, the three listed tables of the library being as the program's text lays them. -/
import Derived.Test.YtojofinofpgopaaDoorArgSu
import Derived.Test.YtojofinofpgopaaDoorLwKeeps
import Derived.Test.YtojofinofpgopaaDoorDLaid
import Derived.Test.YtojofinofpgopaaDoorCards
import Derived.Test.YtojofinofpgopaaDoorTie
import Derived.SevenTiedAt
namespace Go.Proofs.YtojofinofpgopaaDoor
open Go.Joins Go.ChangeShapes Go.WideShapes Go.ChangeAt Go.RowKit Go.Deep
set_option maxRecDepth 100000 in
theorem irKeeps_lifted (os : Os) (started : os.Started) (H : Type) (enc : TypeId × Value → H) :
    ReturnsInHanded {} Tryd.checked os 4 .any (fun w args => (Rows.irKeepsSpec.pre enc Tryd.prog Tryd.f4 [] false w args ∧ laidMetH Tryd.prog tabs w) ∧ sizedMet enc Tryd.prog Tryd.f4 (OpenSpec.ofChange Rows.irKeepsSpec) false w args) (Rows.irKeepsSpec.post enc Tryd.prog Tryd.f4 false true false false) := by
  refine returnsInHanded_of_change_and (C := Tryd.checked) (X := fun w _ => laidMetH Tryd.prog tabs w) (fun _ _ _ hh h => h.of_heap hh) own started (by kernel_rfl) Tryd.func4
    (ChangeSpec.witness_shaped (enc := enc) (C := Tryd.checked) (os := os) (X := fun w _ => laidMetH Tryd.prog tabs w) false (World.laidAll Tryd.prog os tabs) #[.slice none 0 0, .agg #[.int .i64 0, .int .i64 0, .int .i64 0], .agg #[.int .i64 0, .int .i64 0, .int .i64 0, .int .u32 0, .slice none 0 0]] 8 (World.laidAll_os _ _ _) (World.shaped_of_ZipB (by kernel_rfl) (by kernel_rfl)) (by kernel_rfl) (by kernel_rfl) (by kernel_rfl) (tabs_met os _)) ?_
  intro W base args ds gs before hval0 hW _ _ hL _
  have hval : ∀ (j : Nat) t v, Tryd.f4.params[j]? = some t → args[j]? = some v → Value.okWide Tryd.prog W .any base t v := hval0
  have hW' := hW
  obtain ⟨p, q, hA0, hV, rfl, hfz, hnd⟩ := hW
  have hA : DataW.TrodAll enc Tryd.prog W 0 (fun _ => true) true Tryd.f4.params.toList args.toList ds p := hA0
  rw [Tryd.params4] at hA hval
  obtain ⟨v0, v1, v2, d0, d1, d2, p0, p1, p2, rfl, rfl, rfl, h0, h1, h2⟩ := trodAll_three hA
  obtain ⟨rfl, rfl⟩ := trodVars_none hV
  obtain ⟨A, cap, s, rfl, hcc, hmm, hArr⟩ := open_nums (hval 0 22 v0 rfl rfl) h0
  obtain ⟨q0, q1, q2, rfl⟩ := open_int3 (hval 1 23 v1 rfl rfl) h1
  obtain ⟨x, rfl, hxu, hxr, _, _⟩ := open_setup (hval 2 37 v2 rfl rfl) h2
  exact (irKeeps_any A cap s q0 q1 q2 x hxu W ⟨arr_rdIn hArr, hxr⟩ (Nat.le_trans hcc hmm) hcc (tb_of hL)).mono fun e W' h => law_end (s := Rows.irKeepsSpec) rfl rfl rfl rfl (by kernel_rfl) rfl hW' h
theorem irKeeps_row : Rows.IrKeepsSaid :=
  OpenClaim.holds_of_wide 4 Tryd.f4 rfl rfl rfl rfl rfl rfl rfl ⟨rfl, rfl, rfl, rfl, rfl⟩ rfl rfl rfl rfl rfl (by kernel_rfl) Tryd.func4 (by kernel_rfl)
    (of_decide_eq_true (by kernel_rfl)) (by unfold Func.isWrapper; first | (rw [if_pos (by decide +kernel)]; kernel_rfl) | (rw [if_neg (by decide +kernel)]; exact ⟨rfl, rfl⟩))
    (fun os started H enc _ => irKeeps_lifted os started H enc)
theorem irKeeps_holds : Rows.IrKeepsCardSaid :=
  Claim7.holds_tied_plain_at .later [] [.data, .data, .data] true (true, "b4d1b3bb8bd34e351de9ee704959372da2bbad23b3281edc6dae7dca23e2a4d8") false
    irKeeps_row (fun _ h => by cases h) (by kernel_rfl) (fun _ h => by cases h) irKeeps_row_tie rfl ⟨rfl, rfl⟩ (by kernel_rfl) rfl
    (fun f fn hf hfn => by
      obtain rfl : f = 4 := Option.some.inj ((show Tryd.prog.funcNamed "babel/babellaw12.IrKeeps" = some 4 by kernel_rfl).symm.trans hf) |>.symm
      obtain rfl : fn = Tryd.f4 := (Option.some.inj (Tryd.func4.symm.trans hfn)).symm
      exact ⟨by kernel_rfl, fun j t ht => by
        rw [Tryd.params4] at ht
        have hm : t ∈ [22, 23, 37] := by simpa using Array.mem_of_getElem? ht
        have hall : ([22, 23, 37].all fun u => !Tryd.prog.wantsStandIn u) = true := by kernel_rfl
        exact (show Tryd.prog.wantsStandIn t = false by simpa using List.all_eq_true.1 hall t hm)⟩)
    (by kernel_rfl)
#print axioms irKeeps_holds
end Go.Proofs.YtojofinofpgopaaDoor
