/- Contracts of the reference: ShapeOf, Writes, MayLeave, Reads, size, ends, guest, variable. -/
import Derived.Test.YtojofinofpgopaaIrB
import Derived.Outline
namespace Go.Proofs.Ytojofinofpgopaa
open Go.RowKit

def rfV (c : Int) : Array Value := #[.bool (shI c), .bool (shD c), .bool (shA c), .bool (shB c), .bool (shN c), .bool (shL c)]
theorem rf_low (c : Int) (h : c < 3) (h1 : ¬ c = 1) (h2 : ¬ c = 2) : rfV c = #[.bool false, .bool false, .bool false, .bool false, .bool false, .bool false] := by
  simp only [rfV, shD, shA, shB, shN, shL, shI]
  have h3 : ¬ (3 ≤ c) := by omega
  have h4 : ¬ (1 ≤ c) := by omega
  simp [h1, h2, h3, h4]; omega
theorem rf_mid (c : Int) (h : 3 ≤ c) (h15 : c ≤ 15) : rfV c = #[.bool true, .bool true, .bool true, .bool true, .bool false, .bool false] := by
  simp only [rfV, shD, shA, shB, shN, shL, shI]
  simp [*]; omega
theorem rf_high (c : Int) (h : 15 < c) (hn : c ≠ 16 ∧ c ≠ 17 ∧ c ≠ 18 ∧ c ≠ 19 ∧ c ≠ 20 ∧ c ≠ 21 ∧ c ≠ 22 ∧ c ≠ 23 ∧ c ≠ 24 ∧ c ≠ 25) : rfV c = #[.bool false, .bool false, .bool false, .bool false, .bool false, .bool false] := by
  obtain ⟨a, b, d, e, f, g, i, j, k, l⟩ := hn
  have h1 : ¬ c = 1 := by omega
  have h2 : ¬ c = 2 := by omega
  have h15 : ¬ c ≤ 15 := by omega
  simp only [rfV, shD, shA, shB, shN, shL, shI]
  simp [*]; omega
set_option maxHeartbeats 400000 in
theorem refShape_raw (c : Int) (w : World) :
    Calls Try.prog 38 #[.int .i64 c] w fun e w' => e = .returned (.agg (rfV c)) ∧ w.alloc (.cells (rfV c) 68) = w' := by
  go_enter Try.func38, Try.ntmps38
  go_wp2
  all_goals go_light
  all_goals simp only [beq_iff_eq, beq_eq_false_iff_ne, ne_eq] at *
  all_goals (try subst_vars)
  all_goals first
    | (refine bodyPost_ret (v := .agg (rfV _)) ?_ rfl ⟨rfl, rfl⟩; simp [results, Try.results38, go_sem]; done)
    | (refine bodyPost_ret (v := .agg (rfV _)) ?_ rfl ⟨rfl, rfl⟩; simp [results, Try.results38, go_sem]; rfl)
    | (have e1 := rf_low c (by omega) (by omega) (by omega); rw [e1]; refine bodyPost_ret (v := .agg _) ?_ rfl ⟨rfl, rfl⟩; simp [results, Try.results38, go_sem])
    | (have e1 := rf_mid c (by omega) (by omega); rw [e1]; refine bodyPost_ret (v := .agg _) ?_ rfl ⟨rfl, rfl⟩; simp [results, Try.results38, go_sem])
    | (have e1 := rf_high c (by omega) (by omega); rw [e1]; refine bodyPost_ret (v := .agg _) ?_ rfl ⟨rfl, rfl⟩; simp [results, Try.results38, go_sem])
abbrev rfW (c : Int) : Array Value := #[.bool (shI c), .bool (shD c), .bool (shA c), .bool (shB c), .bool (shN c), .bool (shL c)]
theorem refShape_any (c : Int) (w : World) :
    Calls Try.prog 38 #[.int .i64 c] w fun e w' => e = .returned (.agg (rfW c)) ∧ w.alloc (.cells (rfW c) 68) = w' := refShape_raw c w
theorem refWrites_any (o : IOp) (w : World) :
    Calls Try.prog 26 #[.agg o.v] w fun e w' => e = .returned (.int .i64 (writesL o)) ∧ Below w.heap.size w w' := by
  go_enter Try.func26, Try.ntmps26
  go_wp2_with (go_at_call 38; refine (refShape_any _ _).mono ?_; rintro e w' ⟨rfl, rfl⟩)
  all_goals (go_light; go_ret; refine ⟨ret_int ?_, ?_⟩)
  all_goals first | (simp [writesL, *]; done) | skip
  all_goals exact (((Below.refl _ _).alloc (Nat.le_refl _) _).alloc (by simp) _).alloc (by simp; omega) _
theorem refField5 (c : Int) (w : World) : (Instr.field 68 (.agg (rfW c)) 5).run Try.prog w = .ok (.bool (shL c)) w := by kernel_rfl
theorem refMayLeave_any (o : IOp) (w : World) :
    Calls Try.prog 28 #[.agg o.v] w fun e w' => e = .returned (.bool (shL o.code)) ∧ Below w.heap.size w w' := by
  have hf := refField5 o.code
  go_enter Try.func28, Try.ntmps28
  go_wp2_with (go_at_call 38; refine (refShape_any _ _).mono ?_; rintro e w' ⟨rfl, rfl⟩)
  all_goals (go_light; go_ret; refine ⟨rfl, ?_⟩)
  all_goals exact (((Below.refl _ _).alloc (Nat.le_refl _) _).alloc (by simp) _)
set_option maxHeartbeats 400000 in
theorem refReads_any (o : IOp) (w : World) : Calls Try.prog 24 #[.agg o.v] w (ReadsPost o w) := by
  obtain ⟨i0, hi, hz0, hz1, hz2⟩ := info_parts infoInt
  cases hA : shA o.code
  · have hB : shB o.code = false := by
      cases hB : shB o.code
      · rfl
      · exfalso; simp [shA, shB] at hA hB; omega
    go_enter Try.func24, Try.ntmps24
    go_wp2_with (go_at_call 38; refine (refShape_any _ _).mono ?_; rintro e w' ⟨rfl, rfl⟩)
    go_light
    go_ret
    refine ⟨_, rfl, ?_, (((Below.refl _ _).alloc (Nat.le_refl _) _).alloc (by simp) _).alloc (by simp; omega) _⟩
    simp [readsL, hA, hB]
    exact World.ownsRow_nil _ _ _ _
  · cases hB : shB o.code
    · go_enter Try.func24, Try.ntmps24
      go_wp2_with (first
        | (go_at_call 38; refine (refShape_any _ _).mono ?_; rintro e w' ⟨rfl, rfl⟩)
        | (at_builtin; refine wpList_app0 _ rfl (.tmp 10) (.tmp 13) 23 rfl w.heap.size 3 i0 (.int .i64 0) 1 8 Try.underlying23 hi hz0 hz1 hz2 rfl (by decide) rfl _ (by simp) 1 1 [.int .i64 o.a] rfl rfl (by simp [Value.oneCell']) (by omega) (by unfold maxLen; omega) (by omega) (by simp; omega) ?_; intro g cap w1 hg hlt hown hb1; obtain ⟨hc1, hf1⟩ := bcell hb1))
      go_light
      go_ret
      exact ⟨_, rfl, by simpa [readsL, hA, hB] using hown, below3 _ _ _ _ _ _ _ _ hb1⟩
    · cases hne : (o.b != o.a)
      · go_enter Try.func24, Try.ntmps24
        go_wp2_with (first
          | (go_at_call 38; refine (refShape_any _ _).mono ?_; rintro e w' ⟨rfl, rfl⟩)
          | (at_builtin; refine wpList_app0 _ rfl (.tmp 10) (.tmp 13) 23 rfl w.heap.size 3 i0 (.int .i64 0) 1 8 Try.underlying23 hi hz0 hz1 hz2 rfl (by decide) rfl _ (by simp) 1 1 [.int .i64 o.a] rfl rfl (by simp [Value.oneCell']) (by omega) (by unfold maxLen; omega) (by omega) (by simp; omega) ?_; intro g cap w1 hg hlt hown hb1; obtain ⟨hc1, hf1⟩ := bcell hb1))
        go_light
        go_ret
        have he : o.b = o.a := by simpa using hne
        exact ⟨_, rfl, by simpa [readsL, hA, hB, he] using hown, below3 _ _ _ _ _ _ _ _ hb1⟩
      · go_enter Try.func24, Try.ntmps24
        go_wp2_with (first
          | (go_at_call 38; refine (refShape_any _ _).mono ?_; rintro e w' ⟨rfl, rfl⟩)
          | (at_builtin; refine wpList_app0 _ rfl (.tmp 10) (.tmp 13) 23 rfl w.heap.size 3 i0 (.int .i64 0) 1 8 Try.underlying23 hi hz0 hz1 hz2 rfl (by decide) rfl _ (by simp) 1 1 [.int .i64 o.a] rfl rfl (by simp [Value.oneCell']) (by omega) (by unfold maxLen; omega) (by omega) (by simp; omega) ?_; intro g cap w1 hg hlt hown hb1; obtain ⟨hc1, hf1⟩ := bcell hb1)
          | (at_builtin; refine wpList_app w1 rfl (.tmp 24) (.tmp 27) 23 rfl w.heap.size 3 i0 (.int .i64 0) 1 8 Try.underlying23 hi hz0 hz1 hz2 rfl (by decide) (.slice (some ⟨g, 0, none⟩) 1 cap) 1 [.int .i64 o.a] rfl hown _ (by simp) 1 1 [.int .i64 o.b] rfl rfl (by simp [Value.oneCell']) (by omega) (by unfold maxLen; omega) (by omega) (by simp at hg; omega) ?_; intro g2 cap2 w2 hg2 hlt2 hown2 hgr2 hor2 hsz2))
        go_light
        go_ret
        have he : ¬ o.b = o.a := by simpa using hne
        exact ⟨_, rfl, by simpa [readsL, hA, hB, he] using hown2, below_app (below3 _ _ _ _ _ _ _ _ hb1) hgr2 hown (Nat.le_refl _) (by simp at hg; omega)⟩
theorem refEnds_any (c : Int) (w : World) :
    Calls Try.prog 49 #[.int .i64 c] w fun e w' => e = .returned (.bool (endsL c)) ∧ w = w' := by
  go_enter Try.func49, Try.ntmps49
  go_wp2
  all_goals (go_light; go_ret; refine ⟨ret_bool ?_, rfl⟩)
  all_goals (simp only [endsL]; try simp [*])
theorem refVariable_any (has : Bool) (v : Int) (w : World) :
    Calls Try.prog 80 #[.bool has, .int .i64 v] w fun e w' => e = .returned (.bool (fieldL has v)) ∧ w = w' := by
  cases has
  · go_enter Try.func80, Try.ntmps80
    go_wp2
    go_ret
    exact ⟨rfl, rfl⟩
  · go_enter Try.func80, Try.ntmps80
    go_wp2
    all_goals (go_light; go_ret; refine ⟨ret_bool ?_, rfl⟩)
    all_goals (simp only [fieldL]; simp [*, bne]; try omega)
def guestL (v : Int) : Bool := decide (0 ≤ v) && decide (v ≤ 18)
theorem refGuest_any (v : Int) (w : World) :
    Calls Try.prog 82 #[.int .i64 v] w fun e w' => e = .returned (.bool (guestL v)) ∧ w = w' := by
  go_enter Try.func82, Try.ntmps82
  go_wp2
  all_goals (go_light; go_ret; refine ⟨ret_bool ?_, rfl⟩)
  all_goals (simp only [guestL]; simp [*]; try omega)
end Go.Proofs.Ytojofinofpgopaa
