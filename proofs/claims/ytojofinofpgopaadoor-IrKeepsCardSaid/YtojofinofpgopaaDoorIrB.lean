/- Contracts: Reads. -/
import Derived.Test.YtojofinofpgopaaDoorIrA
namespace Go.Proofs.YtojofinofpgopaaDoor
open Go.RowKit
theorem infoInt : (Tryd.prog.info? 3).map (fun i => (i.zero, i.size, i.bytes)) = some (some (.int .i64 0), 1, 8) := by kernel_rfl
def readsL (o : IOp) : List Int := (if shA o.code then [o.a] else []) ++ (if shB o.code && !(o.b == o.a) then [o.b] else [])
def ReadsPost (o : IOp) (w : World) (e : Ending) (w' : World) : Prop :=
  ∃ s, e = .returned s ∧ w'.ownsRow w.heap.size 3 1 s (readsL o).length ((readsL o).map (Value.int .i64)) ∧ Below w.heap.size w w'
theorem below3 (w w1 : World) (a b c : Array Value) (t u v : TypeId) (hb : Below (((w.alloc (.cells a t)).alloc (.cells b u)).alloc (.cells c v)).heap.size (((w.alloc (.cells a t)).alloc (.cells b u)).alloc (.cells c v)) w1) : Below w.heap.size w w1 :=
  ((((Below.refl _ _).alloc (Nat.le_refl _) _).alloc (by simp) _).alloc (by simp; omega) _).trans (hb.mono (by simp; omega))
set_option maxHeartbeats 400000 in
theorem reads_any (o : IOp) (w : World) : Calls Tryd.prog 47 #[.agg o.v] w (ReadsPost o w) := by
  obtain ⟨i0, hi, hz0, hz1, hz2⟩ := info_parts infoInt
  cases hA : shA o.code
  · have hB : shB o.code = false := by
      cases hB : shB o.code
      · rfl
      · exfalso; simp [shA, shB] at hA hB; omega
    go_enter Tryd.func47, Tryd.ntmps47
    go_wp2_with (go_at_call 44; refine (shapeOf_any _ _).mono ?_; rintro e w' ⟨rfl, rfl⟩)
    go_light
    go_ret
    refine ⟨_, rfl, ?_, (((Below.refl _ _).alloc (Nat.le_refl _) _).alloc (by simp) _).alloc (by simp; omega) _⟩
    simp [readsL, hA, hB]
    exact World.ownsRow_nil _ _ _ _
  · cases hB : shB o.code
    · go_enter Tryd.func47, Tryd.ntmps47
      go_wp2_with (first
        | (go_at_call 44; refine (shapeOf_any _ _).mono ?_; rintro e w' ⟨rfl, rfl⟩)
        | (at_builtin; refine wpList_app0 _ rfl (.tmp 14) (.tmp 17) 22 rfl w.heap.size 3 i0 (.int .i64 0) 1 8 Tryd.underlying22 hi hz0 hz1 hz2 rfl (by decide) rfl _ (by simp) 1 1 [.int .i64 o.a] rfl rfl (by simp [Value.oneCell']) (by omega) (by unfold maxLen; omega) (by omega) (by simp; omega) ?_; intro g cap w1 hg hlt hown hb1; obtain ⟨hc1, hf1⟩ := bcell hb1))
      go_light
      go_ret
      exact ⟨_, rfl, by simpa [readsL, hA, hB] using hown, below3 _ _ _ _ _ _ _ _ hb1⟩
    · cases hne : (o.b != o.a)
      · go_enter Tryd.func47, Tryd.ntmps47
        go_wp2_with (first
          | (go_at_call 44; refine (shapeOf_any _ _).mono ?_; rintro e w' ⟨rfl, rfl⟩)
          | (at_builtin; refine wpList_app0 _ rfl (.tmp 14) (.tmp 17) 22 rfl w.heap.size 3 i0 (.int .i64 0) 1 8 Tryd.underlying22 hi hz0 hz1 hz2 rfl (by decide) rfl _ (by simp) 1 1 [.int .i64 o.a] rfl rfl (by simp [Value.oneCell']) (by omega) (by unfold maxLen; omega) (by omega) (by simp; omega) ?_; intro g cap w1 hg hlt hown hb1; obtain ⟨hc1, hf1⟩ := bcell hb1))
        go_light
        go_ret
        have he : o.b = o.a := by simpa using hne
        exact ⟨_, rfl, by simpa [readsL, hA, hB, he] using hown, below3 _ _ _ _ _ _ _ _ hb1⟩
      · go_enter Tryd.func47, Tryd.ntmps47
        go_wp2_with (first
          | (go_at_call 44; refine (shapeOf_any _ _).mono ?_; rintro e w' ⟨rfl, rfl⟩)
          | (at_builtin; refine wpList_app0 _ rfl (.tmp 14) (.tmp 17) 22 rfl w.heap.size 3 i0 (.int .i64 0) 1 8 Tryd.underlying22 hi hz0 hz1 hz2 rfl (by decide) rfl _ (by simp) 1 1 [.int .i64 o.a] rfl rfl (by simp [Value.oneCell']) (by omega) (by unfold maxLen; omega) (by omega) (by simp; omega) ?_; intro g cap w1 hg hlt hown hb1; obtain ⟨hc1, hf1⟩ := bcell hb1)
          | (at_builtin; refine wpList_app w1 rfl (.tmp 28) (.tmp 31) 22 rfl w.heap.size 3 i0 (.int .i64 0) 1 8 Tryd.underlying22 hi hz0 hz1 hz2 rfl (by decide) (.slice (some ⟨g, 0, none⟩) 1 cap) 1 [.int .i64 o.a] rfl hown _ (by simp) 1 1 [.int .i64 o.b] rfl rfl (by simp [Value.oneCell']) (by omega) (by unfold maxLen; omega) (by omega) (by simp at hg; omega) ?_; intro g2 cap2 w2 hg2 hlt2 hown2 hgr2 hor2 hsz2))
        go_light
        go_ret
        have he : ¬ o.b = o.a := by simpa using hne
        exact ⟨_, rfl, by simpa [readsL, hA, hB, he] using hown2, below_app (below3 _ _ _ _ _ _ _ _ hb1) hgr2 hown (Nat.le_refl _) (by simp at hg; omega)⟩
end Go.Proofs.YtojofinofpgopaaDoor
