/- The walk of IrFields. -/
import Derived.Test.YtojofinofpgopaaIrH
import Derived.Test.YtojofinofpgopaaRefA
import Derived.Test.YtojofinofpgopaaIrD
import Derived.Deep.RegionHeld3
namespace Go.Proofs.Ytojofinofpgopaa
open Go.RowKit
attribute [local go_sem ↓] Go.wp_at_zero Go.wp_at_succ
theorem opS_next {w0 w w' : World} {b : Nat} {o : IOp} (h : Below w0.heap.size w0 w ∧ b < w.heap.size ∧ w.cell? ⟨b, 0, none⟩ = some (.int .i64 o.code) ∧ w.cell? ⟨b, 1, none⟩ = some (.int .i64 o.d) ∧ w.cell? ⟨b, 2, none⟩ = some (.int .i64 o.a) ∧ w.cell? ⟨b, 3, none⟩ = some (.int .i64 o.b) ∧ w.cell? ⟨b, 4, none⟩ = some (.int .u32 o.n))
    (hb : Below w.heap.size w w') : Below w0.heap.size w0 w' ∧ b < w'.heap.size ∧ w'.cell? ⟨b, 0, none⟩ = some (.int .i64 o.code) ∧ w'.cell? ⟨b, 1, none⟩ = some (.int .i64 o.d) ∧ w'.cell? ⟨b, 2, none⟩ = some (.int .i64 o.a) ∧ w'.cell? ⟨b, 3, none⟩ = some (.int .i64 o.b) ∧ w'.cell? ⟨b, 4, none⟩ = some (.int .u32 o.n) := by
  obtain ⟨h1, h2, c0, c1, c2, c3, c4⟩ := h
  exact ⟨h1.trans (hb.mono h1.size), Nat.lt_of_lt_of_le h2 hb.size, (hb.cell (p := ⟨b, 0, none⟩) h2).trans c0, (hb.cell (p := ⟨b, 1, none⟩) h2).trans c1, (hb.cell (p := ⟨b, 2, none⟩) h2).trans c2, (hb.cell (p := ⟨b, 3, none⟩) h2).trans c3, (hb.cell (p := ⟨b, 4, none⟩) h2).trans c4⟩
set_option maxRecDepth 100000 in
set_option maxHeartbeats 2000000 in
theorem irFields_any (o : IOp) (w : World) : Calls Try.prog 7 #[.agg o.v] w fun e w' => e = .returned (.bool true) ∧ Below w.heap.size w w' := by
  go_enter Try.func7, Try.ntmps7
  go_wp2_with fail
  refine (sanity_any _).mono ?_
  rintro e w1 ⟨rfl, hb1⟩
  have hS1 := opS_next (w0 := w) (b := w.heap.size) (o := o) (w := w.alloc (.cells o.v 36)) ⟨(Below.refl _ _).alloc (Nat.le_refl _) _, by simp, heap_cell (heap_alloc_new w _) rfl, heap_cell (heap_alloc_new w _) rfl, heap_cell (heap_alloc_new w _) rfl, heap_cell (heap_alloc_new w _) rfl, heap_cell (heap_alloc_new w _) rfl⟩ hb1
  clear hb1
  have HS1 := Lib.hid hS1
  obtain ⟨hb1, hl1, c0, c1, c2, c3, c4⟩ := hS1
  clear hb1
  go_wp2_with fail
  refine (reads_any o _).mono ?_
  rintro e w2 ⟨s, rfl, hown, hb2⟩
  obtain ⟨A, cap, rfl, harr⟩ := own_arr hown
  have hS2 := opS_next HS1.out hb2
  clear hb2 hown c0 c1 c2 c3 c4 hl1
  have HS2 := Lib.hid hS2
  obtain ⟨hb2, hl2, c0, c1, c2, c3, c4⟩ := hS2
  clear hb2
  go_wp2_with fail
  refine (refReads_any o _).mono ?_
  rintro e w3 ⟨s, rfl, hown3, hb3⟩
  obtain ⟨A3, cap3, rfl, harr3⟩ := own_arr hown3
  have hS3 := opS_next HS2.out hb3
  have harr2 : 0 < (readsL o).length → ∃ b, A = some ⟨b, 0, none⟩ ∧ ∀ i, i < (readsL o).length → w3.cell? ⟨b, i, none⟩ = some (.int .i64 ((readsL o).getD i 0)) := fun h0 => by
    obtain ⟨b, hA, h1, h2, hc⟩ := harr h0
    exact ⟨b, hA, fun i hi => (hb3.cell (p := ⟨b, i, none⟩) h2).trans (hc i hi)⟩
  clear hb3 hown3 c0 c1 c2 c3 c4 hl2 harr HS1 HS2
  have HS3 := Lib.hid hS3
  clear hS3
  have hlen : (readsL o).length ≤ 2 := by unfold readsL; split <;> split <;> simp
  go_wp2_with fail
  go_loopw [6] (fun i wr => ∃ k n : Nat, k ≤ (readsL o).length ∧ i = .int .i64 k ∧ wr = w3.drewN n) (fun i _ => (readsL o).length - (intOf i).toNat)
  case atStart => exact ⟨0, 0, Nat.zero_le _, rfl, rfl⟩
  case round =>
    obtain ⟨k, n, hk, rfl, rfl⟩ := hrel
    by_cases hlt : k < (readsL o).length
    · obtain ⟨b2, rfl, hc2⟩ := harr2 (by omega)
      obtain ⟨b3, rfl, h31, h32, hc3⟩ := harr3 (by omega)
      have d2 := hc2 k hlt
      have d3 := hc3 k hlt
      obtain ⟨v, hv⟩ : ∃ v, (readsL o).getD k 0 = v := ⟨_, rfl⟩
      rw [hv] at d2 d3
      clear hc2 hc3 hv harr2 harr3
      go_wp2_with fail
      go_quiet (fail)
      go_wp2_with fail
      go_roundw
      case rel => exact ⟨k + 1, n + nq, by omega, by go_num, rfl⟩
      case measure => (simp [intOf]; omega)
    · obtain rfl : k = (readsL o).length := by omega
      clear harr2 harr3
      have hS := opS_next HS3.out (below_drewN (Below.refl _ _) n)
      generalize w3.drewN n = w4 at *
      clear HS3
      go_wp2_with fail
      go_region_held3 (fun w' => Below w.heap.size w w' ∧ w.heap.size < w'.heap.size ∧ w'.cell? ⟨w.heap.size, 0, none⟩ = some (.int .i64 o.code) ∧ w'.cell? ⟨w.heap.size, 1, none⟩ = some (.int .i64 o.d) ∧ w'.cell? ⟨w.heap.size, 2, none⟩ = some (.int .i64 o.a) ∧ w'.cell? ⟨w.heap.size, 3, none⟩ = some (.int .i64 o.b) ∧ w'.cell? ⟨w.heap.size, 4, none⟩ = some (.int .u32 o.n))
        (first | assumption | (refine opS_next (by assumption) (by assumption)) | (refine opS_next (by assumption) (below_drewN (Below.refl _ _) 1)))
        (first | (go_at_call 25; refine (writes_any o _).mono ?_; rintro e w5 ⟨rfl, hb5⟩) | (go_at_call 26; refine (refWrites_any o _).mono ?_; rintro e w6 ⟨rfl, hb6⟩) | (go_at_call 27; refine (mayLeave_any o _).mono ?_; rintro e w7 ⟨rfl, hb7⟩) | (go_at_call 28; refine (refMayLeave_any o _).mono ?_; rintro e w8 ⟨rfl, hb8⟩))
      have hb := opS_next (by assumption) (below_drewN (Below.refl w8.heap.size w8) 0)
      have HB := Lib.hid hb.1
      clear hb hb5 hb6 hb7 hb8 hS
      go_wp2_with fail
      go_light
      go_ret
      exact ⟨rfl, HB.out⟩
end Go.Proofs.Ytojofinofpgopaa
