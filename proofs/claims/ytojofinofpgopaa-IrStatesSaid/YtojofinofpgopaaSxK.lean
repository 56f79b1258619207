/- Parts of arrays as slices, and 'clear'. -/
import Derived.Test.YtojofinofpgopaaSxJ
import Derived.Lib.SliceRun
namespace Go.Proofs.Ytojofinofpgopaa
open Go.RowKit
attribute [local simp] Result.andThen
section
variable {P : Program} {n : Nat} {m : List (Nat × Value)} {ty : TypeId} {H : World → Prop} {G B : Nat → Prop} {w0 w w' : World} {L : List (Nat × Obj)} {R : List Rw} {X : World → Prop}
theorem yf_sliceArrLo {x lo : Operand} {t e : TypeId} {k : IntKind} {g o i size N c l : Nat} {j : Int} (hx : ev m x = some (.pointer (some ⟨g, o, none⟩))) (hh : ev m lo = some (.int k j)) (ht : P.underlying t = some (.array N e)) (hs' : (P.info? e).map (·.size) = some size) (hj : j = i) (hi' : i < N) (hc : o + i * size = c) (hl : N - i = l) :
    YF P (.slice t x (some lo) none none) ty n m H (.slice (some ⟨g, c, none⟩) l l) := fun _ w d pos af gd hs hw => by
  subst hj; subst hc; subst hl
  have hne : ¬ (N = i) := by omega
  have h1 : i ≤ N := by omega
  simp [Yl, execOp, hs.ev hx, hs.ev hh, Instr.sliceAt, Instr.sureAddr, run_underlying ht, Instr.sliceBounds, Instr.sliceBound, asIntOf, run_sizeOf hs', h1, hne, Addr.add]
theorem cf_clear {x : Operand} {t e : TypeId} {g o l c T : Nat} {cs : List Value} {z : Value} (k : Nat) (hx : ev m x = some (.slice (some ⟨g, o, none⟩) l c)) (hk : L[k]? = some (g, bk T cs)) (ht : P.underlying t = some (.slice e)) (hv : ∀ w, (zeroValue e).run P w = .ok z w) (hz : z.cells = #[z]) (h1 : z.oneCell' = true) (hl : 0 < l) (ho : o + l ≤ cs.length) :
    CF P (.call { callee := .builtin .clear, args := #[x], argTypes := #[t] }) ty n m (HpG G B w0 L R X) (fun _ : Unit => .tuple #[]) (fun _ => HpG G B w0 (L.set k (g, bk T (cs.take o ++ List.replicate l z ++ cs.drop (o + l)))) R X) := fun a w d pos af gd hs hw => by
  have hg := hw.own _ (List.mem_of_getElem? hk)
  dsimp only at hg
  have hcell : ∀ j, j < l → (w.cell? ⟨g, o + j, none⟩).isSome = true := fun j hj => by
    rw [cell_of_row w g (o + j) _ _ _ hg, List.getElem?_toArray, List.getElem?_eq_getElem (by omega)]; rfl
  have hfr : ∀ j, j < l → w.frozen? ⟨g, o + j, none⟩ = false := fun j _ => frozen_of_row w g _ _ _ hg
  have hall : ∀ v ∈ List.replicate l z, v.oneCell' = true := fun v hv => by rw [List.eq_of_mem_replicate hv]; exact h1
  have hrun := Go.Lib.run_clear_slice (P := P) w t e ty z ht hv hz h1 g o l c hl hcell hfr
  have e1 : w.setCells g o (List.replicate l z) = w.setRow g (cs.take o ++ List.replicate l z ++ cs.drop (o + l)).toArray := by
    have a := run_storeCells_cells (P := P) g o (List.replicate l z) 0 w (by simpa using hcell) (by simpa using hfr) hall
    have b := run_storeCells_at (P := P) g o T (List.replicate l z) 0 cs.toArray w hg (by simpa using ho) hall
    rw [a] at b
    simpa using b
  rw [e1] at hrun
  have hx' := hs.ev hx
  have hex : (execOp a.eval ⟨d, .call { callee := .builtin .clear, args := #[x], argTypes := #[t] }, ty, pos, af, gd⟩).run P w = .ok (.value (.tuple #[])) (w.setRow g (cs.take o ++ List.replicate l z ++ cs.drop (o + l)).toArray) := by
    simp [execOp, resolve, invoke, builtin, hx', hrun]
  show Ch _ _ _ _ _
  unfold Ch
  rw [hex]
  exact ⟨(), rfl, hw.turn hk (keep_setRow w _) (setRow_heap w g _ _ _ _ hg)⟩
end
end Go.Proofs.Ytojofinofpgopaa
