/- More on what a walk knows: a block becomes a row; the rows that a call made. -/
import Derived.Test.YtojofinofpgopaaSxG
namespace Go.Proofs.Ytojofinofpgopaa
open Go.RowKit
section
variable {P : Program} {ops : Array Oper} {Q : Exit → Act → World → Prop} {n : Nat} {m : List (Nat × Value)} {ty : TypeId} {H J : World → Prop} {G B : Nat → Prop} {w0 w w' : World} {L : List (Nat × Obj)} {R : List Rw} {X : World → Prop}
theorem wl_conseq {l : List Oper} {H' : World → Prop} (hH : ∀ w, H w → H' w) (h : WL P ops Q l n m H') : WL P ops Q l n m H := fun a w hs hw => h a w hs (hH w hw)
theorem wq_conseq {e : Exit} {H' : World → Prop} (hH : ∀ w, H w → H' w) (h : WQ Q e n m H') : WQ Q e n m H := fun a w hs hw => h a w hs (hH w hw)
/-- A block of the call's own is a row of its own. -/
theorem Hp.toRow {g E size k : Nat} {cs : List Value} (h : Hp B w0 ((g, bk E cs) :: L) R X w) (hg : w0.heap.size ≤ g) (hl : cs.length = k * size) (hm : k ≤ maxLen) : Hp B w0 L (⟨.slice (some ⟨g, 0, none⟩) k k, E, size, k, cs⟩ :: R) X w := by
  have hperm : (blks L (⟨.slice (some ⟨g, 0, none⟩) k k, E, size, k, cs⟩ :: R)).Perm (blks ((g, bk E cs) :: L) R) := by
    unfold blks
    rw [List.filterMap_cons]
    exact List.perm_middle
  obtain ⟨F, hF, hX⟩ := HpG.foot h
  refine ⟨HpG.keep h, fun p hp => HpG.own h p (List.mem_cons_of_mem _ hp), fun p hp => HpG.mine h p (List.mem_cons_of_mem _ hp), fun r hr => ?_, hperm.nodup_iff.2 (HpG.nd h), fun _ _ => trivial, F, fun j hj => ⟨(hF j hj).1, (hF j hj).2.1, fun hx => (hF j hj).2.2.1 (hperm.mem_iff.1 hx), trivial⟩, hX⟩
  rcases List.mem_cons.1 hr with rfl | hr
  · refine ⟨by simpa using hl, .inr ⟨g, k, cs.toArray, rfl, hg, HpG.own h _ (List.mem_cons_self ..), Nat.le_refl _, hm, by simpa using hl, ?_⟩⟩
    show cs.take (k * size) = cs
    rw [← hl]; exact List.take_length
  · exact HpG.rows h r hr
/-- The rows that a call made, as its caller knows them. -/
theorem Hp.callR {Rs : List Rw} {X' : World → Prop} (h : Hp B w0 L R X w) (hc : Hp (fun _ => False) w [] Rs X' w') : Hp B w0 L (Rs ++ R) X w' := by
  have hx := HpG.ext hc
  have h1 := HpG.onE h hx
  have hlt := HpG.lt h
  have hcb : ∀ b ∈ Rs.filterMap (·.v.ownBlock), w.heap.size ≤ b := fun b hb => by
    obtain ⟨r, hr, he⟩ := List.mem_filterMap.1 hb
    exact ((HpG.rows hc r hr).lt b he).1
  have hperm : (blks L (Rs ++ R)).Perm (Rs.filterMap (·.v.ownBlock) ++ blks L R) := by
    unfold blks
    rw [List.filterMap_append, ← List.append_assoc, ← List.append_assoc]
    exact List.Perm.append_right _ List.perm_append_comm
  have hnc : (Rs.filterMap (·.v.ownBlock)).Nodup := by
    have := HpG.nd hc
    simpa [blks] using this
  obtain ⟨F, hF, hX⟩ := HpG.foot h
  refine ⟨h1.keep, h1.own, h1.mine, fun s hs => ?_, hperm.nodup_iff.2 (List.nodup_append.2 ⟨hnc, HpG.nd h, fun a ha b hb e => ?_⟩), fun _ _ => trivial, F, fun j hj => ?_, fun u hu => hX u fun j hj => ?_⟩
  · rcases List.mem_append.1 hs with hs | hs
    · obtain ⟨e, hr⟩ := HpG.rows hc s hs
      refine ⟨e, ?_⟩
      rcases hr with hr | ⟨b, cap, cur, hv, h2, h3⟩
      · exact .inl hr
      · exact .inr ⟨b, cap, cur, hv, Nat.le_trans (HpG.size h) h2, h3⟩
    · exact h1.rows s hs
  · subst e
    have := hcb a ha
    have := hlt a hb
    omega
  · obtain ⟨a1, a2, a3, _⟩ := hF j hj
    refine ⟨Nat.lt_of_lt_of_le a1 (Ext.size hx), a2, fun hm => ?_, trivial⟩
    rcases List.mem_append.1 (hperm.mem_iff.1 hm) with hm | hm
    · have := hcb j hm; omega
    · exact a3 hm
  · obtain ⟨a1, _⟩ := hF j hj
    rw [hu j hj, Below.block hx j a1]
theorem HpG.old (h : HpG G (fun _ => False) w0 L R X w) {k g : Nat} {o : Obj} (hk : L[k]? = some (g, o)) : w0.heap.size ≤ g := (h.mine _ (List.mem_of_getElem? hk)).resolve_right id
theorem HpG.rdL (h : HpG G B w0 L R X w) {j g T : Nat} {cs : List Value} (hj : L[j]? = some (g, bk T cs)) : Rd (some ⟨g, 0, none⟩) cs w := fun _ => ⟨g, 0, rfl, fun i hi => by
  rw [Nat.zero_add]; exact h.cell hj (by rw [List.getD_eq_getElem?_getD, List.getElem?_eq_getElem hi]; rfl)⟩
theorem wl_appendL {x y : Operand} {t : TypeId} {rest : List Oper} {d : Nat} {pos : String} {af : Array Edge} {gd : Option (Nat × Bool)} {A : Option Addr} {E size len cap : Nat} {xs : List Value} {c mm g T : Nat} {news : List Value} {z : Value} {bytes : Nat} (k : Nat) (j : Nat) (hg : Gd ops m gd) (hd : Nat.blt d n = true) (hk : R[k]? = some ⟨.slice A len cap, E, size, len, xs⟩) (hj : L[j]? = some (g, bk T news)) (hx : ev m x = some (.slice A len cap)) (hy : ev m y = some (.slice (some ⟨g, 0, none⟩) mm c))
    (ht : P.underlying t = some (.slice E)) (hi : (P.info? E).map (fun i => (i.zero, i.size, i.bytes)) = some (some z, size, bytes)) (hzs : z.cells.size = size) (hsz : Nat.blt 0 size = true) (hl : news.length = mm * size) (h1 : news.all (·.oneCell') = true) (h63 : len + mm ≤ 9223372036854775807) (hb : (len + mm) * bytes ≤ 140737488355328) (hcap : len ≤ cap)
    (h : ∀ A' cap', len + mm ≤ cap' → WL P ops Q rest n ((d, .slice A' (len + mm) cap') :: m) (Hp B w0 L (R.set k ⟨.slice A' (len + mm) cap', E, size, len + mm, xs ++ news⟩) X)) :
    WL P ops Q (⟨some d, .call { callee := .builtin .append, args := #[x, y], argTypes := #[t, t] }, ty, pos, af, gd⟩ :: rest) n m (Hp B w0 L R X) :=
  wl_appendS k hg hd hk hx hy (fun _ hw => HpG.rdL hw hj) ht hi hzs hsz hl (List.all_eq_true.1 h1) h63 hb hcap h
/-- A call that makes rows. -/
theorem wl_callR {ι : Type} {C : ι → Prop} {rest : List Oper} {d : Nat} {pos : String} {af : Array Edge} {gd : Option (Nat × Bool)} {f : FuncId} {args : List Operand} {ats : Array TypeId} {vs : List Value} {val : ι → Value} {Rs : ι → List Rw} {X' : ι → World → Prop} (hg : Gd ops m gd) (hd : Nat.blt d n = true) (hf : goes P f = true) (ha : evl m args = some vs)
    (hC : ∀ w, Hp B w0 L R X w → Calls P f vs.toArray w fun e w' => ∃ i, C i ∧ e = .returned (val i) ∧ Hp (fun _ => False) w [] (Rs i) (X' i) w')
    (h : ∀ i, C i → WL P ops Q rest n ((d, val i) :: m) (Hp B w0 L (Rs i ++ R) X)) : WL P ops Q (⟨some d, .call { callee := .value (.func f), args := args.toArray, argTypes := ats }, ty, pos, af, gd⟩ :: rest) n m (Hp B w0 L R X) :=
  wl_chain (ι := {i // C i}) (val := fun i => val i.1) (H' := fun i => Hp B w0 L (Rs i.1 ++ R) X) hg hd
    (cf_call hf ha fun w hw => (hC w hw).mono fun _ _ ⟨i, c, e1, e2⟩ => ⟨_, e1, ⟨i, c⟩, rfl, Hp.callR hw e2⟩) fun i => h i.1 i.2
end
end Go.Proofs.Ytojofinofpgopaa
