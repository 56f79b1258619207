/- What a walk knows of memory: blocks by their contents, rows that slices of the call's own lie in, and facts on old blocks. -/
import Derived.Test.YtojofinofpgopaaSxB
namespace Go.Proofs.Ytojofinofpgopaa
open Go.RowKit

/-- A row of the call's own: a slice, its element type, the cells of an element, its length, the cells. -/
structure Rw where
  v : Value
  E : TypeId
  size : Nat
  n : Nat
  xs : List Value
def blks (L : List (Nat × Obj)) (R : List Rw) : List Nat := L.map (·.1) ++ R.filterMap (·.v.ownBlock)
/-- A fact that looks at the blocks of F alone. -/
def Foot (F : Nat → Prop) (X : World → Prop) (w : World) : Prop := ∀ w', (∀ k, F k → w'.heap[k]? = w.heap[k]?) → X w'
structure HpG (G B : Nat → Prop) (w0 : World) (L : List (Nat × Obj)) (R : List Rw) (X : World → Prop) (w : World) : Prop where
  keep : Keep B w0 w
  own : ∀ p ∈ L, w.heap[p.1]? = some p.2
  mine : ∀ p ∈ L, w0.heap.size ≤ p.1 ∨ B p.1
  rows : ∀ r ∈ R, w.ownsRow w0.heap.size r.E r.size r.v r.n r.xs
  nd : (blks L R).Nodup
  inG : ∀ k ∈ blks L R, G k
  foot : ∃ F : Nat → Prop, (∀ k, F k → k < w.heap.size ∧ ¬ B k ∧ k ∉ blks L R ∧ G k) ∧ Foot F X w
def Hp (B : Nat → Prop) (w0 : World) (L : List (Nat × Obj)) (R : List Rw) (X : World → Prop) (w : World) : Prop := HpG (fun _ => True) B w0 L R X w
section
variable {G B : Nat → Prop} {w0 w w' : World} {L : List (Nat × Obj)} {R : List Rw} {X : World → Prop}
theorem HpG.x (h : HpG G B w0 L R X w) : X w := by
  obtain ⟨F, _, hX⟩ := h.foot
  exact hX w fun _ _ => rfl
theorem HpG.lt (h : HpG G B w0 L R X w) : ∀ k ∈ blks L R, k < w.heap.size := fun k hk => by
  rcases List.mem_append.1 hk with hk | hk
  · obtain ⟨p, hp, rfl⟩ := List.mem_map.1 hk
    exact (Array.getElem?_eq_some_iff.1 (h.own p hp)).1
  · obtain ⟨r, hr, he⟩ := List.mem_filterMap.1 hk
    exact ((h.rows r hr).lt k he).2
theorem HpG.size (h : HpG G B w0 L R X w) : w0.heap.size ≤ w.heap.size := h.keep.size
theorem HpG.ext (h : HpG G (fun _ => False) w0 L R X w) : Ext w0 w := h.keep.ext
theorem HpG.mono {G' : Nat → Prop} (h : HpG G B w0 L R X w) (hG : ∀ k, k < w.heap.size → G k → G' k) : HpG G' B w0 L R X w := by
  obtain ⟨F, hF, hX⟩ := h.foot
  exact ⟨h.keep, h.own, h.mine, h.rows, h.nd, fun k hk => hG k (h.lt k hk) (h.inG k hk), F, fun k hk => ⟨(hF k hk).1, (hF k hk).2.1, (hF k hk).2.2.1, hG k (hF k hk).1 (hF k hk).2.2.2⟩, hX⟩
theorem HpG.hp (h : HpG G B w0 L R X w) : Hp B w0 L R X w := h.mono fun _ _ _ => trivial
theorem Hp.inn (h : Hp B w0 L R X w) : HpG (fun k => k < w.heap.size) B w0 L R X w := h.mono fun _ hk _ => hk
/-- The world goes on; none of the blocks that are known turns. -/
theorem HpG.on (h : HpG G B w0 L R X w) (hk : Keep (fun k => B k ∧ k ∉ blks L R) w w') : HpG G B w0 L R X w' := by
  have hlt := h.lt
  obtain ⟨F, hF, hX⟩ := h.foot
  have blk : ∀ k ∈ blks L R, w'.heap[k]? = w.heap[k]? := fun k hm => hk.block k (hlt k hm) fun ⟨_, hn⟩ => hn hm
  refine ⟨h.keep.trans (hk.mono fun k _ hb => hb.1), fun p hp => ?_, h.mine, fun r hr => ?_, h.nd, h.inG, F, fun k hk' => ?_, fun u hu => hX u fun k hk' => ?_⟩
  · rw [blk p.1 (List.mem_append_left _ (List.mem_map.2 ⟨p, hp, rfl⟩))]; exact h.own p hp
  · obtain ⟨e, hr'⟩ := h.rows r hr
    refine ⟨e, ?_⟩
    rcases hr' with hr' | ⟨g, cap, cur, hv, h1, h2, h3⟩
    · exact .inl hr'
    · refine .inr ⟨g, cap, cur, hv, h1, ?_, h3⟩
      rw [blk g (List.mem_append_right _ (List.mem_filterMap.2 ⟨r, hr, by rw [hv]; rfl⟩))]; exact h2
  · obtain ⟨h1, h2⟩ := hF k hk'
    exact ⟨Nat.lt_of_lt_of_le h1 hk.size, h2⟩
  · obtain ⟨h1, h2, h3, _⟩ := hF k hk'
    rw [hu k hk', hk.block k h1 fun hb => h2 hb.1]
theorem HpG.onE (h : HpG G B w0 L R X w) (hk : Ext w w') : HpG G B w0 L R X w' := h.on (Keep.of_ext hk)
theorem HpG.drew (h : HpG G B w0 L R X w) : HpG G B w0 L R X w.drew := ⟨h.keep.drew, h.own, h.mine, h.rows, h.nd, h.inG, h.foot⟩
theorem HpG.stab : AStab (HpG G B w0 L R X) := fun w ob h => h.onE (Ext.alloc (Ext.refl w) ob)
theorem Hp.stab : AStab (Hp B w0 L R X) := HpG.stab
theorem Hp.drew (h : Hp B w0 L R X w) : Hp B w0 L R X w.drew := HpG.drew h
/-- A new block joins what is known (a region that draws). -/
theorem HpG.join (h : HpG G B w0 L R X w) {g : Nat} {ob : Obj} (hg : w.heap[g]? = some ob) (hG : ¬ G g) (hm : w0.heap.size ≤ g) : HpG (fun k => k = g ∨ G k) B w0 ((g, ob) :: L) R X w := by
  obtain ⟨F, hF, hX⟩ := h.foot
  refine ⟨h.keep, fun p hp => ?_, fun p hp => ?_, h.rows, List.nodup_cons.2 ⟨fun hx => hG (h.inG g hx), h.nd⟩, fun k hk => ?_, F, fun k hk => ?_, hX⟩
  · rcases List.mem_cons.1 hp with rfl | hp
    · exact hg
    · exact h.own p hp
  · rcases List.mem_cons.1 hp with rfl | hp
    · exact .inl hm
    · exact h.mine p hp
  · rcases List.mem_cons.1 (show k ∈ g :: blks L R from hk) with rfl | hk
    · exact .inl rfl
    · exact .inr (h.inG k hk)
  · obtain ⟨a, b, c, d⟩ := hF k hk
    refine ⟨a, b, fun hx => ?_, .inr d⟩
    rcases List.mem_cons.1 (show k ∈ g :: blks L R from hx) with rfl | hx
    · exact hG d
    · exact c hx
theorem Hp.new (h : Hp B w0 L R X w) (ob : Obj) : Hp B w0 ((w.heap.size, ob) :: L) R X (w.alloc ob) :=
  (HpG.join (HpG.onE h.inn (Ext.alloc (Ext.refl w) ob)) (heap_alloc_new w ob) (Nat.lt_irrefl _) h.keep.size).hp
/-- One of the blocks that are known turns. -/
theorem blks_set {k : Nat} {g : Nat} {o o' : Obj} (hk : L[k]? = some (g, o)) : blks (L.set k (g, o')) R = blks L R := by
  unfold blks
  congr 1
  apply List.ext_getElem?
  intro j
  simp only [List.getElem?_map, List.getElem?_set]
  by_cases hj : k = j
  · subst hj
    obtain ⟨hlt, he⟩ := List.getElem?_eq_some_iff.1 hk
    simp [hlt, he]
  · simp [hj]
theorem nodup_idx {α : Type} {l : List α} (h : l.Nodup) {i j : Nat} {x : α} (hi : l[i]? = some x) (hj : l[j]? = some x) : i = j := by
  have a := List.getElem?_eq_some_iff.1 hi
  have b := List.getElem?_eq_some_iff.1 hj
  obtain ⟨a1, a2⟩ := a
  obtain ⟨b1, b2⟩ := b
  exact (List.getElem_inj h).1 (a2.trans b2.symm)
theorem HpG.turn (h : HpG G B w0 L R X w) {k g : Nat} {o o' : Obj} (hk : L[k]? = some (g, o)) (hK : Keep (fun j => j = g) w w') (hg : w'.heap[g]? = some o') : HpG G B w0 (L.set k (g, o')) R X w' := by
  have hlt := h.lt
  have hb := blks_set (R := R) (o' := o') hk
  have hmem : (g, o) ∈ L := List.mem_of_getElem? hk
  have hgb : g ∈ blks L R := List.mem_append_left _ (List.mem_map.2 ⟨_, hmem, rfl⟩)
  have hmine := h.mine _ hmem
  have hnd := h.nd
  obtain ⟨F, hF, hX⟩ := h.foot
  have hLnd : (L.map (·.1)).Nodup := (List.nodup_append.1 hnd).1
  have hap : ∀ x ∈ L.map (·.1), ∀ y ∈ R.filterMap (·.v.ownBlock), x ≠ y := (List.nodup_append.1 hnd).2.2
  refine ⟨?_, fun p hp => ?_, fun p hp => ?_, fun r hr => ?_, by rw [hb]; exact hnd, by rw [hb]; exact h.inG, F, fun j hj => ?_, fun u hu => hX u fun j hj => ?_⟩
  · refine ⟨hK.os.trans h.keep.os, hK.tape.trans h.keep.tape, hK.output.trans h.keep.output, Nat.le_trans h.keep.size hK.size, fun j hj hB => ?_⟩
    rw [hK.block j (Nat.lt_of_lt_of_le hj h.keep.size) (fun e => ?_)]
    · exact h.keep.block j hj hB
    · subst e
      rcases hmine with hm | hm
      · exact absurd hj (Nat.not_lt.2 hm)
      · exact hB hm
  · obtain ⟨j, hj⟩ := List.mem_iff_getElem?.1 hp
    rw [List.getElem?_set] at hj
    by_cases hkj : k = j
    · subst hkj
      have hlt' := (List.getElem?_eq_some_iff.1 hk).1
      simp [hlt'] at hj
      subst hj; exact hg
    · rw [if_neg hkj] at hj
      have hpL := List.mem_of_getElem? hj
      have hne : p.1 ≠ g := fun e => hkj (nodup_idx hLnd (x := g) (by rw [List.getElem?_map, hk]; rfl) (by rw [List.getElem?_map, hj]; simp [e]))
      rw [hK.block p.1 (hlt p.1 (List.mem_append_left _ (List.mem_map.2 ⟨p, hpL, rfl⟩))) hne]
      exact h.own p hpL
  · obtain ⟨j, hj⟩ := List.mem_iff_getElem?.1 hp
    rw [List.getElem?_set] at hj
    by_cases hkj : k = j
    · subst hkj
      have hlt' := (List.getElem?_eq_some_iff.1 hk).1
      simp [hlt'] at hj
      subst hj; exact hmine
    · rw [if_neg hkj] at hj
      exact h.mine p (List.mem_of_getElem? hj)
  · obtain ⟨e, hr'⟩ := h.rows r hr
    refine ⟨e, ?_⟩
    rcases hr' with hr' | ⟨g', cap, cur, hv, h1, h2, h3⟩
    · exact .inl hr'
    · refine .inr ⟨g', cap, cur, hv, h1, ?_, h3⟩
      have hm' : g' ∈ R.filterMap (·.v.ownBlock) := List.mem_filterMap.2 ⟨r, hr, by rw [hv]; rfl⟩
      rw [hK.block g' (hlt g' (List.mem_append_right _ hm')) (fun e => hap g (List.mem_map.2 ⟨_, hmem, rfl⟩) g' hm' e.symm)]; exact h2
  · obtain ⟨h1, h2, h3, h4⟩ := hF j hj
    exact ⟨Nat.lt_of_lt_of_le h1 hK.size, h2, by rw [hb]; exact h3, h4⟩
  · obtain ⟨h1, h2, h3, _⟩ := hF j hj
    rw [hu j hj, hK.block j h1 (fun e => h3 (e ▸ hgb))]
/-- A row of the call's own turns (an append, a store into it). -/
theorem blks_row {k : Nat} {r r' : Rw} (hk : R[k]? = some r) (h1 : ∀ x ∈ (blks L R), ∀ b, r'.v.ownBlock = some b → (x = b → r.v.ownBlock = some b)) (hnd : (blks L R).Nodup) :
    (blks L (R.set k r')).Nodup ∧ ∀ x ∈ blks L (R.set k r'), x ∈ blks L R ∨ r'.v.ownBlock = some x := by
  have hset : R.set k r' = R.take k ++ r' :: R.drop (k + 1) := by
    have hlt := (List.getElem?_eq_some_iff.1 hk).1
    rw [List.set_eq_take_append_cons_drop, if_pos hlt]
  have hR : R = R.take k ++ r :: R.drop (k + 1) := by
    have hlt := (List.getElem?_eq_some_iff.1 hk)
    obtain ⟨a, b⟩ := hlt
    rw [← b, ← List.drop_eq_getElem_cons a, List.take_append_drop]
  have e1 : blks L (R.set k r') = L.map (·.1) ++ ((R.take k).filterMap (·.v.ownBlock) ++ (r'.v.ownBlock.toList ++ (R.drop (k + 1)).filterMap (·.v.ownBlock))) := by
    unfold blks; rw [hset, List.filterMap_append, List.filterMap_cons]; cases r'.v.ownBlock <;> simp
  have e2 : blks L R = L.map (·.1) ++ ((R.take k).filterMap (·.v.ownBlock) ++ (r.v.ownBlock.toList ++ (R.drop (k + 1)).filterMap (·.v.ownBlock))) := by
    unfold blks; conv => lhs; rw [hR, List.filterMap_append, List.filterMap_cons]
    cases r.v.ownBlock <;> simp
  generalize L.map (·.1) = A at *
  generalize (R.take k).filterMap (·.v.ownBlock) = C at *
  generalize (R.drop (k + 1)).filterMap (·.v.ownBlock) = D at *
  rw [e2] at hnd h1
  rw [e1, e2]
  cases hv' : r'.v.ownBlock with
  | none =>
    refine ⟨?_, fun x hx => ?_⟩
    · refine hnd.sublist ?_
      refine List.Sublist.append (List.Sublist.refl _) (List.Sublist.append (List.Sublist.refl _) ?_)
      simp
    · simp at hx ⊢
      rcases hx with hx | hx | hx
      · exact .inl hx
      · exact .inr (.inl hx)
      · exact .inr (.inr (.inr hx))
  | some b =>
    refine ⟨?_, fun x hx => ?_⟩
    · by_cases hr : r.v.ownBlock = some b
      · rw [hr] at hnd; exact hnd
      · have hb : b ∉ A ++ (C ++ (r.v.ownBlock.toList ++ D)) := fun hx => hr (h1 b hx b hv' rfl)
        have hnd' : (A ++ (C ++ D)).Nodup := hnd.sublist (List.Sublist.append (List.Sublist.refl _) (List.Sublist.append (List.Sublist.refl _) (by simp)))
        have hb' : b ∉ A ++ (C ++ D) := fun hx => hb (by simp at hx ⊢; rcases hx with h | h | h <;> simp [h])
        have hp : (A ++ (C ++ ((some b).toList ++ D))).Perm (b :: (A ++ (C ++ D))) := by
          simp only [Option.toList_some, List.singleton_append]
          rw [← List.append_assoc, ← List.append_assoc]
          exact List.perm_middle
        exact hp.nodup_iff.2 (List.nodup_cons.2 ⟨hb', hnd'⟩)
    · simp at hx ⊢
      rcases hx with hx | hx | rfl | hx
      · exact .inl (.inl hx)
      · exact .inl (.inr (.inl hx))
      · exact .inr rfl
      · exact .inl (.inr (.inr (.inr hx)))
theorem Hp.row (h : Hp B w0 L R X w) {k : Nat} {r r' : Rw} (hk : R[k]? = some r) (hg : w.grownBy w' r.v.ownBlock) (hr' : w'.ownsRow w0.heap.size r'.E r'.size r'.v r'.n r'.xs) (hb : r'.v.ownBlock = r.v.ownBlock ∨ ∀ b, r'.v.ownBlock = some b → w.heap.size ≤ b) :
    Hp B w0 L (R.set k r') X w' := by
  have hlt := HpG.lt h
  obtain ⟨F, hF, hX⟩ := HpG.foot h
  have hmemr : r ∈ R := List.mem_of_getElem? hk
  have hK : Keep (fun j => r.v.ownBlock = some j) w w' := ⟨hg.os, hg.tape, hg.output, hg.size, fun j hj hne => hg.block j hj (fun e => hne e.symm)⟩
  have hown := (HpG.rows h r hmemr).lt
  obtain ⟨hnd, hsub⟩ := blks_row (L := L) (r' := r') hk (fun x hx b hb' e => by
    subst e
    rcases hb with hb | hb
    · rw [← hb]; exact hb'
    · exact absurd (hlt x hx) (by have := hb x hb'; omega)) (HpG.nd h)
  have hnd0 := HpG.nd h
  have hap : ∀ x ∈ L.map (·.1), ∀ y ∈ R.filterMap (·.v.ownBlock), x ≠ y := (List.nodup_append.1 hnd0).2.2
  have hRnd : (R.filterMap (·.v.ownBlock)).Nodup := (List.nodup_append.1 hnd0).2.1
  refine ⟨?_, fun p hp => ?_, HpG.mine h, fun s hs => ?_, hnd, fun _ _ => trivial, F, fun j hj => ?_, fun u hu => hX u fun j hj => ?_⟩
  · refine ⟨hK.os.trans (HpG.keep h).os, hK.tape.trans (HpG.keep h).tape, hK.output.trans (HpG.keep h).output, Nat.le_trans (HpG.keep h).size hK.size, fun j hj hB => ?_⟩
    rw [hK.block j (Nat.lt_of_lt_of_le hj (HpG.keep h).size) (fun e => absurd hj (Nat.not_lt.2 (hown j e).1))]
    exact (HpG.keep h).block j hj hB
  · have hp1 : p.1 ∈ L.map (·.1) := List.mem_map.2 ⟨p, hp, rfl⟩
    rw [hK.block p.1 (hlt _ (List.mem_append_left _ hp1)) (fun e => hap p.1 hp1 p.1 (List.mem_filterMap.2 ⟨r, hmemr, e⟩) rfl)]
    exact HpG.own h p hp
  · obtain ⟨j, hj⟩ := List.mem_iff_getElem?.1 hs
    rw [List.getElem?_set] at hj
    by_cases hkj : k = j
    · subst hkj
      have hlt' := (List.getElem?_eq_some_iff.1 hk).1
      simp [hlt'] at hj
      subst hj; exact hr'
    · rw [if_neg hkj] at hj
      have hsR := List.mem_of_getElem? hj
      obtain ⟨e, hs'⟩ := HpG.rows h s hsR
      refine ⟨e, ?_⟩
      rcases hs' with hs' | ⟨g', cap, cur, hv, h1, h2, h3⟩
      · exact .inl hs'
      · refine .inr ⟨g', cap, cur, hv, h1, ?_, h3⟩
        have hm' : g' ∈ R.filterMap (·.v.ownBlock) := List.mem_filterMap.2 ⟨s, hsR, by rw [hv]; rfl⟩
        rw [hK.block g' (hlt g' (List.mem_append_right _ hm')) (fun e => ?_)]; exact h2
        -- two rows of one block
        have key : ∀ {l : List Rw}, (l.filterMap (·.v.ownBlock)).Nodup → ∀ {i j : Nat} {x y : Rw} {b : Nat}, l[i]? = some x → l[j]? = some y → x.v.ownBlock = some b → y.v.ownBlock = some b → i = j := by
          intro l
          induction l with
          | nil => intro _ i j x y b hi; simp at hi
          | cons z l ih =>
            intro hn i j x y b hi hj hx hy
            rw [List.filterMap_cons] at hn
            have hn' : (l.filterMap (·.v.ownBlock)).Nodup := by
              cases hz : z.v.ownBlock with
              | none => rw [hz] at hn; exact hn
              | some c => rw [hz] at hn; exact (List.nodup_cons.1 hn).2
            cases i with
            | zero =>
              cases j with
              | zero => rfl
              | succ j =>
                simp at hi hj
                subst hi
                rw [hx] at hn
                exact absurd (List.mem_filterMap.2 ⟨y, List.mem_of_getElem? hj, hy⟩) (List.nodup_cons.1 hn).1
            | succ i =>
              cases j with
              | zero =>
                simp at hi hj
                subst hj
                rw [hy] at hn
                exact absurd (List.mem_filterMap.2 ⟨x, List.mem_of_getElem? hi, hx⟩) (List.nodup_cons.1 hn).1
              | succ j =>
                simp at hi hj
                rw [ih hn' hi hj hx hy]
        exact hkj (key hRnd hk hj e (by rw [hv]; rfl))
  · obtain ⟨h1, h2, h3, h4⟩ := hF j hj
    refine ⟨Nat.lt_of_lt_of_le h1 hK.size, h2, fun hx => ?_, trivial⟩
    rcases hsub j hx with hx | hx
    · exact h3 hx
    · rcases hb with hb | hb
      · exact h3 (List.mem_append_right _ (List.mem_filterMap.2 ⟨r, hmemr, by rw [← hb]; exact hx⟩))
      · exact absurd h1 (by have := hb j hx; omega)
  · obtain ⟨h1, h2, h3, _⟩ := hF j hj
    rw [hu j hj, hK.block j h1 (fun e => h3 (List.mem_append_right _ (List.mem_filterMap.2 ⟨r, hmemr, e⟩)))]
/-- A row that a call made. -/
theorem Hp.addRow (h : Hp B w0 L R X w) (hx : Ext w w') {r : Rw} (hr : w'.ownsRow w.heap.size r.E r.size r.v r.n r.xs) : Hp B w0 L (r :: R) X w' := by
  have h' := HpG.onE h hx
  have hlt := HpG.lt h
  have hr' : w'.ownsRow w0.heap.size r.E r.size r.v r.n r.xs := by
    obtain ⟨e, hr⟩ := hr
    refine ⟨e, ?_⟩
    rcases hr with hr | ⟨g, cap, cur, hv, h1, h2⟩
    · exact .inl hr
    · exact .inr ⟨g, cap, cur, hv, Nat.le_trans (HpG.size h) h1, h2⟩
  have hap : ∀ b, r.v.ownBlock = some b → b ∉ blks L R := fun b hb hm => absurd (hlt b hm) (by have := (hr.lt b hb).1; omega)
  have hperm : (blks L (r :: R)).Perm (r.v.ownBlock.toList ++ blks L R) := by
    unfold blks
    rw [List.filterMap_cons]
    cases r.v.ownBlock with
    | none => exact List.Perm.refl _
    | some b => exact List.perm_middle
  obtain ⟨F, hF, hX⟩ := HpG.foot h
  refine ⟨h'.keep, h'.own, h'.mine, fun s hs => ?_, hperm.nodup_iff.2 ?_, fun _ _ => trivial, F, fun j hj => ?_, fun u hu => hX u fun j hj => ?_⟩
  · rcases List.mem_cons.1 hs with rfl | hs
    · exact hr'
    · exact h'.rows s hs
  · cases hb : r.v.ownBlock with
    | none => exact HpG.nd h
    | some b => exact List.nodup_cons.2 ⟨hap b hb, HpG.nd h⟩
  · obtain ⟨h1, h2, h3, _⟩ := hF j hj
    refine ⟨Nat.lt_of_lt_of_le h1 (Ext.size hx), h2, fun hm => ?_, trivial⟩
    rcases List.mem_append.1 (hperm.mem_iff.1 hm) with hm | hm
    · have hb : r.v.ownBlock = some j := by simpa using hm
      exact absurd h1 (by have := (hr.lt j hb).1; omega)
    · exact h3 hm
  · obtain ⟨h1, h2, h3, _⟩ := hF j hj
    rw [hu j hj, Below.block hx j h1]
/-- A fact on blocks that nothing else speaks of. -/
theorem Hp.addX (h : Hp B w0 L R X w) {X2 : World → Prop} (hx : ∃ F : Nat → Prop, (∀ k, F k → k < w.heap.size ∧ ¬ B k ∧ k ∉ blks L R) ∧ Foot F X2 w) : Hp B w0 L R (fun u => X2 u ∧ X u) w := by
  obtain ⟨F, hF, hX⟩ := HpG.foot h
  obtain ⟨F2, hF2, hX2⟩ := hx
  refine ⟨HpG.keep h, HpG.own h, HpG.mine h, HpG.rows h, HpG.nd h, HpG.inG h, fun k => F2 k ∨ F k, fun k hk => ?_, fun u hu => ⟨hX2 u fun k hk => hu k (.inl hk), hX u fun k hk => hu k (.inr hk)⟩⟩
  rcases hk with hk | hk
  · obtain ⟨a, b, c⟩ := hF2 k hk; exact ⟨a, b, c, trivial⟩
  · exact hF k hk
/-- The call begins: nothing of its own yet. -/
theorem Hp.start {w : World} (hX : ∃ F : Nat → Prop, (∀ k, F k → k < w.heap.size ∧ ¬ B k) ∧ Foot F X w) : Hp B w [] [] X w := by
  obtain ⟨F, hF, hX⟩ := hX
  exact ⟨Keep.refl _ _, fun p hp => (by cases hp), fun p hp => (by cases hp), fun p hp => (by cases hp), List.nodup_nil, fun _ _ => trivial, F, fun k hk => ⟨(hF k hk).1, (hF k hk).2, (by simp [blks]), trivial⟩, hX⟩
theorem Hp.start0 {w : World} : Hp B w [] [] (fun _ => True) w := Hp.start ⟨fun _ => False, fun _ h => h.elim, fun _ _ => trivial⟩
/-- A block that the call may write, there from the beginning. -/
theorem Hp.startB {w : World} {g : Nat} {o : Obj} (hg : w.heap[g]? = some o) (hX : ∃ F : Nat → Prop, (∀ k, F k → k < w.heap.size ∧ k ≠ g) ∧ Foot F X w) : Hp (fun k => k = g) w [(g, o)] [] X w := by
  obtain ⟨F, hF, hX⟩ := hX
  exact ⟨Keep.refl _ _, fun p hp => (by simp at hp; subst hp; exact hg), fun p hp => (by simp at hp; subst hp; exact .inr rfl), fun p hp => (by cases hp), by simp [blks], fun _ _ => trivial, F, fun k hk => ⟨(hF k hk).1, (hF k hk).2, (by simp [blks]; exact (hF k hk).2), trivial⟩, hX⟩
theorem Hp.startB0 {w : World} {g : Nat} {o : Obj} (hg : w.heap[g]? = some o) : Hp (fun k => k = g) w [(g, o)] [] (fun _ => True) w := Hp.startB hg ⟨fun _ => False, fun _ h => h.elim, fun _ _ => trivial⟩
theorem Hp.nil (h : Hp B w0 L R X w) (E : TypeId) (size : Nat) : Hp B w0 L (⟨.slice none 0 0, E, size, 0, []⟩ :: R) X w :=
  Hp.addRow h (Ext.refl w) (World.ownsRow_nil w _ E size)
theorem Hp.weakX (h : Hp B w0 L R X w) {X' : World → Prop} (hX : ∀ u, X u → X' u) : Hp B w0 L R X' w := by
  obtain ⟨F, hF, hx⟩ := HpG.foot h
  exact ⟨HpG.keep h, HpG.own h, HpG.mine h, HpG.rows h, HpG.nd h, HpG.inG h, F, hF, fun u hu => hX u (hx u hu)⟩
end
end Go.Proofs.Ytojofinofpgopaa
