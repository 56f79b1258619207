/- The parsers come to an end; both return the same. -/
import Derived.Test.YtfpkpnkdnammnaaGreatDoorSyQ
namespace Go.Proofs.YtfpkpnkdnammnaaGreatDoor
variable {tk : Nat → Tok}
def Sm {α : Type} (x : Option α) : Prop := ∃ r, x = some r
theorem Sm.some {α : Type} (a : α) : Sm (some a) := ⟨a, rfl⟩
theorem Sm.bind {α β : Type} {x : Option (α × PS)} {f : α → PS → Option (β × PS)} (h : Sm x) (k : ∀ a s, x = .some (a, s) → Sm (f a s)) : Sm (andThen x f) := by
  obtain ⟨⟨a, s⟩, rfl⟩ := h
  exact k a s rfl
theorem Sm.ite {α : Type} {c : Prop} [Decidable c] {x y : Option α} (h : c → Sm x) (k : ¬ c → Sm y) : Sm (if c then x else y) := by split <;> rename_i hc; exact h hc; exact k hc
theorem Sm.bif {α : Type} {c : Bool} {x y : Option α} (h : c = true → Sm x) (k : c = false → Sm y) : Sm (bif c then x else y) := by cases c; exact k rfl; exact h rfl
section
variable {m : Nat} (hm : (tk m).kind = 0 ∨ (tk m).kind = 4) {r : EF} {f u b l a : Nat} {K : Nat → Nat}
include hm
end
/-! ### Statements -/
structure SF.Le (r r' : SF) : Prop where
  stm : ∀ s, OLe (r.stm s) (r'.stm s)
  blk : ∀ l s, OLe (r.blk l s) (r'.blk l s)
theorem SF.Le.refl (r : SF) : SF.Le r r := ⟨fun _ => OLe.refl _, fun _ _ => OLe.refl _⟩
theorem simS_le {E E' : PS → Option (Ex × PS)} (hE : ∀ s, OLe (E s) (E' s)) (k : Nat) (nm : Bs) (l : List Ex) (s : PS) : OLe (simS tk E k nm l s) (simS tk E' k nm l s) := OLe.andThen (hE s) fun _ _ => OLe.refl _
theorem stmS_le {E E' : PS → Option (Ex × PS)} (hE : ∀ s, OLe (E s) (E' s)) {r r' : SF} (h : SF.Le r r') (s : PS) : OLe (stmS tk E r s) (stmS tk E' r' s) := by
  unfold stmS
  refine OLe.bif (simS_le hE _ _ _ _) (OLe.bif (OLe.andThen (hE _) fun e s => OLe.andThen (h.blk _ _) fun b s => OLe.bif (OLe.andThen (h.blk _ _) fun _ _ => OLe.refl _) (OLe.refl _)) (OLe.bif (OLe.andThen (hE _) fun e s => OLe.andThen (h.blk _ _) fun _ _ => OLe.refl _) (OLe.bif (simS_le hE _ _ _ _) (OLe.bif (simS_le hE _ _ _ _) (OLe.andThen (hE _) fun e s => OLe.ite (simS_le hE _ _ _ _) (OLe.ite (simS_le hE _ _ _ _) (OLe.refl _)))))))
theorem stF_le {E E' : PS → Option (Ex × PS)} (hE : ∀ s, OLe (E s) (E' s)) : ∀ {f g : Nat}, f ≤ g → SF.Le (stF tk E f) (stF tk E' g)
  | 0, _, _ => ⟨fun _ _ h => (by cases h), fun _ _ _ h => (by cases h)⟩
  | f + 1, 0, h => absurd h (by omega)
  | f + 1, g + 1, h => by
    have ih := stF_le hE (Nat.le_of_succ_le_succ h)
    exact ⟨stmS_le hE ih, fun l s => by
      show OLe (blkS tk (stF tk E f) l s) (blkS tk (stF tk E' g) l s)
      unfold blkS
      exact OLe.ite (OLe.refl _) (OLe.bif (OLe.refl _) (OLe.andThen (ih.stm s) fun _ _ => ih.blk _ _))⟩
theorem parF_le : ∀ {f g : Nat}, f ≤ g → ∀ l s, OLe (parF tk f l s) (parF tk g l s)
  | 0, _, _ => fun _ _ _ h => (by cases h)
  | f + 1, 0, h => absurd h (by omega)
  | f + 1, g + 1, h => fun l s => by
    unfold parF
    exact OLe.ite (OLe.refl _) (OLe.bif (OLe.refl _) (parF_le (Nat.le_of_succ_le_succ h) _ _))
theorem fnS_le {E E' : PS → Option (Ex × PS)} (hE : ∀ s, OLe (E s) (E' s)) {f g : Nat} (h : f ≤ g) (s : PS) : OLe (fnS tk E f s) (fnS tk E' g s) := by
  unfold fnS parS
  exact OLe.andThen (OLe.bif (OLe.refl _) (parF_le h _ _)) fun _ _ => OLe.andThen ((stF_le hE h).blk _ _) fun _ _ => OLe.refl _
theorem prgF_le {E E' : PS → Option (Ex × PS)} (hE : ∀ s, OLe (E s) (E' s)) {f g : Nat} (h : f ≤ g) : ∀ {i j : Nat}, i ≤ j → ∀ l s, OLe (prgF tk E f i l s) (prgF tk E' g j l s)
  | 0, _, _ => fun _ _ _ h => (by cases h)
  | i + 1, 0, h => absurd h (by omega)
  | i + 1, j + 1, h' => fun l s => by
    unfold prgF
    exact OLe.ite (OLe.andThen (fnS_le hE h s) fun _ _ => prgF_le hE h (Nat.le_of_succ_le_succ h') _ _) (OLe.refl _)
theorem runP_le {E E' : PS → Option (Ex × PS)} (hE : ∀ s, OLe (E s) (E' s)) {f g : Nat} (h : f ≤ g) : OLe (runP tk E f) (runP tk E' g) := fun r hr => by
  unfold runP at *
  cases hp : prgF tk E f f [] ⟨0, 0, 0⟩ with
  | none => rw [hp] at hr; cases hr
  | some p => rw [hp] at hr; rw [prgF_le hE h h _ _ _ hp]; exact hr
structure SG (m : Nat) (r : SF) : Prop where
  stm : ∀ s, s.at_ ≤ m → Gs m s (r.stm s)
  blk : ∀ l s, s.at_ ≤ m → Ws m s (r.blk l s)
section
variable {m : Nat} (hm : (tk m).kind = 0 ∨ (tk m).kind = 4) {E : PS → Option (Ex × PS)} (hE : ∀ s, s.at_ ≤ m → Gs m s (E s)) {r : SF}
include hm hE
theorem simS_g (k : Nat) (nm : Bs) (l : List Ex) (s : PS) (hs : s.at_ ≤ m) : Gs m s (simS tk E k nm l s) := Gs.bind (hE s hs) fun e s' h => Gs.some (h.trans (Pg.need hm _ h.2.1).w)
omit hE in
theorem blockS_g (h : SG m r) (s : PS) (hs : s.at_ ≤ m) : Ws m s (blockS tk r s) := Ws.from (Pg.need hm [123] hs).w (h.blk _ _ (Pg.need hm [123] hs).2.1)
theorem stmS_g (h : SG m r) (s : PS) (hs : s.at_ ≤ m) : Gs m s (stmS tk E r s) := by
  unfold stmS
  refine Gs.bif (fun h1 => ?_) fun _ => Gs.bif (fun h2 => ?_) fun _ => Gs.bif (fun h3 => ?_) fun _ => Gs.bif (fun h4 => ?_) fun _ => Gs.bif (fun h5 => ?_) fun _ => ?_
  · have ha := isP_adv hm hs h1
    have hn := Pg.name hm ha
    have hq := Pg.need hm [61] hn.2.1
    exact Gs.from ((Pg.adv ha).w.trans (hn.w.trans hq.w)) (simS_g hm hE _ _ _ _ hq.2.1)
  · have ha := isP_adv hm hs h2
    refine Gs.from (Pg.adv ha).w (Gs.bind (hE _ ha) fun e s' he => ?_)
    refine Gs.fromW he (Ws.bind (blockS_g hm h _ he.2.1) fun b s2 hb => Ws.bif (fun h6 => ?_) fun _ => Ws.some hb)
    have h7 := isP_adv hm hb.2.1 h6
    exact Ws.from (hb.trans (Pg.adv h7).w) (Ws.bind (blockS_g hm h _ h7) fun c s3 hc => Ws.some hc)
  · have ha := isP_adv hm hs h3
    refine Gs.from (Pg.adv ha).w (Gs.bind (hE _ ha) fun e s' he => ?_)
    exact Gs.fromW he (Ws.bind (blockS_g hm h _ he.2.1) fun b s2 hb => Ws.some hb)
  · have ha := isP_adv hm hs h4
    exact Gs.from (Pg.adv ha).w (simS_g hm hE _ _ _ _ ha)
  · have ha := isP_adv hm hs h5
    exact Gs.from (Pg.adv ha).w (simS_g hm hE _ _ _ _ ha)
  · refine Gs.bind (hE _ hs) fun e s' he => Gs.ite (fun hc => ?_) fun _ => Gs.ite (fun hc => ?_) fun _ => Gs.some (he.trans (Pg.need hm _ he.2.1).w)
    · have ha := isP_adv hm he.2.1 hc.2.2
      exact Gs.from (he.trans (Pg.adv ha).w).w (simS_g hm hE _ _ _ _ ha)
    · have ha := isP_adv hm he.2.1 hc.2.2
      exact Gs.from (he.trans (Pg.adv ha).w).w (simS_g hm hE _ _ _ _ ha)
theorem stF_g : ∀ f, SG m (stF tk E f)
  | 0 => ⟨fun _ _ _ _ e => (by cases e), fun _ _ _ _ _ e => (by cases e)⟩
  | f + 1 => ⟨stmS_g hm hE (stF_g f), fun l s hs => by
    have ih := stF_g f
    show Ws m s (blkS tk (stF tk E f) l s)
    unfold blkS
    exact Ws.ite (fun _ => Ws.some (Pw.refl hs)) fun _ => Ws.bif (fun h1 => Ws.some (Pg.adv (isP_adv hm hs h1)).w) fun _ => Ws.bind (ih.stm s hs).w fun x s' h2 => Ws.from h2 (ih.blk _ _ h2.2.1)⟩
omit hE in
theorem parF_g : ∀ f l (s : PS), s.at_ ≤ m → Ws m s (parF tk f l s)
  | 0, _, _, _ => fun _ _ e => (by cases e)
  | f + 1, l, s, hs => by
    unfold parF
    have hn := Pg.name hm hs
    refine Ws.ite (fun _ => Ws.some (Pw.refl hs)) fun _ => Ws.bif (fun h1 => Ws.some (hn.w.trans (Pg.adv (isP_adv hm hn.2.1 h1)).w)) fun _ => ?_
    have hq := Pg.need hm [44] hn.2.1
    exact Ws.from (hn.w.trans hq.w) (parF_g f _ _ hq.2.1)
omit hE in
theorem parS_g (f : Nat) (s : PS) (hs : s.at_ ≤ m) : Ws m s (parS tk f s) := by
  unfold parS
  exact Ws.bif (fun h1 => Ws.some (Pg.adv (isP_adv hm hs h1)).w) fun _ => parF_g hm f _ s hs
theorem fnS_g (f : Nat) (s : PS) (hs : s.at_ ≤ m) : Gs m s (fnS tk E f s) := by
  unfold fnS
  have h1 := Pg.need hm kFn hs
  have h2 := Pg.name hm h1.2.1
  have h3 := Pg.need hm [40] h2.2.1
  exact Gs.fromW (h1.trans (h2.trans h3.w).w) (Ws.bind (parS_g hm f _ h3.2.1) fun l s' h4 => Ws.bind (Ws.from h4 (blockS_g hm (stF_g hm hE f) _ h4.2.1)) fun b s2 h5 => Ws.some h5)
end
section
variable {m : Nat} (hm : (tk m).kind = 0 ∨ (tk m).kind = 4) {E : PS → Option (Ex × PS)} (hE : ∀ s, s.at_ ≤ m → Gs m s (E s)) (hT : ∀ s, s.at_ ≤ m → Sm (E s)) {r : SF}
include hm hE hT
end
section
variable {m : Nat} (hm : (tk m).kind = 0 ∨ (tk m).kind = 4)
include hm
end
end Go.Proofs.YtfpkpnkdnammnaaGreatDoor
