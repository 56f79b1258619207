/- Of the parsers' results, plainly: an access to mem has one kid. -/
import Derived.Test.YtfpkpnkdnammnaaGreatDoorSyQ
namespace Go.Proofs.YtfpkpnkdnammnaaGreatDoor
variable {tk : Nat → Tok}
def M1 (x : Ex) : Prop := x.kind = 4 → x.kids.length = 1
def Mo {α : Type} (p : α → Prop) (x : Option (α × PS)) : Prop := ∀ a s, x = some (a, s) → p a
theorem Mo.some {α : Type} {p : α → Prop} {a : α} {s : PS} (h : p a) : Mo p (some (a, s)) := fun _ _ e => by cases e; exact h
theorem Mo.bind {α β : Type} {q : α → Prop} {p : β → Prop} {x : Option (α × PS)} {f : α → PS → Option (β × PS)} (h : Mo q x) (k : ∀ a s, q a → Mo p (f a s)) : Mo p (andThen x f) := fun b t e => by
  obtain ⟨a, s, h1, h2⟩ := andThen_some e
  exact k a s (h a s h1) b t h2
theorem Mo.any {α : Type} {x : Option (α × PS)} : Mo (fun _ => True) x := fun _ _ _ => trivial
theorem Mo.ite {α : Type} {p : α → Prop} {c : Prop} [Decidable c] {x y : Option (α × PS)} (h : Mo p x) (k : Mo p y) : Mo p (if c then x else y) := by split; exact h; exact k
theorem Mo.bif {α : Type} {p : α → Prop} {c : Bool} {x y : Option (α × PS)} (h : Mo p x) (k : Mo p y) : Mo p (bif c then x else y) := by cases c; exact k; exact h
structure K4 (r : EF) : Prop where
  prim : ∀ s, Mo M1 (r.prim s)
  un : ∀ s, Mo M1 (r.un s)
  bin : ∀ n s, Mo M1 (r.bin n s)
  loop : ∀ n e s, M1 e → Mo M1 (r.loop n e s)
theorem m1_no {k n : Nat} {s : Bs} {l : List Ex} (h : k ≠ 4) : M1 (.mk k n s l) := fun e => absurd e h
theorem primS_k {r : EF} (h : K4 r) (s : PS) : Mo M1 (primS tk r s) := by
  unfold primS
  exact .ite (.some (m1_no (by decide))) (.ite (.some (m1_no (by decide))) (.ite (.bif (.bif (.some (m1_no (by decide))) (.bind .any fun _ _ _ => .some (m1_no (by decide)))) (.some (m1_no (by decide)))) (.bif (.bind .any fun _ _ _ => .some fun _ => rfl) (.bif (.some (m1_no (by decide))) (.bif (.bind (h.bin _ _) fun _ _ hx => .some hx) (.some (m1_no (by decide))))))))
theorem unS_k {r : EF} (h : K4 r) (s : PS) : Mo M1 (unS tk r s) := by
  unfold unS
  exact .bif (.bind .any fun _ _ _ => .some (m1_no (by decide))) (.bif (.bind .any fun _ _ _ => .some (m1_no (by decide))) (.bif (.bind .any fun _ _ _ => .some (m1_no (by decide))) (h.prim s)))
theorem exF_k : ∀ f, K4 (exF tk f)
  | 0 => ⟨fun _ _ _ e => (by cases e), fun _ _ _ e => (by cases e), fun _ _ _ _ e => (by cases e), fun _ _ _ _ _ _ e => (by cases e)⟩
  | f + 1 => by
    have ih := exF_k f
    refine ⟨primS_k ih, unS_k ih, fun n s => .bind (ih.un s) fun e s' he => ih.loop _ _ _ he, fun n e s he => ?_⟩
    show Mo M1 (loopS tk (exF tk f) n e s)
    unfold loopS
    refine .ite ?_ (.some he)
    split
    · exact .ite (.some he) (.bind .any fun _ _ _ => ih.loop _ _ _ (m1_no (by decide)))
    · exact .some he
end Go.Proofs.YtfpkpnkdnammnaaGreatDoor
