/- Slices that grow: literals of slices, append; calls whose result is known in part; what is known is let go. -/
import Derived.Test.YtojofinofpgopaaSxE
namespace Go.Proofs.Ytojofinofpgopaa
open Go.RowKit
section
variable {P : Program} {n : Nat} {m : List (Nat × Value)} {ty : TypeId} {x y : Operand} {t e : TypeId}
theorem foldl_set (vs : List Value) : ∀ (k o : Nat) (pre mid post : List Value), pre.length = o + k → mid.length = vs.length →
    (vs.zipIdx k).foldl (fun (cs : Array Value) (p : Value × Nat) => cs.setIfInBounds (o + p.2) p.1) (pre ++ mid ++ post).toArray = (pre ++ vs ++ post).toArray := by
  induction vs with
  | nil => intro k o pre mid post _ h; simp at h; subst h; rfl
  | cons v vs ih =>
    intro k o pre mid post h1 h2
    cases mid with
    | nil => simp at h2
    | cons u mid =>
      simp only [List.zipIdx_cons, List.foldl_cons]
      have e1 : (pre ++ u :: mid ++ post).toArray.setIfInBounds (o + k) v = ((pre ++ [v]) ++ mid ++ post).toArray := by
        rw [List.setIfInBounds_toArray]
        congr 1
        rw [List.append_assoc, List.set_append_right _ _ (by omega)]
        have : o + k - pre.length = 0 := by omega
        rw [this]
        simp
      rw [e1, ih (k + 1) o (pre ++ [v]) mid post (by simp; omega) (by simpa using h2)]
      simp
theorem fill_one {size off : Nat} {place : Nat → Option (Nat × Nat)} {i : Nat} {v : Value} {vs pre mid post : List Value} (hp : place i = some (off, size)) (hv : v.cells = vs.toArray) (hs : vs.length = size) (h1 : pre.length = off) (h2 : mid.length = size) (rest : List (Nat × Value)) :
    Instr.fill place (pre ++ mid ++ post).toArray ((i, v) :: rest) = Instr.fill place (pre ++ vs ++ post).toArray rest := by
  have := foldl_set vs 0 off pre mid post (by omega) (by omega)
  simp only [Instr.fill, hp, hv, List.size_toArray]
  rw [if_neg (by simp [hs]; omega)]
  congr 1
  rw [← this]
  simp
theorem run_bs {parts : Array (Nat × Value)} {len : Nat} {z : Value} {size : Nat} {cs : List Value} (ht : P.underlying t = some (.slice e)) (hz : (P.info? e).bind (·.zero) = some z) (hs : (P.info? e).map (·.size) = some size) (hlen : len * size ≤ 16777216) (h0 : len * size ≠ 0)
    (hf : ∀ mid : List Value, mid.length = len * size → Instr.fill (fun i => some (i * size, size)) mid.toArray parts.toList = some cs.toArray) (w : World) :
    (Instr.buildSlice t len parts).run P w = .ok (.slice (some ⟨w.heap.size, 0, none⟩) len len) (w.alloc (bk e cs)) := by
  cases hq : P.info? e with
  | none => simp [hq] at hz
  | some i =>
    have hz' : i.zero = some z := by simpa [hq] using hz
    have hs' : i.size = size := by simpa [hq] using hs
    have hfill := hf ((Array.range (len * size)).map (z.cells[· % z.cells.size]!)).toList (by simp)
    simp only [Array.toArray_toList] at hfill
    have hlen' : ¬ 16777216 < len * size := by omega
    simp [Instr.buildSlice, run_underlying ht, sizeOf, typeInfo, zeroValue, hq, hz', hs', hfill, newRow, hlen']
    exact fun h => absurd h h0
/-- A struct, built of parts: the cells. -/
def setParts (places : List (Nat × Nat)) : List Value → List (Nat × Value) → List Value
  | z, [] => z
  | z, (i, v) :: r => match places[i]? with
    | some (off, size) => setParts places (z.take off ++ v.cells.toList ++ z.drop (off + size)) r
    | none => []
def partsOk (places : List (Nat × Nat)) (len : Nat) : List (Nat × Value) → Bool
  | [] => true
  | (i, v) :: r => (match places[i]? with
    | some (off, size) => Nat.beq v.cells.size size && Nat.ble (off + size) len
    | none => false) && partsOk places len r
theorem fill_parts (places : List (Nat × Nat)) : ∀ (vs : List (Nat × Value)) (z : List Value), partsOk places z.length vs = true → Instr.fill (places.toArray[·]?) z.toArray vs = some (setParts places z vs).toArray
  | [], z, _ => rfl
  | (i, v) :: r, z, h => by
    simp only [partsOk, Bool.and_eq_true] at h
    obtain ⟨h1, h2⟩ := h
    cases hp : places[i]? with
    | none => rw [hp] at h1; cases h1
    | some q =>
      obtain ⟨off, size⟩ := q
      rw [hp] at h1
      simp only [Bool.and_eq_true] at h1
      have hs : v.cells.size = size := Nat.eq_of_beq_eq_true h1.1
      have hle := Nat.le_of_ble_eq_true h1.2
      have e1 : z = z.take off ++ (z.drop off).take size ++ z.drop (off + size) := by
        rw [List.append_assoc, ← List.drop_drop, List.take_append_drop, List.take_append_drop]
      have := fill_one (place := (places.toArray[·]?)) (i := i) (off := off) (size := size) (v := v) (vs := v.cells.toList) (pre := z.take off) (mid := (z.drop off).take size) (post := z.drop (off + size)) (by simp [hp]) (by simp) (by simpa using hs) (by simp; omega) (by simp; omega) r
      rw [← e1] at this
      rw [this, fill_parts places r _ (by
        have hl : (z.take off ++ v.cells.toList ++ z.drop (off + size)).length = z.length := by simp [hs]; omega
        rw [hl]; exact h2)]
      simp [setParts, hp]
def placesOf (P : Program) (t : TypeId) : Option (List (Nat × Nat)) := match P.underlying t with
  | some (.struct fs) => fs.toList.mapM fun f => (P.info? f.type).map fun i => (f.offset, i.size)
  | _ => none
theorem yf_buildS {H : World → Prop} {parts : List (Nat × Operand)} {vs : List (Nat × Value)} (z : List Value) (places : List (Nat × Nat)) (hp : evs m parts = some vs) (hz : (P.info? t).bind (fun i => i.zero.map (·.cells)) = some z.toArray) (hpl : placesOf P t = some places) (hok : partsOk places z.length vs = true) :
    YF P (.build t parts.toArray) ty n m H (.agg (setParts places z vs).toArray) := by
  refine yf_build hp ?_
  cases hq : P.info? t with
  | none => simp [hq] at hz
  | some it =>
    unfold placesOf at hpl
    split at hpl
    · rename_i fs hu
      cases hzz : it.zero with
      | none => simp [hq, hzz] at hz
      | some zz =>
        have hc : zz.cells = z.toArray := by simpa [hq, hzz] using hz
        simp only [Program.built, hq, hu, hzz, hpl, hc]
        exact fill_parts places vs z hok
    · cases hpl
/-- A slice literal of one element. -/
theorem nf_bs1 {v : Value} {cs : List Value} {z : Value} (hx : ev m x = some v) (hc : v.cells = cs.toArray) (ht : P.underlying t = some (.slice e)) (hz : (P.info? e).bind (·.zero) = some z) (hs' : (P.info? e).map (·.size) = some cs.length) (hl : Nat.blt 0 cs.length = true) (hl2 : Nat.ble cs.length 16777216 = true) :
    NF P (.buildSlice t 1 #[(0, x)]) ty n m (bk e cs) (fun g => .slice (some ⟨g, 0, none⟩) 1 1) := fun a w d pos af gd hs => by
  have h0 : 0 < cs.length := by simpa [Nat.blt_eq] using hl
  have h1 := Nat.le_of_ble_eq_true hl2
  have := run_bs (P := P) (parts := #[(0, v)]) (len := 1) ht hz hs' (by omega) (by omega) (cs := cs) (fun mid hm => by
    have := fill_one (place := fun i => some (i * cs.length, cs.length)) (i := 0) (off := 0) (pre := []) (mid := mid) (post := []) (by simp) hc rfl rfl (by simpa using hm) []
    simp only [List.nil_append, List.append_nil] at this
    exact this) w
  simp [execOp, hs.ev hx, this]
/-- .. of two. -/
theorem nf_bs2 {v u : Value} {cs ds : List Value} {z : Value} (hx : ev m x = some v) (hy : ev m y = some u) (hc : v.cells = cs.toArray) (hd : u.cells = ds.toArray) (ht : P.underlying t = some (.slice e)) (hz : (P.info? e).bind (·.zero) = some z) (hs' : (P.info? e).map (·.size) = some cs.length) (hl : Nat.blt 0 cs.length = true) (hl2 : Nat.ble cs.length 8388608 = true) (hcd : ds.length = cs.length) :
    NF P (.buildSlice t 2 #[(0, x), (1, y)]) ty n m (bk e (cs ++ ds)) (fun g => .slice (some ⟨g, 0, none⟩) 2 2) := fun a w d pos af gd hs => by
  have h0 : 0 < cs.length := by simpa [Nat.blt_eq] using hl
  have h1 := Nat.le_of_ble_eq_true hl2
  have := run_bs (P := P) (parts := #[(0, v), (1, u)]) (len := 2) ht hz hs' (by omega) (by omega) (cs := cs ++ ds) (fun mid hm => by
    have e1 : mid = mid.take cs.length ++ mid.drop cs.length := (List.take_append_drop _ _).symm
    have f1 := fill_one (place := fun i => some (i * cs.length, cs.length)) (i := 0) (off := 0) (pre := []) (mid := mid.take cs.length) (post := mid.drop cs.length) (by simp) hc rfl rfl (by simp; omega) [(1, u)]
    have f2 := fill_one (place := fun i => some (i * cs.length, cs.length)) (i := 1) (off := cs.length) (pre := cs) (mid := mid.drop cs.length) (post := []) (by simp) hd hcd rfl (by simp; omega) []
    simp only [List.nil_append, List.append_nil] at f1 f2
    rw [e1, f1, f2]
    rfl) w
  simp [execOp, hs.ev hx, hs.ev hy, this]
section
variable {G B : Nat → Prop} {w0 w : World} {L : List (Nat × Obj)} {R : List Rw} {X : World → Prop}
/-- append onto a slice of the call's own; what is appended lies in a block that is known. -/
theorem ch_append {a : Act} {d : Option Tmp} {pos : String} {af : Array Edge} {gd : Option (Nat × Bool)} {r : Rw} {c mm : Nat} {ad : Addr} {news : List Value} {z : Value} {bytes : Nat} (hs : Sat n m a) (k : Nat) (hx : ev m x = some r.v) (hk : R[k]? = some r) (hy : ev m y = some (.slice (some ad) mm c)) (hn : ∀ j u, news[j]? = some u → w.cell? (ad.add j) = some u)
    (ht : P.underlying t = some (.slice r.E)) (hi : (P.info? r.E).map (fun i => (i.zero, i.size, i.bytes)) = some (some z, r.size, bytes)) (hzs : z.cells.size = r.size) (hsz : 0 < r.size) (hl : news.length = mm * r.size) (h1 : ∀ v ∈ news, v.oneCell' = true) (hm : 0 < mm) (h63 : r.n + mm ≤ 9223372036854775807) (hb : (r.n + mm) * bytes ≤ 140737488355328)
    (hw : Hp B w0 L R X w) : Ch P ⟨d, .call { callee := .builtin .append, args := #[x, y], argTypes := #[t, t] }, ty, pos, af, gd⟩ a w fun v w' => ∃ g cap, v = .slice (some ⟨g, 0, none⟩) (r.n + mm) cap ∧ Hp B w0 L (R.set k ⟨.slice (some ⟨g, 0, none⟩) (r.n + mm) cap, r.E, r.size, r.n + mm, r.xs ++ news⟩) X w' := by
  have hown := HpG.rows hw r (List.mem_of_getElem? hk)
  obtain ⟨i, hq, hz, hs1, hb1⟩ : ∃ i, P.info? r.E = some i ∧ i.zero = some z ∧ i.size = r.size ∧ i.bytes = bytes := by
    cases hq : P.info? r.E with
    | none => simp [hq] at hi
    | some i => exact ⟨i, rfl, by simpa [hq] using hi⟩
  obtain ⟨g, cap, w', hr, h2, h3, h4, h5⟩ := run_append_lies (P := P) (w := w) t ty w0.heap.size r.E i z r.size bytes ht hq hz hs1 hb1 hzs hsz r.v r.n r.xs hown ad mm c news hl hn h1 hm (by unfold maxLen; omega) hb (HpG.size hw) _ rfl
  have hrun : (execOp a.eval ⟨d, .call { callee := .builtin .append, args := #[x, y], argTypes := #[t, t] }, ty, pos, af, gd⟩).run P w = .ok (.value (.slice (some ⟨g, 0, none⟩) (r.n + mm) cap)) w' := by
    simp [execOp, resolve, invoke, builtin, hs.ev hx, hs.ev hy, hr]
  unfold Ch
  rw [hrun]
  refine ⟨g, cap, rfl, Hp.row hw hk h3 h2 ?_⟩
  rcases h4 with h4 | h4
  · exact .inl h4.symm
  · exact .inr fun b hb' => by
      have : b = g := by simpa [Value.ownBlock] using hb'.symm
      omega
theorem cf_append {r : Rw} {c mm g : Nat} {T : TypeId} {news : List Value} {z : Value} {bytes : Nat} (k : Nat) (j : Nat) (hx : ev m x = some r.v) (hk : R[k]? = some r) (hy : ev m y = some (.slice (some ⟨g, 0, none⟩) mm c)) (hj : L[j]? = some (g, bk T news))
    (ht : P.underlying t = some (.slice r.E)) (hi : (P.info? r.E).map (fun i => (i.zero, i.size, i.bytes)) = some (some z, r.size, bytes)) (hzs : z.cells.size = r.size) (hsz : Nat.blt 0 r.size = true) (hl : news.length = mm * r.size) (h1 : news.all (·.oneCell') = true) (hm : Nat.blt 0 mm = true) (h63 : r.n + mm ≤ 9223372036854775807) (hb : (r.n + mm) * bytes ≤ 140737488355328) :
    CF P (.call { callee := .builtin .append, args := #[x, y], argTypes := #[t, t] }) ty n m (Hp B w0 L R X) (fun i : Nat × Nat => .slice (some ⟨i.1, 0, none⟩) (r.n + mm) i.2) (fun i => Hp B w0 L (R.set k ⟨.slice (some ⟨i.1, 0, none⟩) (r.n + mm) i.2, r.E, r.size, r.n + mm, r.xs ++ news⟩) X) := fun a w d pos af gd hs hw =>
  (ch_append hs k hx hk hy (fun j' u hu => by rw [Addr.add_mid, Nat.zero_add]; exact HpG.cell hw hj hu) ht hi hzs (by simpa [Nat.blt_eq] using hsz) hl (List.all_eq_true.1 h1) (by simpa [Nat.blt_eq] using hm) h63 hb hw).mono fun v w' ⟨g, cap, h1, h2⟩ => ⟨(g, cap), h1, h2⟩
theorem wl_append {ops : Array Oper} {Q : Exit → Act → World → Prop} {rest : List Oper} {d : Nat} {pos : String} {af : Array Edge} {gd : Option (Nat × Bool)} {v : Value} {E size len : Nat} {xs : List Value} {c mm g : Nat} {T : TypeId} {news : List Value} {z : Value} {bytes : Nat} (k : Nat) (j : Nat) (hg : Gd ops m gd) (hd : Nat.blt d n = true) (hk : R[k]? = some ⟨v, E, size, len, xs⟩) (hj : L[j]? = some (g, bk T news)) (hx : ev m x = some v) (hy : ev m y = some (.slice (some ⟨g, 0, none⟩) mm c))
    (ht : P.underlying t = some (.slice E)) (hi : (P.info? E).map (fun i => (i.zero, i.size, i.bytes)) = some (some z, size, bytes)) (hzs : z.cells.size = size) (hsz : Nat.blt 0 size = true) (hl : news.length = mm * size) (h1 : news.all (·.oneCell') = true) (hm : Nat.blt 0 mm = true) (h63 : len + mm ≤ 9223372036854775807) (hb : (len + mm) * bytes ≤ 140737488355328)
    (h : ∀ b cap, WL P ops Q rest n ((d, .slice (some ⟨b, 0, none⟩) (len + mm) cap) :: m) (Hp B w0 L (R.set k ⟨.slice (some ⟨b, 0, none⟩) (len + mm) cap, E, size, len + mm, xs ++ news⟩) X)) :
    WL P ops Q (⟨some d, .call { callee := .builtin .append, args := #[x, y], argTypes := #[t, t] }, ty, pos, af, gd⟩ :: rest) n m (Hp B w0 L R X) :=
  wl_chain hg hd (cf_append (r := ⟨v, E, size, len, xs⟩) k j hx hk hy hj ht hi hzs hsz hl h1 hm h63 hb) fun i => h i.1 i.2
/-- A call that turns one block, its result known in part. -/
theorem cf_turnE {ι : Type} {C : ι → Prop} {val : ι → Value} {ob' : ι → Obj} {f : FuncId} {args : List Operand} {ats : Array TypeId} {vs : List Value} {ob : Obj} {g : Nat} (k : Nat) (hf : goes P f = true) (ha : evl m args = some vs) (hk : L[k]? = some (g, ob))
    (hC : ∀ w, w.heap[g]? = some ob → HpG G B w0 L R X w → Calls P f vs.toArray w fun e w' => ∃ i, C i ∧ e = .returned (val i) ∧ Keep (fun j => j = g) w w' ∧ w'.heap[g]? = some (ob' i)) :
    CF P (.call { callee := .value (.func f), args := args.toArray, argTypes := ats }) ty n m (HpG G B w0 L R X) (fun i : {i // C i} => val i.1) (fun i => HpG G B w0 (L.set k (g, ob' i.1)) R X) :=
  cf_call hf ha fun w hw => (hC w (hw.own _ (List.mem_of_getElem? hk)) hw).mono fun _ _ ⟨i, c, e1, e2, e3⟩ => ⟨_, e1, ⟨i, c⟩, rfl, hw.turn hk e2 e3⟩
/-- .. that makes memory at most. -/
theorem cf_pureE {ι : Type} {C : ι → Prop} {val : ι → Value} {f : FuncId} {args : List Operand} {ats : Array TypeId} {vs : List Value} (hf : goes P f = true) (ha : evl m args = some vs)
    (hC : ∀ w, HpG G B w0 L R X w → Calls P f vs.toArray w fun e w' => ∃ i, C i ∧ e = .returned (val i) ∧ Ext w w') :
    CF P (.call { callee := .value (.func f), args := args.toArray, argTypes := ats }) ty n m (HpG G B w0 L R X) (fun i : {i // C i} => val i.1) (fun _ => HpG G B w0 L R X) :=
  cf_call hf ha fun w hw => (hC w hw).mono fun _ _ ⟨i, c, e1, e2⟩ => ⟨_, e1, ⟨i, c⟩, rfl, hw.onE e2⟩
theorem wl_turnE {ι : Type} {C : ι → Prop} {ops : Array Oper} {Q : Exit → Act → World → Prop} {rest : List Oper} {d : Nat} {pos : String} {af : Array Edge} {gd : Option (Nat × Bool)} {val : ι → Value} {ob' : ι → Obj} {f : FuncId} {args : List Operand} {ats : Array TypeId} {vs : List Value} {ob : Obj} {g : Nat} (hg : Gd ops m gd) (hd : Nat.blt d n = true) (k : Nat) (hf : goes P f = true) (ha : evl m args = some vs) (hk : L[k]? = some (g, ob))
    (hC : ∀ w, w.heap[g]? = some ob → HpG G B w0 L R X w → Calls P f vs.toArray w fun e w' => ∃ i, C i ∧ e = .returned (val i) ∧ Keep (fun j => j = g) w w' ∧ w'.heap[g]? = some (ob' i))
    (h : ∀ i, C i → WL P ops Q rest n ((d, val i) :: m) (HpG G B w0 (L.set k (g, ob' i)) R X)) : WL P ops Q (⟨some d, .call { callee := .value (.func f), args := args.toArray, argTypes := ats }, ty, pos, af, gd⟩ :: rest) n m (HpG G B w0 L R X) :=
  wl_chain hg hd (cf_turnE k hf ha hk hC) fun i => h i.1 i.2
theorem wl_pureE {ι : Type} {C : ι → Prop} {ops : Array Oper} {Q : Exit → Act → World → Prop} {rest : List Oper} {d : Nat} {pos : String} {af : Array Edge} {gd : Option (Nat × Bool)} {val : ι → Value} {f : FuncId} {args : List Operand} {ats : Array TypeId} {vs : List Value} (hg : Gd ops m gd) (hd : Nat.blt d n = true) (hf : goes P f = true) (ha : evl m args = some vs)
    (hC : ∀ w, HpG G B w0 L R X w → Calls P f vs.toArray w fun e w' => ∃ i, C i ∧ e = .returned (val i) ∧ Ext w w')
    (h : ∀ i, C i → WL P ops Q rest n ((d, val i) :: m) (HpG G B w0 L R X)) : WL P ops Q (⟨some d, .call { callee := .value (.func f), args := args.toArray, argTypes := ats }, ty, pos, af, gd⟩ :: rest) n m (HpG G B w0 L R X) :=
  wl_chain hg hd (cf_pureE hf ha hC) fun i => h i.1 i.2
theorem wl_pure {ops : Array Oper} {Q : Exit → Act → World → Prop} {rest : List Oper} {d : Nat} {pos : String} {af : Array Edge} {gd : Option (Nat × Bool)} {v : Value} {f : FuncId} {args : List Operand} {ats : Array TypeId} {vs : List Value} (hg : Gd ops m gd) (hd : Nat.blt d n = true) (hf : goes P f = true) (ha : evl m args = some vs)
    (hC : ∀ w, HpG G B w0 L R X w → Calls P f vs.toArray w fun e w' => e = .returned v ∧ Ext w w')
    (h : WL P ops Q rest n ((d, v) :: m) (HpG G B w0 L R X)) : WL P ops Q (⟨some d, .call { callee := .value (.func f), args := args.toArray, argTypes := ats }, ty, pos, af, gd⟩ :: rest) n m (HpG G B w0 L R X) :=
  wl_chain hg hd (cf_pure hf ha hC) fun _ => h
/-- What is known is let go. -/
theorem Hp.drop {L' : List (Nat × Obj)} {R' : List Rw} (h : Hp B w0 L R X w) (hL : L'.Sublist L) (hR : R'.Sublist R) : Hp B w0 L' R' X w := by
  have hsub : (blks L' R').Sublist (blks L R) := (hL.map _).append (hR.filterMap _)
  obtain ⟨F, hF, hx⟩ := HpG.foot h
  exact ⟨HpG.keep h, fun p hp => HpG.own h p (hL.subset hp), fun p hp => HpG.mine h p (hL.subset hp), fun r hr => HpG.rows h r (hR.subset hr), (HpG.nd h).sublist hsub, fun _ _ => trivial, F, fun k hk => ⟨(hF k hk).1, (hF k hk).2.1, fun hx => (hF k hk).2.2.1 (hsub.subset hx), trivial⟩, hx⟩
end
end
theorem u32_wrap (x : Int) : 0 ≤ IntKind.u32.wrap x ∧ IntKind.u32.wrap x < 4294967296 := by
  simp only [IntKind.wrap, IntKind.bits, IntKind.signed]
  simp; omega
theorem tmod_in {x n : Int} (hx : 0 ≤ x) (hn : 0 < n) : 0 ≤ x.tmod n ∧ x.tmod n < n := ⟨Int.tmod_nonneg n hx, Int.tmod_lt_of_pos x hn⟩
end Go.Proofs.Ytojofinofpgopaa
