/- Decimal numbers in a source, plainly. -/
import Derived.Test.YtfpkpnkdnammnaaGreatDoorSe2
namespace Go.Proofs.YtfpkpnkdnammnaaGreatDoor
open Go.RowKit
def numPre : Bs := [102, 110, 32, 109, 97, 105, 110, 40, 41, 32, 123, 32, 111, 117, 116, 32]
def numSrc (ds : Bs) : Bs := numPre ++ ds ++ [59, 32, 125]
def numT (v : Nat) (ds : Bs) : List Tok := [⟨3, 0, [102, 110], 0⟩, ⟨2, 3, bmain, 0⟩, ⟨3, 7, [40], 0⟩, ⟨3, 8, [41], 0⟩, ⟨3, 10, [123], 0⟩, ⟨3, 12, [111, 117, 116], 0⟩, ⟨1, 16, ds, v⟩, ⟨3, 16 + ds.length, [59], 0⟩, ⟨3, 16 + ds.length + 2, [125], 0⟩, ⟨0, 16 + ds.length + 3, [], 0⟩]
theorem dig_blank {c : UInt8} (h : digB c = true) : blaB c = false := by
  unfold digB digQ at h
  unfold blaB blaQ
  simp only [Bool.and_eq_true, decide_eq_true_eq] at h
  simp
  omega
theorem tok_num (ds : Bs) (h0 : ds ≠ []) (hd : ∀ c ∈ ds, digB c = true) : tokL (numSrc ds) = numT (min (decL ds) 4294967296) ds := by
  obtain ⟨c, ds', rfl⟩ : ∃ c r, ds = c :: r := by
    cases ds with
    | nil => exact absurd rfl h0
    | cons c r => exact ⟨c, r, rfl⟩
  generalize hS : (c :: ds') ++ [59, 32, 125] = S
  have e0 : numSrc (c :: ds') = 102 :: 110 :: 32 :: 109 :: 97 :: 105 :: 110 :: 40 :: 41 :: 32 :: 123 :: 32 :: 111 :: 117 :: 116 :: 32 :: S := by rw [← hS]; rfl
  have h1 : tokD 0 (102 :: 110 :: 32 :: 109 :: 97 :: 105 :: 110 :: 40 :: 41 :: 32 :: 123 :: 32 :: 111 :: 117 :: 116 :: 32 :: S) = ⟨3, 0, [102, 110], 0⟩ :: tokD 2 (32 :: 109 :: 97 :: 105 :: 110 :: 40 :: 41 :: 32 :: 123 :: 32 :: 111 :: 117 :: 116 :: 32 :: S) := by
    rw [tokD_next (c := 102) (r := 110 :: 32 :: 109 :: 97 :: 105 :: 110 :: 40 :: 41 :: 32 :: 123 :: 32 :: 111 :: 117 :: 116 :: 32 :: S) rfl]; kernel_rfl
  have h2 : tokD 2 (32 :: 109 :: 97 :: 105 :: 110 :: 40 :: 41 :: 32 :: 123 :: 32 :: 111 :: 117 :: 116 :: 32 :: S) = ⟨2, 3, bmain, 0⟩ :: tokD 7 (40 :: 41 :: 32 :: 123 :: 32 :: 111 :: 117 :: 116 :: 32 :: S) := by
    rw [tokD_next (c := 109) (r := 97 :: 105 :: 110 :: 40 :: 41 :: 32 :: 123 :: 32 :: 111 :: 117 :: 116 :: 32 :: S) rfl]; kernel_rfl
  have h3 : tokD 7 (40 :: 41 :: 32 :: 123 :: 32 :: 111 :: 117 :: 116 :: 32 :: S) = ⟨3, 7, [40], 0⟩ :: tokD 8 (41 :: 32 :: 123 :: 32 :: 111 :: 117 :: 116 :: 32 :: S) := by
    rw [tokD_next (c := 40) (r := 41 :: 32 :: 123 :: 32 :: 111 :: 117 :: 116 :: 32 :: S) rfl]; kernel_rfl
  have h4 : tokD 8 (41 :: 32 :: 123 :: 32 :: 111 :: 117 :: 116 :: 32 :: S) = ⟨3, 8, [41], 0⟩ :: tokD 9 (32 :: 123 :: 32 :: 111 :: 117 :: 116 :: 32 :: S) := by
    rw [tokD_next (c := 41) (r := 32 :: 123 :: 32 :: 111 :: 117 :: 116 :: 32 :: S) rfl]; kernel_rfl
  have h5 : tokD 9 (32 :: 123 :: 32 :: 111 :: 117 :: 116 :: 32 :: S) = ⟨3, 10, [123], 0⟩ :: tokD 11 (32 :: 111 :: 117 :: 116 :: 32 :: S) := by
    rw [tokD_next (c := 123) (r := 32 :: 111 :: 117 :: 116 :: 32 :: S) rfl]; kernel_rfl
  have h6 : tokD 11 (32 :: 111 :: 117 :: 116 :: 32 :: S) = ⟨3, 12, [111, 117, 116], 0⟩ :: tokD 15 (32 :: S) := by
    rw [tokD_next (c := 111) (r := 117 :: 116 :: 32 :: S) rfl]; kernel_rfl
  have hc := hd c (List.mem_cons_self ..)
  have hsp : spanL blaB (32 :: S) = 1 := by
    rw [← hS]
    show ((32 :: c :: (ds' ++ [59, 32, 125])).takeWhile blaB).length = 1
    rw [List.takeWhile_cons_of_pos (by decide), List.takeWhile_cons_of_neg (by rw [dig_blank hc]; decide)]
    rfl
  have htw : (c :: (ds' ++ [59, 32, 125])).takeWhile digB = c :: ds' := by
    show ((c :: ds') ++ [59, 32, 125]).takeWhile digB = c :: ds'
    rw [List.takeWhile_append_of_pos hd]
    simp [List.takeWhile, show digB 59 = false from by decide]
  have hnx : nextL (c :: (ds' ++ [59, 32, 125])) = ⟨1, 0, c :: ds', min (decL (c :: ds')) 4294967296⟩ := by
    unfold nextL
    dsimp only
    rw [if_pos hc, htw]
  have h7 : tokD 15 (32 :: S) = ⟨1, 16, c :: ds', min (decL (c :: ds')) 4294967296⟩ :: tokD (16 + (c :: ds').length) [59, 32, 125] := by
    rw [tokD_next (c := c) (r := ds' ++ [59, 32, 125]) (by rw [hsp, ← hS]; rfl), hsp, hnx]
    dsimp only
    rw [show (c :: (ds' ++ [59, 32, 125])).drop (c :: ds').length = [59, 32, 125] from List.drop_left (l₁ := c :: ds')]
  have h8 : ∀ n, tokD n [59, 32, 125] = [⟨3, n, [59], 0⟩, ⟨3, n + 2, [125], 0⟩, ⟨0, n + 3, [], 0⟩] := fun n => by kernel_rfl
  show tokD 0 (numSrc (c :: ds')) = _
  rw [e0, h1, h2, h3, h4, h5, h6, h7, h8]
  rfl
def prgN (v : Nat) : List Fn := [⟨bmain, [], [.mk 7 [] [numE v] [] []]⟩]
theorem num_prim (v : Nat) (hv : v < 4294967296) (ds : Bs) : (exF (tkOf (numT v ds)) 40).bin 0 ⟨6, 0, 0⟩ = some (.mk 1 v [] [], ⟨7, 0, 0⟩) := by
  have hp : unS (tkOf (numT v ds)) (exF (tkOf (numT v ds)) 38) ⟨6, 0, 0⟩ = some (.mk 1 v [] [], ⟨7, 0, 0⟩) := by
    show primS (tkOf (numT v ds)) (exF (tkOf (numT v ds)) 37) ⟨6, 0, 0⟩ = _
    unfold primS
    rw [if_neg (by decide), if_pos ⟨rfl, hv⟩]
    rfl
  show andThen (unS (tkOf (numT v ds)) (exF (tkOf (numT v ds)) 38) ⟨6, 0, 0⟩) (fun e s => loopS (tkOf (numT v ds)) (exF (tkOf (numT v ds)) 38) 0 e s) = _
  rw [hp]
  rfl
/-- An expression parser that knows one answer. -/
def oneE (v : Nat) (s : PS) : Option (Ex × PS) := if s = ⟨6, 0, 0⟩ then some (.mk 1 v [] [], ⟨7, 0, 0⟩) else none
theorem num_run (v : Nat) (hv : v < 4294967296) (ds : Bs) : runP (tkOf (numT v ds)) ((exF (tkOf (numT v ds)) 40).bin 0) 40 = some (prgN v, 0, 0) := by
  refine runP_le (E := oneE v) (f := 40) (fun s p hp => ?_) (Nat.le_refl _) _ ?_
  · unfold oneE at hp
    split at hp
    · rename_i e; subst e; cases hp; exact num_prim v hv ds
    · cases hp
  · kernel_rfl
theorem num_big (ds : Bs) : runP (tkOf (numT 4294967296 ds)) ((exF (tkOf (numT 4294967296 ds)) 40).bin 0) 40 = some ([], 16, 24) := by kernel_rfl
theorem parse_num (ds : Bs) (h0 : ds ≠ []) (hd : ∀ c ∈ ds, digB c = true) (hl : ds.length ≤ 1000) : parseF 40 (numSrc ds) = some (if decL ds < 4294967296 then (prgN (decL ds), 0, 0) else ([], 16, 24)) := by
  unfold parseF
  rw [if_neg (by simp [numSrc, numPre]; omega), tok_num ds h0 hd]
  by_cases h : decL ds < 4294967296
  · rw [if_pos h, Nat.min_eq_left (by omega)]
    exact num_run _ h ds
  · rw [if_neg h, Nat.min_eq_right (by omega)]
    exact num_big ds
theorem decL_snoc (l : Bs) (d : UInt8) : decL (l ++ [d]) = 10 * decL l + (d.toNat - 48) := by simp [decL]
theorem decL_zeros (k : Nat) (l : Bs) : decL (List.replicate k 48 ++ l) = decL l := by
  induction k with
  | zero => rfl
  | succ k ih => rw [List.replicate_succ, List.cons_append, ← ih]; rfl
theorem digit_nat {n : Nat} (h : n < 10) : (UInt8.ofNat (48 + n)).toNat = 48 + n := by
  rw [UInt8.toNat_ofNat']; omega
theorem digit_ok {n : Nat} (h : n < 10) : digB (UInt8.ofNat (48 + n)) = true := by
  have : ∀ i : Fin 10, digB (UInt8.ofNat (48 + i.val)) = true := by decide
  exact this ⟨n, h⟩
theorem dec_step {u : Nat} (h : ¬ u < 10) : Lib.decDigits u = Lib.decDigits (u / 10) ++ [UInt8.ofNat (48 + u % 10)] := by rw [Lib.decDigits, dif_neg h]
theorem decL_dec : ∀ u : Nat, decL (Lib.decDigits u) = u ∧ ∀ c ∈ Lib.decDigits u, digB c = true := by
  intro u
  induction u using Nat.strongRecOn with
  | _ u ih =>
    by_cases h : u < 10
    · rw [dd1 h]
      refine ⟨?_, fun c hc => ?_⟩
      · show 10 * 0 + ((UInt8.ofNat (48 + u)).toNat - 48) = u
        rw [digit_nat h]; omega
      · rw [List.mem_singleton] at hc; subst hc; exact digit_ok h
    · obtain ⟨i1, i2⟩ := ih (u / 10) (by omega)
      rw [dec_step h]
      refine ⟨?_, fun c hc => ?_⟩
      · rw [decL_snoc, i1, digit_nat (by omega)]; omega
      · rcases List.mem_append.1 hc with hc | hc
        · exact i2 c hc
        · rw [List.mem_singleton] at hc; subst hc; exact digit_ok (by omega)
theorem dec_ne (u : Nat) : Lib.decDigits u ≠ [] := by
  by_cases h : u < 10
  · rw [dd1 h]; simp
  · rw [dec_step h]; simp
end Go.Proofs.YtfpkpnkdnammnaaGreatDoor
