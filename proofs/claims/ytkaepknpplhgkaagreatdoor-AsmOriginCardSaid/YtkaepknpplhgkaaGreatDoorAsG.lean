/- The law of origins, plainly: both machines. -/
import Derived.Test.YtkaepknpplhgkaaGreatDoorMaY
namespace Go.Proofs.YtkaepknpplhgkaaGreatDoor
theorem byL_natG {n : Nat} (h : n < 256) : (byL n).toNat = n := by
  unfold byL
  rw [UInt8.toNat_ofNat']
  omega
theorem get_put : ∀ (k n : Nat), n < 256 ^ k → getL (putL n k) = n
  | 0, n, h => by simp at h; subst h; rfl
  | k + 1, n, h => by
    rw [Nat.pow_succ] at h
    rw [putL, getL, byL_natG (Nat.mod_lt _ (by omega)), get_put k (n / 256) (by omega)]
    omega
theorem putL_lenG : ∀ (k n : Nat), (putL n k).length = k
  | 0, _ => rfl
  | k + 1, n => by rw [putL, List.length_cons, putL_lenG k]
theorem enc_full (op imm : Nat) (ho : op = 112 ∨ op = 113) (hi : imm < 4294967296) : encK ⟨(op : Int), 0, 0, -1, 0, imm, 5⟩ = some (byL op :: putL imm 4) := by
  have hg := get_put 4 imm (by have : 256 ^ 4 = 4294967296 := rfl; omega)
  have hl := putL_lenG 4 imm
  have h1 : fmtK (op : Int) = some (5, [.full]) ∧ lowB (op : Int) = byL op := by rcases ho with rfl | rfl <;> exact ⟨rfl, rfl⟩
  have hr : rngK ⟨(op : Int), 0, 0, -1, 0, imm, 5⟩ = true := by
    unfold rngK
    dsimp only
    rw [if_neg (by omega), if_neg (by omega)]; rfl
  have hp : putK ⟨(op : Int), 0, 0, -1, 0, imm, 5⟩ [.full] = putL imm 4 := by
    show putL imm 4 ++ [] = _
    rw [List.append_nil]
  have ht : takeFs (putL imm 4) ⟨(op : Int), 0, 0, -1, 0, 0, 5⟩ [.full] = ⟨(op : Int), 0, 0, -1, 0, imm, 5⟩ := by
    show (⟨(op : Int), 0, 0, -1, 0, getL ((putL imm 4).take 4), 5⟩ : KI) = _
    rw [List.take_of_length_le (by omega), hg]
  unfold encK
  dsimp only
  rw [h1.1]
  dsimp only
  rw [hp, show ((5 : Nat) : Int) = 5 from rfl, ht, if_pos ⟨rfl, hr, rfl⟩, h1.2]
theorem jal_num (a b c e d x : Nat) : (40 : Int).toNat * a + (d : Int).toNat * b + (0 : Int).toNat * c + (0 : Int).toNat * e + x = 40 * a + d * b + x := by
  rw [show (40 : Int).toNat = 40 from rfl, Int.toNat_natCast, show (0 : Int).toNat = 0 from rfl, Nat.zero_mul, Nat.zero_mul, Nat.add_zero]
theorem enc_jal (d imm : Nat) (hd : d < 16) (hi : fitL imm 22 = true) : encQ ⟨40, (d : Int), 0, 0, imm⟩ = some (40 * 67108864 + d * 4194304 + imm % 2 ^ 22) := by
  have hr : regQ (d : Int) true = true := by
    rcases Nat.eq_zero_or_pos d with h0 | h0
    · subst h0; rfl
    · unfold regQ
      rw [decide_eq_true (show 0 < (d : Int) by omega), decide_eq_true (show (d : Int) < 16 by omega)]
      simp
  have h1 : shpQ 40 = some ⟨true, false, false, 1, 22, 0⟩ := rfl
  have hii : immQ ⟨true, false, false, 1, 22, 0⟩ imm = true := hi
  have h2 : regQ 0 false = true := rfl
  unfold encQ
  rw [h1]
  exact (if_pos (⟨hr, h2, h2, hii⟩ : regQ (d : Int) true = true ∧ regQ 0 false = true ∧ regQ 0 false = true ∧ immQ ⟨true, false, false, 1, 22, 0⟩ imm = true)).trans (congrArg some (jal_num 67108864 4194304 262144 16384 d (imm % 2 ^ 22)))
def lbO (x : Bs) : AOp := ⟨118, 0, x, 0, 0, 0⟩
theorem ok_K : OK7 1 1 (.k (.always 2) .nothing) (.k (.always 3) .nothing) (.k (.always 4) .nothing) ⟨[], [106, 101, 113], [118], [lbO [98]], some (.k (.always 96) .target), 0, 2⟩ ⟨[], [106, 109, 112], [118], [lbO [97]], some (.k (.always 112) .target), 0, 5⟩ ⟨[], [99, 97, 108, 108], [118], [lbO [98]], some (.k (.always 113) .target), 0, 5⟩ :=
  ⟨by kernel_rfl, by kernel_rfl, by kernel_rfl, by kernel_rfl, by kernel_rfl, by kernel_rfl, by kernel_rfl, rfl, rfl, rfl, by decide⟩
theorem ok_Q : OK7 2 4 (.q 50) (.q 49) (.q 51) ⟨[], [98, 101, 113], [114, 114, 118], [⟨114, 1, [], 0, 0, 0⟩, ⟨114, 2, [], 0, 0, 0⟩, lbO [98]], some (.q 32), 0, 4⟩ ⟨[], [106, 97, 108], [114, 118], [⟨114, 0, [], 0, 0, 0⟩, lbO [97]], some (.q 40), 0, 4⟩ ⟨[], [106, 97, 108], [114, 118], [⟨114, 3, [], 0, 0, 0⟩, lbO [98]], some (.q 40), 0, 4⟩ :=
  ⟨by kernel_rfl, by kernel_rfl, by kernel_rfl, by kernel_rfl, by kernel_rfl, by kernel_rfl, by kernel_rfl, rfl, rfl, rfl, by decide⟩
theorem tgt_K {op : Nat} {sh : Bs} {l : List AOp} {v a imm z : Nat} {c : Bs} (hs : sizeK ((op : Int) % 256) = z) (hsh : sh.headD 0 ≠ 114) (hi : subW (subW v a) z = imm) (he : encK ⟨(op : Int), 0, 0, -1, 0, imm, z⟩ = some c) : codeA (.k (.always op) .target) sh l [v] a = .ok c := by
  have e : insK (.always (op : Int)) .target sh l [v] a = ⟨(op : Int), 0, 0, -1, 0, imm, z⟩ := by
    show (⟨(op : Int), if sh.headD 0 = 114 then (l.getD 0 noOp).r else 0, 0, -1, 0, subW (subW v a) (sizeK ((op : Int) % 256)), (sizeK ((op : Int) % 256) : Nat)⟩ : KI) = _
    rw [hs, if_neg hsh, hi]
  unfold codeA
  dsimp only
  rw [e, he]
theorem o_pos {r c t u : Bs} (h : 0 < c.length) : 0 < ([] ++ (r ++ ((c ++ t) ++ u))).length := by simp only [List.length_append]; omega
theorem o_ex {kind : Int} {z : Nat} {h b e : AFm} {j0 j1 j2 : ASt} (hkk : kind = 1 ∨ kind = 2) (hk : OK7 kind z h b e j0 j1 j2) {m n : Nat} (hm : m < 20) (hn : n < 20) {ch cb ce c0 c1 c2 : Bs} (hh : ∀ a, codeA h [] [] [] a = .ok ch) (hb : ∀ a, codeA b [] [] [] a = .ok cb) (he : ∀ a, codeA e [] [] [] a = .ok ce)
    (hj : ∀ org, org < 4294967296 → ∃ v0 v1 v2, valsA [([97], (org + 0) % 4294967296), ([98], (org + (m * z + j0.size + j1.size + j2.size + n * z)) % 4294967296)] j0.l = .ok v0 ∧ valsA [([97], (org + 0) % 4294967296), ([98], (org + (m * z + j0.size + j1.size + j2.size + n * z)) % 4294967296)] j1.l = .ok v1 ∧ valsA [([97], (org + 0) % 4294967296), ([98], (org + (m * z + j0.size + j1.size + j2.size + n * z)) % 4294967296)] j2.l = .ok v2 ∧ cdA j0 v0 ((org + m * z) % 4294967296) = .ok c0 ∧ cdA j1 v1 ((org + (m * z + j0.size)) % 4294967296) = .ok c1 ∧ cdA j2 v2 ((org + (m * z + j0.size + j1.size)) % 4294967296) = .ok c2) (h0 : 0 < c0.length) : ∃ c, 0 < c.length ∧ ∀ org, org < 4294967296 → asmL kind (oText kind m n) org = (c, 0, 0) := ⟨_, o_pos h0, fun _ ho => o_any hkk hk hm hn hh hb he hj ho⟩
/-- K: the code, whatever the origin. -/
theorem origin_K {m n : Nat} (hm : m < 20) (hn : n < 20) : ∃ c, 0 < c.length ∧ ∀ org, org < 4294967296 → asmL 1 (oText 1 m n) org = (c, 0, 0) := by
  have h2 : ∀ a, codeA (.k (.always 2) .nothing) [] [] [] a = .ok [2] := fun a => by kernel_rfl
  have h3 : ∀ a, codeA (.k (.always 3) .nothing) [] [] [] a = .ok [3] := fun a => by kernel_rfl
  have h4 : ∀ a, codeA (.k (.always 4) .nothing) [] [] [] a = .ok [4] := fun a => by kernel_rfl
  refine o_ex (.inl rfl) ok_K hm hn h2 h3 h4 (c0 := [byL (96 + 0), byL ((n + 10) % 256)]) (c1 := byL 112 :: putL (4294967296 - (m + 7)) 4) (c2 := byL 113 :: putL n 4) (fun org ho => ?_) (Nat.succ_pos _)
  · refine ⟨[(org + (m * 1 + 2 + 5 + 5 + n * 1)) % 4294967296], [(org + 0) % 4294967296], [(org + (m * 1 + 2 + 5 + 5 + n * 1)) % 4294967296], rfl, rfl, rfl, ?_, ?_, ?_⟩
    · have h5 := enc_small 0 (n + 10) (by omega)
      rw [if_pos (by unfold sxL; have e1 : 2 ^ 8 = 256 := rfl; have e2 : 2 ^ (8 - 1) = 128 := rfl; rw [e1, e2, if_pos (by omega)]; omega)] at h5
      have h6 : subW (subW ((org + (m * 1 + 2 + 5 + 5 + n * 1)) % 4294967296) ((org + m * 1) % 4294967296)) 2 = n + 10 := by unfold subW; omega
      generalize (org + (m * 1 + 2 + 5 + 5 + n * 1)) % 4294967296 = v at *
      generalize (org + m * 1) % 4294967296 = a at *
      generalize n + 10 = imm at *
      have hs : sizeK (((96 + 0 : Nat) : Int) % 256) = 2 := by decide
      have e := tgt_K (op := 96 + 0) (sh := [118]) (l := [lbO [98]]) (z := 2) hs (by decide) h6 h5
      exact e
    · exact tgt_K (op := 112) (imm := 4294967296 - (m + 7)) (z := 5) rfl (by decide) (by dsimp only; unfold subW; omega) (enc_full 112 _ (.inl rfl) (by omega))
    · exact tgt_K (op := 113) (imm := n) (z := 5) rfl (by decide) (by dsimp only; unfold subW; omega) (enc_full 113 _ (.inr rfl) (by omega))
theorem tgt_Q {op : Int} {sh : Bs} {l : List AOp} {v : List Nat} {a w : Nat} {i : QI} {far : Int} (hj : jmpQ op = true) (hi : insQ op l v 0 ⟨op, 0, 0, 0, 0⟩ = i) (hf : sgnI (subW i.imm a) = far) (h4 : far.tmod 4 = 0) (he : encQ { i with imm := (far.tdiv 4 % 4294967296).toNat } = some w) : codeA (.q op) sh l v a = .ok (putL w 4) := by
  unfold codeA
  dsimp only
  rw [if_pos hj, hi, hf, if_pos h4, he]
theorem tm4 (x : Int) : (4 * x).tmod 4 = 0 ∧ (4 * x).tdiv 4 = x := ⟨Int.mul_tmod_right 4 x, Int.mul_tdiv_cancel_left x (by omega)⟩
/-- Q: the code, whatever the origin. -/
theorem origin_Q {m n : Nat} (hm : m < 20) (hn : n < 20) : ∃ c, 0 < c.length ∧ ∀ org, org < 4294967296 → asmL 2 (oText 2 m n) org = (c, 0, 0) := by
  have h2 : ∀ a, codeA (.q 50) [] [] [] a = .ok (putL 3355443200 4) := fun a => codeA_q rfl (by kernel_rfl)
  have h3 : ∀ a, codeA (.q 49) [] [] [] a = .ok (putL 3288334336 4) := fun a => codeA_q rfl (by kernel_rfl)
  have h4 : ∀ a, codeA (.q 51) [] [] [] a = .ok (putL 3422552064 4) := fun a => codeA_q rfl (by kernel_rfl)
  refine o_ex (.inr rfl) ok_Q hm hn h2 h3 h4 (c0 := putL ((32 + 0) * 67108864 + 1 * 4194304 + 2 * 262144 + 0 * 16384 + (((n : Int) + 3) % 4294967296).toNat % 2 ^ 18) 4) (c1 := putL (40 * 67108864 + 0 * 4194304 + ((-(m : Int) - 1) % 4294967296).toNat % 2 ^ 22) 4) (c2 := putL (40 * 67108864 + 3 * 4194304 + (((n : Int) + 1) % 4294967296).toNat % 2 ^ 22) 4) (fun org ho => ?_) (by rw [putL_lenG]; omega)
  · have e18 : 2 ^ (18 - 1) = 131072 := rfl
    have e22 : 2 ^ (22 - 1) = 2097152 := rfl
    refine ⟨[0, 0, (org + (m * 4 + 4 + 4 + 4 + n * 4)) % 4294967296], [0, (org + 0) % 4294967296], [0, (org + (m * 4 + 4 + 4 + 4 + n * 4)) % 4294967296], rfl, rfl, rfl, ?_, ?_, ?_⟩
    · obtain ⟨t1, t2⟩ := tm4 ((n : Int) + 3)
      refine tgt_Q (op := 32) (sh := [114, 114, 118]) (i := ⟨32, 1, 2, 0, (org + (m * 4 + 4 + 4 + 4 + n * 4)) % 4294967296⟩) (far := 4 * ((n : Int) + 3)) rfl rfl (by show sgnI (subW ((org + (m * 4 + 4 + 4 + 4 + n * 4)) % 4294967296) ((org + m * 4) % 4294967296)) = _; unfold sgnI subW; split <;> omega) t1 ?_
      rw [t2]
      have := enc_bra 0 (((n : Int) + 3) % 4294967296).toNat (by omega)
      rw [if_pos (by unfold fitL; rw [e18]; simp only [Bool.or_eq_true, decide_eq_true_eq]; omega)] at this
      exact this
    · obtain ⟨t1, t2⟩ := tm4 (-(m : Int) - 1)
      refine tgt_Q (op := 40) (sh := [114, 118]) (i := ⟨40, 0, 0, 0, (org + 0) % 4294967296⟩) (far := 4 * (-(m : Int) - 1)) rfl rfl (by show sgnI (subW ((org + 0) % 4294967296) ((org + (m * 4 + 4)) % 4294967296)) = _; unfold sgnI subW; split <;> omega) t1 ?_
      rw [t2]
      exact enc_jal 0 _ (by omega) (by unfold fitL; rw [e22]; simp only [Bool.or_eq_true, decide_eq_true_eq]; omega)
    · obtain ⟨t1, t2⟩ := tm4 ((n : Int) + 1)
      refine tgt_Q (op := 40) (sh := [114, 118]) (i := ⟨40, 3, 0, 0, (org + (m * 4 + 4 + 4 + 4 + n * 4)) % 4294967296⟩) (far := 4 * ((n : Int) + 1)) rfl rfl (by show sgnI (subW ((org + (m * 4 + 4 + 4 + 4 + n * 4)) % 4294967296) ((org + (m * 4 + 4 + 4)) % 4294967296)) = _; unfold sgnI subW; split <;> omega) t1 ?_
      rw [t2]
      exact enc_jal 3 _ (by omega) (by unfold fitL; rw [e22]; simp only [Bool.or_eq_true, decide_eq_true_eq]; omega)
end Go.Proofs.YtkaepknpplhgkaaGreatDoor
