import Derived.Test.YtfpkpnkdnammnaaGreatDoorMgS
import Derived.Laws.Concat
import Derived.Laws.Strings
import Derived.Laws.Strings2
import Derived.Laws.IdiomStrings
import Derived.Lib.ItoaNum
namespace Go.Proofs.YtfpkpnkdnammnaaGreatDoor
open Go.RowKit
section
variable {P:Program}{n:Nat}{m:List (Nat×Value)}{ty:TypeId}{G B:Nat→Prop}{w0:World}{L:List (Nat×Obj)}{R:List Rw}{X:World→Prop}
theorem zF {H:World→Prop}{x y:Operand}{t t':TypeId}{a b:List UInt8}(hx:ev m x=some (.string ⟨a.toArray⟩)) (hy:ev m y=some (.string ⟨b.toArray⟩)) (hl:a.length+b.length≤9223372036854775807):YF P (.binOp .add t x y t') ty n m H (.string ⟨(a++b).toArray⟩):=fun _ w d pos af g hs hw=>by
 have:=run_string_add_sum (P:=P) w ⟨a.toArray⟩ ⟨b.toArray⟩ (by simpa [ByteArray.size] using hl);rw[ByteArray.mk_append_mk] at this;simp[Yl,execOp,hs.ev hx,hs.ev hy,binOp,eqGuard_add,this]
theorem xU {H:World→Prop}{x y:Operand}{t t':TypeId}{a b:List UInt8}(hx:ev m x=some (.string ⟨a.toArray⟩)) (hy:ev m y=some (.string ⟨b.toArray⟩)) (_ht:P.underlying t=some .string):YF P (.binOp .eql t x y t') ty n m H (.bool (decide (a=b))):=fun _ w d pos af g hs hw=>by
 have e:decide (a=b)=(((⟨a.toArray⟩:ByteArray).toList)==((⟨b.toArray⟩:ByteArray).toList)):=by
  rw[ByteArray.toList_eq,ByteArray.toList_eq,Jl];simp
 rw[e];simp[Yl,execOp,hs.ev hx,hs.ev hy,binOp,eqGuard_at_string,Op.stringOp]
theorem yf_strSlice {H:World→Prop}{x lo hi:Operand}{t:TypeId}{k k':IntKind}{i j:Int}{l c:List UInt8}(hx:ev m x=some (.string ⟨l.toArray⟩)) (hlo:ev m lo=some (.int k i)) (hhi:ev m hi=some (.int k' j)) (ht:P.underlying t=some .string) (h0:0≤i) (h1:i≤j) (h2:j≤l.length) (hc:(l.drop i.toNat).take (j.toNat-i.toNat)=c):YF P (.slice t x (some lo) (some hi) none) ty n m H (.string ⟨c.toArray⟩):=fun _ w d pos af g hs hw=>by
 have:=run_slice_string (P:=P) w t ⟨l.toArray⟩ k k' i j ht h0 h1 (by simpa [ByteArray.size] using h2);rw[ByteArray.extract_mk,hc] at this;simp[Yl,execOp,hs.ev hx,hs.ev hlo,hs.ev hhi,Instr.sliceAt,run_underlying ht,this]
theorem yf_convL {x:Operand}{src dst e:TypeId}{g o len cap T:Nat}{cs:List Value}(k:Nat) (l:List UInt8) (hx:ev m x=some (.slice (some ⟨g,o,none⟩) len cap)) (hk:L[k]? = some (g,bk T cs)) (hs':P.underlying src=some (.slice e)) (he:P.underlying e=some (.int .u8)) (hd:P.underlying dst=some .string) (hl:l.length=len) (hc:∀j (hj:j<l.length),cs[o+j]? = some (.int .u8 (l[j].toNat:Int))) :
  YF P (.convert src dst x) ty n m (HpG G B w0 L R X) (.string ⟨l.toArray⟩):=fun _ w d pos af gd hs hw=>by
 subst hl
 have:=run_convert_bytes_back (P:=P) w src dst e ⟨g,o,none⟩ cap l hs' he hd (fun j hj=>by
  have e:(⟨g,o,none⟩:Addr).add j=⟨g,o+j,none⟩:=by unfold Addr.add;split<;>simp_all
  rw[e];exact hw.cell hk (hc j hj))
 simp[Yl,execOp,hs.ev hx,this]
theorem nf_makeMap {t:TypeId}:NF P (.makeMap t none) ty n m (.map #[] 0) (fun g=>.map (some g)):=fun a w d pos af g hs=>by
 simp[execOp,run_makeMap]
end
def decPre (u:Nat):List UInt8:=if u<10 then [] else Lib.decDigits (u/10)
def digC (u:Nat):UInt8:=UInt8.ofNat (48+u%10)
theorem dec_pre (u:Nat):Lib.decDigits u=decPre u++[digC u]:=by
 unfold decPre digC;rw[Lib.decDigits]
 split
 ·rename_i h;rw[Nat.mod_eq_of_lt h];rfl
 ·rfl
theorem pre_step {u:Nat}(h:10≤u):decPre u=decPre (u/10)++[digC (u/10)]:=by
 rw[← dec_pre,decPre,Ko (by omega)]
theorem dec_len {u k:Nat}(h:u<10 ^ k) (hk:1≤k):(Lib.decDigits u).length≤k:=by
 induction k generalizing u with
 | zero=>omega
 | succ k ih =>
  rw[Lib.decDigits]
  split
  ·simp
  ·rename_i h10;rw[Ji,List.length_singleton];rcases Nat.eq_zero_or_pos k with rfl|hk0
   ·simp at h;omega
   ·have:=ih (u:=u/10) (by rw[Nat.pow_succ] at h;omega) hk0;omega
end Go.Proofs.YtfpkpnkdnammnaaGreatDoor
