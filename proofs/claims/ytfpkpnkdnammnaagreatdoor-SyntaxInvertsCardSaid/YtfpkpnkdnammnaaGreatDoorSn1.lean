/- Decimal numbers in a source, plainly. -/
import Derived.Test.YtfpkpnkdnammnaaGreatDoorMgI
namespace Go.Proofs.YtfpkpnkdnammnaaGreatDoor
open Go.RowKit
theorem dig_blank {c:UInt8}(h:uF c=true):vD c=false:=by
 unfold uF tK at h;unfold vD blaQ;simp only[Bool.and_eq_true,decide_eq_true_eq] at h;simp;omega
theorem decL_snoc (l:Bs) (d:UInt8):decL (l++[d])=10*decL l+(d.toNat-48):=by simp[decL]
theorem digit_nat {n:Nat}(h:n<10):(UInt8.ofNat (48+n)).toNat=48+n:=by
 rw[UInt8.toNat_ofNat'];omega
theorem digit_ok {n:Nat}(h:n<10):uF (UInt8.ofNat (48+n))=true:=by
 have:∀i:Fin 10,uF (UInt8.ofNat (48+i.val))=true:=by decide
 exact this ⟨n,h⟩
theorem dec_step {u:Nat}(h:¬u<10):Lib.decDigits u=Lib.decDigits (u/10)++[UInt8.ofNat (48+u%10)]:=by rw[Lib.decDigits,dif_neg h]
theorem decL_dec:∀u:Nat,decL (Lib.decDigits u)=u∧∀c∈Lib.decDigits u,uF c=true:=by
 intro u
 induction u using Nat.strongRecOn with
 | _ u ih =>
  by_cases h:u<10
  ·rw[dd1 h];refine⟨?_,fun c hc=>?_⟩
   ·show 10*0+((UInt8.ofNat (48+u)).toNat-48)=u;rw[digit_nat h];omega
   ·rw[List.mem_singleton] at hc;subst hc;exact digit_ok h
  ·obtain⟨i1,i2⟩:=ih (u/10) (by omega);rw[dec_step h];refine⟨?_,fun c hc=>?_⟩
   ·rw[decL_snoc,i1,digit_nat (by omega)];omega
   ·rcases List.mem_append.1 hc with hc|hc
    ·exact i2 c hc
    ·rw[List.mem_singleton] at hc;subst hc;exact digit_ok (by omega)
theorem dec_ne (u:Nat):Lib.decDigits u≠[]:=by
 by_cases h:u<10
 ·rw[dd1 h];simp
 ·rw[dec_step h];simp
end Go.Proofs.YtfpkpnkdnammnaaGreatDoor
