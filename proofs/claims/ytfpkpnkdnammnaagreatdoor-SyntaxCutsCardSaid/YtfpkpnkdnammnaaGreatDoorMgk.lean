import Derived.Test.YtfpkpnkdnammnaaGreatDoorMgw
import Derived.Test.YtfpkpnkdnammnaaGreatDoorMgO
import Derived.Test.YtfpkpnkdnammnaaGreatDoorMgz
import Derived.Test.YtfpkpnkdnammnaaGreatDoorMgU
namespace Go.Proofs.YtfpkpnkdnammnaaGreatDoor
mutual
def stDp:St→Nat
 | .mk _ _ _ b c=>1+max (stDps b) (stDps c)
def stDps:List St→Nat
 | []=>0
 | x::l=>max (stDp x) (stDps l)
end
mutual
def stXd:St→Nat
 | .mk _ _ es b c=>max (max (stXds b) (stXds c)) (exDs es)
def stXds:List St→Nat
 | []=>0
 | x::l=>max (stXd x) (stXds l)
end
mutual
theorem stBad_iff:∀(x:St) (d:Nat),1≤d→(stBad d x=true↔8<d-1+stDp x∨8<stXd x)
 | .mk k s es b c,d,hd=>by
  have h1:=stsBad_iff b (d+1) (by omega);have h2:=stsBad_iff c (d+1) (by omega);simp only[stBad,Bool.or_eq_true,Kn,h1,h2,stDp,stXd];omega
theorem stsBad_iff:∀(l:List St) (d:Nat),1≤d→(stsBad d l=true↔(0<stDps l∧8<d-1+stDps l)∨8<stXds l)
 | [],d,hd=>by simp[stsBad,stDps,stXds]
 | x::l,d,hd=>by
  have h1:=stBad_iff x d hd;have h2:=stsBad_iff l d hd;have h3:1≤stDp x:=by cases x;simp only[stDp];omega
  simp only[stsBad,Bool.or_eq_true,h1,h2,stDps,stXds];omega
end
def orE (a b:Nat):Nat:=if a≠0 then a else b
theorem failC_or (e a b:Nat):vM (vM e a) b=vM e (orE a b):=by
 unfold vM orE
 by_cases h:e=0
 ·subst h;by_cases h2:a=0<;>simp[h2]
 ·simp[h]
mutual
def rkE (fs:List Fn) (nm:List Bs):Ex→Nat
 | .mk k _ s kids=>if k=2∧s∉nm then 21 else if k=3∧tG fs s<0 then 21 else if k=3∧(fs.getD (tG fs s).toNat noFn).params.length≠kids.length then 23 else rkEs fs nm kids
def rkEs (fs:List Fn) (nm:List Bs):List Ex→Nat
 | []=>0
 | x::l=>orE (rkE fs nm x) (rkEs fs nm l)
end
mutual
theorem erE_rk (fs:List Fn) (nm:List Bs):∀(x:Ex) (e:Nat),erE fs nm x e=vM e (rkE fs nm x)
 | .mk k n s kids,e=>by
  have h:=erEs_rk fs nm kids;rw[erE,rkE,h]
  by_cases h2:k=2
  ·subst h2
   by_cases hm:s∈nm
   ·simp[hm]
   ·simp[hm,vM];split<;>simp_all
  ·by_cases h3:k=3
   ·subst h3
    by_cases hf:tG fs s<0
    ·simp[hf,vM];split<;>simp_all
    ·by_cases hp:(fs.getD (tG fs s).toNat noFn).params.length≠kids.length
     ·rw[Ko h2,Kp rfl,Ko hf,Kp hp,Ko (by simp),Ko (by simp[hf]),Kp ⟨rfl,hp⟩];simp[vM];split<;>simp_all
     ·rw[Ko h2,Kp rfl,Ko hf,Ko hp,Ko (by simp),Ko (by simp[hf]),Ko (by simp only[true_and];exact hp)]
   ·rw[Ko h2,Ko h3,Ko (by simp[h2]),Ko (by simp[h3]),Ko (by simp[h3])]
theorem erEs_rk (fs:List Fn) (nm:List Bs):∀(l:List Ex) (e:Nat),erEs fs nm l e=vM e (rkEs fs nm l)
 | [],e=>by rw[erEs,rkEs];unfold vM;split<;>simp_all
 | x::l,e=>by rw[erEs,rkEs,erEs_rk fs nm l,erE_rk fs nm x,failC_or]
end
mutual
def rkS (fs:List Fn):St→List Bs→List Bs×Nat
 | .mk k s es b c,nm =>
  if k=2∧s∉nm then (nm,21)
  else if k=1∧s∈nm then (nm,orE (rkEs fs nm es) 22)
  else if rkEs fs nm es≠0 then (nm,rkEs fs nm es)
  else if (rkB fs b (if k=1 then nm++[s] else nm)).2≠0 then rkB fs b (if k=1 then nm++[s] else nm)
  else rkB fs c (rkB fs b (if k=1 then nm++[s] else nm)).1
def rkB (fs:List Fn):List St→List Bs→List Bs×Nat
 | [],nm=>(nm,0)
 | x::l,nm=>if (rkS fs x nm).2≠0 then rkS fs x nm else rkB fs l (rkS fs x nm).1
end
def rkP:List Bs→List Bs→Nat
 | _,[]=>0
 | nm,x::l=>if x∈nm then 22 else rkP (nm++[x]) l
def manyF (f:Fn):Prop:=4<f.params.length∨12<f.params.length+stVs f.body∨400<stNs f.body∨8<stDps f.body∨8<stXds f.body
instance (f:Fn):Decidable (manyF f):=by unfold manyF;exact inferInstance
end Go.Proofs.YtfpkpnkdnammnaaGreatDoor
namespace Go.Proofs.YtfpkpnkdnammnaaGreatDoor
open Go.RowKit
end Go.Proofs.YtfpkpnkdnammnaaGreatDoor
namespace Go.Proofs.YtfpkpnkdnammnaaGreatDoor
open Go.RowKit
theorem stDps_app:∀(l m:List St),stDps (l++m)=max (stDps l) (stDps m)
 | [],m=>by simp[stDps]
 | x::l,m=>by simp only[List.cons_append,stDps,stDps_app l m];omega
theorem stXds_app:∀(l m:List St),stXds (l++m)=max (stXds l) (stXds m)
 | [],m=>by simp[stXds]
 | x::l,m=>by simp only[List.cons_append,stXds,stXds_app l m];omega
mutual
theorem stDp_le:∀x:St,stDp x≤stN x
 | .mk k s es b c=>by
  have h1:=stDps_le b;have h2:=stDps_le c;simp only[stDp,stN];omega
theorem stDps_le:∀l:List St,stDps l≤stNs l
 | []=>by simp[stDps,stNs]
 | x::l=>by
  have h1:=stDp_le x;have h2:=stDps_le l;simp only[stDps,stNs];omega
end
mutual
theorem stV_le:∀x:St,stV x≤stN x
 | .mk k s es b c=>by
  have h1:=stVs_le b;have h2:=stVs_le c;simp only[stV,stN];split<;>omega
theorem stVs_le:∀l:List St,stVs l≤stNs l
 | []=>by simp[stVs,stNs]
 | x::l=>by
  have h1:=stV_le x;have h2:=stVs_le l;simp only[stVs,stNs];omega
end
end Go.Proofs.YtfpkpnkdnammnaaGreatDoor
namespace Go.Proofs.YtfpkpnkdnammnaaGreatDoor
open Go.RowKit
end Go.Proofs.YtfpkpnkdnammnaaGreatDoor
namespace Go.Proofs.YtfpkpnkdnammnaaGreatDoor
open Go.RowKit
theorem rkB_app (fs:List Fn):∀(a b:List St) (nm:List Bs),rkB fs (a++b) nm=if (rkB fs a nm).2≠0 then rkB fs a nm else rkB fs b (rkB fs a nm).1
 | [],b,nm=>by simp[rkB]
 | x::a,b,nm=>by
  have ih:=rkB_app fs a b (rkS fs x nm).1;simp only[List.cons_append,rkB]
  by_cases h:(rkS fs x nm).2=0
  ·simpa [h] using ih
  ·simp[h]
end Go.Proofs.YtfpkpnkdnammnaaGreatDoor
namespace Go.Proofs.YtfpkpnkdnammnaaGreatDoor
open Go.RowKit
end Go.Proofs.YtfpkpnkdnammnaaGreatDoor
