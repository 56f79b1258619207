import Derived.Test.YtfpkpnkdnammnaaGreatDoorSs1
namespace Go.Proofs.YtfpkpnkdnammnaaGreatDoor
open Go.RowKit
structure EE2 (F:Nat→Prop) (w:World) (a b:List Ex) (A B:Option Addr) (c d:Nat):Prop where
 ka:Cp a.length c∧∃x,RdF F A x w∧ExsV F w a x
 kb:Cp b.length d∧∃x,RdF F B x w∧ExsV F w b x
theorem EE2.lies {a b:List Ex}{A B:Option Addr}{c d:Nat}:Lies fun F w=>EE2 F w a b A B c d :=
 ⟨fun hk ⟨⟨p1,x,h1,h2⟩,⟨p2,y,h3,h4⟩⟩=>⟨⟨p1,x,RdF.lies.foot hk h1,ExsV.lies.foot hk h2⟩,⟨p2,y,RdF.lies.foot hk h3,ExsV.lies.foot hk h4⟩⟩,fun ⟨⟨p1,x,h1,h2⟩,⟨p2,y,h3,h4⟩⟩=>⟨⟨p1,x,RdF.lies.lt h1,ExsV.lies.lt h2⟩,⟨p2,y,RdF.lies.lt h3,ExsV.lies.lt h4⟩⟩,fun hF ⟨⟨p1,x,h1,h2⟩,⟨p2,y,h3,h4⟩⟩=>⟨⟨p1,x,RdF.lies.mono hF h1,ExsV.lies.mono hF h2⟩,⟨p2,y,RdF.lies.mono hF h3,ExsV.lies.mono hF h4⟩⟩⟩
structure SS2 (F:Nat→Prop) (w:World) (a b:List St) (A B:Option Addr) (c d:Nat):Prop where
 ka:wQ F w a A c
 kb:wQ F w b B d
theorem SS2.lies {a b:List St}{A B:Option Addr}{c d:Nat}:Lies fun F w=>SS2 F w a b A B c d :=
 ⟨fun hk ⟨a,b⟩=>⟨wQ.lies.foot hk a,wQ.lies.foot hk b⟩,fun ⟨a,b⟩=>⟨wQ.lies.lt a,wQ.lies.lt b⟩,fun hF ⟨a,b⟩=>⟨wQ.lies.mono hF a,wQ.lies.mono hF b⟩⟩
end Go.Proofs.YtfpkpnkdnammnaaGreatDoor
namespace Go.Proofs.YtfpkpnkdnammnaaGreatDoor
open Go.RowKit
theorem mod_eq (n k:Int) (hk:0<k):(n.tmod k+k).tmod k=n%k∧-k<n.tmod k∧n.tmod k<k:=by
 have h3:=Int.emod_nonneg n (Int.ne_of_gt hk);have h4:=Int.emod_lt_of_pos n hk;have hn:(k.natAbs:Int)=k:=Int.natAbs_of_nonneg (Int.le_of_lt hk);have e:=Int.tmod_eq_emod (a:=n) (b:=k)
 have h5:n.tmod k=n%k∨(n.tmod k=n%k-k∧¬k ∣ n):=by
  by_cases hc:0≤n∨k ∣ n
  ·rw[Kp hc] at e;exact .inl (by omega)
  ·rw[Ko hc,hn] at e;exact .inr ⟨e,fun hd=>hc (.inr hd)⟩
 have hb:-k<n.tmod k∧n.tmod k<k:=by
  rcases h5 with h5|⟨h5,hd⟩
  ·omega
  ·have:n%k≠0:=fun h=>hd (Int.dvd_of_emod_eq_zero h);omega
 refine⟨?_,hb⟩;rw[Int.tmod_eq_emod_of_nonneg (by omega)];rcases h5 with h5|⟨h5,_⟩
 ·rw[h5,Int.add_emod_right,Int.emod_emod_of_dvd n (Int.dvd_refl k)]
 ·rw[h5,Int.sub_add_cancel,Int.emod_emod_of_dvd n (Int.dvd_refl k)]
theorem mod_any (n k:Int) (hk:0<k) (hk2:k≤1000000) (w_0:World):Calls Tryz.prog 20 #[.int .i64 n,.int .i64 k] w_0 fun e w'=>e=.returned (.int .i64 (n%k))∧Ext w_0 w':=by
 obtain⟨h1,h2,h3⟩:=mod_eq n k hk;refine yV (args:=[.int .i64 n,.int .i64 k]) Tryz.func20 V 12 V (Jn V)<|Z2 0 1 V V<|zD (H':=Hp (fun _=>False) w_0 [] [] (fun _=>True)) (fun u hu=>?_) ?_
 ·subst hu;exact Hp.start0
 refine zY<|zX<|Za V V<|ZX<|zX<|Zm V V<|Zm V V<|ZF V (yf_rem V V (by omega) V) ?_;refine Zm V V<|ZF V (yI V V (i64_in (n.tmod k+k) (by omega) (by omega))) ?_;refine Zm V V<|ZF V (yf_rem V V (by omega) h1) ?_;refine Za V V<|ZT<|zK<|zI V V (fun w hw=>?_);exact⟨rfl,(Jq hw).ext⟩
end Go.Proofs.YtfpkpnkdnammnaaGreatDoor
