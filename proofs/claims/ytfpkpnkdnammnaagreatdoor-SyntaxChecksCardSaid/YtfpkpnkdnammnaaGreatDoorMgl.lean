/- The law of Equal. -/
import Derived.Test.YtfpkpnkdnammnaaGreatDoorMgX
import Derived.Test.YtfpkpnkdnammnaaGreatDoorLwZ
import Derived.Test.YtfpkpnkdnammnaaGreatDoorSs1
namespace Go.Proofs.YtfpkpnkdnammnaaGreatDoor
open Go.RowKit
theorem hdG_par (l:List Int):∀(n:Nat) (acc:List Fn) (a:Nat),(∀f∈acc,f.params.length≤4)→∀f∈(hdG l n acc a).1,f.params.length≤4
 | 0,_,_,h=>h
 | n+1,acc,a,h=>by
  rw[hdG_step];refine hdG_par l n _ _ fun f hf=>?_;rcases List.mem_append.1 hf with hf|hf
  ·exact h f hf
  ·have:f=⟨sQ.getD acc.length [],uK.take (if acc.length=0 then 0 else nxV l a 5),[]⟩:=by simpa using hf
   subst this;show (uK.take _).length≤4;rw[List.length_take];exact Nat.min_le_right _ _
theorem bdG_par (l:List Int) (fs:List Fn) (hfs:∀f∈fs,f.params.length≤4):∀(n:Nat) (acc:List Fn) (a:Nat),(∀f∈acc,f.params.length≤4∧f.body.length≤10)→∀f∈(bdG l fs n acc a).1,f.params.length≤4∧f.body.length≤10
 | 0,_,_,h=>h
 | n+1,acc,a,h=>by
  rw[bdG_step];refine bdG_par l fs hfs n _ _ fun f hf=>?_;rcases List.mem_append.1 hf with hf|hf
  ·exact h f hf
  ·have:=List.mem_singleton.1 hf;subst this;refine⟨?_,stsG_len 3 _⟩;show (fs.getD acc.length wJ).params.length≤4;rw[List.getD_eq_getElem?_getD]
   cases hi:fs[acc.length]? with
   | none=>exact Nat.zero_le _
   | some g=>exact hfs g (List.mem_of_getElem? hi)
theorem bdG_len (l:List Int) (fs:List Fn):∀(n:Nat) (acc:List Fn) (a:Nat),(bdG l fs n acc a).1.length=acc.length+n
 | 0,_,_=>rfl
 | n+1,acc,a=>by rw[bdG_step,bdG_len l fs n,List.length_append];simp;omega
theorem madeL_len (l:List Int):1≤(vB l).length∧(vB l).length≤4:=by
 have hv4:nxV l 0 4<4:=wP _ _ (by decide);have h:(vB l).length=0+(1+nxV l 0 4):=bdG_len l _ _ [] _;omega
theorem madeL_size (l:List Int):(vB l).length≤1000000∧∀f∈vB l,f.params.length≤1000000∧f.body.length≤1000000 :=
 ⟨Nat.le_trans (madeL_len l).2 (by decide),fun f hf=>by
  have:=bdG_par l _ (hdG_par l (1+nxV l 0 4) [] (nxA l 0) (fun _ h=>by cases h)) (1+nxV l 0 4) [] _ (fun _ h=>by cases h) f hf
  omega⟩
theorem made_z {l:List Int} {lA:Option Addr} {lc:Nat} {F:Nat→Prop} {w_0 w:World} (hl:l.length≤9223372036854775807) (h:RdF F lA (rV l) w_0) (hx:Ext w_0 w):Calls Tryz.prog 19 #[.slice lA l.length lc] w fun e w'=>∃i:Option Addr×Nat,e=.returned (.agg [Value.slice i.1 (vB l).length i.2].toArray)∧Ext w w'∧PgK (fun _=>True) w' (vB l) i.1 i.2 :=
 (made_walk l lA lc hl F w (RdF.lies.ext h hx)).mono fun _ _ ⟨A,cap,e1,e2,e3⟩=>⟨(A,cap),e1,e2,PgK.lies.mono (fun _ _=>trivial) e3⟩
theorem turned_z {fs:List Fn} {K n q:Int} (hn1:-9223372036854775808≤n) (hn2:n≤9223372036854775807) {A:Option Addr} {c:Nat} {v w:World} (h:PgK (fun _=>True) v fs A c) (hs:xK (fun _=>True) v w) (hz:fs.length≤1000000∧∀f∈fs,f.params.length≤1000000∧f.body.length≤1000000):Calls Tryz.prog 22 #[.agg [Value.slice A fs.length c].toArray,.agg [Value.int .i64 K,.int .i64 n,.int .i64 q].toArray] w fun e w'=>∃i:Option Addr×Nat,e=.returned (.agg [Value.slice i.1 (vY fs K n q).length i.2].toArray)∧Ext w w'∧PgK (fun _=>True) w' (vY fs K n q) i.1 i.2 :=
 (turned_any fs K n q hn1 hn2 _ A c w (hs.get PgK.lies h) hz.1 hz.2).mono fun _ _ ⟨A,cap,e1,e2,e3⟩=>⟨(A,cap),e1,e2,PgK.lies.mono (fun _ _=>trivial) e3⟩
end Go.Proofs.YtfpkpnkdnammnaaGreatDoor
