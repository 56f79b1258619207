import Derived.Test.YtfpkpnkdnammnaaGreatDoorMgX
import Derived.Test.YtfpkpnkdnammnaaGreatDoorMgz
import Derived.Test.YtfpkpnkdnammnaaGreatDoorSs1
import Derived.Test.YtfpkpnkdnammnaaGreatDoorMgO
import Derived.Test.YtfpkpnkdnammnaaGreatDoorMgN
import Derived.Test.YtfpkpnkdnammnaaGreatDoorMgr
namespace Go.Proofs.YtfpkpnkdnammnaaGreatDoor
open Go.RowKit
theorem bdG_len (l:List Int) (fs:List Fn):∀(n:Nat) (acc:List Fn) (a:Nat),(bdG l fs n acc a).1.length=acc.length+n
 | 0,_,_=>rfl
 | n+1,acc,a=>by rw[bdG_step,bdG_len l fs n,Ji];simp;omega
theorem madeL_len (l:List Int):1≤(wI l).length∧(wI l).length≤4:=by
 have hv4:nxV l 0 4<4:=wU _ _ (by decide);have h:(wI l).length=0+(1+nxV l 0 4):=bdG_len l _ _ [] _;omega
theorem made_z {l:List Int}{lA:Option Addr}{lc:Nat}{F:Nat→Prop}{w_0 w:World}(hl:l.length≤9223372036854775807) (h:RdF F lA (qC l) w_0) (hx:Ext w_0 w):Calls Tryz.prog 19 #[.slice lA l.length lc] w fun e w'=>∃i:Option Addr×Nat,e=.returned (.agg [Value.slice i.1 (wI l).length i.2].toArray)∧Ext w w'∧PgK (fun _=>True) w' (wI l) i.1 i.2 :=
 (made_walk l lA lc hl F w (RdF.lies.ext h hx)).mono fun _ _ ⟨A,cap,e1,e2,e3⟩=>⟨(A,cap),e1,e2,PgK.lies.mono (fun _ _=>trivial) e3⟩
end Go.Proofs.YtfpkpnkdnammnaaGreatDoor
namespace Go.Proofs.YtfpkpnkdnammnaaGreatDoor
open Go.RowKit
end Go.Proofs.YtfpkpnkdnammnaaGreatDoor
namespace Go.Proofs.YtfpkpnkdnammnaaGreatDoor
open Go.RowKit
theorem rprint_sml {fs:List Fn}(h:∀f∈fs,Sml f) (hl:fs.length≤4) (F:Nat→Prop) (A:Option Addr) (c:Nat) (w:World) (hP:PgK F w fs A c):Calls Tryz.prog 18 #[.agg [Value.slice A fs.length c].toArray] w fun e w'=>e=.returned (.string ⟨(xE fs).toArray⟩)∧Ext w w' :=
 rprint_any fs F A c w (fun f hf=>(h f hf).u) (fun f hf=>by
  have h2:=(h f hf).z;have h3:=stNs_z 1 f.body
  omega) (print_z h hl) hP
end Go.Proofs.YtfpkpnkdnammnaaGreatDoor
