import Derived.Test.YtkaepknpplhgkaaGreatDoorMak
import Derived.Test.YtkaepknpplhgkaaGreatDoorMah
import Derived.Test.YtkaepknpplhgkaaGreatDoorMal
namespace Go.Proofs.YtkaepknpplhgkaaGreatDoor
open Go.RowKit
end Go.Proofs.YtkaepknpplhgkaaGreatDoor
namespace Go.Proofs.YtkaepknpplhgkaaGreatDoor
open Go.RowKit
end Go.Proofs.YtkaepknpplhgkaaGreatDoor
namespace Go.Proofs.YtkaepknpplhgkaaGreatDoor
open Go.RowKit
theorem vZ (n:Int) (h0:0≤n) (h1:n<100) (w_0:World):Calls Tryz.prog 71 #[.int .i64 n] w_0 fun e w'=>e=.returned (.string ⟨(rgB n).toArray⟩)∧Ext w_0 w':=by
 have hn:n.toNat<4294967296:=by omega
 have hl:(Lib.decDigits n.toNat).length≤10:=uP (k:=10) (by omega) (by decide);have e:IntKind.u32.wrap n=((n.toNat:Nat):Int):=by rw[u32w];omega
 refine zM (args:=[.int .i64 n]) Tryz.func71 M 7 M (Jy M)<|Z1 0 M<|zU (H':=Hp (fun _=>False) w_0 [] [] (fun _=>True)) (fun u hu=>?_) ?_
 ·subst hu;exact Hp.start0
 refine zX<|zZ<|Za M M<|ZX<|zZ<|Zm M M ?_
 refine ZF M (yQ M (by kernel_rfl) Tryz.underlying22 e) ?_
 refine zE .none M  (v:=.string ⟨(Lib.decDigits n.toNat).toArray⟩) (by kernel_rfl) M (fun w hw=>tF n.toNat hn w) ?_;refine ZF M (zB M M (by (show 1+(Lib.decDigits n.toNat).length≤_;omega))) ?_;refine Za M M<|ZT<|zS<|zQ M M (fun w hw=>?_);exact⟨rfl,hw.ext0⟩
end Go.Proofs.YtkaepknpplhgkaaGreatDoor
