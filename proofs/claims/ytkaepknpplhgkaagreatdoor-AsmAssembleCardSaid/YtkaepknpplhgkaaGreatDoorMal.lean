import Derived.Test.YtkaepknpplhgkaaGreatDoorMah
namespace Go.Proofs.YtkaepknpplhgkaaGreatDoor
theorem nm_ari:nmB 1 15 (fun k=>ariL.getD k []) [114,118] (fun k=>.k (.arith k) .value)=true:=by kernel_rfl
end Go.Proofs.YtkaepknpplhgkaaGreatDoor
namespace Go.Proofs.YtkaepknpplhgkaaGreatDoor
end Go.Proofs.YtkaepknpplhgkaaGreatDoor
namespace Go.Proofs.YtkaepknpplhgkaaGreatDoor
open Go.RowKit
theorem arith_rf (w_0:World):Calls Tryz.prog 25 #[] w_0 (NmPost ariL w_0):=by
 refine zN (args:=[]) Tryz.func25 M 2 M (Kh M)<|yJ (.nil)<|Z0<|zX<|zZ<|Za M M<|ZX<|zZ<|zA .none M (tX (z:=Jg) M M M M U59 (by kernel_rfl) (by kernel_rfl) M M) fun b1=>Za M M<|ZU M M fun w hw=>⟨b1,trivial,rfl,hw.ext0,HpG.mineL (j:=0) hw M id,HpG.blk hw (k:=0) rfl⟩
theorem mem_rf (w_0:World):Calls Tryz.prog 26 #[] w_0 (NmPost accL w_0):=by
 refine zN (args:=[]) Tryz.func26 M 2 M (Kh M)<|yJ (.nil)<|Z0<|zX<|zZ<|Za M M<|ZX<|zZ<|zA .none M (tX (z:=Jg) M M M M U59 (by kernel_rfl) (by kernel_rfl) M M) fun b1=>Za M M<|ZU M M fun w hw=>⟨b1,trivial,rfl,hw.ext0,HpG.mineL (j:=0) hw M id,HpG.blk hw (k:=0) rfl⟩
end Go.Proofs.YtkaepknpplhgkaaGreatDoor
