import Derived.Test.YtkaepknpplhgkaaGreatDoorMah
namespace Go.Proofs.YtkaepknpplhgkaaGreatDoor
end Go.Proofs.YtkaepknpplhgkaaGreatDoor
namespace Go.Proofs.YtkaepknpplhgkaaGreatDoor
end Go.Proofs.YtkaepknpplhgkaaGreatDoor
namespace Go.Proofs.YtkaepknpplhgkaaGreatDoor
open Go.RowKit
theorem arith_rf (w_0:World):Calls Tryz.prog 25 #[] w_0 (NmPost ariL w_0):=by
 refine zH (args:=[]) Tryz.func25 M 2 M (Kc M)<|yL (.nil)<|zR (H':=Hp (fun _=>False) w_0 [] [] (fun _=>True)) (fun u hu=>?_) ?_
 ·subst hu;exact Hp.start0
 refine zX<|zZ<|Za M M<|ZX<|zZ<|zC .none M (tR (z:=Jg) M M M M U59 (by kernel_rfl) (by kernel_rfl) M M) (fun b1=>?_);refine Za M M<|ZT<|zQ<|zO M M (fun w hw=>?_);exact⟨b1,trivial,rfl,hw.ext0,HpG.mineL (j:=0) hw M id,HpG.blk hw (k:=0) rfl⟩
theorem mem_rf (w_0:World):Calls Tryz.prog 26 #[] w_0 (NmPost accL w_0):=by
 refine zH (args:=[]) Tryz.func26 M 2 M (Kc M)<|yL (.nil)<|zR (H':=Hp (fun _=>False) w_0 [] [] (fun _=>True)) (fun u hu=>?_) ?_
 ·subst hu;exact Hp.start0
 refine zX<|zZ<|Za M M<|ZX<|zZ<|zC .none M (tR (z:=Jg) M M M M U59 (by kernel_rfl) (by kernel_rfl) M M) (fun b1=>?_);refine Za M M<|ZT<|zQ<|zO M M (fun w hw=>?_);exact⟨b1,trivial,rfl,hw.ext0,HpG.mineL (j:=0) hw M id,HpG.blk hw (k:=0) rfl⟩
theorem oS (n:Nat):tJ n true=uO n:=by
 unfold tJ uO
 split
 ·rfl
 ·rw[Ae rfl]
end Go.Proofs.YtkaepknpplhgkaaGreatDoor
