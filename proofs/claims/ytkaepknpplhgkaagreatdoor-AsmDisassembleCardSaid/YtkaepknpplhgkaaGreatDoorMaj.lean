import Derived.Test.YtkaepknpplhgkaaGreatDoorMai
import Derived.Test.YtkaepknpplhgkaaGreatDoorMah
namespace Go.Proofs.YtkaepknpplhgkaaGreatDoor
open Go.RowKit
theorem short_any (s:Bs) (hs:s.length≤9223372036854775807) (k:Nat) (hk:k≤1000000000) (w_0:World):Calls Tryz.prog 16 #[.string ⟨s.toArray⟩,.int .i64 k] w_0 fun e w'=>e=.returned (.string ⟨(s.take k).toArray⟩)∧Ext w_0 w':=by
 refine zH (args:=[.string ⟨s.toArray⟩,.int .i64 k]) Tryz.func16 M 11 M (Kc M)<|Z2 0 1 M M<|zR (H':=Hp (fun _=>False) w_0 [] [] (fun _=>True)) (fun u hu=>?_) ?_
 ·subst hu;exact Hp.start0
 refine zX<|zZ<|Za rfl rfl<|ZX<|zZ<|Zm rfl rfl<|Zm rfl rfl<|ZF rfl (wV rfl U9)<|Zm rfl rfl<|ZF rfl (yf_min rfl rfl)<|ZF rfl (yf_strHi (c:=s.take k) rfl rfl Tryz.underlying9 (by split<;>omega) (by split<;>omega) (by split<;>first|(rw[Int.toNat_natCast,List.take_of_length_le (Ab s.length),List.take_of_length_le (show s.length≤k by omega)])|rw[Int.toNat_natCast])) ?_;refine Za M M<|ZT<|zQ<|zO M M (fun w hw=>?_);exact⟨rfl,hw.ext0⟩
end Go.Proofs.YtkaepknpplhgkaaGreatDoor
namespace Go.Proofs.YtkaepknpplhgkaaGreatDoor
end Go.Proofs.YtkaepknpplhgkaaGreatDoor
namespace Go.Proofs.YtkaepknpplhgkaaGreatDoor
open Go.RowKit
section
variable {n:Fr}{m:List (Nat×Value)}{B:Nat→Prop}{w0:World}{L:List (Nat×Obj)}{R:List Rw}{X:World→Prop}
end
section
variable {P:Program}{n:Fr}{m:List (Nat×Value)}{ty:TypeId}{G B:Nat→Prop}{w0 w:World}{L:List (Nat×Obj)}{R:List Rw}{X J:World→Prop}{Q:Exit→Act→World→Prop}{ops:Array Oper}{σ:List Nat}
end
section
variable {n:Fr}{m:List (Nat×Value)}{G B:Nat→Prop}{w0 w:World}{L:List (Nat×Obj)}{R:List Rw}{X J:World→Prop}{Q:Exit→Act→World→Prop}{ops:Array Oper}{σ:List Nat}
end
def RowJ (g:Nat) (l:Bs) (w:World):Prop:=∃rest,Blk g (bk 5 (Lib.byteCells l++rest)) w
theorem RowJ.stab {g:Nat}{l:Bs}:tW (RowJ g l):=fun w ob ⟨r,h⟩=>⟨r,Blk.stab w ob h⟩
theorem RowJ.onE {g:Nat}{l:Bs}{w w':World}(h:RowJ g l w) (hx:Ext w w'):RowJ g l w':=h.elim fun r h=>⟨r,Blk.onE h hx⟩
end Go.Proofs.YtkaepknpplhgkaaGreatDoor
