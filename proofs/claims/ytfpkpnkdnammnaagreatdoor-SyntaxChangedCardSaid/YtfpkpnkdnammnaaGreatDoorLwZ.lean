import Derived.Test.YtfpkpnkdnammnaaGreatDoorSxR
import Derived.Test.YtfpkpnkdnammnaaGreatDoorMgL
import Derived.Test.YtfpkpnkdnammnaaGreatDoorSyV
namespace Go.Proofs.YtfpkpnkdnammnaaGreatDoor
open Go.RowKit
theorem Hp.freeze {w0 v:World}{L:List (Nat×Obj)}{R:List Rw}{X:World→Prop}(h:Hp (fun _=>False) w0 L R X v):Hp (fun _=>False) w0 [] [] (xD (fun _=>True) v) v :=
 ⟨h.keep,(fun _ h=>by cases h),(fun _ h=>by cases h),(fun _ h=>by cases h),List.nodup_nil,fun _ _=>trivial,fun k=>k<v.heap.size,fun k hk=>⟨hk,id,(fun h=>by cases h),trivial⟩,fun u hu k _ hk=>hu k hk⟩
theorem xD.blk {v u:World}{b:Nat}{o:Obj}(h:xD (fun _=>True) v u) (hb:Blk b o v):Blk b o u:=by
 unfold Blk at hb ⊢;rw[h b trivial (Jw.1 hb).1];exact hb
theorem xD.refl (v:World):xD (fun _=>True) v v:=fun _ _ _=>rfl
section
variable {P:Program}{ops:Array Oper}{Q:Exit→Act→World→Prop}{n:Nat}{m:List (Nat×Value)}{ty:TypeId}{w0:World}{L:List (Nat×Obj)}{R:List Rw}{X:World→Prop}{rest:List Oper}{d:Nat}{pos:String}{af:Array Edge}{gd:Option (Nat×Bool)}{f:FuncId}{args:List Operand}{ats:Array TypeId}{vs:List Value}
theorem wc_freeze {c:Code}(h:∀v,Hp (fun _=>False) w0 L R X v→WC P c Q n m (Hp (fun _=>False) w0 [] [] (xD (fun _=>True) v))):WC P c Q n m (Hp (fun _=>False) w0 L R X):=fun a w hs hw=>h w hw a w hs hw.freeze
theorem wl_callZ {ι:Type}{val:ι→Value}{Φ:ι→World→Prop}(hg:Gd ops m gd) (hd:Nat.blt d n=true) (hf:goes P f=true) (ha:evl m args=some vs)
  (hC:∀w,Hp (fun _=>False) w0 L R X w→Calls P f vs.toArray w fun e w'=>∃i,e=.returned (val i)∧Ext w w'∧Φ i w')
  (h:∀i v,Φ i v→Hp (fun _=>False) w0 L R X v→WL P ops Q rest n ((d,val i)::m) (Hp (fun _=>False) w0 [] [] (xD (fun _=>True) v))):WL P ops Q (⟨some d,.call { callee:=.value (.func f),args:=args.toArray,argTypes:=ats },ty,pos,af,gd⟩::rest) n m (Hp (fun _=>False) w0 L R X) :=
 xJ (ι:={i:ι×World // Φ i.1 i.2∧Hp (fun _=>False) w0 L R X i.2}) (val:=fun i=>val i.1.1) (H':=fun i=>Hp (fun _=>False) w0 [] [] (xD (fun _=>True) i.1.2)) hg hd
  (vX hf ha fun w hw=>(hC w hw).mono fun _ w' ⟨i,e1,e2,e3⟩=>⟨_,e1,⟨(i,w'),e3,HpG.onE hw e2⟩,rfl,Hp.freeze (HpG.onE hw e2)⟩) fun i=>h i.1.1 i.1.2 i.2.1 i.2.2
end
end Go.Proofs.YtfpkpnkdnammnaaGreatDoor
