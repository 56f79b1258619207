import Derived.Test.YtkaepknpplhgkaaGreatDoorMah
import Derived.Test.YtkaepknpplhgkaaGreatDoorMac
import Derived.Test.YtkaepknpplhgkaaGreatDoorMaa
import Derived.Test.YtkaepknpplhgkaaGreatDoorMad
import Derived.Test.YtkaepknpplhgkaaGreatDoorMaX
import Derived.Test.YtkaepknpplhgkaaGreatDoorMaW
import Derived.Test.YtkaepknpplhgkaaGreatDoorMaf
namespace Go.Proofs.YtkaepknpplhgkaaGreatDoor
open Go.RowKit
section
variable {P:Program}{n:Fr}{m:List (Nat×Value)}{ty:TypeId}{G B:Nat→Prop}{w0 w:World}{L:List (Nat×Obj)}{R:List Rw}{X J:World→Prop}{Q:Exit→Act→World→Prop}{ops:Array Oper}{σ:List Nat}
end
end Go.Proofs.YtkaepknpplhgkaaGreatDoor
namespace Go.Proofs.YtkaepknpplhgkaaGreatDoor
open Go.RowKit
section
variable {P:Program}{n:Fr}{m:List (Nat×Value)}{ty:TypeId}
theorem nf_bs0F {t e:TypeId}{size:Nat}(ht:P.underlying t=some (.slice e)) (hs':(P.info? e).map (·.size)=some size):NF P (.buildSlice t 0 #[]) ty n m (bk e []) (fun g=>.slice (some ⟨g,0,none⟩) 0 0):=by
 intro a w d pos af g hs
 cases hq:P.info? e with
 | none=>simp[hq] at hs'
 | some i =>
  have:(Instr.buildSlice t 0 #[]).run P w=.ok (.slice (some ⟨w.heap.size,0,none⟩) 0 0) (w.alloc (bk e [])):=by
   simp[Instr.buildSlice,run_underlying ht,sizeOf,typeInfo,hq,newRow,Instr.fill];rw[show Array.range 0=#[] from Array.ext (by simp) (by simp),Array.map_empty]
  simp[execOp,this]
end
end Go.Proofs.YtkaepknpplhgkaaGreatDoor
namespace Go.Proofs.YtkaepknpplhgkaaGreatDoor
open Go.RowKit
def NoSp (s:Bs):Prop:=∃y c,s=y++[c]∧c≠32
theorem NoSp.pre {s:Bs}(t:Bs) (h:NoSp s):NoSp (t++s):=by
 obtain⟨y,c,rfl,hc⟩:=h;exact⟨t++y,c,(Kv ..).symm,hc⟩
end Go.Proofs.YtkaepknpplhgkaaGreatDoor
namespace Go.Proofs.YtkaepknpplhgkaaGreatDoor
open Go.RowKit
end Go.Proofs.YtkaepknpplhgkaaGreatDoor
namespace Go.Proofs.YtkaepknpplhgkaaGreatDoor
open Go.RowKit
end Go.Proofs.YtkaepknpplhgkaaGreatDoor
namespace Go.Proofs.YtkaepknpplhgkaaGreatDoor
open Go.RowKit
section
variable {P:Program}{n:Fr}{m:List (Nat×Value)}{ty:TypeId}{H:World→Prop}
end
structure DL where
 p:Nat
 f:Nat
 out:Bs
 q:Option Addr
 BA:Option Addr
 bc:Nat
structure DLI (kind:Int) (org:Nat) (code:Bs) (b:Nat) (full:Bs) (j:DL):Prop where
 le:j.p≤code.length
 fu:code.length-j.p≤j.f
 e:j.out++linesB (disF kind org j.f (code.drop j.p) j.p)=full
 q:j.q=none∨j.q=some ⟨b,0,none⟩
 a:j.out=[]→j.BA=none
theorem DLI.step {kind:Int}{org:Nat}{code:Bs}{b:Nat}{full:Bs}{p f:Nat}{out:Bs}{q BA:Option Addr}{bc:Nat}(h:DLI kind org code b full ⟨p,f,out,q,BA,bc⟩) (hp:p<code.length):∃f',f=f'+1∧(out++((nxtA kind (code.drop p) ((org+p)%4294967296)).1++[10]))++linesB (disF kind org f' (code.drop (p+(nxtA kind (code.drop p) ((org+p)%4294967296)).2)) (p+(nxtA kind (code.drop p) ((org+p)%4294967296)).2))=full:=by
 have hf:=h.fu;have he:=h.e;dsimp only at hf he;obtain⟨f',rfl⟩:∃f',f=f'+1:=⟨f-1,by omega⟩;have hne:code.drop p≠[]:=fun e=>by have:=List.drop_eq_nil_iff.1 e;omega
 refine⟨f',rfl,?_⟩;rw[← he,disF,Ag hne,List.drop_drop];simp[linesB]
end Go.Proofs.YtkaepknpplhgkaaGreatDoor
