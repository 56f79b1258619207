import Derived.Test.YtkaepknpplhgkaaGreatDoorMaj
import Derived.Test.YtkaepknpplhgkaaGreatDoorMao
namespace Go.Proofs.YtkaepknpplhgkaaGreatDoor
open Go.RowKit
section
variable {n:Fr}{m:List (Nat×Value)}{B:Nat→Prop}{w0:World}{L:List (Nat×Obj)}{R:List Rw}{X:World→Prop}
end
section
variable {n:Fr}{m:List (Nat×Value)}{G B:Nat→Prop}{w0:World}{L:List (Nat×Obj)}{R:List Rw}{X J:World→Prop}{Q:Exit→Act→World→Prop}{ops:Array Oper}{σ:List Nat}
end
end Go.Proofs.YtkaepknpplhgkaaGreatDoor
namespace Go.Proofs.YtkaepknpplhgkaaGreatDoor
open Go.RowKit
end Go.Proofs.YtkaepknpplhgkaaGreatDoor
namespace Go.Proofs.YtkaepknpplhgkaaGreatDoor
open Go.RowKit
end Go.Proofs.YtkaepknpplhgkaaGreatDoor
namespace Go.Proofs.YtkaepknpplhgkaaGreatDoor
open Go.RowKit
theorem rextend_any (c:Nat) (hc:c<256) (w_0:World):Calls Tryz.prog 59 #[.int .u8 c] w_0 fun e w'=>e=.returned (.int .u32 (sxL c 8:Nat))∧Ext w_0 w':=by
 refine zH (args:=[.int .u8 c]) Tryz.func59 M 10 M (Kc M)<|Z1 0 M<|zR (H':=Hp (fun _=>False) w_0 [] [] (fun _=>True)) (fun u hu=>?_) ?_
 ·subst hu;exact Hp.start0
 refine zX<|zZ<|Za M M<|ZX<|zX<|zZ<|Zm M M<|ZF M (xY M M)<|ZT<|zW M (fun h4=>?_) (fun h4=>?_)
 ·replace h4:=Ke h4;refine zX<|Z3r 0 2 4 M M M<|Zm M M ?_
  refine ZF M (yQ M (by kernel_rfl) U22 (u32n (show c<4294967296 by omega) (Ab _))) ?_
  refine ZF M (yO M M (show IntKind.u32.wrap ((c:Int)+4294967040)=((c+4294967040:Nat):Int) from u32n (show c+4294967040<4294967296 by omega) (Ab _))) ?_;refine Za M M<|ZT<|zQ<|zT<|zO M M (fun w hw=>?_);exact⟨by congr 2;unfold sxL;simp only[Nat.reducePow,Nat.reduceSub];split<;>omega,hw.ext0⟩
 ·replace h4:=Kf h4;refine zL<|zP<|zX<|Z3r 0 2 4 M M M<|Zm M M ?_
  refine ZF M (yQ M (by kernel_rfl) U22 (u32n (show c<4294967296 by omega) (Ab _))) ?_
  refine Za M M<|ZT<|zQ<|zO M M (fun w hw=>?_);exact⟨by congr 2;unfold sxL;simp only[Nat.reducePow,Nat.reduceSub];split<;>omega,hw.ext0⟩
def mkA:List Nat:=[0,1,2,3,4,96,100,106,109,112,113,128,129,130]
def mkC (k:Nat):List Nat:=[32+k,48+k,64+k]++((if k<6 then [16+k] else [])++(if k<7 then [80+k,88+k] else []))
def mkL:Nat→List Nat
 | 0=>mkA
 | k+1=>mkL k++mkC k
theorem mkL_len:(mkL 15).length=79:=by kernel_rfl
end Go.Proofs.YtkaepknpplhgkaaGreatDoor
namespace Go.Proofs.YtkaepknpplhgkaaGreatDoor
open Go.RowKit
abbrev nI (l:List Nat):List Value:=l.map fun n=>.int .i64 (n:Nat)
def JM (g b1:Nat) (c:List Value) (w:World):Prop:=(∃rest,Blk g (bk 3 (nI (mkL 15)++rest)) w)∧Blk b1 (bk 67 c) w
theorem JM.stab {g b1:Nat}{c:List Value}:tW (JM g b1 c):=fun w o ⟨⟨r,h1⟩,h2⟩=>⟨⟨r,Blk.stab w o h1⟩,Blk.stab w o h2⟩
theorem JM.ext {g b1:Nat}{c:List Value}:∀w w',JM g b1 c w→Ext w w'→JM g b1 c w':=fun _ _ ⟨⟨r,h1⟩,h2⟩ hx=>⟨⟨r,h1.onE hx⟩,h2.onE hx⟩
theorem JM.cell {g b1 n:Nat}{c:List Value}{w:World}(h:JM g b1 c w) (hn:n<79):w.cell? ⟨g,0+((n:Nat):Int).toNat*1,none⟩=some (.int .i64 ((mkL 15).getD n 0:Nat)):=by
 obtain⟨⟨rest,hb⟩,_⟩:=h;have hl:n<(mkL 15).length:=by rw[mkL_len];exact hn
 have:0+((n:Nat):Int).toNat*1=n:=by omega
 rw[this];refine Blk.cell (T:=3) hb ?_;rw[List.getElem?_append_left (by simpa [nI] using hl)];simp[nI,Kj hl]
end Go.Proofs.YtkaepknpplhgkaaGreatDoor
