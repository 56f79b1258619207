import Derived.Test.YtkaepknpplhgkaaGreatDoorMag
import Derived.Test.YtkaepknpplhgkaaGreatDoorMaa
import Derived.Test.YtkaepknpplhgkaaGreatDoorMaY
import Derived.Test.YtkaepknpplhgkaaGreatDoorMac
import Derived.Test.YtkaepknpplhgkaaGreatDoorMaU
namespace Go.Proofs.YtkaepknpplhgkaaGreatDoor
open Go.RowKit
end Go.Proofs.YtkaepknpplhgkaaGreatDoor
namespace Go.Proofs.YtkaepknpplhgkaaGreatDoor
open Go.RowKit
end Go.Proofs.YtkaepknpplhgkaaGreatDoor
namespace Go.Proofs.YtkaepknpplhgkaaGreatDoor
end Go.Proofs.YtkaepknpplhgkaaGreatDoor
namespace Go.Proofs.YtkaepknpplhgkaaGreatDoor
open Go.RowKit Go.Sort
end Go.Proofs.YtkaepknpplhgkaaGreatDoor
namespace Go.Proofs.YtkaepknpplhgkaaGreatDoor
open Go.RowKit
end Go.Proofs.YtkaepknpplhgkaaGreatDoor
namespace Go.Proofs.YtkaepknpplhgkaaGreatDoor
open Go.RowKit
section
variable {P:Program}{ops:Array Oper}{Q:Exit→Act→World→Prop}{n:Fr}
end
end Go.Proofs.YtkaepknpplhgkaaGreatDoor
namespace Go.Proofs.YtkaepknpplhgkaaGreatDoor
def fmB (n:Nat) (op:Nat→Nat) (z:Nat) (l:List Fld):Bool:=(List.range n).all fun k=>decide (pR ((op k:Nat):Int)=some (z,l))
theorem vH {n:Nat}{op:Nat→Nat}{z:Nat}{l:List Fld}(h:fmB n op z l=true) {k:Nat}(hk:k<n):pR ((op k:Nat):Int)=some (z,l):=Ki (uF h k hk)
theorem fm_all:fmB 5 id 1 []=true∧fmB 6 (16+·) 2 [.reg]=true∧fmB 15 (32+·) 2 [.pair]=true∧fmB 15 (48+·) 3 [.reg,.small]=true∧fmB 15 (64+·) 6 [.reg,.full]=true∧fmB 7 (80+·) 3 [.pair,.small]=true∧fmB 7 (88+·) 7 [.pair,.index,.full]=true∧fmB 14 (96+·) 2 [.small]=true∧fmB 2 (112+·) 5 [.full]=true∧fmB 1 (fun _=>128) 2 [.plain]=true∧fmB 2 (129+·) 2 [.pair]=true:=by
 refine⟨?_,?_,?_,?_,?_,?_,?_,?_,?_,?_,?_⟩<;>kernel_rfl
theorem low_nat {d:Nat}(h:d<256):(lowB (d:Int)).toNat=d:=by
 have:=lowB_nat (d:Int);omega
theorem pV {d s:Nat}(hd:d<16) (hs:s<16):(lowB (Int.ofNat (((d:Int).toNat <<< 4) ||| (s:Int).toNat))).toNat=16*d+s:=by
 rw[Int.toNat_natCast,Int.toNat_natCast,← Nat.shiftLeft_add_eq_or_of_lt (by omega),Nat.shiftLeft_eq];have:=lowB_nat (Int.ofNat (d*2 ^ 4+s));simp only[Nat.reducePow,Int.ofNat_eq_natCast] at this ⊢;omega
theorem rR {op d s x c z:Int}{m:Nat}(h1:0≤d∧d≤7) (h2:0≤s∧s≤7) (h3:op=129→s≤3) (h4:op=130→s≤4) (h5:-1≤x∧x≤7) (h6:0≤c∧c≤3):oN ⟨op,d,s,x,c,m,z⟩=true:=by
 unfold oN;simp only[Ab,Af];refine⟨⟨⟨h1,h2.1,?_⟩,h5⟩,h6⟩
 split
 ·next h=>exact h3 h
 split
 ·next h=>exact h4 h
 exact h2.2
theorem rJ {i:KI}{z:Nat}{l:List Fld}(hf:pR i.op=some (z,l)) (hz:i.size=z) (hr:oN i=true) (ht:vZ (vF i l) ⟨i.op,0,0,-1,0,0,z⟩ l=i):tW i=some (lowB i.op::vF i l):=by
 unfold tW;rw[hf];dsimp only;rw[Ah ⟨hz,hr,ht⟩]
theorem full4 (n:Nat) (r:Bs):(wS n 4++r).take 4=wS n 4:=by rw[List.take_left' (put_len n 4)]
theorem enc_vk {i:KI}(h:VK i):∃l,pR i.op=some (i.size.toNat,l)∧tW i=some (lowB i.op::vF i l):=by
 obtain⟨f0,f1,f2,f3,f4,f5,f6,f7,f8,f9,f10⟩:=fm_all
 cases h with
 | none k hk =>
  have hf:=vH f0 hk;exact⟨_,hf,rJ hf M (rR (by omega) (by omega) (by omega) (by omega) (by omega) (by omega)) rfl⟩
 | reg k d hk hd =>
  have hf:=vH f1 hk;refine⟨_,hf,rJ hf M (rR (by omega) (by omega) (by omega) (by omega) (by omega) (by omega)) ?_⟩;show (⟨_,(lowB (d:Int)).toNat,0,-1,0,0,2⟩:KI)=_;rw[low_nat (by omega)]
 | regs k d s hk hd hs =>
  have hf:=vH f2 hk;refine⟨_,hf,rJ hf M (rR (by omega) (by omega) (by omega) (by omega) (by omega) (by omega)) ?_⟩;show (⟨_,((lowB (Int.ofNat (((d:Int).toNat <<< 4) ||| (s:Int).toNat))).toNat/16:Nat),((lowB (Int.ofNat (((d:Int).toNat <<< 4) ||| (s:Int).toNat))).toNat%16:Nat),-1,0,0,2⟩:KI)=_;rw[pV (by omega) (by omega),show (16*d+s)/16=d by omega,show (16*d+s)%16=s by omega]
 | short k d n hk hd hn hx =>
  have hf:=vH f3 hk;refine⟨_,hf,rJ hf M (rR (by omega) (by omega) (by omega) (by omega) (by omega) (by omega)) ?_⟩;show (⟨_,(lowB (d:Int)).toNat,0,-1,0,sxL (byL (n%256)).toNat 8,3⟩:KI)=_;rw[low_nat (by omega),sA,hx];rfl
 | imm k d n hk hd hn =>
  have hf:=vH f4 hk;refine⟨_,hf,rJ hf M (rR (by omega) (by omega) (by omega) (by omega) (by omega) (by omega)) ?_⟩;show (⟨_,(lowB (d:Int)).toNat,0,-1,0,getL ((wS n 4++[]).take 4),6⟩:KI)=_;rw[low_nat (by omega),full4,nK 4 n (by omega)];rfl
 | mem k d s n hk hd hs hn hx =>
  have hf:=vH f5 hk;refine⟨_,hf,rJ hf M (rR (by omega) (by omega) (by omega) (by omega) (by omega) (by omega)) ?_⟩;show (⟨_,((lowB (Int.ofNat (((d:Int).toNat <<< 4) ||| (s:Int).toNat))).toNat/16:Nat),((lowB (Int.ofNat (((d:Int).toNat <<< 4) ||| (s:Int).toNat))).toNat%16:Nat),-1,0,sxL (byL (n%256)).toNat 8,3⟩:KI)=_;rw[pV (by omega) (by omega),show (16*d+s)/16=d by omega,show (16*d+s)%16=s by omega,sA,hx];rfl
 | idx k d s n x hk hd hs hn hx =>
  have hf:=vH f6 hk
  cases x with
  | none =>
   refine⟨_,hf,rJ hf M (rR (by omega) (by omega) (by omega) (by omega) (by show (-1:Int)≤-1∧(-1:Int)≤7;omega) (by show (0:Int)≤0∧(0:Int)≤3;omega)) ?_⟩;show (⟨_,((lowB (Int.ofNat (((d:Int).toNat <<< 4) ||| (s:Int).toNat))).toNat/16:Nat),((lowB (Int.ofNat (((d:Int).toNat <<< 4) ||| (s:Int).toNat))).toNat%16:Nat),-1,0,getL ((wS n 4++[]).take 4),7⟩:KI)=_;rw[pV (by omega) (by omega),show (16*d+s)/16=d by omega,show (16*d+s)%16=s by omega,full4,nK 4 n (by omega)];rfl
  | some p =>
   obtain⟨p,c⟩:=p;have hp:=hx _ rfl;dsimp only at hp;refine⟨_,hf,rJ hf M (rR (by omega) (by omega) (by omega) (by omega) (by show (-1:Int)≤p∧(p:Int)≤7;omega) (by show (0:Int)≤c∧(c:Int)≤3;omega)) ?_⟩;have hb:(lowB (Int.ofNat (((c:Int).toNat <<< 4) ||| (p:Int).toNat))).toNat=16*c+p:=pV (by omega) (by omega)
   have h8:¬lowB (Int.ofNat (((c:Int).toNat <<< 4) ||| (p:Int).toNat))=8:=fun e=>by
    rw[e] at hb;have:(8:UInt8).toNat=8:=rfl;omega
   have e1:vF ⟨((88+k:Nat):Int),d,s,idxV (some (p,c)),scaV (some (p,c)),n,7⟩ [.pair,.index,.full]=lowB (Int.ofNat (((d:Int).toNat <<< 4) ||| (s:Int).toNat))::lowB (Int.ofNat (((c:Int).toNat <<< 4) ||| (p:Int).toNat))::(wS n 4++[]):=by
    show [_]++((if (p:Int)<0 then [8] else [_])++(wS n 4++[]))=_;rw[Ag (by omega)];rfl
   rw[e1];simp only[vZ,takeF,List.headD_cons,Kt,Kx,Ag h8];show (⟨_,((lowB (Int.ofNat (((d:Int).toNat <<< 4) ||| (s:Int).toNat))).toNat/16:Nat),((lowB (Int.ofNat (((d:Int).toNat <<< 4) ||| (s:Int).toNat))).toNat%16:Nat),((lowB (Int.ofNat (((c:Int).toNat <<< 4) ||| (p:Int).toNat))).toNat%16:Nat),((lowB (Int.ofNat (((c:Int).toNat <<< 4) ||| (p:Int).toNat))).toNat/16:Nat),getL ((wS n 4++[]).take 4),7⟩:KI)=_;rw[pV (by omega) (by omega),hb,show (16*d+s)/16=d by omega,show (16*d+s)%16=s by omega,show (16*c+p)/16=c by omega,show (16*c+p)%16=p by omega,full4,nK 4 n (by omega)];rfl
 | cond k n hk hn hx =>
  have hf:=vH f7 hk;refine⟨_,hf,rJ hf M (rR (by omega) (by omega) (by omega) (by omega) (by omega) (by omega)) ?_⟩;show (⟨_,0,0,-1,0,sxL (byL (n%256)).toNat 8,2⟩:KI)=_;rw[sA,hx]
 | jump k n hk hn =>
  have hf:=vH f8 hk;refine⟨_,hf,rJ hf M (rR (by omega) (by omega) (by omega) (by omega) (by omega) (by omega)) ?_⟩;show (⟨_,0,0,-1,0,getL ((wS n 4++[]).take 4),5⟩:KI)=_;rw[full4,nK 4 n (by omega)]
 | sys n hn =>
  have hf:=vH f9 (k:=0) (by omega);refine⟨_,hf,rJ hf M (rR (by omega) (by omega) (by omega) (by omega) (by omega) (by omega)) ?_⟩;show (⟨_,0,0,-1,0,(byL (n%256)).toNat,2⟩:KI)=_;rw[sA,Nat.mod_eq_of_lt hn]
 | getc d s hd hs =>
  have hf:=vH f10 (k:=0) (by omega);refine⟨_,hf,rJ hf M (rR (by omega) (by omega) (by omega) (by omega) (by omega) (by omega)) ?_⟩;show (⟨_,((lowB (Int.ofNat (((d:Int).toNat <<< 4) ||| (s:Int).toNat))).toNat/16:Nat),((lowB (Int.ofNat (((d:Int).toNat <<< 4) ||| (s:Int).toNat))).toNat%16:Nat),-1,0,0,2⟩:KI)=_;rw[pV (by omega) (by omega),show (16*d+s)/16=d by omega,show (16*d+s)%16=s by omega]
 | setc d s hd hs =>
  have hf:=vH f10 (k:=1) (by omega);refine⟨_,hf,rJ hf M (rR (by omega) (by omega) (by omega) (by omega) (by omega) (by omega)) ?_⟩;show (⟨_,((lowB (Int.ofNat (((d:Int).toNat <<< 4) ||| (s:Int).toNat))).toNat/16:Nat),((lowB (Int.ofNat (((d:Int).toNat <<< 4) ||| (s:Int).toNat))).toNat%16:Nat),-1,0,0,2⟩:KI)=_;rw[pV (by omega) (by omega),show (16*d+s)/16=d by omega,show (16*d+s)%16=s by omega]
end Go.Proofs.YtkaepknpplhgkaaGreatDoor
