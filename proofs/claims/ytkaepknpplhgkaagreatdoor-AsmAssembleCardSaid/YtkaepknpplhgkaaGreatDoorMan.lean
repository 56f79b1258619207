import Derived.Test.YtkaepknpplhgkaaGreatDoorMak
import Derived.Test.YtkaepknpplhgkaaGreatDoorMah
import Derived.Test.YtkaepknpplhgkaaGreatDoorMal
set_option maxRecDepth 100000
set_option maxHeartbeats 2000000
namespace Go.Proofs.YtkaepknpplhgkaaGreatDoor
open Go.RowKit
theorem rsigned_any (n:Nat) (hn:n<4294967296) (w_0:World):Calls Tryz.prog 144 #[.int .u32 n] w_0 fun e w'=>e=.returned (.bool (wE n 8))∧Ext w_0 w':=by
 have hf:wE n 8=(decide (n<128)||decide (4294967168≤n)):=rfl;rw[hf];refine zN (args:=[.int .u32 n]) Tryz.func144 M 9 M (Kh M)<|Z1 0 M<|Z0<|zX<|zZ<|Za M M<|ZX<|zZ<|Zm M M<|ZF M (yR M M)<|Zm M M<|zQ 5 M (fun g3=>?_) (fun g3=>?_)
 ·replace g3:=Ki g3;refine ZP M<|ZP M<|Zh M<|Za M M<|ZU M M fun w hw=>⟨by rw[An (show n<128 by omega)];rfl,hw.ext0⟩
 replace g3:=Kj g3;refine Zv M<|ZG M M M (yC M M)<|Zf M<|Za M M<|ZU M M fun w hw=>⟨by rw[Ao (show ¬n<128 by omega),Bool.false_or];congr 2;rw[Kf,Af,Af];omega,hw.ext0⟩
def regN (n:Int):Bool:=decide (0≤n∧n<8)
def dN (f:Nat) (i:KI):Bool:=if f=1∨f=8∨f=9∨f=10 then decide (i.d=0) else regN i.d
def sN (f:Nat) (i:KI):Bool:=if f=11 then decide (0≤i.s∧i.s≤3) else if f=12 then decide (0≤i.s∧i.s≤4) else if f=3∨f=6∨f=7 then regN i.s else decide (i.s=0)
def xN (f:Nat) (i:KI):Bool:=if f=7∧i.index≠-1 then regN i.index&&decide (0≤i.scale∧i.scale≤3) else decide (i.index=-1∧i.scale=0)
def mN (f:Nat) (i:KI):Bool:=if f=4∨f=6∨f=8 then wE i.imm 8 else if f=5∨f=7∨f=9 then true else if f=10 then decide (i.imm<256) else decide (i.imm=0)
def vN (i:KI):Bool:=if fmN i.op=0 then false else decide (i.size=szN (fmN i.op))&&(((dN (fmN i.op) i&&sN (fmN i.op) i)&&xN (fmN i.op) i)&&mN (fmN i.op) i)
theorem beq_dec (a b:Int):(a==b)=decide (a=b):=by rw[Kf,Am,Af]
theorem fmN_op {op:Int}(h:fmN op≠0):0≤op∧op<256:=by
 unfold fmN at h
 revert h
 repeat' split
 all_goals (intro h;first|exact absurd rfl h|omega)
theorem rvalid_0 (i:KI) (hi:i.imm<4294967296) (hf:fmN i.op=0) (w_0:World):Calls Tryz.prog 54 #[.agg (kiC i).toArray] w_0 fun e w'=>e=.returned (.bool (vN i))∧Ext w_0 w':=by
 have hfm:=fun w=>vM i.op w;rw[hf] at hfm;have hv:vN i=false:=by unfold vN;rw[hf];rfl
 rw[hv];refine zN (args:=[.agg (kiC i).toArray]) Tryz.func54 M 147 M (Kh M)<|Z1 0 M<|Z0<|zX<|zZ<|zA .none M (yQ M M) fun b1=>Za M M<|ZX<|zZ<|ZF M (Y35x0 M) ?_;refine Zl 0 M U3 M<|Zu (v:=.int .i64 (0:Nat)) M (fun w hw=>hfm w)<|Za M M<|ZX<|zX<|Z4 0 1 2 3 M<|oD [0,1,2,3,4,5,6,7,8,9,10] (Blk b1 (kiO i)) (by kernel_rfl) (by kernel_rfl) Blk.stab (fun w h=>HpG.blk h (k:=0) M) (fun n0 hn0=>?_);refine Zd M M M (yW M)<|Zd M M M (oW M M)<|Zd M M M (yW M)<|ZD M M<|ZD M M<|ZD M M<|ZD M M<|ZD M M<|ZD M M<|ZD M M<|Zd M M M (yA M M)<|qQ<|zV<|wY M<|zX<|Z5r 0 1 2 3 21 M<|Za M M<|ZT<|zK<|zW<|yY M M fun w hw=>⟨rfl,hw.ext0⟩
theorem d_and {p q:Prop}[Decidable p] [Decidable q] (hp:p):decide q=decide (p∧q):=by
 rw[Kf,decide_eq_true_iff,decide_eq_true_iff];exact⟨fun h=>⟨hp,h⟩,And.right⟩
theorem d_no {p:Prop}[Decidable p] (hp:¬p):false=decide p:=(Ao hp).symm
theorem rvalid_s (i:KI) (hi:i.imm<4294967296) (f:Nat) (hf:fmN i.op=f) (h0:f≠0) (w_0:World):Calls Tryz.prog 54 #[.agg (kiC i).toArray] w_0 fun e w'=>e=.returned (.bool (decide (i.size=szN f)&&(((dN f i&&sN f i)&&xN f i)&&mN f i)))∧Ext w_0 w':=by
 obtain⟨op,d,s,x,c,n,z⟩:=i;dsimp only at hi hf ⊢;have hop:=fmN_op (op:=op) (by rw[hf];exact h0);obtain⟨o,rfl,ho⟩:=xQ (x:=op) (n:=256) hop.1 hop.2;have hfm:=fun w=>vM ((o:Nat):Int) w;rw[hf] at hfm;have hsz:=fun w=>rsize_any o ho w;rw[hf] at hsz;obtain⟨dv,hD⟩:∃dv,dv=dN f ⟨(o:Nat),d,s,x,c,n,z⟩:=⟨_,rfl⟩;obtain⟨sv,hS⟩:∃sv,sv=sN f ⟨(o:Nat),d,s,x,c,n,z⟩:=⟨_,rfl⟩;obtain⟨xv,hX⟩:∃xv,xv=xN f ⟨(o:Nat),d,s,x,c,n,z⟩:=⟨_,rfl⟩;obtain⟨mv,hM⟩:∃mv,mv=mN f ⟨(o:Nat),d,s,x,c,n,z⟩:=⟨_,rfl⟩;rw[← hD,← hS,← hX,← hM];unfold dN at hD;unfold sN at hS;unfold xN at hX;unfold mN at hM;dsimp only at hD hS hX hM;obtain⟨S1,hS1⟩:∃S1,S1=if f=3∨f=6∨f=7 then regN s else decide (s=0):=⟨_,rfl⟩;obtain⟨S2,hS2⟩:∃S2,S2=if f=11 then decide (0≤s∧s≤3) else S1:=⟨_,rfl⟩
 have hS3:sv=if f=12 then decide (0≤s∧s≤4) else S2:=by
  rw[hS,hS2,hS1]
  by_cases h11:f=11
  rw[Ah h11,Ag (by omega),Ah h11];rw[Ag h11,Ag h11]
 obtain⟨M1,hM1⟩:∃M1,M1=if f=4∨f=6∨f=8 then wE n 8 else decide (n=0):=⟨_,rfl⟩;obtain⟨M2,hM2⟩:∃M2,M2=if f=5∨f=7∨f=9 then true else M1:=⟨_,rfl⟩
 have hM3:mv=if f=10 then decide (n<256) else M2:=by
  rw[hM,hM2,hM1]
  by_cases a1:f=4∨f=6∨f=8
  rw[Ah a1,Ag (by omega),Ag (by omega),Ah a1];rw[Ag a1,Ag a1]
  by_cases a2:f=5∨f=7∨f=9
  rw[Ah a2,Ag (by omega),Ah a2];rw[Ag a2,Ag a2]
 have hnz:(((n:Nat):Int)==0)=decide (n=0):=by rw[beq_dec,Kf,decide_eq_true_iff,decide_eq_true_iff];omega
 have hn256:decide (((n:Nat):Int)<256)=decide (n<256):=by rw[Kf,decide_eq_true_iff,decide_eq_true_iff];omega
 refine zN (args:=[.agg (kiC ⟨(o:Nat),d,s,x,c,n,z⟩).toArray]) Tryz.func54 M 147 M (Kh M)<|Z1 0 M<|Z0<|zX<|zZ<|zA .none M (yQ M M) fun b1=>Za M M<|ZX<|zZ<|ZF M (Y35x0 M) ?_;refine Zl 0 M U3 M<|Zu (v:=.int .i64 (f:Nat)) M (fun w hw=>hfm w)<|Za M M<|ZX<|zX<|Z4 0 1 2 3 M<|oD [0,1,2,3,4,5,6,7,8,9,10] (Blk b1 (kiO ⟨(o:Nat),d,s,x,c,n,z⟩)) (by kernel_rfl) (by kernel_rfl) Blk.stab (fun w h=>HpG.blk h (k:=0) M) (fun n0 hn0=>?_);refine Zd M M M (yW M)<|Zd M M M (oW M M)<|Zd M M M (yW M)<|wd_split 13 M (fun g3=>?_) (fun g3=>?_)
 ·replace g3:=Kq g3;exact False.elim (by omega)
 replace g3:=yT g3;refine Zg M M M M M (Y35x6 M) ?_;refine Zg M M M M M (zL M U3 M (fun w hw=>Blk.cell hw M))<|Zg M M M M M (Y35x0 M) ?_;refine Zg M M M M M (zL (v:=.int .i64 (o:Nat)) M U3 M (fun w hw=>Blk.cell hw M))<|Zg M M M M M (Zc M U5 (show IntKind.u8.wrap ((o:Nat):Int)=((o:Nat):Int) by rw[u8w];omega)) ?_;refine vP M<|wd_pure (.some M M) M  (v:=.int .i64 (szN f:Nat)) (by kernel_rfl) M (fun _ _ h hx=>Blk.onE h hx) (fun w hw=>hsz w)<|Zg M M M M M (xF M M)<|Zd M M M (yD M M)<|qQ<|zV<|zT M (fun h21=>?_) (fun h21=>?_)
 ·replace h21:=xD h21;refine zX<|Z5r 0 1 2 3 21 M<|Za M M<|ZT<|zK<|zW<|yY M M fun w hw=>⟨by rw[Ao (Kj (by simpa using h21))];rfl,hw.ext0⟩
 replace h21:=wJ h21;have hz:z=(szN f:Nat):=by simpa using h21
 refine zR<|zV<|zX<|Z5r 0 1 2 3 21 M<|ZF M (Y35x1 M) ?_;refine Zl 0 M U3 M<|Zu (v:=.bool (regN d)) M (fun w hw=>rreg_any d w)<|Za M M<|ZX<|Z6r 0 1 2 3 4 21 M<|ZF M (Y35x2 M) ?_;refine Zl 0 M U3 M<|Zu (v:=.bool (regN s)) M (fun w hw=>rreg_any s w)<|Za M M<|ZT<|zB (ι:=Unit) (fun _=>[(1,Jx b1),(3,.int .i64 (f:Nat)),(4,.bool dv),(5,.bool (regN s))]) (fun _=>Jy w_0 [(b1,kiO ⟨(o:Nat),d,s,x,c,n,z⟩)] [] (fun _=>True)) ?_ (fun _=>?_)
 ·refine zB (ι:={z:Bool // z=true↔(f=1∨f=8∨f=9∨f=10)}) (fun z=>[(1,Jx b1),(3,.int .i64 (f:Nat)),(4,.bool (regN d)),(5,.bool (regN s)),(41,.bool z.1)]) (fun _=>Jy w_0 [(b1,kiO ⟨(o:Nat),d,s,x,c,n,z⟩)] [] (fun _=>True)) ?_ (fun z=>?_)
  ·refine Z7r 0 1 2 3 4 5 21 M<|Zm M M<|Ze M<|Zm M M<|zQ 30 M (fun hb=>?_) (fun hb=>?_)
   ·replace hb:=Kq hb;refine ZP M<|ZP M<|Zh M<|Zm M M<|ZP M<|ZP M<|Zh M<|Zm M M<|ZP M<|ZP M<|Zh M<|zS ?_
    first|exact zU (ι:={z:Bool // z=true↔(f=1∨f=8∨f=9∨f=10)}) ⟨true,by simp;omega⟩ (O5 rfl) Jz|exact zU (ι:={z:Bool // z=true↔(f=1∨f=8∨f=9∨f=10)}) ⟨((f:Nat):Int)==10,by rw[Am];omega⟩ (O5 rfl) Jz
   replace hb:=yT hb;refine Zv M<|Zx M<|Zf M<|Zm M M<|zQ 34 M (fun hb=>?_) (fun hb=>?_)
   ·replace hb:=Kq hb;refine ZP M<|ZP M<|Zh M<|Zm M M<|ZP M<|ZP M<|Zh M<|zS ?_
    first|exact zU (ι:={z:Bool // z=true↔(f=1∨f=8∨f=9∨f=10)}) ⟨true,by simp;omega⟩ (O5 rfl) Jz|exact zU (ι:={z:Bool // z=true↔(f=1∨f=8∨f=9∨f=10)}) ⟨((f:Nat):Int)==10,by rw[Am];omega⟩ (O5 rfl) Jz
   replace hb:=yT hb;refine Zv M<|Zx M<|Zf M<|Zm M M<|zQ 38 M (fun hb=>?_) (fun hb=>?_)
   ·replace hb:=Kq hb;refine ZP M<|ZP M<|Zh M<|zS ?_
    first|exact zU (ι:={z:Bool // z=true↔(f=1∨f=8∨f=9∨f=10)}) ⟨true,by simp;omega⟩ (O5 rfl) Jz|exact zU (ι:={z:Bool // z=true↔(f=1∨f=8∨f=9∨f=10)}) ⟨((f:Nat):Int)==10,by rw[Am];omega⟩ (O5 rfl) Jz
   replace hb:=yT hb;refine Zv M<|Zx M<|Zf M<|zS ?_
   first|exact zU (ι:={z:Bool // z=true↔(f=1∨f=8∨f=9∨f=10)}) ⟨true,by simp;omega⟩ (O5 rfl) Jz|exact zU (ι:={z:Bool // z=true↔(f=1∨f=8∨f=9∨f=10)}) ⟨((f:Nat):Int)==10,by rw[Am];omega⟩ (O5 rfl) Jz
  obtain⟨z,hz41⟩:=z;dsimp only;refine zT M (fun h41=>?_) (fun h41=>?_)
  ·refine zZ<|ZF M (Y35x1 M) ?_;refine Zl 0 M U3 M<|Ze M<|Za M M<|zS ?_;exact zU (ι:=Unit) () (.cons M<|.cons M<|.consE M (by rw[hD,Ah (hz41.1 h41),beq_dec])<|.cons M<|.nil) Jz
  skip;refine zR ?_;exact zU (ι:=Unit) () (.cons M<|.cons M<|.consE M (by rw[hD,Ag (fun h=>by rw[hz41.2 h] at h41;cases h41)])<|.cons M<|.nil) Jz
 skip;refine zB (ι:=Unit) (fun _=>[(1,Jx b1),(3,.int .i64 (f:Nat)),(4,.bool dv),(5,.bool S1)]) (fun _=>Jy w_0 [(b1,kiO ⟨(o:Nat),d,s,x,c,n,z⟩)] [] (fun _=>True)) ?_ (fun _=>?_)
 ·refine zB (ι:={z:Bool // z=true↔(¬(f=3∨f=6∨f=7))}) (fun z=>[(1,Jx b1),(3,.int .i64 (f:Nat)),(4,.bool dv),(5,.bool (regN s)),(54,.bool z.1)]) (fun _=>Jy w_0 [(b1,kiO ⟨(o:Nat),d,s,x,c,n,z⟩)] [] (fun _=>True)) ?_ (fun z=>?_)
  ·refine zZ<|Zm M M<|ZF M (xF M M)<|Zm M M<|zQ 47 M (fun hb=>?_) (fun hb=>?_)
   ·replace hb:=xD hb;refine Zv M<|ZG M M M (xF M M)<|Zh M<|Zm M M<|zQ 51 M (fun hb=>?_) (fun hb=>?_)
    ·replace hb:=xD hb;refine Zv M<|ZG M M M (xF M M)<|Zh M<|zS ?_
     first|exact zU (ι:={z:Bool // z=true↔(¬(f=3∨f=6∨f=7))}) ⟨false,by simp;omega⟩ (O5 rfl) Jz|exact zU (ι:={z:Bool // z=true↔(¬(f=3∨f=6∨f=7))}) ⟨((f:Nat):Int) != 7,by rw[bne_iff_ne];omega⟩ (O5 rfl) Jz
    replace hb:=wJ hb;refine ZP M<|ZP M<|Zf M<|zS ?_
    first|exact zU (ι:={z:Bool // z=true↔(¬(f=3∨f=6∨f=7))}) ⟨false,by simp;omega⟩ (O5 rfl) Jz|exact zU (ι:={z:Bool // z=true↔(¬(f=3∨f=6∨f=7))}) ⟨((f:Nat):Int) != 7,by rw[bne_iff_ne];omega⟩ (O5 rfl) Jz
   replace hb:=wJ hb;refine ZP M<|ZP M<|Zf M<|Zm M M<|ZP M<|ZP M<|Zf M<|zS ?_
   first|exact zU (ι:={z:Bool // z=true↔(¬(f=3∨f=6∨f=7))}) ⟨false,by simp;omega⟩ (O5 rfl) Jz|exact zU (ι:={z:Bool // z=true↔(¬(f=3∨f=6∨f=7))}) ⟨((f:Nat):Int) != 7,by rw[bne_iff_ne];omega⟩ (O5 rfl) Jz
  obtain⟨z,hz54⟩:=z;dsimp only;refine zT M (fun h54=>?_) (fun h54=>?_)
  ·refine zZ<|ZF M (Y35x2 M) ?_;refine Zl 0 M U3 M<|Ze M<|Za M M<|zS ?_;exact zU (ι:=Unit) () (.cons M<|.cons M<|.cons M<|.consE M (by rw[hS1,Ag (hz54.1 h54),beq_dec])<|.nil) Jz
  skip;refine zR ?_;exact zU (ι:=Unit) () (.cons M<|.cons M<|.cons M<|.consE M (by rw[hS1,Ah (Classical.byContradiction fun h=>by rw[hz54.2 h] at h54;cases h54)])<|.nil) Jz
 skip;refine zB (ι:=Unit) (fun _=>[(1,Jx b1),(3,.int .i64 (f:Nat)),(4,.bool dv),(5,.bool S2)]) (fun _=>Jy w_0 [(b1,kiO ⟨(o:Nat),d,s,x,c,n,z⟩)] [] (fun _=>True)) ?_ (fun _=>?_)
 ·refine zX<|zZ<|Zm M M<|Ze M<|ZT<|zT M (fun h59=>?_) (fun h59=>?_)
  ·replace h59:=Kq h59;refine Z5r 1 3 4 5 59 M<|ZF M (Y35x2 M) ?_;refine Zl 0 M U3 M<|ZF M (yC M M)<|Zm M M<|zQ 63 M (fun g11=>?_) (fun g11=>?_)
   ·replace g11:=Ki g11;refine ZG M M M (Y35x2 M) ?_;refine ZG M M M (yU 0 M M M U3 M)<|ZG M M M (xE M M)<|Zh M<|Za M M<|zS ?_;exact zU (ι:=Unit) () (.cons M<|.cons M<|.cons M<|.consE M (by rw[hS2,Ah (by omega)];exact congrArg Value.bool (d_and g11))<|.nil) Jz
   replace g11:=Kj g11;refine ZP M<|ZP M<|ZP M<|Zf M<|Za M M<|zS ?_;exact zU (ι:=Unit) () (.cons M<|.cons M<|.cons M<|.consE M (by rw[hS2,Ah (by omega)];exact congrArg Value.bool (d_no (fun h=>g11 h.1)))<|.nil) Jz
  replace h59:=yT h59;refine zR ?_;exact zU (ι:=Unit) () (.cons M<|.cons M<|.cons M<|.consE M (by rw[hS2,Ag (by omega)])<|.nil) Jz
 skip;refine zB (ι:=Unit) (fun _=>[(1,Jx b1),(3,.int .i64 (f:Nat)),(4,.bool dv),(5,.bool sv)]) (fun _=>Jy w_0 [(b1,kiO ⟨(o:Nat),d,s,x,c,n,z⟩)] [] (fun _=>True)) ?_ (fun _=>?_)
 ·refine zX<|zZ<|Zm M M<|Ze M<|ZT<|zT M (fun h69=>?_) (fun h69=>?_)
  ·replace h69:=Kq h69;refine Z5r 1 3 4 5 69 M<|ZF M (Y35x2 M) ?_;refine Zl 0 M U3 M<|ZF M (yC M M)<|Zm M M<|zQ 73 M (fun g13=>?_) (fun g13=>?_)
   ·replace g13:=Ki g13;refine ZG M M M (Y35x2 M) ?_;refine ZG M M M (yU 0 M M M U3 M)<|ZG M M M (xE M M)<|Zh M<|Za M M<|zS ?_;exact zU (ι:=Unit) () (.cons M<|.cons M<|.cons M<|.consE M (by rw[hS3,Ah (by omega)];exact congrArg Value.bool (d_and g13))<|.nil) Jz
   replace g13:=Kj g13;refine ZP M<|ZP M<|ZP M<|Zf M<|Za M M<|zS ?_;exact zU (ι:=Unit) () (.cons M<|.cons M<|.cons M<|.consE M (by rw[hS3,Ah (by omega)];exact congrArg Value.bool (d_no (fun h=>g13 h.1)))<|.nil) Jz
  replace h69:=yT h69;refine zR ?_;exact zU (ι:=Unit) () (.cons M<|.cons M<|.cons M<|.consE M (by rw[hS3,Ag (by omega)])<|.nil) Jz
 skip;refine zB (ι:=Unit) (fun _=>[(1,Jx b1),(3,.int .i64 (f:Nat)),(4,.bool dv),(5,.bool sv),(6,.bool (decide (x=-1∧c=0)))]) (fun _=>Jy w_0 [(b1,kiO ⟨(o:Nat),d,s,x,c,n,z⟩)] [] (fun _=>True)) ?_ (fun _=>?_)
 ·refine zZ<|ZF M (Y35x3 M) ?_;refine Zl 0 M U3 M<|Ze M<|Zm M M<|zQ 81 M (fun g14=>?_) (fun g14=>?_)
  ·replace g14:=Kq g14;refine ZG M M M (Y35x4 M) ?_;refine ZG M M M (yU 0 M M M U3 M)<|Zx M<|Zh M<|Za M M<|zS ?_;exact zU (ι:=Unit) () (.cons M<|.cons M<|.cons M<|.cons M<|.consE M (by rw[beq_dec];exact congrArg Value.bool (d_and g14))<|.nil) Jz
  replace g14:=yT g14;refine ZP M<|ZP M<|ZP M<|Zf M<|Za M M<|zS ?_;exact zU (ι:=Unit) () (.cons M<|.cons M<|.cons M<|.cons M<|.consE M (by exact congrArg Value.bool (d_no (fun h=>g14 h.1)))<|.nil) Jz
 skip;refine zB (ι:=Unit) (fun _=>[(1,Jx b1),(3,.int .i64 (f:Nat)),(4,.bool dv),(5,.bool sv),(6,.bool xv)]) (fun _=>Jy w_0 [(b1,kiO ⟨(o:Nat),d,s,x,c,n,z⟩)] [] (fun _=>True)) ?_ (fun _=>?_)
 ·refine zB (ι:={z:Bool // z=true↔(f=7∧x≠-1)}) (fun z=>[(1,Jx b1),(3,.int .i64 (f:Nat)),(4,.bool dv),(5,.bool sv),(6,.bool (decide (x=-1∧c=0))),(92,.bool z.1)]) (fun _=>Jy w_0 [(b1,kiO ⟨(o:Nat),d,s,x,c,n,z⟩)] [] (fun _=>True)) ?_ (fun z=>?_)
  ·refine zZ<|Zm M M<|Ze M<|Zm M M<|zQ 88 M (fun g15=>?_) (fun g15=>?_)
   ·replace g15:=Kq g15;refine ZG M M M (Y35x3 M) ?_;refine ZG M M M (yU 0 M M M U3 M)<|ZG M M M (xF M M)<|Zh M<|zS ?_
    first|exact zU (ι:={z:Bool // z=true↔(f=7∧x≠-1)}) ⟨false,by simp;omega⟩ (O6 rfl) Jz|exact zU (ι:={z:Bool // z=true↔(f=7∧x≠-1)}) ⟨x != -1,by rw[bne_iff_ne];omega⟩ (O6 rfl) Jz
   replace g15:=yT g15;refine ZP M<|ZP M<|ZP M<|Zf M<|zS ?_
   first|exact zU (ι:={z:Bool // z=true↔(f=7∧x≠-1)}) ⟨false,by simp;omega⟩ (O6 rfl) Jz|exact zU (ι:={z:Bool // z=true↔(f=7∧x≠-1)}) ⟨x != -1,by rw[bne_iff_ne];omega⟩ (O6 rfl) Jz
  obtain⟨z,hz92⟩:=z;dsimp only;refine zT M (fun h92=>?_) (fun h92=>?_)
  ·refine zZ<|ZF M (Y35x3 M) ?_;refine Zl 0 M U3 M<|Zu (v:=.bool (regN x)) M (fun w hw=>rreg_any x w)<|Zm M M<|zQ 96 M (fun g16=>?_) (fun g16=>?_)
   ·refine ZG M M M (Y35x4 M) ?_;refine ZG M M M (yU 0 M M M U3 M)<|ZG M M M (yC M M)<|Zh M<|Zm M M<|zQ 101 M (fun g17=>?_) (fun g17=>?_)
    ·replace g17:=Ki g17;refine ZG M M M (Y35x4 M) ?_;refine ZG M M M (yU 0 M M M U3 M)<|ZG M M M (xE M M)<|Zh M<|Za M M<|zS ?_;exact zU (ι:=Unit) () (.cons M<|.cons M<|.cons M<|.cons M<|.consE M (by rw[hX,Ah (hz92.1 h92),g16,Bool.true_and];exact congrArg Value.bool (d_and g17))<|.nil) Jz
    replace g17:=Kj g17;refine ZP M<|ZP M<|ZP M<|Zf M<|Za M M<|zS ?_;exact zU (ι:=Unit) () (.cons M<|.cons M<|.cons M<|.cons M<|.consE M (by rw[hX,Ah (hz92.1 h92),g16,Bool.true_and];exact congrArg Value.bool (d_no (fun h=>g17 h.1)))<|.nil) Jz
   skip;refine ZP M<|ZP M<|ZP M<|Zf M<|Zm M M<|ZP M<|ZP M<|ZP M<|Zf M<|Za M M<|zS ?_;exact zU (ι:=Unit) () (.cons M<|.cons M<|.cons M<|.cons M<|.consE M (by rw[hX,Ah (hz92.1 h92),g16,Bool.false_and])<|.nil) Jz
  skip;refine zR ?_;exact zU (ι:=Unit) () (.cons M<|.cons M<|.cons M<|.cons M<|.consE M (by rw[hX,Ag (fun h=>by rw[hz92.2 h] at h92;cases h92)])<|.nil) Jz
 skip;refine zX<|zZ<|ZF M (Y35x5 M) ?_;refine Zl 0 M U22 M<|Ze M<|Za M M<|ZT<|zB (ι:=Unit) (fun _=>[(1,Jx b1),(3,.int .i64 (f:Nat)),(4,.bool dv),(5,.bool sv),(6,.bool xv),(7,.bool M1)]) (fun _=>Jy w_0 [(b1,kiO ⟨(o:Nat),d,s,x,c,n,z⟩)] [] (fun _=>True)) ?_ (fun _=>?_)
 ·refine zB (ι:={z:Bool // z=true↔(f=4∨f=6∨f=8)}) (fun z=>[(1,Jx b1),(3,.int .i64 (f:Nat)),(4,.bool dv),(5,.bool sv),(6,.bool xv),(7,.bool (((n:Nat):Int)==0)),(118,.bool z.1)]) (fun _=>Jy w_0 [(b1,kiO ⟨(o:Nat),d,s,x,c,n,z⟩)] [] (fun _=>True)) ?_ (fun z=>?_)
  ·refine Z6r 1 3 4 5 6 7 M<|Zm M M<|Ze M<|Zm M M<|zQ 111 M (fun hb=>?_) (fun hb=>?_)
   ·replace hb:=Kq hb;refine ZP M<|ZP M<|Zh M<|Zm M M<|ZP M<|ZP M<|Zh M<|zS ?_
    first|exact zU (ι:={z:Bool // z=true↔(f=4∨f=6∨f=8)}) ⟨true,by simp;omega⟩ (O7 rfl) Jz|exact zU (ι:={z:Bool // z=true↔(f=4∨f=6∨f=8)}) ⟨((f:Nat):Int)==8,by rw[Am];omega⟩ (O7 rfl) Jz
   replace hb:=yT hb;refine Zv M<|Zx M<|Zf M<|Zm M M<|zQ 115 M (fun hb=>?_) (fun hb=>?_)
   ·replace hb:=Kq hb;refine ZP M<|ZP M<|Zh M<|zS ?_
    first|exact zU (ι:={z:Bool // z=true↔(f=4∨f=6∨f=8)}) ⟨true,by simp;omega⟩ (O7 rfl) Jz|exact zU (ι:={z:Bool // z=true↔(f=4∨f=6∨f=8)}) ⟨((f:Nat):Int)==8,by rw[Am];omega⟩ (O7 rfl) Jz
   replace hb:=yT hb;refine Zv M<|Zx M<|Zf M<|zS ?_
   first|exact zU (ι:={z:Bool // z=true↔(f=4∨f=6∨f=8)}) ⟨true,by simp;omega⟩ (O7 rfl) Jz|exact zU (ι:={z:Bool // z=true↔(f=4∨f=6∨f=8)}) ⟨((f:Nat):Int)==8,by rw[Am];omega⟩ (O7 rfl) Jz
  obtain⟨z,hz118⟩:=z;dsimp only;refine zT M (fun h118=>?_) (fun h118=>?_)
  ·refine zZ<|ZF M (Y35x5 M) ?_;refine Zl 0 M U22 M<|Zu (v:=.bool (wE n 8)) M (fun w hw=>rsigned_any n hi w)<|Za M M<|zS ?_;exact zU (ι:=Unit) () (.cons M<|.cons M<|.cons M<|.cons M<|.cons M<|.consE M (by rw[hM1,Ah (hz118.1 h118)])<|.nil) Jz
  skip;refine zR ?_;exact zU (ι:=Unit) () (.cons M<|.cons M<|.cons M<|.cons M<|.cons M<|.consE M (by rw[hM1,Ag (fun h=>by rw[hz118.2 h] at h118;cases h118),hnz])<|.nil) Jz
 skip;refine zB (ι:=Unit) (fun _=>[(1,Jx b1),(3,.int .i64 (f:Nat)),(4,.bool dv),(5,.bool sv),(6,.bool xv),(7,.bool M2)]) (fun _=>Jy w_0 [(b1,kiO ⟨(o:Nat),d,s,x,c,n,z⟩)] [] (fun _=>True)) ?_ (fun _=>?_)
 ·refine zB (ι:={z:Bool // z=true↔(f=5∨f=7∨f=9)}) (fun z=>[(1,Jx b1),(3,.int .i64 (f:Nat)),(4,.bool dv),(5,.bool sv),(6,.bool xv),(7,.bool M1),(131,.bool z.1)]) (fun _=>Jy w_0 [(b1,kiO ⟨(o:Nat),d,s,x,c,n,z⟩)] [] (fun _=>True)) ?_ (fun z=>?_)
  ·refine zZ<|Zm M M<|Ze M<|Zm M M<|zQ 124 M (fun hb=>?_) (fun hb=>?_)
   ·replace hb:=Kq hb;refine ZP M<|ZP M<|Zh M<|Zm M M<|ZP M<|ZP M<|Zh M<|zS ?_
    first|exact zU (ι:={z:Bool // z=true↔(f=5∨f=7∨f=9)}) ⟨true,by simp;omega⟩ (O7 rfl) Jz|exact zU (ι:={z:Bool // z=true↔(f=5∨f=7∨f=9)}) ⟨((f:Nat):Int)==9,by rw[Am];omega⟩ (O7 rfl) Jz
   replace hb:=yT hb;refine Zv M<|Zx M<|Zf M<|Zm M M<|zQ 128 M (fun hb=>?_) (fun hb=>?_)
   ·replace hb:=Kq hb;refine ZP M<|ZP M<|Zh M<|zS ?_
    first|exact zU (ι:={z:Bool // z=true↔(f=5∨f=7∨f=9)}) ⟨true,by simp;omega⟩ (O7 rfl) Jz|exact zU (ι:={z:Bool // z=true↔(f=5∨f=7∨f=9)}) ⟨((f:Nat):Int)==9,by rw[Am];omega⟩ (O7 rfl) Jz
   replace hb:=yT hb;refine Zv M<|Zx M<|Zf M<|zS ?_
   first|exact zU (ι:={z:Bool // z=true↔(f=5∨f=7∨f=9)}) ⟨true,by simp;omega⟩ (O7 rfl) Jz|exact zU (ι:={z:Bool // z=true↔(f=5∨f=7∨f=9)}) ⟨((f:Nat):Int)==9,by rw[Am];omega⟩ (O7 rfl) Jz
  obtain⟨z,hz131⟩:=z;dsimp only;refine zT M (fun h131=>?_) (fun h131=>?_)
  ·refine zZ<|Za M M<|zS ?_;exact zU (ι:=Unit) () (.cons M<|.cons M<|.cons M<|.cons M<|.cons M<|.consE M (by rw[hM2,Ah (hz131.1 h131)])<|.nil) Jz
  skip;refine zR ?_;exact zU (ι:=Unit) () (.cons M<|.cons M<|.cons M<|.cons M<|.cons M<|.consE M (by rw[hM2,Ag (fun h=>by rw[hz131.2 h] at h131;cases h131)])<|.nil) Jz
 skip;refine zB (ι:=Unit) (fun _=>[(1,Jx b1),(3,.int .i64 (f:Nat)),(4,.bool dv),(5,.bool sv),(6,.bool xv),(7,.bool mv)]) (fun _=>Jy w_0 [(b1,kiO ⟨(o:Nat),d,s,x,c,n,z⟩)] [] (fun _=>True)) ?_ (fun _=>?_)
 ·refine zX<|zZ<|Zm M M<|Ze M<|ZT<|zT M (fun h133=>?_) (fun h133=>?_)
  ·replace h133:=Kq h133;refine Z7r 1 3 4 5 6 7 133 M<|ZF M (Y35x5 M) ?_;refine Zl 0 M U22 M<|ZF M (yR M M)<|Za M M<|zS ?_;exact zU (ι:=Unit) () (.cons M<|.cons M<|.cons M<|.cons M<|.cons M<|.consE M (by rw[hM3,Ah (by omega),hn256])<|.nil) Jz
  replace h133:=yT h133;refine zR ?_;exact zU (ι:=Unit) () (.cons M<|.cons M<|.cons M<|.cons M<|.cons M<|.consE M (by rw[hM3,Ag (by omega)])<|.nil) Jz
 skip;refine zX<|zZ<|Zm M M<|Zm M M<|zQ 138 M (fun k1=>?_) (fun k1=>?_)
 ·refine Zv M<|Zh M<|Zm M M<|zQ 141 M (fun k2=>?_) (fun k2=>?_)
  ·refine Zv M<|Zh M<|Zm M M<|zQ 144 M (fun k3=>?_) (fun k3=>?_)
   ·refine Zv M<|Zh M<|Za M M<|ZU M M fun w hw=>⟨by rw[An hz,k1,k2,k3];rfl,hw.ext0⟩
   skip;refine ZP M<|Zf M<|Za M M<|ZU M M fun w hw=>⟨by rw[An hz,k1,k2,k3];rfl,hw.ext0⟩
  skip;refine ZP M<|Zf M<|Zm M M<|ZP M<|Zf M<|Za M M<|ZU M M fun w hw=>⟨by rw[An hz,k1,k2];rfl,hw.ext0⟩
 skip;refine ZP M<|Zf M<|Zm M M<|ZP M<|Zf M<|Zm M M<|ZP M<|Zf M<|Za M M<|ZU M M fun w hw=>⟨by rw[An hz,k1];rfl,hw.ext0⟩
theorem rvalid_vN (i:KI) (hi:i.imm<4294967296) (w_0:World):Calls Tryz.prog 54 #[.agg (kiC i).toArray] w_0 fun e w'=>e=.returned (.bool (vN i))∧Ext w_0 w':=by
 by_cases h:fmN i.op=0
 exact rvalid_0 i hi h w_0;have:=rvalid_s i hi _ rfl h w_0;unfold vN;rw[Ag h];exact this
end Go.Proofs.YtkaepknpplhgkaaGreatDoor
namespace Go.Proofs.YtkaepknpplhgkaaGreatDoor
open Go.RowKit
theorem fm_at {op:Int}{f:Nat}(h:fmN op=f) :
  (f=1→0≤op∧op≤4)∧(f=2→16≤op∧op≤21)∧(f=3→32≤op∧op≤46)∧(f=4→48≤op∧op≤62)∧(f=5→64≤op∧op≤78)∧(f=6→80≤op∧op≤86)∧(f=7→88≤op∧op≤94)∧(f=8→96≤op∧op≤109)∧(f=9→112≤op∧op≤113)∧(f=10→op=128)∧(f=11→op=129)∧(f=12→op=130):=by
 unfold fmN at h
 revert h
 repeat' split
 all_goals (intro h;omega)
theorem sx_ofB {n:Nat}(hn:n<4294967296) (h:wE n 8=true):sxL (n%256) 8=n:=by
 unfold wE at h;unfold sxL;simp only[Nat.reducePow,Nat.reduceSub,Bool.or_eq_true,Af] at h ⊢
 split<;>omega
theorem vN_vk {i:KI}(hi:i.imm<4294967296) (h:vN i=true):VK i:=by
 obtain⟨op,d,s,x,c,n,z⟩:=i;obtain⟨f,hf⟩:∃f,fmN op=f:=⟨_,rfl⟩;have hlt:=fmN_lt op;have hfa:=fm_at hf;unfold vN at h;dsimp only at h hi;rw[hf] at h hlt;have hsx:=fun hh=>sx_ofB hi hh
 match f,hlt with
 | 0,_=>cases h
 | 1,_ =>
  have hz:z=szN 1∧dN 1 ⟨op,d,s,x,c,n,z⟩=true∧sN 1 ⟨op,d,s,x,c,n,z⟩=true∧xN 1 ⟨op,d,s,x,c,n,z⟩=true∧mN 1 ⟨op,d,s,x,c,n,z⟩=true:=by
   rw[Ag (by decide)] at h;simp only[Ab,Af] at h;exact⟨h.1,h.2.1.1.1,h.2.1.1.2,h.2.1.2,h.2.2⟩
  obtain⟨hz0,hd0,hs0,hx0,hm0⟩:=hz;clear h;have hd:d=0:=Ki hd0;have hs:s=0:=Ki hs0;have hm:n=0:=Ki hm0;have hz:z=(szN 1:Nat):=hz0;have hx:x=-1∧c=0:=Ki (by unfold xN at hx0;rw[Ag (fun h=>absurd h.1 (by decide))] at hx0;exact hx0);clear hz0 hd0 hs0 hx0 hm0;obtain⟨rfl,rfl⟩:=hx;obtain⟨a1,a2⟩:=hfa.1 rfl;obtain⟨k,hk1,hk⟩:=xQ (x:=op) (n:=5) a1 (by omega);subst hk1;subst hd;subst hs;subst hm;subst hz;exact .none k hk
 | 2,_ =>
  have hz:z=szN 2∧dN 2 ⟨op,d,s,x,c,n,z⟩=true∧sN 2 ⟨op,d,s,x,c,n,z⟩=true∧xN 2 ⟨op,d,s,x,c,n,z⟩=true∧mN 2 ⟨op,d,s,x,c,n,z⟩=true:=by
   rw[Ag (by decide)] at h;simp only[Ab,Af] at h;exact⟨h.1,h.2.1.1.1,h.2.1.1.2,h.2.1.2,h.2.2⟩
  obtain⟨hz0,hd0,hs0,hx0,hm0⟩:=hz;clear h;have hd:0≤d∧d<8:=Ki hd0;have hs:s=0:=Ki hs0;have hm:n=0:=Ki hm0;have hz:z=(szN 2:Nat):=hz0;have hx:x=-1∧c=0:=Ki (by unfold xN at hx0;rw[Ag (fun h=>absurd h.1 (by decide))] at hx0;exact hx0);clear hz0 hd0 hs0 hx0 hm0;obtain⟨rfl,rfl⟩:=hx;obtain⟨a1,a2⟩:=hfa.2.1 rfl;obtain⟨k,hk1,hk⟩:=xQ (x:=op-16) (n:=6) (by omega) (by omega);obtain rfl:op=((16+k:Nat):Int):=by omega
  obtain⟨d,rfl,hd9⟩:=xQ (x:=d) (n:=8) hd.1 hd.2;subst hs;subst hm;subst hz;exact .reg k d hk hd9
 | 3,_ =>
  have hz:z=szN 3∧dN 3 ⟨op,d,s,x,c,n,z⟩=true∧sN 3 ⟨op,d,s,x,c,n,z⟩=true∧xN 3 ⟨op,d,s,x,c,n,z⟩=true∧mN 3 ⟨op,d,s,x,c,n,z⟩=true:=by
   rw[Ag (by decide)] at h;simp only[Ab,Af] at h;exact⟨h.1,h.2.1.1.1,h.2.1.1.2,h.2.1.2,h.2.2⟩
  obtain⟨hz0,hd0,hs0,hx0,hm0⟩:=hz;clear h;have hd:0≤d∧d<8:=Ki hd0;have hs:0≤s∧s<8:=Ki hs0;have hm:n=0:=Ki hm0;have hz:z=(szN 3:Nat):=hz0;have hx:x=-1∧c=0:=Ki (by unfold xN at hx0;rw[Ag (fun h=>absurd h.1 (by decide))] at hx0;exact hx0);clear hz0 hd0 hs0 hx0 hm0;obtain⟨rfl,rfl⟩:=hx;obtain⟨a1,a2⟩:=hfa.2.2.1 rfl;obtain⟨k,hk1,hk⟩:=xQ (x:=op-32) (n:=15) (by omega) (by omega);obtain rfl:op=((32+k:Nat):Int):=by omega
  obtain⟨d,rfl,hd9⟩:=xQ (x:=d) (n:=8) hd.1 hd.2;obtain⟨s,rfl,hs9⟩:=xQ (x:=s) (n:=8) hs.1 hs.2;subst hm;subst hz;exact .regs k d s hk hd9 hs9
 | 4,_ =>
  have hz:z=szN 4∧dN 4 ⟨op,d,s,x,c,n,z⟩=true∧sN 4 ⟨op,d,s,x,c,n,z⟩=true∧xN 4 ⟨op,d,s,x,c,n,z⟩=true∧mN 4 ⟨op,d,s,x,c,n,z⟩=true:=by
   rw[Ag (by decide)] at h;simp only[Ab,Af] at h;exact⟨h.1,h.2.1.1.1,h.2.1.1.2,h.2.1.2,h.2.2⟩
  obtain⟨hz0,hd0,hs0,hx0,hm0⟩:=hz;clear h;have hd:0≤d∧d<8:=Ki hd0;have hs:s=0:=Ki hs0;have hm:wE n 8=true:=hm0;have hz:z=(szN 4:Nat):=hz0;have hx:x=-1∧c=0:=Ki (by unfold xN at hx0;rw[Ag (fun h=>absurd h.1 (by decide))] at hx0;exact hx0);clear hz0 hd0 hs0 hx0 hm0;obtain⟨rfl,rfl⟩:=hx;obtain⟨a1,a2⟩:=hfa.2.2.2.1 rfl;obtain⟨k,hk1,hk⟩:=xQ (x:=op-48) (n:=15) (by omega) (by omega);obtain rfl:op=((48+k:Nat):Int):=by omega
  obtain⟨d,rfl,hd9⟩:=xQ (x:=d) (n:=8) hd.1 hd.2;subst hs;subst hz;exact .short k d n hk hd9 hi (hsx hm)
 | 5,_ =>
  have hz:z=szN 5∧dN 5 ⟨op,d,s,x,c,n,z⟩=true∧sN 5 ⟨op,d,s,x,c,n,z⟩=true∧xN 5 ⟨op,d,s,x,c,n,z⟩=true∧mN 5 ⟨op,d,s,x,c,n,z⟩=true:=by
   rw[Ag (by decide)] at h;simp only[Ab,Af] at h;exact⟨h.1,h.2.1.1.1,h.2.1.1.2,h.2.1.2,h.2.2⟩
  obtain⟨hz0,hd0,hs0,hx0,hm0⟩:=hz;clear h;have hd:0≤d∧d<8:=Ki hd0;have hs:s=0:=Ki hs0;have hz:z=(szN 5:Nat):=hz0;have hx:x=-1∧c=0:=Ki (by unfold xN at hx0;rw[Ag (fun h=>absurd h.1 (by decide))] at hx0;exact hx0);clear hz0 hd0 hs0 hx0 hm0;obtain⟨rfl,rfl⟩:=hx;obtain⟨a1,a2⟩:=hfa.2.2.2.2.1 rfl;obtain⟨k,hk1,hk⟩:=xQ (x:=op-64) (n:=15) (by omega) (by omega);obtain rfl:op=((64+k:Nat):Int):=by omega
  obtain⟨d,rfl,hd9⟩:=xQ (x:=d) (n:=8) hd.1 hd.2;subst hs;subst hz;exact .imm k d n hk hd9 hi
 | 6,_ =>
  have hz:z=szN 6∧dN 6 ⟨op,d,s,x,c,n,z⟩=true∧sN 6 ⟨op,d,s,x,c,n,z⟩=true∧xN 6 ⟨op,d,s,x,c,n,z⟩=true∧mN 6 ⟨op,d,s,x,c,n,z⟩=true:=by
   rw[Ag (by decide)] at h;simp only[Ab,Af] at h;exact⟨h.1,h.2.1.1.1,h.2.1.1.2,h.2.1.2,h.2.2⟩
  obtain⟨hz0,hd0,hs0,hx0,hm0⟩:=hz;clear h;have hd:0≤d∧d<8:=Ki hd0;have hs:0≤s∧s<8:=Ki hs0;have hm:wE n 8=true:=hm0;have hz:z=(szN 6:Nat):=hz0;have hx:x=-1∧c=0:=Ki (by unfold xN at hx0;rw[Ag (fun h=>absurd h.1 (by decide))] at hx0;exact hx0);clear hz0 hd0 hs0 hx0 hm0;obtain⟨rfl,rfl⟩:=hx;obtain⟨a1,a2⟩:=hfa.2.2.2.2.2.1 rfl;obtain⟨k,hk1,hk⟩:=xQ (x:=op-80) (n:=7) (by omega) (by omega);obtain rfl:op=((80+k:Nat):Int):=by omega
  obtain⟨d,rfl,hd9⟩:=xQ (x:=d) (n:=8) hd.1 hd.2;obtain⟨s,rfl,hs9⟩:=xQ (x:=s) (n:=8) hs.1 hs.2;subst hz;exact .mem k d s n hk hd9 hs9 hi (hsx hm)
 | 7,_ =>
  have hz:z=szN 7∧dN 7 ⟨op,d,s,x,c,n,z⟩=true∧sN 7 ⟨op,d,s,x,c,n,z⟩=true∧xN 7 ⟨op,d,s,x,c,n,z⟩=true∧mN 7 ⟨op,d,s,x,c,n,z⟩=true:=by
   rw[Ag (by decide)] at h;simp only[Ab,Af] at h;exact⟨h.1,h.2.1.1.1,h.2.1.1.2,h.2.1.2,h.2.2⟩
  obtain⟨hz0,hd0,hs0,hx0,hm0⟩:=hz;clear h;have hd:0≤d∧d<8:=Ki hd0;have hs:0≤s∧s<8:=Ki hs0;have hz:z=(szN 7:Nat):=hz0;have hx:=hx0;clear hz0 hd0 hs0 hx0 hm0;obtain⟨a1,a2⟩:=hfa.2.2.2.2.2.2.1 rfl;obtain⟨k,hk1,hk⟩:=xQ (x:=op-88) (n:=7) (by omega) (by omega);obtain rfl:op=((88+k:Nat):Int):=by omega
  obtain⟨d,rfl,hd9⟩:=xQ (x:=d) (n:=8) hd.1 hd.2;obtain⟨s,rfl,hs9⟩:=xQ (x:=s) (n:=8) hs.1 hs.2;subst hz;unfold xN at hx;dsimp only at hx
  by_cases hx1:x=-1
  ·rw[Ag (fun h=>h.2 hx1)] at hx;obtain⟨rfl,rfl⟩:x=-1∧c=0:=Ki hx;exact .idx k d s n none hk hd9 hs9 hi (fun _ h=>nomatch h)
  rw[Ah ⟨rfl,hx1⟩,Ab] at hx;obtain⟨h1,h2⟩:=hx;have k1:0≤x∧x<8:=Ki h1;have k2:0≤c∧c≤3:=Ki h2;clear h1 h2 hx1;obtain⟨x,rfl,hx8⟩:=xQ (x:=x) (n:=8) k1.1 k1.2;obtain⟨c,rfl,hc4⟩:=xQ (x:=c) (n:=4) k2.1 (by omega);exact .idx k d s n (some (x,c)) hk hd9 hs9 hi (fun p h=>by cases h;exact⟨hx8,hc4⟩)
 | 8,_ =>
  have hz:z=szN 8∧dN 8 ⟨op,d,s,x,c,n,z⟩=true∧sN 8 ⟨op,d,s,x,c,n,z⟩=true∧xN 8 ⟨op,d,s,x,c,n,z⟩=true∧mN 8 ⟨op,d,s,x,c,n,z⟩=true:=by
   rw[Ag (by decide)] at h;simp only[Ab,Af] at h;exact⟨h.1,h.2.1.1.1,h.2.1.1.2,h.2.1.2,h.2.2⟩
  obtain⟨hz0,hd0,hs0,hx0,hm0⟩:=hz;clear h;have hd:d=0:=Ki hd0;have hs:s=0:=Ki hs0;have hm:wE n 8=true:=hm0;have hz:z=(szN 8:Nat):=hz0;have hx:x=-1∧c=0:=Ki (by unfold xN at hx0;rw[Ag (fun h=>absurd h.1 (by decide))] at hx0;exact hx0);clear hz0 hd0 hs0 hx0 hm0;obtain⟨rfl,rfl⟩:=hx;obtain⟨a1,a2⟩:=hfa.2.2.2.2.2.2.2.1 rfl;obtain⟨k,hk1,hk⟩:=xQ (x:=op-96) (n:=14) (by omega) (by omega);obtain rfl:op=((96+k:Nat):Int):=by omega
  subst hd;subst hs;subst hz;exact .cond k n hk hi (hsx hm)
 | 9,_ =>
  have hz:z=szN 9∧dN 9 ⟨op,d,s,x,c,n,z⟩=true∧sN 9 ⟨op,d,s,x,c,n,z⟩=true∧xN 9 ⟨op,d,s,x,c,n,z⟩=true∧mN 9 ⟨op,d,s,x,c,n,z⟩=true:=by
   rw[Ag (by decide)] at h;simp only[Ab,Af] at h;exact⟨h.1,h.2.1.1.1,h.2.1.1.2,h.2.1.2,h.2.2⟩
  obtain⟨hz0,hd0,hs0,hx0,hm0⟩:=hz;clear h;have hd:d=0:=Ki hd0;have hs:s=0:=Ki hs0;have hz:z=(szN 9:Nat):=hz0;have hx:x=-1∧c=0:=Ki (by unfold xN at hx0;rw[Ag (fun h=>absurd h.1 (by decide))] at hx0;exact hx0);clear hz0 hd0 hs0 hx0 hm0;obtain⟨rfl,rfl⟩:=hx;obtain⟨a1,a2⟩:=hfa.2.2.2.2.2.2.2.2.1 rfl;obtain⟨k,hk1,hk⟩:=xQ (x:=op-112) (n:=2) (by omega) (by omega);obtain rfl:op=((112+k:Nat):Int):=by omega
  subst hd;subst hs;subst hz;exact .jump k n hk hi
 | 10,_ =>
  have hz:z=szN 10∧dN 10 ⟨op,d,s,x,c,n,z⟩=true∧sN 10 ⟨op,d,s,x,c,n,z⟩=true∧xN 10 ⟨op,d,s,x,c,n,z⟩=true∧mN 10 ⟨op,d,s,x,c,n,z⟩=true:=by
   rw[Ag (by decide)] at h;simp only[Ab,Af] at h;exact⟨h.1,h.2.1.1.1,h.2.1.1.2,h.2.1.2,h.2.2⟩
  obtain⟨hz0,hd0,hs0,hx0,hm0⟩:=hz;clear h;have hd:d=0:=Ki hd0;have hs:s=0:=Ki hs0;have hm:n<256:=Ki hm0;have hz:z=(szN 10:Nat):=hz0;have hx:x=-1∧c=0:=Ki (by unfold xN at hx0;rw[Ag (fun h=>absurd h.1 (by decide))] at hx0;exact hx0);clear hz0 hd0 hs0 hx0 hm0;obtain⟨rfl,rfl⟩:=hx;obtain rfl:=hfa.2.2.2.2.2.2.2.2.2.1 rfl;subst hd;subst hs;subst hz;exact .sys n hm
 | 11,_ =>
  have hz:z=szN 11∧dN 11 ⟨op,d,s,x,c,n,z⟩=true∧sN 11 ⟨op,d,s,x,c,n,z⟩=true∧xN 11 ⟨op,d,s,x,c,n,z⟩=true∧mN 11 ⟨op,d,s,x,c,n,z⟩=true:=by
   rw[Ag (by decide)] at h;simp only[Ab,Af] at h;exact⟨h.1,h.2.1.1.1,h.2.1.1.2,h.2.1.2,h.2.2⟩
  obtain⟨hz0,hd0,hs0,hx0,hm0⟩:=hz;clear h;have hd:0≤d∧d<8:=Ki hd0;have hs:0≤s∧s≤3:=Ki hs0;have hm:n=0:=Ki hm0;have hz:z=(szN 11:Nat):=hz0;have hx:x=-1∧c=0:=Ki (by unfold xN at hx0;rw[Ag (fun h=>absurd h.1 (by decide))] at hx0;exact hx0);clear hz0 hd0 hs0 hx0 hm0;obtain⟨rfl,rfl⟩:=hx;obtain rfl:=hfa.2.2.2.2.2.2.2.2.2.2.1 rfl;obtain⟨d,rfl,hd9⟩:=xQ (x:=d) (n:=8) hd.1 hd.2;obtain⟨s,rfl,hs9⟩:=xQ (x:=s) (n:=4) hs.1 (by omega);subst hm;subst hz;exact .getc d s hd9 hs9
 | 12,_ =>
  have hz:z=szN 12∧dN 12 ⟨op,d,s,x,c,n,z⟩=true∧sN 12 ⟨op,d,s,x,c,n,z⟩=true∧xN 12 ⟨op,d,s,x,c,n,z⟩=true∧mN 12 ⟨op,d,s,x,c,n,z⟩=true:=by
   rw[Ag (by decide)] at h;simp only[Ab,Af] at h;exact⟨h.1,h.2.1.1.1,h.2.1.1.2,h.2.1.2,h.2.2⟩
  obtain⟨hz0,hd0,hs0,hx0,hm0⟩:=hz;clear h;have hd:0≤d∧d<8:=Ki hd0;have hs:0≤s∧s≤4:=Ki hs0;have hm:n=0:=Ki hm0;have hz:z=(szN 12:Nat):=hz0;have hx:x=-1∧c=0:=Ki (by unfold xN at hx0;rw[Ag (fun h=>absurd h.1 (by decide))] at hx0;exact hx0);clear hz0 hd0 hs0 hx0 hm0;obtain⟨rfl,rfl⟩:=hx;obtain rfl:=hfa.2.2.2.2.2.2.2.2.2.2.2 rfl;obtain⟨d,rfl,hd9⟩:=xQ (x:=d) (n:=8) hd.1 hd.2;obtain⟨s,rfl,hs9⟩:=xQ (x:=s) (n:=5) hs.1 (by omega);subst hm;subst hz;exact .setc d s hd9 hs9
theorem fitL_of {n:Nat}(h:sxL (n%256) 8=n) (hn:n<4294967296):wE n 8=true:=sx_fit hn h
theorem wK {op:Int}:(0≤op∧op≤4→fmN op=1)∧(16≤op∧op≤21→fmN op=2)∧(32≤op∧op≤46→fmN op=3)∧(48≤op∧op≤62→fmN op=4)∧(64≤op∧op≤78→fmN op=5)∧(80≤op∧op≤86→fmN op=6)∧(88≤op∧op≤94→fmN op=7)∧(96≤op∧op≤109→fmN op=8)∧(112≤op∧op≤113→fmN op=9):=by
 unfold fmN;refine⟨fun h=>?_,fun h=>?_,fun h=>?_,fun h=>?_,fun h=>?_,fun h=>?_,fun h=>?_,fun h=>?_,fun h=>?_⟩;rw[Ah (by omega)];rw[Ag (by omega),Ah (by omega)];rw[Ag (by omega),Ag (by omega),Ah (by omega)];rw[Ag (by omega),Ag (by omega),Ag (by omega),Ah (by omega)];rw[Ag (by omega),Ag (by omega),Ag (by omega),Ag (by omega),Ah (by omega)];rw[Ag (by omega),Ag (by omega),Ag (by omega),Ag (by omega),Ag (by omega),Ah (by omega)];rw[Ag (by omega),Ag (by omega),Ag (by omega),Ag (by omega),Ag (by omega),Ag (by omega),Ah (by omega)];rw[Ag (by omega),Ag (by omega),Ag (by omega),Ag (by omega),Ag (by omega),Ag (by omega),Ag (by omega),Ah (by omega)];rw[Ag (by omega),Ag (by omega),Ag (by omega),Ag (by omega),Ag (by omega),Ag (by omega),Ag (by omega),Ag (by omega),Ah (by omega)]
theorem vN_mk {i:KI}{f:Nat}(hf:fmN i.op=f) (h0:f≠0) (hz:i.size=szN f) (hd:dN f i=true) (hs:sN f i=true) (hx:xN f i=true) (hm:mN f i=true):vN i=true:=by
 unfold vN;rw[hf,Ag h0,An hz,hd,hs,hx,hm];rfl
theorem vk_vN {i:KI}(h:VK i):vN i=true:=by
 cases h with
 | none k hk=>exact vN_mk (wK.1 (by dsimp only;omega)) (by decide) rfl rfl rfl rfl rfl
 | reg k d hk hd=>exact vN_mk (wK.2.1 (by dsimp only;omega)) (by decide) rfl (An (by dsimp only;omega)) rfl rfl rfl
 | regs k d s hk hd hs=>exact vN_mk (wK.2.2.1 (by dsimp only;omega)) (by decide) rfl (An (by dsimp only;omega)) (An (by dsimp only;omega)) rfl rfl
 | short k d n hk hd hn hf=>exact vN_mk (wK.2.2.2.1 (by dsimp only;omega)) (by decide) rfl (An (by dsimp only;omega)) rfl rfl (fitL_of hf hn)
 | imm k d n hk hd hn=>exact vN_mk (wK.2.2.2.2.1 (by dsimp only;omega)) (by decide) rfl (An (by dsimp only;omega)) rfl rfl rfl
 | mem k d s n hk hd hs hn hf=>exact vN_mk (wK.2.2.2.2.2.1 (by dsimp only;omega)) (by decide) rfl (An (by dsimp only;omega)) (An (by dsimp only;omega)) rfl (fitL_of hf hn)
 | idx k d s n x hk hd hs hn hx =>
  refine vN_mk (wK.2.2.2.2.2.2.1 (by dsimp only;omega)) (by decide) M (An (by dsimp only;omega)) (An (by dsimp only;omega)) ?_ rfl
  cases x with
  | none=>rfl
  | some p =>
   obtain⟨h1,h2⟩:=hx p rfl;unfold xN;rw[Ah ⟨rfl,by show (p.1:Int)≠-1;omega⟩,Ab];exact⟨An (by show 0≤(p.1:Int)∧(p.1:Int)<8;omega),An (by show 0≤(p.2:Int)∧(p.2:Int)≤3;omega)⟩
 | cond k n hk hn hf=>exact vN_mk (wK.2.2.2.2.2.2.2.1 (by dsimp only;omega)) (by decide) rfl rfl rfl rfl (fitL_of hf hn)
 | jump k n hk hn=>exact vN_mk (wK.2.2.2.2.2.2.2.2 (by dsimp only;omega)) (by decide) rfl rfl rfl rfl rfl
 | sys n hn=>exact vN_mk (f:=10) rfl (by decide) rfl rfl rfl rfl (An hn)
 | getc d s hd hs=>exact vN_mk (f:=11) rfl (by decide) rfl (An (by dsimp only;omega)) (An (by dsimp only;omega)) rfl rfl
 | setc d s hd hs=>exact vN_mk (f:=12) rfl (by decide) rfl (An (by dsimp only;omega)) (An (by dsimp only;omega)) rfl rfl
theorem vN_validK {i:KI}(hi:i.imm<4294967296):vN i=wW i:=by
 rw[Kf]
 constructor
 ·intro h;obtain⟨l,h1,h2⟩:=enc_vk (vN_vk hi h);unfold wW;rw[h2];rfl
 intro h;exact vk_vN (vK_of hi h)
theorem vX (i:KI) (hi:i.imm<4294967296) (w_0:World):Calls Tryz.prog 54 #[.agg (kiC i).toArray] w_0 fun e w'=>e=.returned (.bool (wW i))∧Ext w_0 w':=by
 rw[← vN_validK hi];exact rvalid_vN i hi w_0
end Go.Proofs.YtkaepknpplhgkaaGreatDoor
namespace Go.Proofs.YtkaepknpplhgkaaGreatDoor
open Go.RowKit
theorem none_rf (w_0:World):Calls Tryz.prog 72 #[] w_0 (NmPost noneL w_0):=by
 refine zN (args:=[]) Tryz.func72 M 2 M (Kh M)<|yJ (.nil)<|Z0<|zX<|zZ<|Za M M<|ZX<|zZ<|zA .none M (tX (z:=Jg) M M M M U59 (by kernel_rfl) (by kernel_rfl) M M) fun b1=>Za M M<|ZU M M fun w hw=>⟨b1,trivial,rfl,hw.ext0,HpG.mineL (j:=0) hw M id,HpG.blk hw (k:=0) rfl⟩
theorem single_rf (w_0:World):Calls Tryz.prog 73 #[] w_0 (NmPost singL w_0):=by
 refine zN (args:=[]) Tryz.func73 M 2 M (Kh M)<|yJ (.nil)<|Z0<|zX<|zZ<|Za M M<|ZX<|zZ<|zA .none M (tX (z:=Jg) M M M M U59 (by kernel_rfl) (by kernel_rfl) M M) fun b1=>Za M M<|ZU M M fun w hw=>⟨b1,trivial,rfl,hw.ext0,HpG.mineL (j:=0) hw M id,HpG.blk hw (k:=0) rfl⟩
theorem rcnames_any (w_0:World):Calls Tryz.prog 153 #[] w_0 fun e w'=>e=.returned (.agg (wO.map fun x=>.string ⟨x.toArray⟩).toArray)∧Ext w_0 w':=by
 refine zN (args:=[]) Tryz.func153 M 2 M (Kh M)<|yJ (.nil)<|Z0<|zX<|zZ<|Zt (z:=.agg #[.string ⟨#[]⟩,.string ⟨#[]⟩,.string ⟨#[]⟩,.string ⟨#[]⟩,.string ⟨#[]⟩,.string ⟨#[]⟩,.string ⟨#[]⟩,.string ⟨#[]⟩,.string ⟨#[]⟩,.string ⟨#[]⟩,.string ⟨#[]⟩,.string ⟨#[]⟩,.string ⟨#[]⟩,.string ⟨#[]⟩]) (cs:=Jq) M fun b0=>ZX<|zZ<|ZF M (wM (cells:=(wO.map fun x=>.string ⟨x.toArray⟩).toArray) M (by kernel_rfl)) ?_;refine ZR 0 M<|ZT<|zK<|yS M M 0 M Tryz.underlying44 M (by kernel_rfl) fun w hw=>⟨rfl,(Kk hw).ext⟩
end Go.Proofs.YtkaepknpplhgkaaGreatDoor
