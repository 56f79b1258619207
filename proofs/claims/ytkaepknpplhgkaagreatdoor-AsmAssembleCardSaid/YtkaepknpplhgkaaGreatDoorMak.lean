import Derived.Test.YtkaepknpplhgkaaGreatDoorMah
namespace Go.Proofs.YtkaepknpplhgkaaGreatDoor
open Go.RowKit
def fmN (op:Int):Nat :=
 if 0≤op∧op≤4 then 1 else if 16≤op∧op≤21 then 2 else if 32≤op∧op≤46 then 3 else if 48≤op∧op≤62 then 4 else if 64≤op∧op≤78 then 5
 else if 80≤op∧op≤86 then 6 else if 88≤op∧op≤94 then 7 else if 96≤op∧op≤109 then 8 else if op=112∨op=113 then 9 else if 128≤op∧op≤130 then (op-118).toNat else 0
def szN (f:Nat):Nat:=[0,1,2,2,3,6,3,7,2,5,2,2,2].getD f 0
theorem fmN_lt (op:Int):fmN op<13:=by
 unfold fmN
 repeat' split
 all_goals omega
set_option maxRecDepth 100000 in
theorem vM (op:Int) (w_0:World):Calls Tryz.prog 55 #[.int .i64 op] w_0 fun e w'=>e=.returned (.int .i64 (fmN op))∧Ext w_0 w':=by
 generalize hv:fmN op=v;unfold fmN at hv;refine zN (args:=[.int .i64 op]) Tryz.func55 M 66 M (Kh M)<|Z1 0 M<|Z0<|zX<|zZ<|Za M M<|ZX<|zB (ι:=Unit) (fun _=>[(0,.int .i64 op),(8,.bool (decide (0≤op∧op≤4)))]) (fun _=>Jy w_0 [] [] (fun _=>True)) ?_ (fun _=>?_)
 ·refine zZ<|Zm M M<|ZF M (yC M M)<|Zm M M<|zQ 5 M (fun g3=>?_) (fun g3=>?_)
  ·replace g3:=Ki g3;refine Zv M<|ZG M M M (xE M M)<|Zh M<|zS ?_;exact zU (ι:=Unit) () (.cons rfl<|.consE rfl (by congr 1;first|(rw[Kf,Af,Af];omega)|(rw[eq_comm,Af];omega)|(rw[eq_comm,decide_eq_false_iff_not];omega)|(rw[Kf,Am,Af];omega))<|.nil) Jz
  replace g3:=Kj g3;refine ZP M<|ZP M<|Zf M<|zS ?_;exact zU (ι:=Unit) () (.cons rfl<|.consE rfl (by congr 1;first|(rw[Kf,Af,Af];omega)|(rw[eq_comm,Af];omega)|(rw[eq_comm,decide_eq_false_iff_not];omega)|(rw[Kf,Am,Af];omega))<|.nil) Jz
 skip;refine zT M (fun h8=>?_) (fun h8=>?_)
 ·replace h8:=Ki h8;refine zX<|zZ<|Za M M<|ZT<|zK<|zW<|yY M M fun w hw=>⟨by rw[← hv,Ah ‹_›];rfl,hw.ext0⟩
 skip;replace h8:=Kj h8;refine zR<|zV<|zX<|zB (ι:=Unit) (fun _=>[(0,.int .i64 op),(14,.bool (decide (16≤op∧op≤21)))]) (fun _=>Jy w_0 [] [] (fun _=>True)) ?_ (fun _=>?_)
 ·refine zZ<|Zm M M<|ZF M (yC M M)<|Zm M M<|zQ 11 M (fun g3=>?_) (fun g3=>?_)
  ·replace g3:=Ki g3;refine Zv M<|ZG M M M (xE M M)<|Zh M<|zS ?_;exact zU (ι:=Unit) () (.cons rfl<|.consE rfl (by congr 1;first|(rw[Kf,Af,Af];omega)|(rw[eq_comm,Af];omega)|(rw[eq_comm,decide_eq_false_iff_not];omega)|(rw[Kf,Am,Af];omega))<|.nil) Jz
  replace g3:=Kj g3;refine ZP M<|ZP M<|Zf M<|zS ?_;exact zU (ι:=Unit) () (.cons rfl<|.consE rfl (by congr 1;first|(rw[Kf,Af,Af];omega)|(rw[eq_comm,Af];omega)|(rw[eq_comm,decide_eq_false_iff_not];omega)|(rw[Kf,Am,Af];omega))<|.nil) Jz
 skip;refine zT M (fun h14=>?_) (fun h14=>?_)
 ·replace h14:=Ki h14;refine zX<|zZ<|Za M M<|ZT<|zK<|zW<|yY M M fun w hw=>⟨by rw[← hv,Ag ‹_›,Ah ‹_›];rfl,hw.ext0⟩
 skip;replace h14:=Kj h14;refine zR<|zV<|zX<|zB (ι:=Unit) (fun _=>[(0,.int .i64 op),(20,.bool (decide (32≤op∧op≤46)))]) (fun _=>Jy w_0 [] [] (fun _=>True)) ?_ (fun _=>?_)
 ·refine zZ<|Zm M M<|ZF M (yC M M)<|Zm M M<|zQ 17 M (fun g3=>?_) (fun g3=>?_)
  ·replace g3:=Ki g3;refine Zv M<|ZG M M M (xE M M)<|Zh M<|zS ?_;exact zU (ι:=Unit) () (.cons rfl<|.consE rfl (by congr 1;first|(rw[Kf,Af,Af];omega)|(rw[eq_comm,Af];omega)|(rw[eq_comm,decide_eq_false_iff_not];omega)|(rw[Kf,Am,Af];omega))<|.nil) Jz
  replace g3:=Kj g3;refine ZP M<|ZP M<|Zf M<|zS ?_;exact zU (ι:=Unit) () (.cons rfl<|.consE rfl (by congr 1;first|(rw[Kf,Af,Af];omega)|(rw[eq_comm,Af];omega)|(rw[eq_comm,decide_eq_false_iff_not];omega)|(rw[Kf,Am,Af];omega))<|.nil) Jz
 skip;refine zT M (fun h20=>?_) (fun h20=>?_)
 ·replace h20:=Ki h20;refine zX<|zZ<|Za M M<|ZT<|zK<|zW<|yY M M fun w hw=>⟨by rw[← hv,Ag ‹_›,Ag ‹_›,Ah ‹_›];rfl,hw.ext0⟩
 skip;replace h20:=Kj h20;refine zR<|zV<|zX<|zB (ι:=Unit) (fun _=>[(0,.int .i64 op),(26,.bool (decide (48≤op∧op≤62)))]) (fun _=>Jy w_0 [] [] (fun _=>True)) ?_ (fun _=>?_)
 ·refine zZ<|Zm M M<|ZF M (yC M M)<|Zm M M<|zQ 23 M (fun g3=>?_) (fun g3=>?_)
  ·replace g3:=Ki g3;refine Zv M<|ZG M M M (xE M M)<|Zh M<|zS ?_;exact zU (ι:=Unit) () (.cons rfl<|.consE rfl (by congr 1;first|(rw[Kf,Af,Af];omega)|(rw[eq_comm,Af];omega)|(rw[eq_comm,decide_eq_false_iff_not];omega)|(rw[Kf,Am,Af];omega))<|.nil) Jz
  replace g3:=Kj g3;refine ZP M<|ZP M<|Zf M<|zS ?_;exact zU (ι:=Unit) () (.cons rfl<|.consE rfl (by congr 1;first|(rw[Kf,Af,Af];omega)|(rw[eq_comm,Af];omega)|(rw[eq_comm,decide_eq_false_iff_not];omega)|(rw[Kf,Am,Af];omega))<|.nil) Jz
 skip;refine zT M (fun h26=>?_) (fun h26=>?_)
 ·replace h26:=Ki h26;refine zX<|zZ<|Za M M<|ZT<|zK<|zW<|yY M M fun w hw=>⟨by rw[← hv,Ag ‹_›,Ag ‹_›,Ag ‹_›,Ah ‹_›];rfl,hw.ext0⟩
 skip;replace h26:=Kj h26;refine zR<|zV<|zX<|zB (ι:=Unit) (fun _=>[(0,.int .i64 op),(32,.bool (decide (64≤op∧op≤78)))]) (fun _=>Jy w_0 [] [] (fun _=>True)) ?_ (fun _=>?_)
 ·refine zZ<|Zm M M<|ZF M (yC M M)<|Zm M M<|zQ 29 M (fun g3=>?_) (fun g3=>?_)
  ·replace g3:=Ki g3;refine Zv M<|ZG M M M (xE M M)<|Zh M<|zS ?_;exact zU (ι:=Unit) () (.cons rfl<|.consE rfl (by congr 1;first|(rw[Kf,Af,Af];omega)|(rw[eq_comm,Af];omega)|(rw[eq_comm,decide_eq_false_iff_not];omega)|(rw[Kf,Am,Af];omega))<|.nil) Jz
  replace g3:=Kj g3;refine ZP M<|ZP M<|Zf M<|zS ?_;exact zU (ι:=Unit) () (.cons rfl<|.consE rfl (by congr 1;first|(rw[Kf,Af,Af];omega)|(rw[eq_comm,Af];omega)|(rw[eq_comm,decide_eq_false_iff_not];omega)|(rw[Kf,Am,Af];omega))<|.nil) Jz
 skip;refine zT M (fun h32=>?_) (fun h32=>?_)
 ·replace h32:=Ki h32;refine zX<|zZ<|Za M M<|ZT<|zK<|zW<|yY M M fun w hw=>⟨by rw[← hv,Ag ‹_›,Ag ‹_›,Ag ‹_›,Ag ‹_›,Ah ‹_›];rfl,hw.ext0⟩
 skip;replace h32:=Kj h32;refine zR<|zV<|zX<|zB (ι:=Unit) (fun _=>[(0,.int .i64 op),(38,.bool (decide (80≤op∧op≤86)))]) (fun _=>Jy w_0 [] [] (fun _=>True)) ?_ (fun _=>?_)
 ·refine zZ<|Zm M M<|ZF M (yC M M)<|Zm M M<|zQ 35 M (fun g3=>?_) (fun g3=>?_)
  ·replace g3:=Ki g3;refine Zv M<|ZG M M M (xE M M)<|Zh M<|zS ?_;exact zU (ι:=Unit) () (.cons rfl<|.consE rfl (by congr 1;first|(rw[Kf,Af,Af];omega)|(rw[eq_comm,Af];omega)|(rw[eq_comm,decide_eq_false_iff_not];omega)|(rw[Kf,Am,Af];omega))<|.nil) Jz
  replace g3:=Kj g3;refine ZP M<|ZP M<|Zf M<|zS ?_;exact zU (ι:=Unit) () (.cons rfl<|.consE rfl (by congr 1;first|(rw[Kf,Af,Af];omega)|(rw[eq_comm,Af];omega)|(rw[eq_comm,decide_eq_false_iff_not];omega)|(rw[Kf,Am,Af];omega))<|.nil) Jz
 skip;refine zT M (fun h38=>?_) (fun h38=>?_)
 ·replace h38:=Ki h38;refine zX<|zZ<|Za M M<|ZT<|zK<|zW<|yY M M fun w hw=>⟨by rw[← hv,Ag ‹_›,Ag ‹_›,Ag ‹_›,Ag ‹_›,Ag ‹_›,Ah ‹_›];rfl,hw.ext0⟩
 skip;replace h38:=Kj h38;refine zR<|zV<|zX<|zB (ι:=Unit) (fun _=>[(0,.int .i64 op),(44,.bool (decide (88≤op∧op≤94)))]) (fun _=>Jy w_0 [] [] (fun _=>True)) ?_ (fun _=>?_)
 ·refine zZ<|Zm M M<|ZF M (yC M M)<|Zm M M<|zQ 41 M (fun g3=>?_) (fun g3=>?_)
  ·replace g3:=Ki g3;refine Zv M<|ZG M M M (xE M M)<|Zh M<|zS ?_;exact zU (ι:=Unit) () (.cons rfl<|.consE rfl (by congr 1;first|(rw[Kf,Af,Af];omega)|(rw[eq_comm,Af];omega)|(rw[eq_comm,decide_eq_false_iff_not];omega)|(rw[Kf,Am,Af];omega))<|.nil) Jz
  replace g3:=Kj g3;refine ZP M<|ZP M<|Zf M<|zS ?_;exact zU (ι:=Unit) () (.cons rfl<|.consE rfl (by congr 1;first|(rw[Kf,Af,Af];omega)|(rw[eq_comm,Af];omega)|(rw[eq_comm,decide_eq_false_iff_not];omega)|(rw[Kf,Am,Af];omega))<|.nil) Jz
 skip;refine zT M (fun h44=>?_) (fun h44=>?_)
 ·replace h44:=Ki h44;refine zX<|zZ<|Za M M<|ZT<|zK<|zW<|yY M M fun w hw=>⟨by rw[← hv,Ag ‹_›,Ag ‹_›,Ag ‹_›,Ag ‹_›,Ag ‹_›,Ag ‹_›,Ah ‹_›];rfl,hw.ext0⟩
 skip;replace h44:=Kj h44;refine zR<|zV<|zX<|zB (ι:=Unit) (fun _=>[(0,.int .i64 op),(50,.bool (decide (96≤op∧op≤109)))]) (fun _=>Jy w_0 [] [] (fun _=>True)) ?_ (fun _=>?_)
 ·refine zZ<|Zm M M<|ZF M (yC M M)<|Zm M M<|zQ 47 M (fun g3=>?_) (fun g3=>?_)
  ·replace g3:=Ki g3;refine Zv M<|ZG M M M (xE M M)<|Zh M<|zS ?_;exact zU (ι:=Unit) () (.cons rfl<|.consE rfl (by congr 1;first|(rw[Kf,Af,Af];omega)|(rw[eq_comm,Af];omega)|(rw[eq_comm,decide_eq_false_iff_not];omega)|(rw[Kf,Am,Af];omega))<|.nil) Jz
  replace g3:=Kj g3;refine ZP M<|ZP M<|Zf M<|zS ?_;exact zU (ι:=Unit) () (.cons rfl<|.consE rfl (by congr 1;first|(rw[Kf,Af,Af];omega)|(rw[eq_comm,Af];omega)|(rw[eq_comm,decide_eq_false_iff_not];omega)|(rw[Kf,Am,Af];omega))<|.nil) Jz
 skip;refine zT M (fun h50=>?_) (fun h50=>?_)
 ·replace h50:=Ki h50;refine zX<|zZ<|Za M M<|ZT<|zK<|zW<|yY M M fun w hw=>⟨by rw[← hv,Ag ‹_›,Ag ‹_›,Ag ‹_›,Ag ‹_›,Ag ‹_›,Ag ‹_›,Ag ‹_›,Ah ‹_›];rfl,hw.ext0⟩
 skip;replace h50:=Kj h50;refine zR<|zV<|zX<|zB (ι:=Unit) (fun _=>[(0,.int .i64 op),(56,.bool (decide (op=112∨op=113)))]) (fun _=>Jy w_0 [] [] (fun _=>True)) ?_ (fun _=>?_)
 ·refine zZ<|Zm M M<|Ze M<|Zm M M<|zQ 53 M (fun g3=>?_) (fun g3=>?_)
  ·replace g3:=Kq g3;refine ZP M<|ZP M<|Zh M<|zS ?_;exact zU (ι:=Unit) () (.cons rfl<|.consE rfl (by congr 1;first|(rw[Kf,Af,Af];omega)|(rw[eq_comm,Af];omega)|(rw[eq_comm,decide_eq_false_iff_not];omega)|(rw[Kf,Am,Af];omega))<|.nil) Jz
  replace g3:=yT g3;refine Zv M<|Zx M<|Zf M<|zS ?_;exact zU (ι:=Unit) () (.cons rfl<|.consE rfl (by congr 1;first|(rw[Kf,Af,Af];omega)|(rw[eq_comm,Af];omega)|(rw[eq_comm,decide_eq_false_iff_not];omega)|(rw[Kf,Am,Af];omega))<|.nil) Jz
 skip;refine zT M (fun h56=>?_) (fun h56=>?_)
 ·replace h56:=Ki h56;refine zX<|zZ<|Za M M<|ZT<|zK<|zW<|yY M M fun w hw=>⟨by rw[← hv,Ag ‹_›,Ag ‹_›,Ag ‹_›,Ag ‹_›,Ag ‹_›,Ag ‹_›,Ag ‹_›,Ag ‹_›,Ah ‹_›];rfl,hw.ext0⟩
 skip;replace h56:=Kj h56;refine zR<|zV<|zX<|zB (ι:=Unit) (fun _=>[(0,.int .i64 op),(62,.bool (decide (128≤op∧op≤130)))]) (fun _=>Jy w_0 [] [] (fun _=>True)) ?_ (fun _=>?_)
 ·refine zZ<|Zm M M<|ZF M (yC M M)<|Zm M M<|zQ 59 M (fun g3=>?_) (fun g3=>?_)
  ·replace g3:=Ki g3;refine Zv M<|ZG M M M (xE M M)<|Zh M<|zS ?_;exact zU (ι:=Unit) () (.cons rfl<|.consE rfl (by congr 1;first|(rw[Kf,Af,Af];omega)|(rw[eq_comm,Af];omega)|(rw[eq_comm,decide_eq_false_iff_not];omega)|(rw[Kf,Am,Af];omega))<|.nil) Jz
  replace g3:=Kj g3;refine ZP M<|ZP M<|Zf M<|zS ?_;exact zU (ι:=Unit) () (.cons rfl<|.consE rfl (by congr 1;first|(rw[Kf,Af,Af];omega)|(rw[eq_comm,Af];omega)|(rw[eq_comm,decide_eq_false_iff_not];omega)|(rw[Kf,Am,Af];omega))<|.nil) Jz
 skip;refine zT M (fun h62=>?_) (fun h62=>?_)
 ·replace h62:=Ki h62;refine zX<|zZ<|Zm M M<|ZF M (vL M M (Zi64 _))<|ZF M (zF M M (show IntKind.i64.wrap (op-128+10)=((op-118).toNat:Nat) by rw[i64_in _ (by omega) (by omega)];omega)) ?_;refine Za M M<|ZT<|zK<|zW<|yY M M fun w hw=>⟨by rw[← hv,Ag ‹_›,Ag ‹_›,Ag ‹_›,Ag ‹_›,Ag ‹_›,Ag ‹_›,Ag ‹_›,Ag ‹_›,Ag ‹_›,Ah ‹_›],hw.ext0⟩
 skip;replace h62:=Kj h62;refine zR<|zV<|zX<|zZ<|Za M M<|ZU M M fun w hw=>⟨by rw[← hv,Ag ‹_›,Ag ‹_›,Ag ‹_›,Ag ‹_›,Ag ‹_›,Ag ‹_›,Ag ‹_›,Ag ‹_›,Ag ‹_›,Ag ‹_›];rfl,hw.ext0⟩
theorem szN_at {f:Nat}(h:f<13):([.int .i64 0,.int .i64 1,.int .i64 2,.int .i64 2,.int .i64 3,.int .i64 6,.int .i64 3,.int .i64 7,.int .i64 2,.int .i64 5,.int .i64 2,.int .i64 2,.int .i64 2]:List Value)[0+f*1]? = some (.int .i64 (szN f:Nat)):=by
 have h1:(List.range 13).all (fun f=>decide (([0,1,2,2,3,6,3,7,2,5,2,2,2]:List Nat)[f]? = some (szN f)))=true:=by decide
 have h2:=Ki (uF h1 f h);have e:([.int .i64 0,.int .i64 1,.int .i64 2,.int .i64 2,.int .i64 3,.int .i64 6,.int .i64 3,.int .i64 7,.int .i64 2,.int .i64 5,.int .i64 2,.int .i64 2,.int .i64 2]:List Value)=([0,1,2,2,3,6,3,7,2,5,2,2,2]:List Nat).map fun n=>.int .i64 (n:Nat):=rfl;rw[e,List.getElem?_map,Ac,Nat.mul_one,h2];rfl
theorem rsize_any (c:Nat) (hc:c<256) (w_0:World):Calls Tryz.prog 52 #[.int .u8 c] w_0 fun e w'=>e=.returned (.int .i64 (szN (fmN c):Nat))∧Ext w_0 w':=by
 have hf:=fmN_lt c;refine zN (args:=[.int .u8 c]) Tryz.func52 M 10 M (Kh M)<|Z1 0 M<|Z0<|zX<|zZ<|Za M M<|ZX<|zZ<|ZF M (wM (cells:=#[.int .i64 0,.int .i64 1,.int .i64 2,.int .i64 2,.int .i64 3,.int .i64 6,.int .i64 3,.int .i64 7,.int .i64 2,.int .i64 5,.int .i64 2,.int .i64 2,.int .i64 2]) M (by kernel_rfl))<|Zt (z:=.agg #[.int .i64 0,.int .i64 0,.int .i64 0,.int .i64 0,.int .i64 0,.int .i64 0,.int .i64 0,.int .i64 0,.int .i64 0,.int .i64 0,.int .i64 0,.int .i64 0,.int .i64 0]) (cs:=[.int .i64 0,.int .i64 0,.int .i64 0,.int .i64 0,.int .i64 0,.int .i64 0,.int .i64 0,.int .i64 0,.int .i64 0,.int .i64 0,.int .i64 0,.int .i64 0,.int .i64 0]) M fun b3=>ZR 0 M<|ZX<|Z3r 0 2 3 M<|Zm M M<|ZF M (Zc M U3 (i64w_nat (by omega)))<|Zu (v:=.int .i64 (fmN c:Nat)) M (fun w hw=>vM c w)<|ZF M (Zj (es:=1) (j:=fmN c) M M Tryz.underlying203 M hf M) ?_;refine ZF M (zL M U3 M (fun w hw=>HpG.cell (k:=0) hw M (szN_at hf)))<|Za M M<|ZU M M fun w hw=>⟨rfl,hw.ext0⟩
end Go.Proofs.YtkaepknpplhgkaaGreatDoor
namespace Go.Proofs.YtkaepknpplhgkaaGreatDoor
open Go.RowKit
theorem rreg_any (n:Int) (w_0:World):Calls Tryz.prog 143 #[.int .i64 n] w_0 fun e w'=>e=.returned (.bool (decide (0≤n∧n<8)))∧Ext w_0 w':=by
 refine zN (args:=[.int .i64 n]) Tryz.func143 M 9 M (Kh M)<|Z1 0 M<|Z0<|zX<|zZ<|Za M M<|ZX<|zZ<|Zm M M<|ZF M (yC M M)<|Zm M M<|zQ 5 M (fun g3=>?_) (fun g3=>?_)
 ·replace g3:=Ki g3;refine Zv M<|ZG M M M (yR M M)<|Zh M<|Za M M<|ZU M M fun w hw=>⟨by congr 2;rw[Kf,Af,Af];omega,hw.ext0⟩
 replace g3:=Kj g3;refine ZP M<|ZP M<|Zf M<|Za M M<|ZU M M fun w hw=>⟨by rw[Ao (by omega)],hw.ext0⟩
end Go.Proofs.YtkaepknpplhgkaaGreatDoor
