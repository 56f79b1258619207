import Derived.Test.YtkaepknpplhgkaaGreatDoorMak
import Derived.Test.YtkaepknpplhgkaaGreatDoorMai
import Derived.Test.YtkaepknpplhgkaaGreatDoorMaq
import Derived.Test.YtkaepknpplhgkaaGreatDoorMap
set_option maxRecDepth 100000
set_option maxHeartbeats 1000000
namespace Go.Proofs.YtkaepknpplhgkaaGreatDoor
open Go.RowKit
abbrev roC (q:SQ):List Value:=[.bool q.known,.bool q.d,.bool q.a,.bool q.b,.bool (decide (q.kind=1)),.int .i64 q.bits,.int .u32 q.most]
abbrev roO (q:SQ):Obj:=bk 146 (roC q)
theorem sq_of {op:Int}{s:QS}(h:qU op=some s):wV op=⟨true,s.d,s.a,s.b,s.kind,s.bits,s.most⟩:=by unfold wV;rw[h]
theorem sq_no {op:Int}(h:qU op=none):wV op=zSQ:=by unfold wV;rw[h]
theorem ro_eq {op:Int}{q:SQ}(h:wV op=q) {e:Ending}(he:e=.returned (.agg (roC q).toArray)):e=.returned (.agg (roC (wV op)).toArray):=by rw[h];exact he
theorem sh_1 {op:Int}(h:1≤op∧op≤12):qU op=some ⟨true,true,true,0,0,0⟩:=by unfold qU;rw[Ah h]
theorem sh_2 {op:Int}(h:op=17∨op=18∨op=19):qU op=some ⟨true,true,false,2,18,0⟩:=by unfold qU;rw[Ag (by omega),Ah h]
theorem sh_3 {op:Int}(h:(16≤op∧op≤27)∨(32≤op∧op≤37)) (hn:¬(op=17∨op=18∨op=19)):qU op=some ⟨true,true,false,1,18,0⟩:=by
 unfold qU;rw[Ag (by omega),Ag hn]
 by_cases h1:16≤op∧op≤27
 rw[Ah h1];rw[Ag h1,Ah (by omega)]
theorem sh_n {op:Int}(h1:¬(1≤op∧op≤12)) (h2:¬((16≤op∧op≤27)∨(32≤op∧op≤37))):qU op=if op=40 then some ⟨true,false,false,1,22,0⟩
 else if op=41 then some ⟨true,false,false,2,22,0⟩
 else if op=48 then some ⟨false,false,false,2,18,0⟩
 else if op=49∨op=50∨op=51 then some ⟨false,false,false,0,0,0⟩
 else if op=52 then some ⟨false,true,false,0,0,0⟩
 else if op=53 then some ⟨true,false,false,2,18,3⟩
 else if op=54 then some ⟨false,true,false,2,18,4⟩
 else none:=by
 unfold qU;rw[Ag h1,Ag (by omega),Ag (by omega),Ag (by omega)]
theorem rof_any (op:Int) (w_0:World):Calls Tryz.prog 78 #[.int .i64 op] w_0 fun e w'=>e=.returned (.agg (roC (wV op)).toArray)∧Ext w_0 w':=by
 refine zN (args:=[.int .i64 op]) Tryz.func78 M 76 M (Kh M)<|Z1 0 M<|Z0<|zX<|zZ<|Zt (z:=Ji) (cs:=Ju) M fun b2=>ZX<|zJ<|zB (ι:={z:Bool // z=true↔(1≤op∧op≤12)}) (fun z=>[(0,.int .i64 op),(2,Jx b2),(3,.bool z.1)]) (fun _=>Jy w_0 [(b2,roO zSQ)] [] (fun _=>True)) ?_ (fun z=>?_)
 ·refine zZ<|Zm M M<|ZF M (yC M M)<|Zm M M<|zQ 6 M (fun g1=>?_) (fun g1=>?_)
  ·replace g1:=Ki g1;refine Zv M<|ZG M M M (xE M M)<|Zh M<|Za M M<|zS ?_;exact zU (ι:={z:Bool // z=true↔(1≤op∧op≤12)}) ⟨decide (op≤12),by rw[decide_eq_true_iff];omega⟩ (O3 M) Jz
  replace g1:=Kj g1;refine ZP M<|ZP M<|Zf M<|Za M M<|zS ?_;exact zU (ι:={z:Bool // z=true↔(1≤op∧op≤12)}) ⟨false,by simp;omega⟩ (O3 M) Jz
 obtain⟨z,hz⟩:=z;dsimp only;refine zT M (fun h3=>?_) (fun h3=>?_)
 ·refine zX<|zZ<|ZF M (Zb [.bool false,.bool false,.bool false,.bool false,.bool false,.int .i64 0,.int .u32 0] [(0,1),(1,1),(2,1),(3,1),(4,1),(5,1),(6,1)] M)<|ZR 0 M<|ZT<|zK<|zM<|zW<|yS M M 0 M U146 M (by kernel_rfl) fun w hw=>⟨ro_eq (sq_of (sh_1 (hz.1 h3))) rfl,(Kk hw).ext⟩
 skip;have h3':¬(1≤op∧op≤12):=fun h=>by rw[hz.2 h] at h3;cases h3
 refine zB (ι:={z:Bool // z=true↔(op=17∨op=18∨op=19)}) (fun z=>[(0,.int .i64 op),(2,Jx b2),(11,.bool z.1)]) (fun _=>Jy w_0 [(b2,roO zSQ)] [] (fun _=>True)) ?_ (fun z=>?_)
 ·refine zZ<|Zm M M<|Ze M<|Zm M M<|zQ 14 M (fun hb=>?_) (fun hb=>?_)
  ·replace hb:=Kq hb;refine ZP M<|ZP M<|Zh M<|Zm M M<|ZP M<|ZP M<|Zh M<|Za M M<|zS ?_;exact zU (ι:={z:Bool // z=true↔(op=17∨op=18∨op=19)}) ⟨true,by simp;omega⟩ (O3 M) Jz
  replace hb:=yT hb;refine Zv M<|Zx M<|Zf M<|Zm M M<|zQ 18 M (fun hb=>?_) (fun hb=>?_)
  ·replace hb:=Kq hb;refine ZP M<|ZP M<|Zh M<|Za M M<|zS ?_;exact zU (ι:={z:Bool // z=true↔(op=17∨op=18∨op=19)}) ⟨true,by simp;omega⟩ (O3 M) Jz
  replace hb:=yT hb;refine Zv M<|Zx M<|Zf M<|Za M M<|zS ?_;exact zU (ι:={z:Bool // z=true↔(op=17∨op=18∨op=19)}) ⟨op==19,by rw[Am];omega⟩ (O3 M) Jz
 obtain⟨z,hz3⟩:=z;dsimp only;refine zT M (fun h11=>?_) (fun h11=>?_)
 ·refine zX<|zZ<|ZF M (Zb [.bool false,.bool false,.bool false,.bool false,.bool false,.int .i64 0,.int .u32 0] [(0,1),(1,1),(2,1),(3,1),(4,1),(5,1),(6,1)] M)<|ZR 0 M<|ZT<|zK<|zM<|zW<|yS M M 0 M U146 M (by kernel_rfl) fun w hw=>⟨ro_eq (sq_of (sh_2 (hz3.1 h11))) rfl,(Kk hw).ext⟩
 skip;have h11':¬(op=17∨op=18∨op=19):=fun h=>by rw[hz3.2 h] at h11;cases h11
 refine zB (ι:={z:Bool // z=true↔((16≤op∧op≤27)∨(32≤op∧op≤37))}) (fun z=>[(0,.int .i64 op),(2,Jx b2),(23,.bool z.1)]) (fun _=>Jy w_0 [(b2,roO zSQ)] [] (fun _=>True)) ?_ (fun z=>?_)
 ·refine zZ<|Zm M M<|ZF M (yC M M)<|Zm M M<|zQ 26 M (fun hb=>?_) (fun hb=>?_)
  ·replace hb:=Ki hb;refine Zv M<|ZG M M M (xE M M)<|Zh M<|Zm M M<|zQ 30 M (fun hb=>?_) (fun hb=>?_)
   ·replace hb:=Ki hb;refine ZP M<|ZP M<|ZP M<|zE M M M<|zE M M M<|ZP M<|Zh M<|Za M M<|zS ?_
    first|exact zU (ι:={z:Bool // z=true↔((16≤op∧op≤27)∨(32≤op∧op≤37))}) ⟨true,by simp;omega⟩ (O3 rfl) Jz|exact zU (ι:={z:Bool // z=true↔((16≤op∧op≤27)∨(32≤op∧op≤37))}) ⟨false,by simp;omega⟩ (O3 rfl) Jz|exact zU (ι:={z:Bool // z=true↔((16≤op∧op≤27)∨(32≤op∧op≤37))}) ⟨decide (op≤37),by rw[decide_eq_true_iff];omega⟩ (O3 rfl) Jz
   replace hb:=Kj hb;refine Zv M<|ZG M M M (yC M M)<|Zv M<|zQ 33 M (fun hb=>?_) (fun hb=>?_)
   ·replace hb:=Ki hb;refine Zv M<|ZG M M M (xE M M)<|ZG M M M (yA M M)<|Zf M<|Za M M<|zS ?_
    first|exact zU (ι:={z:Bool // z=true↔((16≤op∧op≤27)∨(32≤op∧op≤37))}) ⟨true,by simp;omega⟩ (O3 rfl) Jz|exact zU (ι:={z:Bool // z=true↔((16≤op∧op≤27)∨(32≤op∧op≤37))}) ⟨false,by simp;omega⟩ (O3 rfl) Jz|exact zU (ι:={z:Bool // z=true↔((16≤op∧op≤27)∨(32≤op∧op≤37))}) ⟨decide (op≤37),by rw[decide_eq_true_iff];omega⟩ (O3 rfl) Jz
   replace hb:=Kj hb;refine ZP M<|ZP M<|ZG M M M (yD M M)<|Zf M<|Za M M<|zS ?_
   first|exact zU (ι:={z:Bool // z=true↔((16≤op∧op≤27)∨(32≤op∧op≤37))}) ⟨true,by simp;omega⟩ (O3 rfl) Jz|exact zU (ι:={z:Bool // z=true↔((16≤op∧op≤27)∨(32≤op∧op≤37))}) ⟨false,by simp;omega⟩ (O3 rfl) Jz|exact zU (ι:={z:Bool // z=true↔((16≤op∧op≤27)∨(32≤op∧op≤37))}) ⟨decide (op≤37),by rw[decide_eq_true_iff];omega⟩ (O3 rfl) Jz
  replace hb:=Kj hb;refine ZP M<|ZP M<|Zf M<|Zm M M<|Zv M<|ZG M M M (yC M M)<|Zv M<|zQ 33 M (fun hb=>?_) (fun hb=>?_)
  ·replace hb:=Ki hb;refine Zv M<|ZG M M M (xE M M)<|ZG M M M (yA M M)<|Zf M<|Za M M<|zS ?_
   first|exact zU (ι:={z:Bool // z=true↔((16≤op∧op≤27)∨(32≤op∧op≤37))}) ⟨true,by simp;omega⟩ (O3 rfl) Jz|exact zU (ι:={z:Bool // z=true↔((16≤op∧op≤27)∨(32≤op∧op≤37))}) ⟨false,by simp;omega⟩ (O3 rfl) Jz|exact zU (ι:={z:Bool // z=true↔((16≤op∧op≤27)∨(32≤op∧op≤37))}) ⟨decide (op≤37),by rw[decide_eq_true_iff];omega⟩ (O3 rfl) Jz
  replace hb:=Kj hb;refine ZP M<|ZP M<|ZG M M M (yD M M)<|Zf M<|Za M M<|zS ?_
  first|exact zU (ι:={z:Bool // z=true↔((16≤op∧op≤27)∨(32≤op∧op≤37))}) ⟨true,by simp;omega⟩ (O3 rfl) Jz|exact zU (ι:={z:Bool // z=true↔((16≤op∧op≤27)∨(32≤op∧op≤37))}) ⟨false,by simp;omega⟩ (O3 rfl) Jz|exact zU (ι:={z:Bool // z=true↔((16≤op∧op≤27)∨(32≤op∧op≤37))}) ⟨decide (op≤37),by rw[decide_eq_true_iff];omega⟩ (O3 rfl) Jz
 obtain⟨z,hz5⟩:=z;dsimp only;refine zT M (fun h23=>?_) (fun h23=>?_)
 ·refine zX<|zZ<|ZF M (Zb [.bool false,.bool false,.bool false,.bool false,.bool false,.int .i64 0,.int .u32 0] [(0,1),(1,1),(2,1),(3,1),(4,1),(5,1),(6,1)] M)<|ZR 0 M<|ZT<|zK<|zM<|zW<|yS M M 0 M U146 M (by kernel_rfl) fun w hw=>⟨ro_eq (sq_of (sh_3 (hz5.1 h23) h11')) rfl,(Kk hw).ext⟩
 skip;have h23':¬((16≤op∧op≤27)∨(32≤op∧op≤37)):=fun h=>by rw[hz5.2 h] at h23;cases h23
 have hsn:=sh_n h3' h23';refine zX<|zZ<|Zm M M<|Ze M<|Za M M<|ZT<|zT M (fun h39=>?_) (fun h39=>?_)
 ·replace h39:=Kq h39;refine zX<|Z4r 0 2 23 39 M<|ZF M (Zb [.bool false,.bool false,.bool false,.bool false,.bool false,.int .i64 0,.int .u32 0] [(0,1),(1,1),(2,1),(3,1),(4,1),(5,1),(6,1)] M)<|ZR 0 M<|ZT<|zK<|zM<|zW<|yS M M 0 M U146 M (by kernel_rfl) fun w hw=>⟨ro_eq (sq_of (hsn.trans (by rw[Ah h39]))) rfl,(Kk hw).ext⟩
 replace h39:=yT h39;refine zX<|Z4r 0 2 23 39 M<|Zm M M<|Ze M<|Za M M<|ZT<|zT M (fun h43=>?_) (fun h43=>?_)
 ·replace h43:=Kq h43;refine zX<|Z5r 0 2 23 39 43 M<|ZF M (Zb [.bool false,.bool false,.bool false,.bool false,.bool false,.int .i64 0,.int .u32 0] [(0,1),(1,1),(2,1),(3,1),(4,1),(5,1),(6,1)] M)<|ZR 0 M<|ZT<|zK<|zM<|zW<|yS M M 0 M U146 M (by kernel_rfl) fun w hw=>⟨ro_eq (sq_of (hsn.trans (by rw[Ag h39,Ah h43]))) rfl,(Kk hw).ext⟩
 replace h43:=yT h43;refine zX<|Z5r 0 2 23 39 43 M<|Zm M M<|Ze M<|Za M M<|ZT<|zT M (fun h47=>?_) (fun h47=>?_)
 ·replace h47:=Kq h47;refine zX<|Z6r 0 2 23 39 43 47 M<|ZF M (Zb [.bool false,.bool false,.bool false,.bool false,.bool false,.int .i64 0,.int .u32 0] [(0,1),(1,1),(2,1),(3,1),(4,1),(5,1),(6,1)] M)<|ZR 0 M<|ZT<|zK<|zM<|zW<|yS M M 0 M U146 M (by kernel_rfl) fun w hw=>⟨ro_eq (sq_of (hsn.trans (by rw[Ag h39,Ag h43,Ah h47]))) rfl,(Kk hw).ext⟩
 replace h47:=yT h47;refine zB (ι:={z:Bool // z=true↔(op=49∨op=50∨op=51)}) (fun z=>[(0,.int .i64 op),(2,Jx b2),(51,.bool z.1)]) (fun _=>Jy w_0 [(b2,roO zSQ)] [] (fun _=>True)) ?_ (fun z=>?_)
 ·refine Z6r 0 2 23 39 43 47 M<|Zm M M<|Ze M<|Zm M M<|zQ 54 M (fun hb=>?_) (fun hb=>?_)
  ·replace hb:=Kq hb;refine ZP M<|ZP M<|Zh M<|Zm M M<|ZP M<|ZP M<|Zh M<|Za M M<|zS ?_;exact zU (ι:={z:Bool // z=true↔(op=49∨op=50∨op=51)}) ⟨true,by simp;omega⟩ (O3 M) Jz
  replace hb:=yT hb;refine Zv M<|Zx M<|Zf M<|Zm M M<|zQ 58 M (fun hb=>?_) (fun hb=>?_)
  ·replace hb:=Kq hb;refine ZP M<|ZP M<|Zh M<|Za M M<|zS ?_;exact zU (ι:={z:Bool // z=true↔(op=49∨op=50∨op=51)}) ⟨true,by simp;omega⟩ (O3 M) Jz
  replace hb:=yT hb;refine Zv M<|Zx M<|Zf M<|Za M M<|zS ?_;exact zU (ι:={z:Bool // z=true↔(op=49∨op=50∨op=51)}) ⟨op==51,by rw[Am];omega⟩ (O3 M) Jz
 obtain⟨z,hz13⟩:=z;dsimp only;refine zT M (fun h51=>?_) (fun h51=>?_)
 ·refine zX<|zZ<|ZF M (Zb [.bool false,.bool false,.bool false,.bool false,.bool false,.int .i64 0,.int .u32 0] [(0,1),(1,1),(2,1),(3,1),(4,1),(5,1),(6,1)] M)<|ZR 0 M<|ZT<|zK<|zM<|zW<|yS M M 0 M U146 M (by kernel_rfl) fun w hw=>⟨ro_eq (sq_of (hsn.trans (by rw[Ag h39,Ag h43,Ag h47,Ah (hz13.1 h51)]))) rfl,(Kk hw).ext⟩
 skip;have h51':¬(op=49∨op=50∨op=51):=fun h=>by rw[hz13.2 h] at h51;cases h51
 refine zX<|zZ<|Zm M M<|Ze M<|Za M M<|ZT<|zT M (fun h63=>?_) (fun h63=>?_)
 ·replace h63:=Kq h63;refine zX<|Z4r 0 2 51 63 M<|ZF M (Zb [.bool false,.bool false,.bool false,.bool false,.bool false,.int .i64 0,.int .u32 0] [(0,1),(1,1),(2,1),(3,1),(4,1),(5,1),(6,1)] M)<|ZR 0 M<|ZT<|zK<|zM<|zW<|yS M M 0 M U146 M (by kernel_rfl) fun w hw=>⟨ro_eq (sq_of (hsn.trans (by rw[Ag h39,Ag h43,Ag h47,Ag h51',Ah h63]))) rfl,(Kk hw).ext⟩
 replace h63:=yT h63;refine zX<|Z4r 0 2 51 63 M<|Zm M M<|Ze M<|Za M M<|ZT<|zT M (fun h67=>?_) (fun h67=>?_)
 ·replace h67:=Kq h67;refine zX<|Z5r 0 2 51 63 67 M<|ZF M (Zb [.bool false,.bool false,.bool false,.bool false,.bool false,.int .i64 0,.int .u32 0] [(0,1),(1,1),(2,1),(3,1),(4,1),(5,1),(6,1)] M)<|ZR 0 M<|ZT<|zK<|zM<|zW<|yS M M 0 M U146 M (by kernel_rfl) fun w hw=>⟨ro_eq (sq_of (hsn.trans (by rw[Ag h39,Ag h43,Ag h47,Ag h51',Ag h63,Ah h67]))) rfl,(Kk hw).ext⟩
 replace h67:=yT h67;refine zX<|Z5r 0 2 51 63 67 M<|Zm M M<|Ze M<|Za M M<|ZT<|zT M (fun h71=>?_) (fun h71=>?_)
 ·replace h71:=Kq h71;refine zX<|Z6r 0 2 51 63 67 71 M<|ZF M (Zb [.bool false,.bool false,.bool false,.bool false,.bool false,.int .i64 0,.int .u32 0] [(0,1),(1,1),(2,1),(3,1),(4,1),(5,1),(6,1)] M)<|ZR 0 M<|ZT<|zK<|zM<|zW<|yS M M 0 M U146 M (by kernel_rfl) fun w hw=>⟨ro_eq (sq_of (hsn.trans (by rw[Ag h39,Ag h43,Ag h47,Ag h51',Ag h63,Ag h67,Ah h71]))) rfl,(Kk hw).ext⟩
 replace h71:=yT h71;refine zR<|zH<|zV<|zX<|Z6r 0 2 51 63 67 71 M<|ZF M (Zb [.bool false,.bool false,.bool false,.bool false,.bool false,.int .i64 0,.int .u32 0] [(0,1),(1,1),(2,1),(3,1),(4,1),(5,1),(6,1)] M)<|ZR 0 M<|ZT<|zK<|yS M M 0 M U146 M (by kernel_rfl) fun w hw=>⟨ro_eq (sq_no (hsn.trans (by rw[Ag h39,Ag h43,Ag h47,Ag h51',Ag h63,Ag h67,Ag h71]))) rfl,(Kk hw).ext⟩
theorem oQ (n:Int) (u:Bool) (w_0:World):Calls Tryz.prog 161 #[.int .i64 n,.bool u] w_0 fun e w'=>e=.returned (.bool (sS n u))∧Ext w_0 w':=by
 refine zN (args:=[.int .i64 n,.bool u]) Tryz.func161 M 18 M (Kh M)<|Z2 0 1 M<|Z0<|zX<|zZ<|Za M M<|ZX<|zZ<|Zm M M<|Ze M<|Zm M M<|zQ 7 M (fun g3=>?_) (fun g3=>?_)
 ·replace g3:=Kq g3;refine ZP rfl<|ZP rfl<|zE rfl rfl rfl<|zE rfl rfl rfl<|ZP rfl<|ZP rfl<|zE rfl rfl rfl<|zE rfl rfl rfl<|ZP rfl<|Zh rfl<|Za rfl rfl<|ZU rfl rfl fun w hw=>⟨by unfold sS;first|(rw[An g3];rfl)|(rw[Ao g3,g5];first|rfl|(rw[An g9];rfl)|(rw[Ao g9];rfl)),hw.ext0⟩
 replace g3:=yT g3;refine Zv M<|Zv M<|zQ 9 M (fun g5=>?_) (fun g5=>?_)
 ·refine Zv M<|ZG M M M (vS M M)<|ZG M M M (yA M M)<|Zv M<|zQ 13 M (fun g9=>?_) (fun g9=>?_)
  ·replace g9:=Ki g9;refine Zv rfl<|ZG rfl rfl rfl (yR rfl rfl)<|ZG rfl rfl rfl (yA rfl rfl)<|Zf rfl<|Za rfl rfl<|ZU rfl rfl fun w hw=>⟨by unfold sS;first|(rw[An g3];rfl)|(rw[Ao g3,g5];first|rfl|(rw[An g9];rfl)|(rw[Ao g9];rfl)),hw.ext0⟩
  replace g9:=Kj g9;refine ZP rfl<|ZP rfl<|ZG rfl rfl rfl (yD rfl rfl)<|Zf rfl<|Za rfl rfl<|ZU rfl rfl fun w hw=>⟨by unfold sS;first|(rw[An g3];rfl)|(rw[Ao g3,g5];first|rfl|(rw[An g9];rfl)|(rw[Ao g9];rfl)),hw.ext0⟩
 skip;refine ZP rfl<|ZP rfl<|ZG rfl rfl rfl (yD rfl rfl)<|Zv rfl<|ZP rfl<|ZP rfl<|ZG rfl rfl rfl (yD rfl rfl)<|Zf rfl<|Za rfl rfl<|ZU rfl rfl fun w hw=>⟨by unfold sS;first|(rw[An g3];rfl)|(rw[Ao g3,g5];first|rfl|(rw[An g9];rfl)|(rw[Ao g9];rfl)),hw.ext0⟩
theorem shl_p {b:Nat}(hb:b≤31) (z:Int) (hz:z=b):IntKind.u32.wrap (1*2 ^ (min z.toNat IntKind.u32.bits))=((2 ^ b:Nat):Int):=by
 subst hz;have h1:min (b:Int).toNat IntKind.u32.bits=b:=by have:IntKind.u32.bits=32:=rfl;omega
 have h2:2 ^ b≤2 ^ 31:=Nat.pow_le_pow_right (by decide) hb;rw[h1,Int.one_mul,show ((2:Int) ^ b)=((2 ^ b:Nat):Int) by simp];have h3:(2:Nat) ^ 31=2147483648:=by decide
 rw[h3] at h2;generalize 2 ^ b=p at h2;exact qV _ (by omega) (by omega)
theorem rsign_any (n b:Nat) (hn:n<4294967296) (hb:1≤b∧b≤31) (w_0:World):Calls Tryz.prog 79 #[.int .u32 n,.int .i64 b] w_0 fun e w'=>e=.returned (.int .u32 (sxL n b:Nat))∧Ext w_0 w':=by
 have e1:=shl_p hb.2 (b:Int) rfl;have e2:=shl_p (b:=b-1) (by omega) ((b:Int)-1) (by omega);have h2:2 ^ b≤2 ^ 31:=Nat.pow_le_pow_right (by decide) hb.2;have hp:0<2 ^ b:=Nat.pow_pos (by decide);have e3:(n:Int).tmod ((2 ^ b:Nat):Int)=((n%2 ^ b:Nat):Int):=by rw[Int.tmod_eq_emod_of_nonneg (Int.natCast_nonneg _)];simp
 have hm:n%2 ^ b<2 ^ b:=Nat.mod_lt _ hp;have hx:sxL n b=if n%2 ^ b<2 ^ (b-1) then n%2 ^ b else n%2 ^ b+(4294967296-2 ^ b):=rfl;rw[hx];generalize n%2 ^ b=m at *;generalize 2 ^ b=p at *;generalize 2 ^ (b-1)=q at *;refine zN (args:=[.int .u32 n,.int .i64 b]) Tryz.func79 M 25 M (Kh M)<|Z2 0 1 M<|Z0<|zX<|zZ<|Za M M<|ZX<|zX<|zZ<|Zm M M<|ZF M (yR M M)<|ZT<|zT M (fun h7=>?_) (fun h7=>?_)
 ·replace h7:=Ki h7;exact False.elim (by omega)
 replace h7:=Kj h7;refine zR<|zV<|zX<|zX<|Z4r 0 1 4 7 M<|Zm M M<|ZF M (yC M M)<|ZT<|zT M (fun h9=>?_) (fun h9=>?_)
 ·replace h9:=Ki h9;exact False.elim (by omega)
 replace h9:=Kj h9;refine zR<|zV<|zX<|Z5r 0 1 4 7 9 rfl<|Zm rfl rfl<|Zm rfl rfl<|ZF rfl (sP rfl rfl (by first|decide|omega) e1) ?_;refine ZF rfl (yf_rem rfl rfl (by first|decide|omega) e3) ?_;refine Za rfl rfl<|ZX<|zX<|Z6r 0 1 4 5 7 9 rfl<|Zm rfl rfl<|Zm rfl rfl<|ZF rfl (vL rfl rfl (i64_in _ (by omega) (by omega)))<|ZF rfl (sP rfl rfl (by first|decide|omega) e2) ?_;refine ZF M (yC M M)<|ZT<|zT M (fun h19=>?_) (fun h19=>?_)
 ·replace h19:=Ki h19;refine zX<|Z7r 0 1 4 5 7 9 19 rfl<|Zm rfl rfl<|Zm rfl rfl<|ZF rfl (sP rfl rfl (by first|decide|omega) e1) ?_;refine ZF M (vL M M (show IntKind.u32.wrap ((m:Int)-((p:Nat):Int))=((m+(4294967296-p):Nat):Int) by rw[u32w];omega)) ?_;refine Za M M<|ZT<|zK<|zW<|yY M M fun w hw=>⟨by rw[Ag (by omega)],hw.ext0⟩
 replace h19:=Kj h19;refine zR<|zV<|zX<|Z7r 0 1 4 5 7 9 19 M<|Zm M M<|Za M M<|ZU M M fun w hw=>⟨by rw[Ah (by omega)],hw.ext0⟩
theorem fit_sx {n b:Nat}(hb:b=18∨b=22):(((sxL n b:Nat):Int)==(n:Int))=(wE n b&&decide (n<4294967296)):=by
 rw[Kf,Am,Ab,Af];unfold sxL wE;rcases hb with rfl|rfl
 ·simp only[Nat.reducePow,Nat.reduceSub,Bool.or_eq_true,Af]
  split<;>omega
 simp only[Nat.reducePow,Nat.reduceSub,Bool.or_eq_true,Af]
 split<;>omega
theorem rfits_any (n b:Nat) (hn:n<4294967296) (hb:b=18∨b=22) (w_0:World):Calls Tryz.prog 162 #[.int .u32 n,.int .i64 b] w_0 fun e w'=>e=.returned (.bool (wE n b))∧Ext w_0 w':=by
 have hf:=fit_sx (n:=n) hb;rw[An hn,Bool.and_true] at hf;refine zN (args:=[.int .u32 n,.int .i64 b]) Tryz.func162 M 10 M (Kh M)<|Z2 0 1 M<|Z0<|zX<|zZ<|Za M M<|ZX<|zZ<|Zm M M<|Zm M M<|Zu (v:=.int .u32 (sxL n b:Nat)) M (fun w hw=>rsign_any n b hn (by omega) w)<|Zm M M<|Ze M<|Za M M<|ZU M M fun w hw=>⟨by rw[hf],hw.ext0⟩
end Go.Proofs.YtkaepknpplhgkaaGreatDoor
namespace Go.Proofs.YtkaepknpplhgkaaGreatDoor
open Go.RowKit
structure SqK (q:SQ):Prop where
 z:q.bits=0↔q.kind=0
 m:q.kind=1→q.most=0
 n:0<q.most→q.bits≠0
theorem sqOf_k (op:Int):SqK (wV op):=by
 by_cases h:op<0∨64≤op
 rw[pY h];exact⟨⟨fun _=>rfl,fun _=>rfl⟩,fun h=>(by cases h),fun h=>absurd h (by decide)⟩;have h1:(List.range 64).all (fun op=>(decide ((wV (op:Nat)).bits=0)==decide ((wV (op:Nat)).kind=0))&&(!decide ((wV (op:Nat)).kind=1)||decide ((wV (op:Nat)).most=0))&&(!decide (0<(wV (op:Nat)).most)||!decide ((wV (op:Nat)).bits=0)))=true:=by kernel_rfl
 have:=uF h1 op.toNat (by omega);rw[show ((op.toNat:Nat):Int)=op by omega] at this;simp only[Ab,Bool.or_eq_true,Af,Bool.not_eq_true',decide_eq_false_iff_not,Am,decide_eq_decide] at this;obtain⟨⟨a,b⟩,c⟩:=this;exact⟨a,fun h=>b.resolve_left fun x=>x h,fun h=>c.resolve_left fun x=>x h⟩
theorem rvalidQ_any (i:QI) (hi:i.imm<4294967296) (w_0:World):Calls Tryz.prog 87 #[.agg (qiC i).toArray] w_0 fun e w'=>e=.returned (.bool (uK i))∧Ext w_0 w':=by
 have hv:=validQ_eq i;have hq:=sqOf_ok i.op;have hk:=sqOf_k i.op;have ho:=fun w=>rof_any i.op w;generalize wV i.op=q at hv hq ho hk;have hbb:=hq.b;refine zN (args:=[.agg (qiC i).toArray]) Tryz.func87 M 66 M (Kh M)<|Z1 0 M<|Z0<|zX<|zZ<|zA .none M (yQ M M) fun b1=>Za M M<|ZX<|zZ<|ZF M (Y74x0 M) ?_;refine Zl 0 M U3 M<|Zu (v:=.agg (roC q).toArray) M (fun w hw=>ho w)<|Zt (z:=Ji) (cs:=Ju) M fun b3=>ZR 0 M<|ZX<|zX<|Z4r 0 1 2 3 M<|ZF M (zY (off:=0) (sz:=0) M U146 (by kernel_rfl) M) ?_;refine Zl 0 M U4 M<|ZF M (xO M)<|ZT<|zT M (fun h12=>?_) (fun h12=>?_)
 ·have h12:q.known=false:=by simpa using h12
  refine zX<|Z5r 0 1 2 3 12 M<|Za M M<|ZT<|zK<|zW<|yY M M fun w hw=>⟨by rw[hv,h12];rfl,(Kk hw).ext⟩
 skip;have h12:q.known=true:=by simpa using h12
 refine zR<|zV<|zX<|Z5r 0 1 2 3 12 M<|ZF M (Y74x1 M) ?_;refine Zl 1 M U3 M<|ZF M (zY (off:=1) (sz:=0) M U146 (by kernel_rfl) M) ?_;refine Zl 0 M U4 M<|Zu (v:=.bool (sS i.d q.d)) M (fun w hw=>oQ i.d q.d w)<|Za M M<|ZX<|Z6r 0 1 2 3 4 12 M<|ZF M (Y74x2 M) ?_;refine Zl 1 M U3 M<|ZF M (zY (off:=2) (sz:=0) M U146 (by kernel_rfl) M) ?_;refine Zl 0 M U4 M<|Zu (v:=.bool (sS i.a q.a)) M (fun w hw=>oQ i.a q.a w)<|Za M M<|ZX<|Z7r 0 1 2 3 4 5 12 M<|ZF M (Y74x3 M) ?_;refine Zl 1 M U3 M<|ZF M (zY (off:=3) (sz:=0) M U146 (by kernel_rfl) M) ?_;refine Zl 0 M U4 M<|Zu (v:=.bool (sS i.b q.b)) M (fun w hw=>oQ i.b q.b w)<|Za M M<|ZX<|zX<|Z8r 0 1 2 3 4 5 6 12 M<|Zm M M<|ZF M (xO M)<|Zm M M<|zQ 30 M (fun g3=>?_) (fun g3=>?_)
 ·have g3:sS i.d q.d=false:=by simpa using g3
  refine ZP M<|ZP M<|Zh M<|Zm M M<|ZP M<|ZP M<|Zh M<|ZT<|wY M<|zX<|Z9r 0 1 2 3 4 5 6 12 37 M<|Za M M<|ZT<|zK<|zW<|yY M M fun w hw=>⟨by rw[hv,h12,g3];rfl,(Kk hw).ext⟩
 skip;have g3:sS i.d q.d=true:=by simpa using g3
 refine Zv M<|ZG M M M (xO M)<|Zf M<|Zm M M<|zQ 34 M (fun g7=>?_) (fun g7=>?_)
 ·have g7:sS i.a q.a=false:=by simpa using g7
  refine ZP M<|ZP M<|Zh M<|ZT<|wY M<|zX<|Z9r 0 1 2 3 4 5 6 12 37 M<|Za M M<|ZT<|zK<|zW<|yY M M fun w hw=>⟨by rw[hv,h12,g3,g7];rfl,(Kk hw).ext⟩
 skip;have g7:sS i.a q.a=true:=by simpa using g7
 refine Zv M<|ZG M M M (xO M)<|Zf M<|ZT<|zT M (fun h37=>?_) (fun h37=>?_)
 ·refine zX<|Z9r 0 1 2 3 4 5 6 12 37 M<|Za M M<|ZT<|zK<|zW<|yY M M fun w hw=>⟨by rw[hv,h12,g3,g7,show sS i.b q.b=false by simpa using h37];rfl,(Kk hw).ext⟩
 skip;have hve:uK i=immS q i.imm:=by rw[hv,h12,g3,g7,show sS i.b q.b=true by simpa using h37];rfl
 refine zR<|zV<|zX<|zX<|Z9r 0 1 2 3 4 5 6 12 37 M<|ZF M (zY (off:=5) (sz:=0) M U146 (by kernel_rfl) M) ?_;refine Zl 0 M U3 M<|Ze M<|ZT<|zT M (fun h40=>?_) (fun h40=>?_)
 ·replace h40:=Kq h40;refine zX<|Z10r 0 1 2 3 4 5 6 12 37 40 M<|ZF M (Y74x4 M) ?_;refine Zl 1 M U22 M<|Ze M<|Za M M<|ZT<|zK<|zW<|yY M M (fun w hw=>?_)
  exact⟨by
   rw[hve];unfold immS;rw[Ah (hk.z.1 (by omega))];congr 2
   rw[Kf,Am,decide_eq_true_iff];omega,(Kk hw).ext⟩
 replace h40:=yT h40;refine zR<|zV<|zX<|zX<|Z10r 0 1 2 3 4 5 6 12 37 40 M<|ZF M (zY (off:=4) (sz:=0) M U146 (by kernel_rfl) M) ?_;refine Zl 0 M U4 M<|ZT<|zT M (fun h45=>?_) (fun h45=>?_)
 ·refine zX<|Z11r 0 1 2 3 4 5 6 12 37 40 45 M<|ZF M (Y74x4 M) ?_;refine Zl 1 M U22 M<|ZF M (zY (off:=5) (sz:=0) M U146 (by kernel_rfl) M) ?_;refine Zl 0 M U3 M<|Zu (v:=.bool (wE i.imm q.bits)) M (fun w hw=>rfits_any i.imm q.bits hi (by omega) w)<|Za M M<|ZT<|zK<|zW<|yY M M (fun w hw=>?_)
  exact⟨by
   have h1:q.kind=1:=Ki h45;rw[hve];unfold immS
   rw[Ag (by omega),Ah h1],(Kk hw).ext⟩
 skip;have h45:¬q.kind=1:=Kj h45;have h00:¬q.kind=0:=fun h=>by have:=hk.z.2 h;omega
 refine zR<|zV<|zX<|zX<|Z11r 0 1 2 3 4 5 6 12 37 40 45 M<|ZF M (zY (off:=6) (sz:=0) M U146 (by kernel_rfl) M) ?_;refine Zl 0 M U22 M<|ZF M (vS M M)<|ZT<|zT M (fun h53=>?_) (fun h53=>?_)
 ·replace h53:=Ki h53;refine zX<|Z12r 0 1 2 3 4 5 6 12 37 40 45 53 M<|ZF M (Y74x4 M) ?_;refine Zl 1 M U22 M<|ZF M (zY (off:=6) (sz:=0) M U146 (by kernel_rfl) M) ?_;refine Zl 0 M U22 M<|ZF M (xE M M)<|Za M M<|ZT<|zK<|zW<|yY M M (fun w hw=>?_)
  exact⟨by
   rw[hve];unfold immS;rw[Ag h00,Ag h45,Ah (by omega)];congr 2
   rw[Kf,decide_eq_true_iff,decide_eq_true_iff];omega,(Kk hw).ext⟩
 replace h53:=Kj h53;refine zR<|zV<|zX<|Z12r 0 1 2 3 4 5 6 12 37 40 45 53 M<|ZF M (Y74x4 M) ?_;refine Zl 1 M U22 M<|ZF M (zY (off:=5) (sz:=0) M U146 (by kernel_rfl) M) ?_;refine Zl 0 rfl U3 rfl<|ZF rfl (Zc rfl Tryz.underlying42 (show IntKind.u64.wrap ((q.bits:Nat):Int)=((q.bits:Nat):Int) from u64_in _ (by omega) (by omega)))<|ZF rfl (sP rfl rfl (by first|decide|omega) (shl_p (by omega) _ rfl)) ?_;refine ZF M (yR M M)<|Za M M<|ZU M M (fun w hw=>?_)
 exact⟨by
  rw[hve];unfold immS;rw[Ag h00,Ag h45,Ag (by omega)];congr 2;have hp:0<2 ^ q.bits:=Nat.pow_pos (by decide);rw[Kf,decide_eq_true_iff,decide_eq_true_iff,Nat.div_eq_zero_iff]
  omega,(Kk hw).ext⟩
theorem mulW {x k:Nat}(h:x*k<4294967296):IntKind.u32.wrap ((x:Int)*(k:Nat))=((x*k:Nat):Int):=by
 rw[← Int.natCast_mul];exact qV _ (by omega) (by omega)
theorem addW {x y:Nat}(h:x+y<4294967296):IntKind.u32.wrap ((x:Int)+(y:Nat))=((x+y:Nat):Int):=by
 rw[← Int.natCast_add];exact qV _ (by omega) (by omega)
theorem rencodeQ_any (i:QI) (hi:i.imm<4294967296) (w_0:World):Calls Tryz.prog 35 #[.agg (qiC i).toArray] w_0 fun e w'=>e=.returned (.tuple #[.int .u32 ((tD i).getD 0),.int .i64 (if uK i=true then 0 else 12)])∧Ext w_0 w':=by
 have hvd0:=rvalidQ_any i hi
 cases hvd:uK i with
 | false =>
  have hn:tD i=none:=by
   unfold uK at hvd
   cases he:tD i with
   | none=>rfl
   | some c=>rw[he] at hvd;cases hvd
  rw[hn];refine zN (args:=[.agg (qiC i).toArray]) Tryz.func35 M 45 M (Kh M)<|Z1 0 M<|Z0<|zX<|zZ<|zA .none M (yQ M M) fun b1=>Za M M<|Za M M<|ZX<|zZ<|ZF M (Zo 0 M U74 M)<|Zu (v:=.bool false) M (fun w hw=>(hvd0 w).mono fun e w' ⟨h1,h2⟩=>⟨by rw[h1,hvd],h2⟩) ?_;refine Za M M<|ZX<|zX<|Z5r 0 1 2 3 4 M<|Zm M M<|ZF M (xO M)<|ZT<|zT M (fun h10=>?_) (fun h10=>?_)
  ·refine zX<|Z6r 0 1 2 3 4 10 M<|Za M M<|Za M M<|ZT<|zK<|zW<|uW M M M fun w hw=>⟨rfl,(Kk hw).ext⟩
  skip;exact absurd h10 (by decide)
 | true =>
  obtain⟨cd,hcd⟩:∃c,tD i=some c:=by
   unfold uK at hvd;exact Option.isSome_iff_exists.1 hvd
  have hve:=validQ_eq i;rw[hvd] at hve;have hsq:=sqOf_ok i.op;have hoq:=fun w=>rof_any i.op w
  have hcd2:∃s,qU i.op=some s∧cd=i.op.toNat*67108864+i.d.toNat*4194304+i.a.toNat*262144+i.b.toNat*16384+i.imm%2 ^ s.bits:=by
   unfold tD at hcd
   cases hs:qU i.op with
   | none=>rw[hs] at hcd;cases hcd
   | some s =>
    rw[hs] at hcd;dsimp only at hcd
    split at hcd
    ·cases hcd;exact⟨s,rfl,rfl⟩
    ·cases hcd
  obtain⟨s,hs,hcd2⟩:=hcd2;have hbs:(wV i.op).bits=s.bits:=by unfold wV;rw[hs]
  have hop:0≤i.op∧i.op<64:=by
   refine Classical.byContradiction fun hh=>?_;have h2:(wV i.op).known=true:=by unfold wV;rw[hs]
   rw[pY (by omega)] at h2;cases h2
  have hlt:=encQ_lt hcd;rw[← hbs] at hcd2;have hbb:=hsq.b;obtain⟨op,d,a,b,n⟩:=i;dsimp only at hve hop hcd2 hi hoq hbb;generalize wV op=q at *;have hve:=hve.symm;simp only[Ab] at hve;obtain⟨⟨⟨⟨_,k1⟩,k2⟩,k3⟩,_⟩:=hve;obtain⟨dn,rfl,hd,_⟩:=sF k1;obtain⟨an,rfl,ha,ha0⟩:=sF k2;obtain⟨bn,rfl,hb,hb0⟩:=sF k3;obtain⟨on,rfl,ho⟩:=xQ (n:=64) hop.1 hop.2;simp only[Int.toNat_natCast] at hcd2;have o5:(n:Int).tmod ((2 ^ q.bits:Nat):Int)=((n%2 ^ q.bits:Nat):Int):=by rw[Int.tmod_eq_emod_of_nonneg (Int.natCast_nonneg _)];simp
  have hp0:0<2 ^ q.bits:=Nat.pow_pos (by decide);have hb0n:q.bits=0→n%2 ^ q.bits=0:=fun h=>by rw[h];exact Nat.mod_one n
  have hshl:=shl_p (b:=q.bits) (by omega);generalize n%2 ^ q.bits=m at *;generalize 2 ^ q.bits=p at *;rw[hcd];refine zN (args:=[.agg (qiC ⟨on,dn,an,bn,n⟩).toArray]) Tryz.func35 M 45 M (Kh M)<|Z1 0 M<|Z0<|zX<|zZ<|zA .none M (yQ M M) fun b1=>Za M M<|Za M M<|ZX<|zZ<|ZF M (Zo 0 M U74 M)<|Zu (v:=.bool true) M (fun w hw=>(hvd0 w).mono fun e w' ⟨h1,h2⟩=>⟨by rw[h1,hvd],h2⟩) ?_;refine Za M M<|ZX<|zX<|Z5r 0 1 2 3 4 M<|Zm M M<|ZF M (xO M)<|ZT<|zT M (fun h10=>?_) (fun h10=>?_)
  ·exact absurd h10 (by decide)
  skip;refine zR<|zV<|zX<|Z6r 0 1 2 3 4 10 M<|ZF M (Y74x0 M) ?_;refine Zl 0 M U3 M<|ZF M (Zc M U22 (u32n ho (by decide)))<|ZF M (vE M M (mulW (k:=67108864) (by omega)))<|ZF M (Y74x1 M) ?_;refine Zl 0 M U3 M<|ZF M (Zc M U22 (u32n hd (by decide)))<|ZF M (vE M M (mulW (k:=4194304) (by omega)))<|ZF M (zF M M (addW (by omega)))<|ZF M (Y74x2 M) ?_;refine Zl 0 M U3 M<|ZF M (Zc M U22 (u32n ha (by decide)))<|ZF M (vE M M (mulW (k:=262144) (by omega)))<|ZF M (zF M M (addW (by omega)))<|ZF M (Y74x3 M) ?_;refine Zl 0 M U3 M<|ZF M (Zc M U22 (u32n hb (by decide)))<|ZF M (vE M M (mulW (k:=16384) (by omega)))<|ZF M (zF M M (addW (by omega)))<|Za M M<|ZX<|Z7r 0 1 2 3 4 5 10 M<|ZF M (Y74x0 M) ?_;refine Zl 0 M U3 M<|Zu (v:=.agg (roC q).toArray) M (fun w hw=>hoq w)<|ZF M (tQ (off:=5) (ft:=3) M U146 (by kernel_rfl) U3 M M) ?_;refine Za M M<|ZX<|zX<|Z8r 0 1 2 3 4 5 6 10 M<|Zm M M<|Ze M<|ZT<|zT M (fun h35=>?_) (fun h35=>?_)
  ·replace h35:=Kq h35;refine zX<|Z9r 0 1 2 3 4 5 6 10 35 M<|Zm M M<|Za M M<|Za M M<|ZT<|zK<|zW<|uW M M M (fun w hw=>?_)
   exact⟨by
     have hm0:=hb0n (by omega);have hsum:on*67108864+dn*4194304+an*262144+bn*16384=cd:=by rw[hcd2,hm0,Nat.add_zero]
     show Ending.returned (Value.tuple #[.int .u32 ((on*67108864+dn*4194304+an*262144+bn*16384:Nat):Int),.int .i64 0])=Ending.returned (Value.tuple #[.int .u32 ((cd:Nat):Int),.int .i64 0])
     rw[hsum],(Kk hw).ext⟩
  replace h35:=yT h35;refine zR<|zV<|zX<|Z9r 0 1 2 3 4 5 6 10 35 M<|Zm M M<|ZF M (Y74x4 M) ?_;refine Zl 0 rfl U22 rfl<|Zm rfl rfl<|ZF rfl (Zc rfl Tryz.underlying42 (show IntKind.u64.wrap ((q.bits:Nat):Int)=((q.bits:Nat):Int) from u64_in _ (by omega) (by omega)))<|ZF rfl (sP rfl rfl (by first|decide|omega) (hshl _ rfl)) ?_;refine ZF rfl (yf_rem rfl rfl (by first|decide|omega) o5) ?_;refine ZF M (zF M M (addW (by omega)))<|Za M M<|Za M M<|ZT<|zK<|uW M M M (fun w hw=>?_)
  exact⟨by
    have hsum:on*67108864+dn*4194304+an*262144+bn*16384+m=cd:=hcd2.symm;show Ending.returned (Value.tuple #[.int .u32 ((on*67108864+dn*4194304+an*262144+bn*16384+m:Nat):Int),.int .i64 0])=Ending.returned (Value.tuple #[.int .u32 ((cd:Nat):Int),.int .i64 0])
    rw[hsum],(Kk hw).ext⟩
end Go.Proofs.YtkaepknpplhgkaaGreatDoor
namespace Go.Proofs.YtkaepknpplhgkaaGreatDoor
open Go.RowKit
end Go.Proofs.YtkaepknpplhgkaaGreatDoor
namespace Go.Proofs.YtkaepknpplhgkaaGreatDoor
open Go.RowKit
end Go.Proofs.YtkaepknpplhgkaaGreatDoor
