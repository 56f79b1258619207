import Derived.Test.YtkaepknpplhgkaaGreatDoorMak
import Derived.Test.YtkaepknpplhgkaaGreatDoorMai
import Derived.Test.YtkaepknpplhgkaaGreatDoorMaq
import Derived.Test.YtkaepknpplhgkaaGreatDoorMap
set_option maxRecDepth 100000
set_option maxHeartbeats 1000000
namespace Go.Proofs.YtkaepknpplhgkaaGreatDoor
open Go.RowKit
abbrev roC (q:SQ):List Value:=[.bool q.known,.bool q.d,.bool q.a,.bool q.b,.bool (decide (q.kind=1)),.int .i64 q.bits,.int .u32 q.most]
abbrev roO (q:SQ):Obj:=bk 146 (roC q)
theorem sq_of {op:Int}{s:QS}(h:tK op=some s):xN op=⟨true,s.d,s.a,s.b,s.kind,s.bits,s.most⟩:=by unfold xN;rw[h]
theorem sq_no {op:Int}(h:tK op=none):xN op=zSQ:=by unfold xN;rw[h]
theorem ro_eq {op:Int}{q:SQ}(h:xN op=q) {e:Ending}(he:e=.returned (.agg (roC q).toArray)):e=.returned (.agg (roC (xN op)).toArray):=by rw[h];exact he
theorem sh_1 {op:Int}(h:1≤op∧op≤12):tK op=some ⟨true,true,true,0,0,0⟩:=by unfold tK;rw[Kz h]
theorem sh_2 {op:Int}(h:op=17∨op=18∨op=19):tK op=some ⟨true,true,false,2,18,0⟩:=by unfold tK;rw[Ky (by omega),Kz h]
theorem sh_3 {op:Int}(h:(16≤op∧op≤27)∨(32≤op∧op≤37)) (hn:¬(op=17∨op=18∨op=19)):tK op=some ⟨true,true,false,1,18,0⟩:=by
 unfold tK;rw[Ky (by omega),Ky hn]
 by_cases h1:16≤op∧op≤27
 ·rw[Kz h1]
 ·rw[Ky h1,Kz (by omega)]
theorem sh_n {op:Int}(h1:¬(1≤op∧op≤12)) (h2:¬((16≤op∧op≤27)∨(32≤op∧op≤37))):tK op=if op=40 then some ⟨true,false,false,1,22,0⟩
 else if op=41 then some ⟨true,false,false,2,22,0⟩
 else if op=48 then some ⟨false,false,false,2,18,0⟩
 else if op=49∨op=50∨op=51 then some ⟨false,false,false,0,0,0⟩
 else if op=52 then some ⟨false,true,false,0,0,0⟩
 else if op=53 then some ⟨true,false,false,2,18,3⟩
 else if op=54 then some ⟨false,true,false,2,18,4⟩
 else none:=by
 unfold tK;rw[Ky h1,Ky (by omega),Ky (by omega),Ky (by omega)]
theorem rof_any (op:Int) (w_0:World):Calls Tryz.prog 78 #[.int .i64 op] w_0 fun e w'=>e=.returned (.agg (roC (xN op)).toArray)∧Ext w_0 w':=by
 refine zM (args:=[.int .i64 op]) Tryz.func78 M 76 M (Jy M)<|Z1 0 M<|zU (H':=Hp (fun _=>False) w_0 [] [] (fun _=>True)) (fun u hu=>?_) ?_
 ·subst hu;exact Hp.start0
 refine zX<|zZ<|zG .none M (yT (z:=Jh) (cs:=Jr) (by kernel_rfl) M) (fun b2=>?_);refine ZX<|yZ<|yE (ι:={z:Bool // z=true↔(1≤op∧op≤12)}) (fun z=>[(0,.int .i64 op),(2,.pointer (some ⟨b2,0,none⟩)),(3,.bool z.1)]) (fun _=>Hp (fun _=>False) w_0 [(b2,roO zSQ)] [] (fun _=>True)) ?_ (fun z=>?_)
 ·refine zZ<|Zm M M<|ZF M (xJ M M)<|Zm M M<|zF 6 M (fun g1=>?_) (fun g1=>?_)
  ·replace g1:=Jz g1;exact ZG M M M (zJ M)<|ZG M M M (wQ M M)<|ZF M (zL M M)<|Za M M<|zK<|zP (ι:={z:Bool // z=true↔(1≤op∧op≤12)}) ⟨decide (op≤12),by rw[decide_eq_true_iff];omega⟩ (O3 M M M) (fun w h=>h)
  ·replace g1:=Ka g1;exact ZP M<|ZP M<|ZF M (zN M M)<|Za M M<|zK<|zP (ι:={z:Bool // z=true↔(1≤op∧op≤12)}) ⟨false,by simp;omega⟩ (O3 M M M) (fun w h=>h)
 ·obtain⟨z,hz⟩:=z;dsimp only;refine zT M (fun h3=>?_) (fun h3=>?_)
  ·refine zX<|zZ<|ZF M (yV [.bool false,.bool false,.bool false,.bool false,.bool false,.int .i64 0,.int .u32 0] [(0,1),(1,1),(2,1),(3,1),(4,1),(5,1),(6,1)] M (by kernel_rfl) (by kernel_rfl) M) ?_;refine ZR 0 M M M M M (by kernel_rfl) ?_;refine ZT<|zS<|yY<|zO<|xO M M 0 M Tryz.underlying146 M (by kernel_rfl) (fun w hw=>?_);exact⟨ro_eq (sq_of (sh_1 (hz.1 h3))) rfl,(Kb hw).ext⟩
  ·have h3':¬(1≤op∧op≤12):=fun h=>by rw[hz.2 h] at h3;cases h3
   refine yE (ι:={z:Bool // z=true↔(op=17∨op=18∨op=19)}) (fun z=>[(0,.int .i64 op),(2,.pointer (some ⟨b2,0,none⟩)),(11,.bool z.1)]) (fun _=>Hp (fun _=>False) w_0 [(b2,roO zSQ)] [] (fun _=>True)) ?_ (fun z=>?_)
   ·refine zZ<|Zm M M<|ZF M (yR M M)<|Zm M M<|zF 14 M (fun hb=>?_) (fun hb=>?_)
    ·replace hb:=Ki hb;exact ZP M<|ZP M<|ZF M (zL M M)<|Zm M M<|ZP M<|ZP M<|ZF M (zL M M)<|Za M M<|zK<|zP (ι:={z:Bool // z=true↔(op=17∨op=18∨op=19)}) ⟨true,by simp;omega⟩ (O3 M M M) (fun w h=>h)
    ·replace hb:=yL hb;refine ZG M M M (zJ M)<|ZG M M M (yR M M)<|ZF M (zN M M)<|Zm M M<|zF 18 M (fun hb=>?_) (fun hb=>?_)
     ·replace hb:=Ki hb;exact ZP M<|ZP M<|ZF M (zL M M)<|Za M M<|zK<|zP (ι:={z:Bool // z=true↔(op=17∨op=18∨op=19)}) ⟨true,by simp;omega⟩ (O3 M M M) (fun w h=>h)
     ·replace hb:=yL hb;exact ZG M M M (zJ M)<|ZG M M M (yR M M)<|ZF M (zN M M)<|Za M M<|zK<|zP (ι:={z:Bool // z=true↔(op=17∨op=18∨op=19)}) ⟨op==19,by rw[Ad];omega⟩ (O3 M M M) (fun w h=>h)
   ·obtain⟨z,hz3⟩:=z;dsimp only;refine zT M (fun h11=>?_) (fun h11=>?_)
    ·refine zX<|zZ<|ZF M (yV [.bool false,.bool false,.bool false,.bool false,.bool false,.int .i64 0,.int .u32 0] [(0,1),(1,1),(2,1),(3,1),(4,1),(5,1),(6,1)] M (by kernel_rfl) (by kernel_rfl) M) ?_;refine ZR 0 M M M M M (by kernel_rfl) ?_;refine ZT<|zS<|yY<|zO<|xO M M 0 M Tryz.underlying146 M (by kernel_rfl) (fun w hw=>?_);exact⟨ro_eq (sq_of (sh_2 (hz3.1 h11))) rfl,(Kb hw).ext⟩
    ·have h11':¬(op=17∨op=18∨op=19):=fun h=>by rw[hz3.2 h] at h11;cases h11
     refine yE (ι:={z:Bool // z=true↔((16≤op∧op≤27)∨(32≤op∧op≤37))}) (fun z=>[(0,.int .i64 op),(2,.pointer (some ⟨b2,0,none⟩)),(23,.bool z.1)]) (fun _=>Hp (fun _=>False) w_0 [(b2,roO zSQ)] [] (fun _=>True)) ?_ (fun z=>?_)
     ·refine zZ<|Zm M M<|ZF M (xJ M M)<|Zm M M<|zF 26 M (fun hb=>?_) (fun hb=>?_)
      ·replace hb:=Jz hb;refine ZG M M M (zJ M)<|ZG M M M (wQ M M)<|ZF M (zL M M)<|Zm M M<|zF 30 M (fun hb=>?_) (fun hb=>?_)
       ·replace hb:=Jz hb;refine ZP M<|ZP M<|ZP M<|xM M M M<|xM M M M<|ZP M<|ZF M (zL M M)<|Za M M<|zK ?_
        first|exact zP (ι:={z:Bool // z=true↔((16≤op∧op≤27)∨(32≤op∧op≤37))}) ⟨true,by simp;omega⟩ (O3 rfl rfl rfl) (fun w h=>h)|exact zP (ι:={z:Bool // z=true↔((16≤op∧op≤27)∨(32≤op∧op≤37))}) ⟨false,by simp;omega⟩ (O3 rfl rfl rfl) (fun w h=>h)|exact zP (ι:={z:Bool // z=true↔((16≤op∧op≤27)∨(32≤op∧op≤37))}) ⟨decide (op≤37),by rw[decide_eq_true_iff];omega⟩ (O3 rfl rfl rfl) (fun w h=>h)
       ·replace hb:=Ka hb;refine ZG M M M (zJ M)<|ZG M M M (xJ M M)<|ZG M M M (zJ M)<|zF 33 M (fun hb=>?_) (fun hb=>?_)
        ·replace hb:=Jz hb;refine ZG M M M (zJ M)<|ZG M M M (wQ M M)<|ZG M M M (zL M M)<|ZF M (zN M M)<|Za M M<|zK ?_
         first|exact zP (ι:={z:Bool // z=true↔((16≤op∧op≤27)∨(32≤op∧op≤37))}) ⟨true,by simp;omega⟩ (O3 rfl rfl rfl) (fun w h=>h)|exact zP (ι:={z:Bool // z=true↔((16≤op∧op≤27)∨(32≤op∧op≤37))}) ⟨false,by simp;omega⟩ (O3 rfl rfl rfl) (fun w h=>h)|exact zP (ι:={z:Bool // z=true↔((16≤op∧op≤27)∨(32≤op∧op≤37))}) ⟨decide (op≤37),by rw[decide_eq_true_iff];omega⟩ (O3 rfl rfl rfl) (fun w h=>h)
        ·replace hb:=Ka hb;refine ZP M<|ZP M<|ZG M M M (zN M M)<|ZF M (zN M M)<|Za M M<|zK ?_
         first|exact zP (ι:={z:Bool // z=true↔((16≤op∧op≤27)∨(32≤op∧op≤37))}) ⟨true,by simp;omega⟩ (O3 rfl rfl rfl) (fun w h=>h)|exact zP (ι:={z:Bool // z=true↔((16≤op∧op≤27)∨(32≤op∧op≤37))}) ⟨false,by simp;omega⟩ (O3 rfl rfl rfl) (fun w h=>h)|exact zP (ι:={z:Bool // z=true↔((16≤op∧op≤27)∨(32≤op∧op≤37))}) ⟨decide (op≤37),by rw[decide_eq_true_iff];omega⟩ (O3 rfl rfl rfl) (fun w h=>h)
      ·replace hb:=Ka hb;refine ZP M<|ZP M<|ZF M (zN M M)<|Zm M M<|ZG M M M (zJ M)<|ZG M M M (xJ M M)<|ZG M M M (zJ M)<|zF 33 M (fun hb=>?_) (fun hb=>?_)
       ·replace hb:=Jz hb;refine ZG M M M (zJ M)<|ZG M M M (wQ M M)<|ZG M M M (zL M M)<|ZF M (zN M M)<|Za M M<|zK ?_
        first|exact zP (ι:={z:Bool // z=true↔((16≤op∧op≤27)∨(32≤op∧op≤37))}) ⟨true,by simp;omega⟩ (O3 rfl rfl rfl) (fun w h=>h)|exact zP (ι:={z:Bool // z=true↔((16≤op∧op≤27)∨(32≤op∧op≤37))}) ⟨false,by simp;omega⟩ (O3 rfl rfl rfl) (fun w h=>h)|exact zP (ι:={z:Bool // z=true↔((16≤op∧op≤27)∨(32≤op∧op≤37))}) ⟨decide (op≤37),by rw[decide_eq_true_iff];omega⟩ (O3 rfl rfl rfl) (fun w h=>h)
       ·replace hb:=Ka hb;refine ZP M<|ZP M<|ZG M M M (zN M M)<|ZF M (zN M M)<|Za M M<|zK ?_
        first|exact zP (ι:={z:Bool // z=true↔((16≤op∧op≤27)∨(32≤op∧op≤37))}) ⟨true,by simp;omega⟩ (O3 rfl rfl rfl) (fun w h=>h)|exact zP (ι:={z:Bool // z=true↔((16≤op∧op≤27)∨(32≤op∧op≤37))}) ⟨false,by simp;omega⟩ (O3 rfl rfl rfl) (fun w h=>h)|exact zP (ι:={z:Bool // z=true↔((16≤op∧op≤27)∨(32≤op∧op≤37))}) ⟨decide (op≤37),by rw[decide_eq_true_iff];omega⟩ (O3 rfl rfl rfl) (fun w h=>h)
     ·obtain⟨z,hz5⟩:=z;dsimp only;refine zT M (fun h23=>?_) (fun h23=>?_)
      ·refine zX<|zZ<|ZF M (yV [.bool false,.bool false,.bool false,.bool false,.bool false,.int .i64 0,.int .u32 0] [(0,1),(1,1),(2,1),(3,1),(4,1),(5,1),(6,1)] M (by kernel_rfl) (by kernel_rfl) M) ?_;refine ZR 0 M M M M M (by kernel_rfl) ?_;refine ZT<|zS<|yY<|zO<|xO M M 0 M Tryz.underlying146 M (by kernel_rfl) (fun w hw=>?_);exact⟨ro_eq (sq_of (sh_3 (hz5.1 h23) h11')) rfl,(Kb hw).ext⟩
      ·have h23':¬((16≤op∧op≤27)∨(32≤op∧op≤37)):=fun h=>by rw[hz5.2 h] at h23;cases h23
       have hsn:=sh_n h3' h23';refine zX<|zZ<|Zm M M<|ZF M (yR M M)<|Za M M<|ZT<|zT M (fun h39=>?_) (fun h39=>?_)
       ·replace h39:=Ki h39;refine zX<|Z4r 0 2 23 39 M M M M<|ZF M (yV [.bool false,.bool false,.bool false,.bool false,.bool false,.int .i64 0,.int .u32 0] [(0,1),(1,1),(2,1),(3,1),(4,1),(5,1),(6,1)] M (by kernel_rfl) (by kernel_rfl) M) ?_;refine ZR 0 M M M M M (by kernel_rfl) ?_;refine ZT<|zS<|yY<|zO<|xO M M 0 M Tryz.underlying146 M (by kernel_rfl) (fun w hw=>?_);exact⟨ro_eq (sq_of (hsn.trans (by rw[Kz h39]))) rfl,(Kb hw).ext⟩
       ·replace h39:=yL h39;refine zX<|Z4r 0 2 23 39 M M M M<|Zm M M<|ZF M (yR M M)<|Za M M<|ZT<|zT M (fun h43=>?_) (fun h43=>?_)
        ·replace h43:=Ki h43;refine zX<|Z5r 0 2 23 39 43 M M M M M<|ZF M (yV [.bool false,.bool false,.bool false,.bool false,.bool false,.int .i64 0,.int .u32 0] [(0,1),(1,1),(2,1),(3,1),(4,1),(5,1),(6,1)] M (by kernel_rfl) (by kernel_rfl) M) ?_;refine ZR 0 M M M M M (by kernel_rfl) ?_;refine ZT<|zS<|yY<|zO<|xO M M 0 M Tryz.underlying146 M (by kernel_rfl) (fun w hw=>?_);exact⟨ro_eq (sq_of (hsn.trans (by rw[Ky h39,Kz h43]))) rfl,(Kb hw).ext⟩
        ·replace h43:=yL h43;refine zX<|Z5r 0 2 23 39 43 M M M M M<|Zm M M<|ZF M (yR M M)<|Za M M<|ZT<|zT M (fun h47=>?_) (fun h47=>?_)
         ·replace h47:=Ki h47;refine zX<|Z6r 0 2 23 39 43 47 M M M M M M<|ZF M (yV [.bool false,.bool false,.bool false,.bool false,.bool false,.int .i64 0,.int .u32 0] [(0,1),(1,1),(2,1),(3,1),(4,1),(5,1),(6,1)] M (by kernel_rfl) (by kernel_rfl) M) ?_;refine ZR 0 M M M M M (by kernel_rfl) ?_;refine ZT<|zS<|yY<|zO<|xO M M 0 M Tryz.underlying146 M (by kernel_rfl) (fun w hw=>?_);exact⟨ro_eq (sq_of (hsn.trans (by rw[Ky h39,Ky h43,Kz h47]))) rfl,(Kb hw).ext⟩
         ·replace h47:=yL h47;refine yE (ι:={z:Bool // z=true↔(op=49∨op=50∨op=51)}) (fun z=>[(0,.int .i64 op),(2,.pointer (some ⟨b2,0,none⟩)),(51,.bool z.1)]) (fun _=>Hp (fun _=>False) w_0 [(b2,roO zSQ)] [] (fun _=>True)) ?_ (fun z=>?_)
          ·refine Z6r 0 2 23 39 43 47 M M M M M M<|Zm M M<|ZF M (yR M M)<|Zm M M<|zF 54 M (fun hb=>?_) (fun hb=>?_)
           ·replace hb:=Ki hb;exact ZP M<|ZP M<|ZF M (zL M M)<|Zm M M<|ZP M<|ZP M<|ZF M (zL M M)<|Za M M<|zK<|zP (ι:={z:Bool // z=true↔(op=49∨op=50∨op=51)}) ⟨true,by simp;omega⟩ (O3 M M M) (fun w h=>h)
           ·replace hb:=yL hb;refine ZG M M M (zJ M)<|ZG M M M (yR M M)<|ZF M (zN M M)<|Zm M M<|zF 58 M (fun hb=>?_) (fun hb=>?_)
            ·replace hb:=Ki hb;exact ZP M<|ZP M<|ZF M (zL M M)<|Za M M<|zK<|zP (ι:={z:Bool // z=true↔(op=49∨op=50∨op=51)}) ⟨true,by simp;omega⟩ (O3 M M M) (fun w h=>h)
            ·replace hb:=yL hb;exact ZG M M M (zJ M)<|ZG M M M (yR M M)<|ZF M (zN M M)<|Za M M<|zK<|zP (ι:={z:Bool // z=true↔(op=49∨op=50∨op=51)}) ⟨op==51,by rw[Ad];omega⟩ (O3 M M M) (fun w h=>h)
          ·obtain⟨z,hz13⟩:=z;dsimp only;refine zT M (fun h51=>?_) (fun h51=>?_)
           ·refine zX<|zZ<|ZF M (yV [.bool false,.bool false,.bool false,.bool false,.bool false,.int .i64 0,.int .u32 0] [(0,1),(1,1),(2,1),(3,1),(4,1),(5,1),(6,1)] M (by kernel_rfl) (by kernel_rfl) M) ?_;refine ZR 0 M M M M M (by kernel_rfl) ?_;refine ZT<|zS<|yY<|zO<|xO M M 0 M Tryz.underlying146 M (by kernel_rfl) (fun w hw=>?_);exact⟨ro_eq (sq_of (hsn.trans (by rw[Ky h39,Ky h43,Ky h47,Kz (hz13.1 h51)]))) rfl,(Kb hw).ext⟩
           ·have h51':¬(op=49∨op=50∨op=51):=fun h=>by rw[hz13.2 h] at h51;cases h51
            refine zX<|zZ<|Zm M M<|ZF M (yR M M)<|Za M M<|ZT<|zT M (fun h63=>?_) (fun h63=>?_)
            ·replace h63:=Ki h63;refine zX<|Z4r 0 2 51 63 M M M M<|ZF M (yV [.bool false,.bool false,.bool false,.bool false,.bool false,.int .i64 0,.int .u32 0] [(0,1),(1,1),(2,1),(3,1),(4,1),(5,1),(6,1)] M (by kernel_rfl) (by kernel_rfl) M) ?_;refine ZR 0 M M M M M (by kernel_rfl) ?_;refine ZT<|zS<|yY<|zO<|xO M M 0 M Tryz.underlying146 M (by kernel_rfl) (fun w hw=>?_);exact⟨ro_eq (sq_of (hsn.trans (by rw[Ky h39,Ky h43,Ky h47,Ky h51',Kz h63]))) rfl,(Kb hw).ext⟩
            ·replace h63:=yL h63;refine zX<|Z4r 0 2 51 63 M M M M<|Zm M M<|ZF M (yR M M)<|Za M M<|ZT<|zT M (fun h67=>?_) (fun h67=>?_)
             ·replace h67:=Ki h67;refine zX<|Z5r 0 2 51 63 67 M M M M M<|ZF M (yV [.bool false,.bool false,.bool false,.bool false,.bool false,.int .i64 0,.int .u32 0] [(0,1),(1,1),(2,1),(3,1),(4,1),(5,1),(6,1)] M (by kernel_rfl) (by kernel_rfl) M) ?_;refine ZR 0 M M M M M (by kernel_rfl) ?_;refine ZT<|zS<|yY<|zO<|xO M M 0 M Tryz.underlying146 M (by kernel_rfl) (fun w hw=>?_);exact⟨ro_eq (sq_of (hsn.trans (by rw[Ky h39,Ky h43,Ky h47,Ky h51',Ky h63,Kz h67]))) rfl,(Kb hw).ext⟩
             ·replace h67:=yL h67;refine zX<|Z5r 0 2 51 63 67 M M M M M<|Zm M M<|ZF M (yR M M)<|Za M M<|ZT<|zT M (fun h71=>?_) (fun h71=>?_)
              ·replace h71:=Ki h71;refine zX<|Z6r 0 2 51 63 67 71 M M M M M M<|ZF M (yV [.bool false,.bool false,.bool false,.bool false,.bool false,.int .i64 0,.int .u32 0] [(0,1),(1,1),(2,1),(3,1),(4,1),(5,1),(6,1)] M (by kernel_rfl) (by kernel_rfl) M) ?_;refine ZR 0 M M M M M (by kernel_rfl) ?_;refine ZT<|zS<|yY<|zO<|xO M M 0 M Tryz.underlying146 M (by kernel_rfl) (fun w hw=>?_);exact⟨ro_eq (sq_of (hsn.trans (by rw[Ky h39,Ky h43,Ky h47,Ky h51',Ky h63,Ky h67,Kz h71]))) rfl,(Kb hw).ext⟩
              ·replace h71:=yL h71;refine zH<|zA<|zR<|zX<|Z6r 0 2 51 63 67 71 M M M M M M<|ZF M (yV [.bool false,.bool false,.bool false,.bool false,.bool false,.int .i64 0,.int .u32 0] [(0,1),(1,1),(2,1),(3,1),(4,1),(5,1),(6,1)] M (by kernel_rfl) (by kernel_rfl) M) ?_;refine ZR 0 M M M M M (by kernel_rfl) ?_;refine ZT<|zS<|xO M M 0 M Tryz.underlying146 M (by kernel_rfl) (fun w hw=>?_);exact⟨ro_eq (sq_no (hsn.trans (by rw[Ky h39,Ky h43,Ky h47,Ky h51',Ky h63,Ky h67,Ky h71]))) rfl,(Kb hw).ext⟩
theorem qU (n:Int) (u:Bool) (w_0:World):Calls Tryz.prog 161 #[.int .i64 n,.bool u] w_0 fun e w'=>e=.returned (.bool (wO n u))∧Ext w_0 w':=by
 refine zM (args:=[.int .i64 n,.bool u]) Tryz.func161 M 18 M (Jy M)<|Z2 0 1 M M<|zU (H':=Hp (fun _=>False) w_0 [] [] (fun _=>True)) (fun u hu=>?_) ?_
 ·subst hu;exact Hp.start0
 refine zX<|zZ<|Za M M<|ZX<|zZ<|Zm M M<|ZF M (yR M M)<|Zm M M<|zF 7 M (fun g3=>?_) (fun g3=>?_)
 ·replace g3:=Ki g3;refine ZP M<|ZP M<|xM M M M<|xM M M M<|ZP M<|ZP M<|xM M M M<|xM M M M<|ZP M<|ZF M (zL M M)<|Za M M<|ZT<|zS<|zQ M M (fun w hw=>?_);exact⟨by unfold wO;first|(rw[Ae g3];rfl)|(rw[Af g3,g5];first|rfl|(rw[Ae g9];rfl)|(rw[Af g9];rfl)),hw.ext0⟩
 ·replace g3:=yL g3;refine ZG M M M (zJ M)<|ZG M M M (zJ M)<|zF 9 M (fun g5=>?_) (fun g5=>?_)
  ·refine ZG M M M (zJ M)<|ZG M M M (vF M M)<|ZG M M M (zL M M)<|ZG M M M (zJ M)<|zF 13 M (fun g9=>?_) (fun g9=>?_)
   ·replace g9:=Jz g9;refine ZG M M M (zJ M)<|ZG M M M (xT M M)<|ZG M M M (zL M M)<|ZF M (zN M M)<|Za M M<|ZT<|zS<|zQ M M (fun w hw=>?_);exact⟨by unfold wO;first|(rw[Ae g3];rfl)|(rw[Af g3,g5];first|rfl|(rw[Ae g9];rfl)|(rw[Af g9];rfl)),hw.ext0⟩
   ·replace g9:=Ka g9;refine ZP M<|ZP M<|ZG M M M (zN M M)<|ZF M (zN M M)<|Za M M<|ZT<|zS<|zQ M M (fun w hw=>?_);exact⟨by unfold wO;first|(rw[Ae g3];rfl)|(rw[Af g3,g5];first|rfl|(rw[Ae g9];rfl)|(rw[Af g9];rfl)),hw.ext0⟩
  ·refine ZP M<|ZP M<|ZG M M M (zN M M)<|ZG M M M (zJ M)<|ZP M<|ZP M<|ZG M M M (zN M M)<|ZF M (zN M M)<|Za M M<|ZT<|zS<|zQ M M (fun w hw=>?_);exact⟨by unfold wO;first|(rw[Ae g3];rfl)|(rw[Af g3,g5];first|rfl|(rw[Ae g9];rfl)|(rw[Af g9];rfl)),hw.ext0⟩
theorem shl_p {b:Nat}(hb:b≤31) (z:Int) (hz:z=b):IntKind.u32.wrap (1*2 ^ (min z.toNat IntKind.u32.bits))=((2 ^ b:Nat):Int):=by
 subst hz;have h1:min (b:Int).toNat IntKind.u32.bits=b:=by have:IntKind.u32.bits=32:=rfl;omega
 have h2:2 ^ b≤2 ^ 31:=Nat.pow_le_pow_right (by decide) hb;rw[h1,Int.one_mul,show ((2:Int) ^ b)=((2 ^ b:Nat):Int) by simp];have h3:(2:Nat) ^ 31=2147483648:=by decide
 rw[h3] at h2;generalize 2 ^ b=p at h2;exact uC _ (by omega) (by omega)
theorem rsign_any (n b:Nat) (hn:n<4294967296) (hb:1≤b∧b≤31) (w_0:World):Calls Tryz.prog 79 #[.int .u32 n,.int .i64 b] w_0 fun e w'=>e=.returned (.int .u32 (sxL n b:Nat))∧Ext w_0 w':=by
 have e1:=shl_p hb.2 (b:Int) rfl;have e2:=shl_p (b:=b-1) (by omega) ((b:Int)-1) (by omega);have h2:2 ^ b≤2 ^ 31:=Nat.pow_le_pow_right (by decide) hb.2;have hp:0<2 ^ b:=Nat.pow_pos (by decide);have e3:(n:Int).tmod ((2 ^ b:Nat):Int)=((n%2 ^ b:Nat):Int):=by rw[Int.tmod_eq_emod_of_nonneg (Int.natCast_nonneg _)];simp
 have hm:n%2 ^ b<2 ^ b:=Nat.mod_lt _ hp;have hx:sxL n b=if n%2 ^ b<2 ^ (b-1) then n%2 ^ b else n%2 ^ b+(4294967296-2 ^ b):=rfl;rw[hx];generalize n%2 ^ b=m at *;generalize 2 ^ b=p at *;generalize 2 ^ (b-1)=q at *;refine zM (args:=[.int .u32 n,.int .i64 b]) Tryz.func79 M 25 M (Jy M)<|Z2 0 1 M M<|zU (H':=Hp (fun _=>False) w_0 [] [] (fun _=>True)) (fun u hu=>?_) ?_
 ·subst hu;exact Hp.start0
 refine zX<|zZ<|Za M M<|ZX<|zX<|zZ<|Zm M M<|ZF M (xT M M)<|ZT<|zT M (fun h7=>?_) (fun h7=>?_)
 ·replace h7:=Jz h7;exact False.elim (by omega)
 ·replace h7:=Ka h7;refine zH<|zR<|zX<|zX<|Z4r 0 1 4 7 M M M M<|Zm M M<|ZF M (xJ M M)<|ZT<|zT M (fun h9=>?_) (fun h9=>?_)
  ·replace h9:=Jz h9;exact False.elim (by omega)
  ·replace h9:=Ka h9;refine zH<|zR<|zX<|Z5r 0 1 4 7 9 rfl rfl rfl rfl rfl<|Zm rfl rfl<|Zm rfl rfl<|ZF rfl (uN rfl rfl (by first|decide|omega) e1) ?_;refine ZF rfl (yf_rem rfl rfl (by first|decide|omega) e3) ?_;refine Za M M<|ZX<|zX<|Z6r 0 1 4 5 7 9 M M M M M M<|Zm M M<|Zm M M<|ZF M (tM M M (i64_in _ (by omega) (by omega))) ?_;refine ZF rfl (uN rfl rfl (by first|decide|omega) e2) ?_;refine ZF M (xJ M M)<|ZT<|zT M (fun h19=>?_) (fun h19=>?_)
   ·replace h19:=Jz h19;refine zX<|Z7r 0 1 4 5 7 9 19 rfl rfl rfl rfl rfl rfl rfl<|Zm rfl rfl<|Zm rfl rfl<|ZF rfl (uN rfl rfl (by first|decide|omega) e1) ?_;refine ZF M (tM M M (show IntKind.u32.wrap ((m:Int)-((p:Nat):Int))=((m+(4294967296-p):Nat):Int) by rw[u32w];omega)) ?_;refine Za M M<|ZT<|zS<|zO<|zQ M M (fun w hw=>?_);exact⟨by rw[Ky (by omega)],hw.ext0⟩
   ·replace h19:=Ka h19;refine zH<|zR<|zX<|Z7r 0 1 4 5 7 9 19 M M M M M M M<|Zm M M<|Za M M<|ZT<|zS<|zQ M M (fun w hw=>?_);exact⟨by rw[Kz (by omega)],hw.ext0⟩
theorem fit_sx {n b:Nat}(hb:b=18∨b=22):(((sxL n b:Nat):Int)==(n:Int))=(vB n b&&decide (n<4294967296)):=by
 rw[Jw,Ad,Kt,Kx];unfold sxL vB;rcases hb with rfl|rfl
 ·simp only[Nat.reducePow,Nat.reduceSub,Bool.or_eq_true,Kx]
  split<;>omega
 ·simp only[Nat.reducePow,Nat.reduceSub,Bool.or_eq_true,Kx]
  split<;>omega
theorem rfits_any (n b:Nat) (hn:n<4294967296) (hb:b=18∨b=22) (w_0:World):Calls Tryz.prog 162 #[.int .u32 n,.int .i64 b] w_0 fun e w'=>e=.returned (.bool (vB n b))∧Ext w_0 w':=by
 have hf:=fit_sx (n:=n) hb;rw[Ae hn,Bool.and_true] at hf;refine zM (args:=[.int .u32 n,.int .i64 b]) Tryz.func162 M 10 M (Jy M)<|Z2 0 1 M M<|zU (H':=Hp (fun _=>False) w_0 [] [] (fun _=>True)) (fun u hu=>?_) ?_
 ·subst hu;exact Hp.start0
 refine zX<|zZ<|Za M M<|ZX<|zZ<|Zm M M<|Zm M M<|zE .none M  (v:=.int .u32 (sxL n b:Nat)) (by kernel_rfl) M (fun w hw=>rsign_any n b hn (by omega) w) ?_;refine Zm M M<|ZF M (yR M M)<|Za M M<|ZT<|zS<|zQ M M (fun w hw=>?_);exact⟨by rw[hf],hw.ext0⟩
end Go.Proofs.YtkaepknpplhgkaaGreatDoor
namespace Go.Proofs.YtkaepknpplhgkaaGreatDoor
open Go.RowKit
structure SqK (q:SQ):Prop where
 z:q.bits=0↔q.kind=0
 m:q.kind=1→q.most=0
 n:0<q.most→q.bits≠0
theorem sqOf_k (op:Int):SqK (xN op):=by
 by_cases h:op<0∨64≤op
 ·rw[rU h];exact⟨⟨fun _=>rfl,fun _=>rfl⟩,fun h=>(by cases h),fun h=>absurd h (by decide)⟩
 ·have h1:(List.range 64).all (fun op=>(decide ((xN (op:Nat)).bits=0)==decide ((xN (op:Nat)).kind=0))&&(!decide ((xN (op:Nat)).kind=1)||decide ((xN (op:Nat)).most=0))&&(!decide (0<(xN (op:Nat)).most)||!decide ((xN (op:Nat)).bits=0)))=true:=by kernel_rfl
  have:=tC h1 op.toNat (by omega);rw[show ((op.toNat:Nat):Int)=op by omega] at this;simp only[Kt,Bool.or_eq_true,Kx,Bool.not_eq_true',decide_eq_false_iff_not,Ad,decide_eq_decide] at this;obtain⟨⟨a,b⟩,c⟩:=this;exact⟨a,fun h=>b.resolve_left fun x=>x h,fun h=>c.resolve_left fun x=>x h⟩
theorem rvalidQ_any (i:QI) (hi:i.imm<4294967296) (w_0:World):Calls Tryz.prog 87 #[.agg (qiC i).toArray] w_0 fun e w'=>e=.returned (.bool (wH i))∧Ext w_0 w':=by
 have hv:=rW i;have hq:=sqOf_ok i.op;have hk:=sqOf_k i.op;have ho:=fun w=>rof_any i.op w;generalize xN i.op=q at hv hq ho hk;have hbb:=hq.b;refine zM (args:=[.agg (qiC i).toArray]) Tryz.func87 M 66 M (Jy M)<|Z1 0 M<|zU (H':=Hp (fun _=>False) w_0 [] [] (fun _=>True)) (fun u hu=>?_) ?_
 ·subst hu;exact Hp.start0
 refine zX<|zZ<|zG .none M (yG M M) (fun b1=>?_);refine Za M M<|ZX<|zZ<|ZF M (zY (off:=0) (sz:=0) M Tryz.underlying74 (by kernel_rfl) M) ?_;refine ZF M (zW 0 M M M Tryz.underlying3 M)<|zE .none M  (v:=.agg (roC q).toArray) (by kernel_rfl) M (fun w hw=>ho w) ?_;refine zG .none M (yT (z:=Jh) (cs:=Jr) (by kernel_rfl) M) (fun b3=>?_);refine ZR 0 M M M M M (by kernel_rfl) ?_;refine ZX<|zX<|Z4r 0 1 2 3 M M M M<|ZF M (zY (off:=0) (sz:=0) M Tryz.underlying146 (by kernel_rfl) M) ?_;refine ZF M (zW 0 M M M Tryz.underlying4 M)<|ZF M (xD M)<|ZT<|zT M (fun h12=>?_) (fun h12=>?_)
 ·have h12:q.known=false:=by simpa using h12
  refine zX<|Z5r 0 1 2 3 12 M M M M M<|Za M M<|ZT<|zS<|zO<|zQ M M (fun w hw=>?_);exact⟨by rw[hv,h12];rfl,(Kb hw).ext⟩
 ·have h12:q.known=true:=by simpa using h12
  refine zH<|zR<|zX<|Z5r 0 1 2 3 12 M M M M M<|ZF M (zY (off:=1) (sz:=0) M Tryz.underlying74 (by kernel_rfl) M) ?_;refine ZF M (zW 1 M M M Tryz.underlying3 M)<|ZF M (zY (off:=1) (sz:=0) M Tryz.underlying146 (by kernel_rfl) M) ?_;refine ZF M (zW 0 M M M Tryz.underlying4 M)<|zE .none M  (v:=.bool (wO i.d q.d)) (by kernel_rfl) M (fun w hw=>qU i.d q.d w) ?_;refine Za M M<|ZX<|Z6r 0 1 2 3 4 12 M M M M M M<|ZF M (zY (off:=2) (sz:=0) M Tryz.underlying74 (by kernel_rfl) M) ?_;refine ZF M (zW 1 M M M Tryz.underlying3 M)<|ZF M (zY (off:=2) (sz:=0) M Tryz.underlying146 (by kernel_rfl) M) ?_;refine ZF M (zW 0 M M M Tryz.underlying4 M)<|zE .none M  (v:=.bool (wO i.a q.a)) (by kernel_rfl) M (fun w hw=>qU i.a q.a w) ?_;refine Za M M<|ZX<|Z7r 0 1 2 3 4 5 12 M M M M M M M<|ZF M (zY (off:=3) (sz:=0) M Tryz.underlying74 (by kernel_rfl) M) ?_;refine ZF M (zW 1 M M M Tryz.underlying3 M)<|ZF M (zY (off:=3) (sz:=0) M Tryz.underlying146 (by kernel_rfl) M) ?_;refine ZF M (zW 0 M M M Tryz.underlying4 M)<|zE .none M  (v:=.bool (wO i.b q.b)) (by kernel_rfl) M (fun w hw=>qU i.b q.b w) ?_;refine Za M M<|ZX<|zX<|Z8r 0 1 2 3 4 5 6 12 M M M M M M M M<|Zm M M<|ZF M (xD M)<|Zm M M<|zF 30 M (fun g3=>?_) (fun g3=>?_)
  ·have g3:wO i.d q.d=false:=by simpa using g3
   refine ZP M<|ZP M<|ZF M (zL M M)<|Zm M M<|ZP M<|ZP M<|ZF M (zL M M)<|ZT<|sX M<|zX<|Z9r 0 1 2 3 4 5 6 12 37 M M M M M M M M M<|Za M M<|ZT<|zS<|zO<|zQ M M (fun w hw=>?_);exact⟨by rw[hv,h12,g3];rfl,(Kb hw).ext⟩
  ·have g3:wO i.d q.d=true:=by simpa using g3
   refine ZG M M M (zJ M)<|ZG M M M (xD M)<|ZF M (zN M M)<|Zm M M<|zF 34 M (fun g7=>?_) (fun g7=>?_)
   ·have g7:wO i.a q.a=false:=by simpa using g7
    refine ZP M<|ZP M<|ZF M (zL M M)<|ZT<|sX M<|zX<|Z9r 0 1 2 3 4 5 6 12 37 M M M M M M M M M<|Za M M<|ZT<|zS<|zO<|zQ M M (fun w hw=>?_);exact⟨by rw[hv,h12,g3,g7];rfl,(Kb hw).ext⟩
   ·have g7:wO i.a q.a=true:=by simpa using g7
    refine ZG M M M (zJ M)<|ZG M M M (xD M)<|ZF M (zN M M)<|ZT<|zT M (fun h37=>?_) (fun h37=>?_)
    ·refine zX<|Z9r 0 1 2 3 4 5 6 12 37 M M M M M M M M M<|Za M M<|ZT<|zS<|zO<|zQ M M (fun w hw=>?_);exact⟨by rw[hv,h12,g3,g7,show wO i.b q.b=false by simpa using h37];rfl,(Kb hw).ext⟩
    ·have hve:wH i=immS q i.imm:=by rw[hv,h12,g3,g7,show wO i.b q.b=true by simpa using h37];rfl
     refine zH<|zR<|zX<|zX<|Z9r 0 1 2 3 4 5 6 12 37 M M M M M M M M M<|ZF M (zY (off:=5) (sz:=0) M Tryz.underlying146 (by kernel_rfl) M) ?_;refine ZF M (zW 0 M M M Tryz.underlying3 M)<|ZF M (yR M M)<|ZT<|zT M (fun h40=>?_) (fun h40=>?_)
     ·replace h40:=Ki h40;refine zX<|Z10r 0 1 2 3 4 5 6 12 37 40 M M M M M M M M M M<|ZF M (zY (off:=4) (sz:=0) M Tryz.underlying74 (by kernel_rfl) M) ?_;refine ZF M (zW 1 M M M Tryz.underlying22 M)<|ZF M (yR M M)<|Za M M<|ZT<|zS<|zO<|zQ M M (fun w hw=>?_)
      exact⟨by
       rw[hve];unfold immS;rw[Kz (hk.z.1 (by omega))];congr 2
       rw[Jw,Ad,decide_eq_true_iff];omega,(Kb hw).ext⟩
     ·replace h40:=yL h40;refine zH<|zR<|zX<|zX<|Z10r 0 1 2 3 4 5 6 12 37 40 M M M M M M M M M M<|ZF M (zY (off:=4) (sz:=0) M Tryz.underlying146 (by kernel_rfl) M) ?_;refine ZF M (zW 0 M M M Tryz.underlying4 M)<|ZT<|zT M (fun h45=>?_) (fun h45=>?_)
      ·refine zX<|Z11r 0 1 2 3 4 5 6 12 37 40 45 M M M M M M M M M M M<|ZF M (zY (off:=4) (sz:=0) M Tryz.underlying74 (by kernel_rfl) M) ?_;refine ZF M (zW 1 M M M Tryz.underlying22 M)<|ZF M (zY (off:=5) (sz:=0) M Tryz.underlying146 (by kernel_rfl) M) ?_;refine ZF M (zW 0 M M M Tryz.underlying3 M)<|zE .none M  (v:=.bool (vB i.imm q.bits)) (by kernel_rfl) M (fun w hw=>rfits_any i.imm q.bits hi (by omega) w) ?_;refine Za M M<|ZT<|zS<|zO<|zQ M M (fun w hw=>?_)
       exact⟨by
        have h1:q.kind=1:=Jz h45;rw[hve];unfold immS
        rw[Ky (by omega),Kz h1],(Kb hw).ext⟩
      ·have h45:¬q.kind=1:=Ka h45;have h00:¬q.kind=0:=fun h=>by have:=hk.z.2 h;omega
       refine zH<|zR<|zX<|zX<|Z11r 0 1 2 3 4 5 6 12 37 40 45 M M M M M M M M M M M<|ZF M (zY (off:=6) (sz:=0) M Tryz.underlying146 (by kernel_rfl) M) ?_;refine ZF M (zW 0 M M M Tryz.underlying22 M)<|ZF M (vF M M)<|ZT<|zT M (fun h53=>?_) (fun h53=>?_)
       ·replace h53:=Jz h53;refine zX<|Z12r 0 1 2 3 4 5 6 12 37 40 45 53 M M M M M M M M M M M M<|ZF M (zY (off:=4) (sz:=0) M Tryz.underlying74 (by kernel_rfl) M) ?_;refine ZF M (zW 1 M M M Tryz.underlying22 M)<|ZF M (zY (off:=6) (sz:=0) M Tryz.underlying146 (by kernel_rfl) M) ?_;refine ZF M (zW 0 M M M Tryz.underlying22 M)<|ZF M (wQ M M)<|Za M M<|ZT<|zS<|zO<|zQ M M (fun w hw=>?_)
        exact⟨by
         rw[hve];unfold immS;rw[Ky h00,Ky h45,Kz (by omega)];congr 2
         rw[Jw,decide_eq_true_iff,decide_eq_true_iff];omega,(Kb hw).ext⟩
       ·replace h53:=Ka h53;refine zH<|zR<|zX<|Z12r 0 1 2 3 4 5 6 12 37 40 45 53 M M M M M M M M M M M M<|ZF M (zY (off:=4) (sz:=0) M Tryz.underlying74 (by kernel_rfl) M) ?_;refine ZF M (zW 1 M M M Tryz.underlying22 M)<|ZF M (zY (off:=5) (sz:=0) M Tryz.underlying146 (by kernel_rfl) M) ?_;refine ZF M (zW 0 M M M Tryz.underlying3 M) ?_
        refine ZF M (yQ M (by kernel_rfl) Tryz.underlying42 (show IntKind.u64.wrap ((q.bits:Nat):Int)=((q.bits:Nat):Int) from u64_in _ (by omega) (by omega))) ?_
        refine ZF rfl (uN rfl rfl (by first|decide|omega) (shl_p (by omega) _ rfl)) ?_;refine ZF M (xT M M)<|Za M M<|ZT<|zS<|zQ M M (fun w hw=>?_)
        exact⟨by
         rw[hve];unfold immS;rw[Ky h00,Ky h45,Ky (by omega)];congr 2;have hp:0<2 ^ q.bits:=Nat.pow_pos (by decide);rw[Jw,decide_eq_true_iff,decide_eq_true_iff,Nat.div_eq_zero_iff]
         omega,(Kb hw).ext⟩
theorem mulW {x k:Nat}(h:x*k<4294967296):IntKind.u32.wrap ((x:Int)*(k:Nat))=((x*k:Nat):Int):=by
 rw[← Int.natCast_mul];exact uC _ (by omega) (by omega)
theorem addW {x y:Nat}(h:x+y<4294967296):IntKind.u32.wrap ((x:Int)+(y:Nat))=((x+y:Nat):Int):=by
 rw[← Int.natCast_add];exact uC _ (by omega) (by omega)
theorem rencodeQ_any (i:QI) (hi:i.imm<4294967296) (w_0:World):Calls Tryz.prog 35 #[.agg (qiC i).toArray] w_0 fun e w'=>e=.returned (.tuple #[.int .u32 ((uF i).getD 0),.int .i64 (if wH i=true then 0 else 12)])∧Ext w_0 w':=by
 have hvd0:=rvalidQ_any i hi
 cases hvd:wH i with
 | false =>
  have hn:uF i=none:=by
   unfold wH at hvd
   cases he:uF i with
   | none=>rfl
   | some c=>rw[he] at hvd;cases hvd
  rw[hn];refine zM (args:=[.agg (qiC i).toArray]) Tryz.func35 M 45 M (Jy M)<|Z1 0 M<|zU (H':=Hp (fun _=>False) w_0 [] [] (fun _=>True)) (fun u hu=>?_) ?_
  ·subst hu;exact Hp.start0
  refine zX<|zZ<|zG .none M (yG M M) (fun b1=>?_);refine Za M M<|Za M M<|ZX<|zZ<|ZF M (yS 0 M M Tryz.underlying74 M (by kernel_rfl)) ?_;refine zE .none M  (v:=.bool false) (by kernel_rfl) M (fun w hw=>(hvd0 w).mono fun e w' ⟨h1,h2⟩=>⟨by rw[h1,hvd],h2⟩) ?_;refine Za M M<|ZX<|zX<|Z5r 0 1 2 3 4 M M M M M<|Zm M M<|ZF M (xD M)<|ZT<|zT M (fun h10=>?_) (fun h10=>?_)
  ·refine zX<|Z6r 0 1 2 3 4 10 M M M M M M<|Za M M<|Za M M<|ZT<|zS<|zO<|sZ M M M (fun w hw=>?_);exact⟨rfl,(Kb hw).ext⟩
  ·exact absurd h10 (by decide)
 | true =>
  obtain⟨cd,hcd⟩:∃c,uF i=some c:=by
   unfold wH at hvd;exact Option.isSome_iff_exists.1 hvd
  have hve:=rW i;rw[hvd] at hve;have hsq:=sqOf_ok i.op;have hoq:=fun w=>rof_any i.op w
  have hcd2:∃s,tK i.op=some s∧cd=i.op.toNat*67108864+i.d.toNat*4194304+i.a.toNat*262144+i.b.toNat*16384+i.imm%2 ^ s.bits:=by
   unfold uF at hcd
   cases hs:tK i.op with
   | none=>rw[hs] at hcd;cases hcd
   | some s =>
    rw[hs] at hcd;dsimp only at hcd
    split at hcd
    ·cases hcd;exact⟨s,rfl,rfl⟩
    ·cases hcd
  obtain⟨s,hs,hcd2⟩:=hcd2;have hbs:(xN i.op).bits=s.bits:=by unfold xN;rw[hs]
  have hop:0≤i.op∧i.op<64:=by
   refine Classical.byContradiction fun hh=>?_;have h2:(xN i.op).known=true:=by unfold xN;rw[hs]
   rw[rU (by omega)] at h2;cases h2
  have hlt:=encQ_lt hcd;rw[← hbs] at hcd2;have hbb:=hsq.b;obtain⟨op,d,a,b,n⟩:=i;dsimp only at hve hop hcd2 hi hoq hbb;generalize xN op=q at *;have hve:=hve.symm;simp only[Kt] at hve;obtain⟨⟨⟨⟨_,k1⟩,k2⟩,k3⟩,_⟩:=hve;obtain⟨dn,rfl,hd,_⟩:=tT k1;obtain⟨an,rfl,ha,ha0⟩:=tT k2;obtain⟨bn,rfl,hb,hb0⟩:=tT k3;obtain⟨on,rfl,ho⟩:=toInt_ex (n:=64) hop.1 hop.2;simp only[Int.toNat_natCast] at hcd2;have o5:(n:Int).tmod ((2 ^ q.bits:Nat):Int)=((n%2 ^ q.bits:Nat):Int):=by rw[Int.tmod_eq_emod_of_nonneg (Int.natCast_nonneg _)];simp
  have hp0:0<2 ^ q.bits:=Nat.pow_pos (by decide);have hb0n:q.bits=0→n%2 ^ q.bits=0:=fun h=>by rw[h];exact Nat.mod_one n
  have hshl:=shl_p (b:=q.bits) (by omega);generalize n%2 ^ q.bits=m at *;generalize 2 ^ q.bits=p at *;rw[hcd];refine zM (args:=[.agg (qiC ⟨on,dn,an,bn,n⟩).toArray]) Tryz.func35 M 45 M (Jy M)<|Z1 0 M<|zU (H':=Hp (fun _=>False) w_0 [] [] (fun _=>True)) (fun u hu=>?_) ?_
  ·subst hu;exact Hp.start0
  refine zX<|zZ<|zG .none M (yG M M) (fun b1=>?_);refine Za M M<|Za M M<|ZX<|zZ<|ZF M (yS 0 M M Tryz.underlying74 M (by kernel_rfl)) ?_;refine zE .none M  (v:=.bool true) (by kernel_rfl) M (fun w hw=>(hvd0 w).mono fun e w' ⟨h1,h2⟩=>⟨by rw[h1,hvd],h2⟩) ?_;refine Za M M<|ZX<|zX<|Z5r 0 1 2 3 4 M M M M M<|Zm M M<|ZF M (xD M)<|ZT<|zT M (fun h10=>?_) (fun h10=>?_)
  ·exact absurd h10 (by decide)
  ·refine zH<|zR<|zX<|Z6r 0 1 2 3 4 10 M M M M M M<|ZF M (zY (off:=0) (sz:=0) M Tryz.underlying74 (by kernel_rfl) M) ?_;refine ZF M (zW 0 M M M Tryz.underlying3 M) ?_
   refine ZF M (yQ M (by kernel_rfl) Tryz.underlying22 (u32n ho (by decide))) ?_
   refine ZF M (qV M M (mulW (k:=67108864) (by omega))) ?_;refine ZF M (zY (off:=1) (sz:=0) M Tryz.underlying74 (by kernel_rfl) M) ?_;refine ZF M (zW 0 M M M Tryz.underlying3 M) ?_
   refine ZF M (yQ M (by kernel_rfl) Tryz.underlying22 (u32n hd (by decide))) ?_
   refine ZF M (qV M M (mulW (k:=4194304) (by omega))) ?_;refine ZF M (yP M M (addW (by omega))) ?_;refine ZF M (zY (off:=2) (sz:=0) M Tryz.underlying74 (by kernel_rfl) M) ?_;refine ZF M (zW 0 M M M Tryz.underlying3 M) ?_
   refine ZF M (yQ M (by kernel_rfl) Tryz.underlying22 (u32n ha (by decide))) ?_
   refine ZF M (qV M M (mulW (k:=262144) (by omega))) ?_;refine ZF M (yP M M (addW (by omega))) ?_;refine ZF M (zY (off:=3) (sz:=0) M Tryz.underlying74 (by kernel_rfl) M) ?_;refine ZF M (zW 0 M M M Tryz.underlying3 M) ?_
   refine ZF M (yQ M (by kernel_rfl) Tryz.underlying22 (u32n hb (by decide))) ?_
   refine ZF M (qV M M (mulW (k:=16384) (by omega))) ?_;refine ZF M (yP M M (addW (by omega))) ?_;refine Za M M<|ZX<|Z7r 0 1 2 3 4 5 10 M M M M M M M<|ZF M (zY (off:=0) (sz:=0) M Tryz.underlying74 (by kernel_rfl) M) ?_;refine ZF M (zW 0 M M M Tryz.underlying3 M)<|zE .none M  (v:=.agg (roC q).toArray) (by kernel_rfl) M (fun w hw=>hoq w) ?_;refine ZF M (vO (off:=5) (ft:=3) M Tryz.underlying146 (by kernel_rfl) Tryz.underlying3 M M) ?_;refine Za M M<|ZX<|zX<|Z8r 0 1 2 3 4 5 6 10 M M M M M M M M<|Zm M M<|ZF M (yR M M)<|ZT<|zT M (fun h35=>?_) (fun h35=>?_)
   ·replace h35:=Ki h35;refine zX<|Z9r 0 1 2 3 4 5 6 10 35 M M M M M M M M M<|Zm M M<|Za M M<|Za M M<|ZT<|zS<|zO<|sZ M M M (fun w hw=>?_)
    exact⟨by
      have hm0:=hb0n (by omega);have hsum:on*67108864+dn*4194304+an*262144+bn*16384=cd:=by rw[hcd2,hm0,Nat.add_zero]
      show Ending.returned (Value.tuple #[.int .u32 ((on*67108864+dn*4194304+an*262144+bn*16384:Nat):Int),.int .i64 0])=Ending.returned (Value.tuple #[.int .u32 ((cd:Nat):Int),.int .i64 0])
      rw[hsum],(Kb hw).ext⟩
   ·replace h35:=yL h35;refine zH<|zR<|zX<|Z9r 0 1 2 3 4 5 6 10 35 M M M M M M M M M<|Zm M M<|ZF M (zY (off:=4) (sz:=0) M Tryz.underlying74 (by kernel_rfl) M) ?_;refine ZF M (zW 0 M M M Tryz.underlying22 M)<|Zm M M ?_
    refine ZF M (yQ M (by kernel_rfl) Tryz.underlying42 (show IntKind.u64.wrap ((q.bits:Nat):Int)=((q.bits:Nat):Int) from u64_in _ (by omega) (by omega))) ?_
    refine ZF rfl (uN rfl rfl (by first|decide|omega) (hshl _ rfl)) ?_;refine ZF rfl (yf_rem rfl rfl (by first|decide|omega) o5) ?_;refine ZF M (yP M M (addW (by omega))) ?_;refine Za M M<|Za M M<|ZT<|zS<|sZ M M M (fun w hw=>?_)
    exact⟨by
      have hsum:on*67108864+dn*4194304+an*262144+bn*16384+m=cd:=hcd2.symm;show Ending.returned (Value.tuple #[.int .u32 ((on*67108864+dn*4194304+an*262144+bn*16384+m:Nat):Int),.int .i64 0])=Ending.returned (Value.tuple #[.int .u32 ((cd:Nat):Int),.int .i64 0])
      rw[hsum],(Kb hw).ext⟩
end Go.Proofs.YtkaepknpplhgkaaGreatDoor
namespace Go.Proofs.YtkaepknpplhgkaaGreatDoor
open Go.RowKit
theorem remN {v k:Nat}:(v:Int).tmod (k:Nat)=((v%k:Nat):Int):=by rw[Int.tmod_eq_emod_of_nonneg (Int.natCast_nonneg _)];simp
theorem qK (n:Int) (m:Nat) (h0:0<m) (h1:m≤4294967296):∃k:Nat,k<m∧∀w_0,Calls Tryz.prog 77 #[.int .i64 n,.int .i64 m] w_0 fun e w'=>e=.returned (.int .i64 (k:Nat))∧Ext w_0 w':=by
 have a1:n.tmod m<m:=Int.tmod_lt_of_pos n (by omega);have a2:-(m:Int)<n.tmod m:=Int.lt_tmod_of_pos n (by omega);obtain⟨t,ht⟩:∃t,t=n.tmod m:=⟨_,rfl⟩;rw[← ht] at a1 a2;obtain⟨u,hu⟩:∃u:Nat,t+m=u:=⟨(t+m).toNat,by omega⟩;refine⟨u%m,Nat.mod_lt _ h0,fun w_0=>?_⟩;refine zM (args:=[.int .i64 n,.int .i64 m]) Tryz.func77 M 12 M (Jy M)<|Z2 0 1 M M<|zU (H':=Hp (fun _=>False) w_0 [] [] (fun _=>True)) (fun u hu=>?_) ?_
 ·subst hu;exact Hp.start0
 refine zX<|zZ<|Za rfl rfl<|ZX<|zZ<|Zm rfl rfl<|Zm rfl rfl<|ZF rfl (yf_rem rfl rfl (by first|decide|omega) ht.symm) ?_;refine Zm M M<|ZF M (yP M M (show IntKind.i64.wrap (t+(m:Int))=((u:Nat):Int) by rw[hu];exact i64_in _ (by omega) (by omega))) ?_;refine Zm rfl rfl<|ZF rfl (yf_rem rfl rfl (by first|decide|omega) remN) ?_;refine Za M M<|ZT<|zS<|zQ M M (fun w hw=>?_);exact⟨rfl,hw.ext0⟩
end Go.Proofs.YtkaepknpplhgkaaGreatDoor
namespace Go.Proofs.YtkaepknpplhgkaaGreatDoor
open Go.RowKit
def opQ:Nat→List Nat
 | 0=>[]
 | k+1=>opQ k++(if (xN ((k:Nat):Int)).known=true then [k] else [])
theorem opQ_t {k:Nat}(h:(xN ((k:Nat):Int)).known=true):opQ (k+1)=opQ k++[k]:=by rw[opQ,Kz h]
theorem opQ_f {k:Nat}(h:(xN ((k:Nat):Int)).known=false):opQ (k+1)=opQ k:=by rw[opQ,Ky (by rw[h];decide),Ac]
theorem opQ_len:(opQ 64).length=39:=by kernel_rfl
theorem opQ_le:∀k,k≤64→(opQ k).length≤64:=by
 intro k hk;have h:((List.range 65).all fun k=>decide ((opQ k).length≤64))=true:=by kernel_rfl
 exact Jz (List.all_eq_true.1 h k (List.mem_range.2 (by omega)))
theorem opQ_at:∀n,n<39→((opQ 64).getD n 0)<64∧(xN (((opQ 64).getD n 0:Nat):Int)).known=true:=by
 intro n hn;have h:((List.range 39).all fun n=>decide (((opQ 64).getD n 0)<64)&&(xN (((opQ 64).getD n 0:Nat):Int)).known)=true:=by kernel_rfl
 have:=List.all_eq_true.1 h n (List.mem_range.2 hn);simp only[Kt,Kx] at this;exact this
abbrev opR (A:Option Addr) (cap k:Nat):Rw:=⟨.slice A (opQ k).length cap,3,1,(opQ k).length,nI (opQ k)⟩
theorem opR_row {B:Nat→Prop}{w0 w:World}{L L':List (Nat×Obj)}{X:World→Prop}{A:Option Addr}{cap k n:Nat}{xs:List Value}(h:Hp B w0 L [⟨.slice A n cap,3,1,n,xs⟩] X w) (hl:L'.Sublist L) (e2:xs=nI (opQ k)) (e1:n=(opQ k).length):Hp B w0 L' [opR A cap k] X w:=by
 subst e1;subst e2;exact Hp.drop h hl (.refl _)
def OpsPost (w:World) (e:Ending) (w':World):Prop:=∃i:Nat×Nat,True∧e=.returned (.slice (some ⟨i.1,0,none⟩) 39 i.2)∧Hp (fun _=>False) w [] [⟨.slice (some ⟨i.1,0,none⟩) 39 i.2,3,1,39,nI (opQ 64)⟩] (fun _=>True) w'
theorem rops_any (w_0:World):Calls Tryz.prog 76 #[] w_0 (OpsPost w_0):=by
 unfold OpsPost;refine zM (args:=[]) Tryz.func76 M 15 M (Jy M)<|yH (.nil)<|zU (H':=Hp (fun _=>False) w_0 [] [] (fun _=>True)) (fun u hu=>?_) ?_
 ·subst hu;exact Hp.start0
 refine zX<|zZ<|Za M M<|ZX<|zZ<|Za M M<|ZX<|zX<|zZ<|Za M M<|ZT<|yZ<|xQ (ι:={j:Nat×(Option Addr×Nat) // j.1≤64}) (fun j=>[(1,.slice j.1.2.1 (opQ j.1.1).length j.1.2.2),(2,.int .i64 (j.1.1:Nat))]) (fun j=>Hp (fun _=>False) w_0 [] [opR j.1.2.1 j.1.2.2 j.1.1] (fun _=>True)) (fun j=>64-j.1.1) ⟨(0,(none,0)),Kv _⟩ (O2 M M) (fun w h=>Hp.nil h _ _) (fun j=>?_);obtain⟨⟨k,A,cap⟩,hk⟩:=j;dsimp only at hk ⊢;have hle:=opQ_le k hk;refine zX<|zX<|zZ<|Zm M M<|ZF M (xT M M)<|ZT<|zT M (fun h4=>?_) (fun h4=>?_)
 ·replace h4:=Jz h4;refine zH<|zR<|zX<|yZ<|zX<|Z3r 1 2 4 M M M<|Zm M M<|zE .none M  (v:=.agg (roC (xN ((k:Nat):Int))).toArray) (by kernel_rfl) M (fun w hw=>rof_any ((k:Nat):Int) w) ?_;refine ZF M (vO (off:=0) (ft:=4) M Tryz.underlying146 (by kernel_rfl) Tryz.underlying4 M M) ?_;refine ZT<|zT M (fun h9=>?_) (fun h9=>?_)
  ·refine Z4r 1 2 4 9 M M M M<|Zm M M<|Zm M M<|zG .none M (xH (z:=.int .i64 0) M M Tryz.underlying111 (by kernel_rfl) (by kernel_rfl) M M) (fun b12=>?_);refine wl_append (z:=.int .i64 0) (bytes:=8) 0 0 .none M M M M M Tryz.underlying111 (by kernel_rfl) M M M M M (by omega) (by omega) (fun a13 c13=>?_);refine Za M M<|zK<|zA<|zR<|Z4r 1 2 4 9 M M M M<|Zm M M<|ZF M (yP M M (show IntKind.i64.wrap ((k:Int)+1)=((k+1:Nat):Int) from i64_in ((k+1:Nat):Int) (by omega) (by omega))) ?_;exact Za rfl rfl<|zK<|yM (ι:={j:Nat×(Option Addr×Nat) // j.1≤64}) ⟨(k+1,(some ⟨a13,0,none⟩,c13)),by omega⟩ (by show 64-(k+1)<64-k;omega) (.consE rfl (by rw[opQ_t h9,Jt];rfl)<|.cons rfl<|.nil) (fun w h=>opR_row h (by first|exact .refl _|exact .cons _ (.refl _)) (by rw[opQ_t h9];simp[nI]) (by rw[opQ_t h9,Jt];rfl))
  ·refine zH<|zA<|zR<|Z4r 1 2 4 9 M M M M<|Zm M M<|ZF M (yP M M (show IntKind.i64.wrap ((k:Int)+1)=((k+1:Nat):Int) from i64_in ((k+1:Nat):Int) (by omega) (by omega))) ?_;exact Za M M<|zK<|yM (ι:={j:Nat×(Option Addr×Nat) // j.1≤64}) ⟨(k+1,(A,cap)),by omega⟩ (by show 64-(k+1)<64-k;omega) (.consE M (by rw[opQ_f h9])<|.cons M<|.nil) (fun w h=>opR_row h (.refl _) (by rw[opQ_f h9]) (by rw[opQ_f h9]))
 ·replace h4:=Ka h4;obtain rfl:k=64:=by omega
  refine uD (φ:=∃b,A=some ⟨b,0,none⟩) (fun w hw=>?_) (fun ⟨b,hA⟩=>?_)
  ·obtain⟨_,hr⟩:=HpG.rowAt hw (k:=0) rfl;rcases hr with ⟨hv,h0⟩|⟨b,c,cur,hv,_⟩
   ·have:=congrArg (fun v:Value=>match v with|.slice _ n _=>n|_=>0) hv;rw[show (match (Value.slice A (opQ 64).length cap) with|.slice _ n _=>n|_=>0)=39 from opQ_len] at this;cases this
   ·injection hv with a1 a2 a3;exact⟨b,a1⟩
  subst hA;refine xV<|zI<|zI<|xW<|zR<|zX<|Z3r 1 2 4 M M M<|Zm M M<|Za M M<|ZT<|zS<|zQ M M (fun w hw=>?_);exact⟨(b,cap),trivial,by rw[opQ_len],by rw[← opQ_len];exact hw.hp⟩
theorem opn_cell {G B:Nat→Prop}{w0 w:World}{L:List (Nat×Obj)}{R:List Rw}{X:World→Prop}{g cap j n:Nat}(h:HpG G B w0 L R X w) (hj:R[j]? = some ⟨.slice (some ⟨g,0,none⟩) 39 cap,3,1,39,nI (opQ 64)⟩) (hn:n<39):w.cell? ⟨g,0+((n:Nat):Int).toNat*1,none⟩=some (.int .i64 ((opQ 64).getD n 0:Nat)):=by
 obtain⟨rest,hb⟩:=HpG.rowBlock h hj;have hl:n<(opQ 64).length:=by rw[opQ_len];exact hn
 have:0+((n:Nat):Int).toNat*1=n:=by omega
 rw[this];refine Blk.cell (T:=3) hb ?_;rw[List.getElem?_append_left (by simpa [nI] using hl)];simp[nI,Kf hl]
abbrev mqL (b5 b4 b2 b1:Nat) (x:Q5) (q:SQ) (i:QI):List (Nat×Obj):=[(b5,roO q),(b4,qiO i),(b2,qiO qi0),(b1,bk 67 (q5C x))]
abbrev mqM (b1 b2 b4 b5:Nat):List (Nat×Value):=[(1,.pointer (some ⟨b1,0,none⟩)),(2,.pointer (some ⟨b2,0,none⟩)),(4,.pointer (some ⟨b4,0,none⟩)),(5,.pointer (some ⟨b5,0,none⟩))]
theorem regQ_t16 {k:Nat}(h:k<16) {u:Bool}(hu:u=true):wO ((k:Nat):Int) u=true:=by
 subst hu;unfold wO;rw[Bool.or_eq_true]
 by_cases h0:(k:Int)=0
 ·exact .inl (Ae h0)
 ·refine .inr ?_;rw[Kt,Kt];exact⟨⟨rfl,Ae (by omega)⟩,Ae (by omega)⟩
def ImQ (q:SQ) (m:Nat):Prop:=(q.bits=0→m=0)∧(0<q.most→m≤q.most)∧m<2 ^ q.bits
theorem sx_fitQ {m b:Nat}(hb:b=18∨b=22) (h:m<2 ^ b):vB (sxL m b) b=true∧sxL m b<4294967296:=by
 unfold vB sxL;rcases hb with rfl|rfl
 ·simp only[Nat.reducePow,Nat.reduceSub,Bool.or_eq_true,Kx] at h ⊢
  split<;>omega
 ·simp only[Nat.reducePow,Nat.reduceSub,Bool.or_eq_true,Kx] at h ⊢
  split<;>omega
theorem made_PQ {o d a b m n:Nat}{q:SQ}(hq:xN ((o:Nat):Int)=q) (hok:SqOk q) (hk:SqK q) (hkn:q.known=true) (hd:wO ((d:Nat):Int) q.d=true) (ha:wO ((a:Nat):Int) q.a=true) (hb:wO ((b:Nat):Int) q.b=true) (hm:ImQ q m) (hn:n=if q.kind=1 then sxL m q.bits else m):PQ ⟨o,d,a,b,n⟩:=by
 obtain⟨m1,m2,m3⟩:=hm;have hbb:=hok.b;have hp:2 ^ q.bits≤2 ^ 22:=Nat.pow_le_pow_right (by decide) (by omega);have h22:(2:Nat) ^ 22=4194304:=by decide
 have himm:immS q n=true∧n<4294967296:=by
  unfold immS
  by_cases h0:q.kind=0
  ·have hb0:=hk.z.2 h0;have hm0:=m1 hb0;rw[Kz h0];rw[Ky (by omega)] at hn;exact⟨Ae (by omega),by omega⟩
  ·rw[Ky h0];have hb0:q.bits≠0:=fun h=>h0 (hk.z.1 h)
   by_cases h1:q.kind=1
   ·rw[Kz h1];rw[Kz h1] at hn;subst hn;exact sx_fitQ (by omega) m3
   ·rw[Ky h1];rw[Ky h1] at hn;subst hn;refine⟨?_,by omega⟩
    by_cases h2:0<q.most
    ·rw[Kz h2];exact Ae (m2 h2)
    ·rw[Ky h2];exact Ae (Nat.div_eq_of_lt m3)
 refine⟨?_,himm.2⟩;have hv:=rW ⟨o,d,a,b,n⟩;unfold wH at hv;rw[hv];dsimp only;rw[hq,hkn,hd,ha,hb,himm.1];rfl
theorem rmadeQ_any (x:Q5) (w_0:World):Calls Tryz.prog 32 #[.agg (q5C x).toArray] w_0 fun e w'=>(∃i,PQ i∧e=.returned (.agg (qiC i).toArray))∧Ext w_0 w':=by
 obtain⟨n,hn,hmn⟩:=qK x.a 39 (by decide) (by decide);obtain⟨ho64,hkn⟩:=opQ_at n hn;obtain⟨o,hoe⟩:∃o,(opQ 64).getD n 0=o:=⟨_,rfl⟩;rw[hoe] at ho64 hkn;have hq:=sqOf_ok ((o:Nat):Int);have hk:=sqOf_k ((o:Nat):Int);have ho:=fun w=>rof_any ((o:Nat):Int) w;obtain⟨q,hqe⟩:∃q,xN ((o:Nat):Int)=q:=⟨_,rfl⟩;rw[hqe] at hq hk ho hkn;have hbb:=hq.b;have hmm:=hq.m;obtain⟨dd,hd16,hmd⟩:=qK x.b 16 (by decide) (by decide);obtain⟨aa,ha16,hma⟩:=qK x.c 16 (by decide) (by decide);obtain⟨bb,hb16,hmb⟩:=qK x.d 16 (by decide) (by decide);have hp1:0<2 ^ q.bits:=Nat.pow_pos (by decide);have hp2:2 ^ q.bits≤2 ^ 22:=Nat.pow_le_pow_right (by decide) (by omega);have h22:(2:Nat) ^ 22=4194304:=by decide
 obtain⟨m1,h1,hm1⟩:=qK x.e (q.most+1) (by omega) (by omega);obtain⟨m2,h2,hm2⟩:=qK x.e (2 ^ q.bits) (by omega) (by omega)
 have hshl:∀z:Int,z=q.bits→IntKind.i64.wrap (1*2 ^ (min z.toNat IntKind.i64.bits))=((2 ^ q.bits:Nat):Int):=fun z hz=>by
  subst hz;have e1:min ((q.bits:Nat):Int).toNat IntKind.i64.bits=q.bits:=by have:IntKind.i64.bits=64:=rfl;omega
  rw[e1,Int.one_mul,show ((2:Int) ^ q.bits)=((2 ^ q.bits:Nat):Int) by simp];generalize 2 ^ q.bits=p at hp2;exact i64_in _ (by omega) (by omega)
 have hI1:0<q.most→ImQ q m1:=fun h=>⟨fun h0=>absurd h0 (hk.n h),fun _=>by omega,by
  have:2 ^ 18≤2 ^ q.bits:=Nat.pow_le_pow_right (by decide) (by have:=hk.n h;omega);have h18:(2:Nat) ^ 18=262144:=by decide
  omega⟩
 have hI2:¬0<q.most→ImQ q m2:=fun h=>⟨fun h0=>by rw[h0] at h2;exact Nat.lt_one_iff.1 h2,fun h'=>absurd h' h,h2⟩;have hI0:¬0<q.most→ImQ q 0:=fun h=>⟨fun _=>rfl,fun h'=>absurd h' h,hp1⟩;refine zM (args:=[.agg (q5C x).toArray]) Tryz.func32 M 72 M (Jy M)<|Z1 0 M<|zU (H':=Hp (fun _=>False) w_0 [] [] (fun _=>True)) (fun u hu=>?_) ?_
 ·subst hu;exact Hp.start0
 refine zX<|zZ<|zG .none M (yG M M) (fun b1=>?_);refine zG .none M (yT (z:=Jf) (cs:=Jo) (by kernel_rfl) M) (fun b2=>?_);refine ZX<|zZ<|wl_callR (C:=fun _=>True) (val:=fun i:Nat×Nat=>.slice (some ⟨i.1,0,none⟩) 39 i.2) (Rs:=fun i=>[⟨.slice (some ⟨i.1,0,none⟩) 39 i.2,3,1,39,nI (opQ 64)⟩]) (X':=fun _ _=>True) .none M  (by kernel_rfl) M (fun w hw=>rops_any w) (fun ⟨g,cap⟩ _=>?_);refine Za rfl rfl<|ZX<|Z4r 0 1 2 3 rfl rfl rfl rfl<|Zm rfl rfl<|ZF rfl (yB (j:=0) (es:=1) rfl rfl Tryz.underlying67 (by kernel_rfl) rfl (by first|decide|omega|(simp;done)|(simp;omega)) rfl) ?_;refine ZF M (zW 1 M M M Tryz.underlying3 M)<|Zm M M<|ZF M (xU M Tryz.underlying111)<|zE .none M  (v:=.int .i64 (n:Nat)) (by kernel_rfl) M (fun w hw=>hmn w) ?_;refine ZF M (zC (j:=n) (es:=1) (g:=g) (o:=0) (len:=39) (cap:=cap) M M Tryz.underlying111 (by kernel_rfl) M (by omega) M) ?_;refine ZF M (zD (v:=.int .i64 (o:Nat)) M Tryz.underlying3 M (fun w hw=>by rw[← hoe];exact opn_cell (j:=0) hw M hn)) ?_;refine ZF M (yV [.int .i64 0,.int .i64 0,.int .i64 0,.int .i64 0,.int .u32 0] [(0,1),(1,1),(2,1),(3,1),(4,1)] M (by kernel_rfl) (by kernel_rfl) M) ?_;refine zG .none M (yT (z:=Jf) (cs:=Jo) (by kernel_rfl) M) (fun b4=>?_);refine ZR 0 M M M M M (by kernel_rfl) ?_;refine ZX<|Z5 0 1 2 3 4 M M M M M<|zU (H':=Hp (fun _=>False) w_0 [(b4,qiO ⟨o,0,0,0,0⟩),(b2,qiO qi0),(b1,bk 67 (q5C x))] [] (fun _=>True)) (fun w h=>Hp.drop h (Kc _) (List.nil_sublist _)) ?_;refine zZ<|ZF M (zY (off:=0) (sz:=0) M Tryz.underlying74 (by kernel_rfl) M) ?_;refine ZF M (zW 0 M M M Tryz.underlying3 M)<|zE .none M  (v:=.agg (roC q).toArray) (by kernel_rfl) M (fun w hw=>ho w) ?_;refine zG .none M (yT (z:=Jh) (cs:=Jr) (by kernel_rfl) M) (fun b5=>?_);refine ZR 0 M M M M M (by kernel_rfl) ?_;refine ZT<|yE (ι:={k:Nat // wO ((k:Nat):Int) q.d=true}) (fun _=>mqM b1 b2 b4 b5) (fun k=>Hp (fun _=>False) w_0 (mqL b5 b4 b2 b1 x q ⟨o,(k.1:Nat),0,0,0⟩) [] (fun _=>True)) ?_ (fun k=>?_)
 ·refine zX<|Z6r 0 1 2 3 4 5 M M M M M M<|ZF M (zY (off:=1) (sz:=0) M Tryz.underlying146 (by kernel_rfl) M) ?_;refine ZF M (zW 0 M M M Tryz.underlying4 M)<|ZT<|zT M (fun h20=>?_) (fun h20=>?_)
  ·refine Z7r 0 1 2 3 4 5 20 rfl rfl rfl rfl rfl rfl rfl<|ZF rfl (yB (j:=1) (es:=1) rfl rfl Tryz.underlying67 (by kernel_rfl) rfl (by first|decide|omega|(simp;done)|(simp;omega)) rfl) ?_;refine ZF M (zW 3 M M M Tryz.underlying3 M)<|zE .none M  (v:=.int .i64 (dd:Nat)) (by kernel_rfl) M (fun w hw=>hmd w) ?_;refine ZF M (zY (off:=1) (sz:=0) M Tryz.underlying74 (by kernel_rfl) M) ?_;refine ZS 1 M M M M M (by kernel_rfl) ?_;exact zK<|zP (ι:={k:Nat // wO ((k:Nat):Int) q.d=true}) ⟨dd,regQ_t16 hd16 h20⟩ (O4 M M M M) (fun w h=>h)
  ·exact zH<|zP (ι:={k:Nat // wO ((k:Nat):Int) q.d=true}) ⟨0,by unfold wO;rfl⟩ (O4 M M M M) (fun w h=>h)
 ·obtain⟨kd,hkd⟩:=k;dsimp only;refine yE (ι:={k:Nat // wO ((k:Nat):Int) q.a=true}) (fun _=>mqM b1 b2 b4 b5) (fun k=>Hp (fun _=>False) w_0 (mqL b5 b4 b2 b1 x q ⟨o,(kd:Nat),(k.1:Nat),0,0⟩) [] (fun _=>True)) ?_ (fun k=>?_)
  ·refine zX<|zZ<|ZF M (zY (off:=2) (sz:=0) M Tryz.underlying146 (by kernel_rfl) M) ?_;refine ZF M (zW 0 M M M Tryz.underlying4 M)<|ZT<|zT M (fun h26=>?_) (fun h26=>?_)
   ·refine Z5r 1 2 4 5 26 rfl rfl rfl rfl rfl<|ZF rfl (yB (j:=2) (es:=1) rfl rfl Tryz.underlying67 (by kernel_rfl) rfl (by first|decide|omega|(simp;done)|(simp;omega)) rfl) ?_;refine ZF M (zW 3 M M M Tryz.underlying3 M)<|zE .none M  (v:=.int .i64 (aa:Nat)) (by kernel_rfl) M (fun w hw=>hma w) ?_;refine ZF M (zY (off:=2) (sz:=0) M Tryz.underlying74 (by kernel_rfl) M) ?_;refine ZS 1 M M M M M (by kernel_rfl) ?_;exact zK<|zP (ι:={k:Nat // wO ((k:Nat):Int) q.a=true}) ⟨aa,regQ_t16 ha16 h26⟩ (O4 M M M M) (fun w h=>h)
   ·exact zH<|zP (ι:={k:Nat // wO ((k:Nat):Int) q.a=true}) ⟨0,by unfold wO;rfl⟩ (O4 M M M M) (fun w h=>h)
  ·obtain⟨ka,hka⟩:=k;dsimp only;refine yE (ι:={k:Nat // wO ((k:Nat):Int) q.b=true}) (fun _=>mqM b1 b2 b4 b5) (fun k=>Hp (fun _=>False) w_0 (mqL b5 b4 b2 b1 x q ⟨o,(kd:Nat),(ka:Nat),(k.1:Nat),0⟩) [] (fun _=>True)) ?_ (fun k=>?_)
   ·refine zX<|zZ<|ZF M (zY (off:=3) (sz:=0) M Tryz.underlying146 (by kernel_rfl) M) ?_;refine ZF M (zW 0 M M M Tryz.underlying4 M)<|ZT<|zT M (fun h32=>?_) (fun h32=>?_)
    ·refine Z5r 1 2 4 5 32 rfl rfl rfl rfl rfl<|ZF rfl (yB (j:=3) (es:=1) rfl rfl Tryz.underlying67 (by kernel_rfl) rfl (by first|decide|omega|(simp;done)|(simp;omega)) rfl) ?_;refine ZF M (zW 3 M M M Tryz.underlying3 M)<|zE .none M  (v:=.int .i64 (bb:Nat)) (by kernel_rfl) M (fun w hw=>hmb w) ?_;refine ZF M (zY (off:=3) (sz:=0) M Tryz.underlying74 (by kernel_rfl) M) ?_;refine ZS 1 M M M M M (by kernel_rfl) ?_;exact zK<|zP (ι:={k:Nat // wO ((k:Nat):Int) q.b=true}) ⟨bb,regQ_t16 hb16 h32⟩ (O4 M M M M) (fun w h=>h)
    ·exact zH<|zP (ι:={k:Nat // wO ((k:Nat):Int) q.b=true}) ⟨0,by unfold wO;rfl⟩ (O4 M M M M) (fun w h=>h)
   ·obtain⟨kb,hkb⟩:=k;dsimp only;refine yE (ι:={k:Nat // ImQ q k}) (fun _=>mqM b1 b2 b4 b5) (fun k=>Hp (fun _=>False) w_0 (mqL b5 b4 b2 b1 x q ⟨o,(kd:Nat),(ka:Nat),(kb:Nat),k.1⟩) [] (fun _=>True)) ?_ (fun k=>?_)
    ·refine yZ<|zX<|zZ<|ZF M (zY (off:=6) (sz:=0) M Tryz.underlying146 (by kernel_rfl) M) ?_;refine ZF M (zW 0 M M M Tryz.underlying22 M)<|ZF M (vF M M)<|Za M M<|ZT<|zT M (fun h37=>?_) (fun h37=>?_)
     ·replace h37:=Jz h37;refine Z5r 1 2 4 5 37 rfl rfl rfl rfl rfl<|ZF rfl (yB (j:=4) (es:=1) rfl rfl Tryz.underlying67 (by kernel_rfl) rfl (by first|decide|omega|(simp;done)|(simp;omega)) rfl) ?_;refine ZF M (zW 3 M M M Tryz.underlying3 M)<|ZF M (zY (off:=6) (sz:=0) M Tryz.underlying146 (by kernel_rfl) M) ?_;refine ZF M (zW 0 M M M Tryz.underlying22 M) ?_
      refine ZF M (yQ M (by kernel_rfl) Tryz.underlying3 (i64_in _ (by omega) (by omega))) ?_
      refine ZF M (yP M M (show IntKind.i64.wrap (((q.most:Nat):Int)+1)=((q.most+1:Nat):Int) from i64_in ((q.most+1:Nat):Int) (by omega) (by omega))) ?_;refine zE .none M  (v:=.int .i64 (m1:Nat)) (by kernel_rfl) M (fun w hw=>hm1 w) ?_
      refine ZF M (yQ M (by kernel_rfl) Tryz.underlying22 (uC _ (by omega) (by omega))) ?_
      refine ZF M (zY (off:=4) (sz:=0) M Tryz.underlying74 (by kernel_rfl) M) ?_;refine ZS 1 M M M M M (by kernel_rfl) ?_;exact zK<|zA<|zP (ι:={k:Nat // ImQ q k}) ⟨m1,hI1 (by omega)⟩ (O4 M M M M) (fun w h=>h)
     ·replace h37:=Ka h37;refine zX<|Z5r 1 2 4 5 37 M M M M M<|ZF M (zY (off:=5) (sz:=0) M Tryz.underlying146 (by kernel_rfl) M) ?_;refine ZF M (zW 0 M M M Tryz.underlying3 M)<|ZF M (vF M M)<|Za M M<|ZT<|zT M (fun h50=>?_) (fun h50=>?_)
      ·replace h50:=Jz h50;refine Z6r 1 2 4 5 37 50 rfl rfl rfl rfl rfl rfl<|ZF rfl (yB (j:=4) (es:=1) rfl rfl Tryz.underlying67 (by kernel_rfl) rfl (by first|decide|omega|(simp;done)|(simp;omega)) rfl) ?_;refine ZF M (zW 3 M M M Tryz.underlying3 M)<|ZF M (zY (off:=5) (sz:=0) M Tryz.underlying146 (by kernel_rfl) M) ?_;refine ZF M (zW 0 M M M Tryz.underlying3 M) ?_
       refine ZF M (yQ M (by kernel_rfl) Tryz.underlying42 (show IntKind.u64.wrap ((q.bits:Nat):Int)=((q.bits:Nat):Int) from u64_in _ (by omega) (by omega))) ?_
       refine ZF rfl (uN rfl rfl (by first|decide|omega) (hshl _ rfl)) ?_;refine zE .none M  (v:=.int .i64 (m2:Nat)) (by kernel_rfl) M (fun w hw=>hm2 w) ?_
       refine ZF M (yQ M (by kernel_rfl) Tryz.underlying22 (uC _ (by omega) (by omega))) ?_
       refine ZF M (zY (off:=4) (sz:=0) M Tryz.underlying74 (by kernel_rfl) M) ?_;refine ZS 1 M M M M M (by kernel_rfl) ?_;exact zK<|zA<|zP (ι:={k:Nat // ImQ q k}) ⟨m2,hI2 (by omega)⟩ (O4 M M M M) (fun w h=>h)
      ·replace h50:=Ka h50;exact zH<|zA<|zP (ι:={k:Nat // ImQ q k}) ⟨0,hI0 (by omega)⟩ (O4 M M M M) (fun w h=>h)
    ·obtain⟨m,hm⟩:=k;dsimp only;have hm32:m<4294967296:=by have:=hm.2.2;omega
     refine zX<|zX<|zZ<|ZF M (zY (off:=4) (sz:=0) M Tryz.underlying146 (by kernel_rfl) M) ?_;refine ZF M (zW 0 M M M Tryz.underlying4 M)<|ZT<|zT M (fun h64=>?_) (fun h64=>?_)
     ·refine Z5r 1 2 4 5 64 M M M M M<|ZF M (zY (off:=4) (sz:=0) M Tryz.underlying74 (by kernel_rfl) M) ?_;refine ZF M (zW 1 M M M Tryz.underlying22 M)<|ZF M (zY (off:=5) (sz:=0) M Tryz.underlying146 (by kernel_rfl) M) ?_;refine ZF M (zW 0 M M M Tryz.underlying3 M)<|zE .none M  (v:=.int .u32 (sxL m q.bits:Nat)) (by kernel_rfl) M (fun w hw=>rsign_any m q.bits hm32 (by have:=hq.k (Jz h64);omega) w) ?_;refine ZF M (zY (off:=4) (sz:=0) M Tryz.underlying74 (by kernel_rfl) M) ?_;refine ZS 1 M M M M M (by kernel_rfl) ?_;refine ZX<|Z5r 1 2 4 5 64 M M M M M<|ZF M (yS 1 M M Tryz.underlying74 M (by kernel_rfl)) ?_;refine ZR 2 M M M M M (by kernel_rfl) ?_;refine ZT<|zS<|xO M M 2 M Tryz.underlying74 M (by kernel_rfl) (fun w hw=>?_);exact⟨⟨⟨o,kd,ka,kb,sxL m q.bits⟩,made_PQ hqe hq hk hkn hkd hka hkb hm (by rw[Kz (Jz h64)]),rfl⟩,(Kb hw).ext⟩
     ·refine zH<|zR<|zX<|Z5r 1 2 4 5 64 M M M M M<|ZF M (yS 1 M M Tryz.underlying74 M (by kernel_rfl)) ?_;refine ZR 2 M M M M M (by kernel_rfl) ?_;refine ZT<|zS<|xO M M 2 M Tryz.underlying74 M (by kernel_rfl) (fun w hw=>?_);exact⟨⟨⟨o,kd,ka,kb,m⟩,made_PQ hqe hq hk hkn hkd hka hkb hm (by rw[Ky (Ka h64)]),rfl⟩,(Kb hw).ext⟩
end Go.Proofs.YtkaepknpplhgkaaGreatDoor
