import Derived.Test.YtkaepknpplhgkaaGreatDoorMak
import Derived.Test.YtkaepknpplhgkaaGreatDoorMai
import Derived.Test.YtkaepknpplhgkaaGreatDoorMaq
import Derived.Test.YtkaepknpplhgkaaGreatDoorMap
set_option maxRecDepth 100000
set_option maxHeartbeats 1000000
namespace Go.Proofs.YtkaepknpplhgkaaGreatDoor
open Go.RowKit
abbrev roC (q:SQ):List Value:=[.bool q.known,.bool q.d,.bool q.a,.bool q.b,.bool (decide (q.kind=1)),.int .i64 q.bits,.int .u32 q.most]
abbrev roO (q:SQ):Obj:=bk 146 (roC q)
theorem sq_of {op:Int}{s:QS}(h:sW op=some s):xD op=⟨true,s.d,s.a,s.b,s.kind,s.bits,s.most⟩:=by unfold xD;rw[h]
theorem sq_no {op:Int}(h:sW op=none):xD op=zSQ:=by unfold xD;rw[h]
theorem ro_eq {op:Int}{q:SQ}(h:xD op=q) {e:Ending}(he:e=.returned (.agg (roC q).toArray)):e=.returned (.agg (roC (xD op)).toArray):=by rw[h];exact he
theorem sh_1 {op:Int}(h:1≤op∧op≤12):sW op=some ⟨true,true,true,0,0,0⟩:=by unfold sW;rw[Ae h]
theorem sh_2 {op:Int}(h:op=17∨op=18∨op=19):sW op=some ⟨true,true,false,2,18,0⟩:=by unfold sW;rw[Ad (by omega),Ae h]
theorem sh_3 {op:Int}(h:(16≤op∧op≤27)∨(32≤op∧op≤37)) (hn:¬(op=17∨op=18∨op=19)):sW op=some ⟨true,true,false,1,18,0⟩:=by
 unfold sW;rw[Ad (by omega),Ad hn]
 by_cases h1:16≤op∧op≤27
 ·rw[Ae h1]
 ·rw[Ad h1,Ae (by omega)]
theorem sh_n {op:Int}(h1:¬(1≤op∧op≤12)) (h2:¬((16≤op∧op≤27)∨(32≤op∧op≤37))):sW op=if op=40 then some ⟨true,false,false,1,22,0⟩
 else if op=41 then some ⟨true,false,false,2,22,0⟩
 else if op=48 then some ⟨false,false,false,2,18,0⟩
 else if op=49∨op=50∨op=51 then some ⟨false,false,false,0,0,0⟩
 else if op=52 then some ⟨false,true,false,0,0,0⟩
 else if op=53 then some ⟨true,false,false,2,18,3⟩
 else if op=54 then some ⟨false,true,false,2,18,4⟩
 else none:=by
 unfold sW;rw[Ad h1,Ad (by omega),Ad (by omega),Ad (by omega)]
theorem rof_any (op:Int) (w_0:World):Calls Tryz.prog 78 #[.int .i64 op] w_0 fun e w'=>e=.returned (.agg (roC (xD op)).toArray)∧Ext w_0 w':=by
 refine zH (args:=[.int .i64 op]) Tryz.func78 M 76 M (Kc M)<|Z1 0 M<|zR (H':=Hp (fun _=>False) w_0 [] [] (fun _=>True)) (fun u hu=>?_) ?_
 ·subst hu;exact Hp.start0
 refine zX<|zZ<|zC .none M (yS (z:=Jh) (cs:=Js) (by kernel_rfl) M) (fun b2=>?_);refine ZX<|yV<|yN (ι:={z:Bool // z=true↔(1≤op∧op≤12)}) (fun z=>[(0,.int .i64 op),(2,.pointer (some ⟨b2,0,none⟩)),(3,.bool z.1)]) (fun _=>Hp (fun _=>False) w_0 [(b2,roO zSQ)] [] (fun _=>True)) ?_ (fun z=>?_)
 ·refine zZ<|Zm M M<|ZF M (xY M M)<|Zm M M<|zF 6 M (fun g1=>?_) (fun g1=>?_)
  ·replace g1:=Ke g1;exact ZG M M M (zK M)<|ZG M M M (xL M M)<|ZF M (zJ M M)<|Za M M<|zI<|zU (ι:={z:Bool // z=true↔(1≤op∧op≤12)}) ⟨decide (op≤12),by rw[decide_eq_true_iff];omega⟩ (O3 M M M) Jv
  ·replace g1:=Kf g1;exact ZP M<|ZP M<|ZF M (zM M M)<|Za M M<|zI<|zU (ι:={z:Bool // z=true↔(1≤op∧op≤12)}) ⟨false,by simp;omega⟩ (O3 M M M) Jv
 ·obtain⟨z,hz⟩:=z;dsimp only;refine zW M (fun h3=>?_) (fun h3=>?_)
  ·refine zX<|zZ<|ZF M (yT [.bool false,.bool false,.bool false,.bool false,.bool false,.int .i64 0,.int .u32 0] [(0,1),(1,1),(2,1),(3,1),(4,1),(5,1),(6,1)] M (by kernel_rfl) (by kernel_rfl) M) ?_;refine ZR 0 M M M M M (by kernel_rfl) ?_;refine ZT<|zQ<|yZ<|zT<|yC M M 0 M U146 M (by kernel_rfl) (fun w hw=>?_);exact⟨ro_eq (sq_of (sh_1 (hz.1 h3))) rfl,(Kg hw).ext⟩
  ·have h3':¬(1≤op∧op≤12):=fun h=>by rw[hz.2 h] at h3;cases h3
   refine yN (ι:={z:Bool // z=true↔(op=17∨op=18∨op=19)}) (fun z=>[(0,.int .i64 op),(2,.pointer (some ⟨b2,0,none⟩)),(11,.bool z.1)]) (fun _=>Hp (fun _=>False) w_0 [(b2,roO zSQ)] [] (fun _=>True)) ?_ (fun z=>?_)
   ·refine zZ<|Zm M M<|ZF M (yY M M)<|Zm M M<|zF 14 M (fun hb=>?_) (fun hb=>?_)
    ·replace hb:=Km hb;exact ZP M<|ZP M<|ZF M (zJ M M)<|Zm M M<|ZP M<|ZP M<|ZF M (zJ M M)<|Za M M<|zI<|zU (ι:={z:Bool // z=true↔(op=17∨op=18∨op=19)}) ⟨true,by simp;omega⟩ (O3 M M M) Jv
    ·replace hb:=yR hb;refine ZG M M M (zK M)<|ZG M M M (yY M M)<|ZF M (zM M M)<|Zm M M<|zF 18 M (fun hb=>?_) (fun hb=>?_)
     ·replace hb:=Km hb;exact ZP M<|ZP M<|ZF M (zJ M M)<|Za M M<|zI<|zU (ι:={z:Bool // z=true↔(op=17∨op=18∨op=19)}) ⟨true,by simp;omega⟩ (O3 M M M) Jv
     ·replace hb:=yR hb;exact ZG M M M (zK M)<|ZG M M M (yY M M)<|ZF M (zM M M)<|Za M M<|zI<|zU (ι:={z:Bool // z=true↔(op=17∨op=18∨op=19)}) ⟨op==19,by rw[Ai];omega⟩ (O3 M M M) Jv
   ·obtain⟨z,hz3⟩:=z;dsimp only;refine zW M (fun h11=>?_) (fun h11=>?_)
    ·refine zX<|zZ<|ZF M (yT [.bool false,.bool false,.bool false,.bool false,.bool false,.int .i64 0,.int .u32 0] [(0,1),(1,1),(2,1),(3,1),(4,1),(5,1),(6,1)] M (by kernel_rfl) (by kernel_rfl) M) ?_;refine ZR 0 M M M M M (by kernel_rfl) ?_;refine ZT<|zQ<|yZ<|zT<|yC M M 0 M U146 M (by kernel_rfl) (fun w hw=>?_);exact⟨ro_eq (sq_of (sh_2 (hz3.1 h11))) rfl,(Kg hw).ext⟩
    ·have h11':¬(op=17∨op=18∨op=19):=fun h=>by rw[hz3.2 h] at h11;cases h11
     refine yN (ι:={z:Bool // z=true↔((16≤op∧op≤27)∨(32≤op∧op≤37))}) (fun z=>[(0,.int .i64 op),(2,.pointer (some ⟨b2,0,none⟩)),(23,.bool z.1)]) (fun _=>Hp (fun _=>False) w_0 [(b2,roO zSQ)] [] (fun _=>True)) ?_ (fun z=>?_)
     ·refine zZ<|Zm M M<|ZF M (xY M M)<|Zm M M<|zF 26 M (fun hb=>?_) (fun hb=>?_)
      ·replace hb:=Ke hb;refine ZG M M M (zK M)<|ZG M M M (xL M M)<|ZF M (zJ M M)<|Zm M M<|zF 30 M (fun hb=>?_) (fun hb=>?_)
       ·replace hb:=Ke hb;refine ZP M<|ZP M<|ZP M<|xH M M M<|xH M M M<|ZP M<|ZF M (zJ M M)<|Za M M<|zI ?_
        first|exact zU (ι:={z:Bool // z=true↔((16≤op∧op≤27)∨(32≤op∧op≤37))}) ⟨true,by simp;omega⟩ (O3 rfl rfl rfl) Jv|exact zU (ι:={z:Bool // z=true↔((16≤op∧op≤27)∨(32≤op∧op≤37))}) ⟨false,by simp;omega⟩ (O3 rfl rfl rfl) Jv|exact zU (ι:={z:Bool // z=true↔((16≤op∧op≤27)∨(32≤op∧op≤37))}) ⟨decide (op≤37),by rw[decide_eq_true_iff];omega⟩ (O3 rfl rfl rfl) Jv
       ·replace hb:=Kf hb;refine ZG M M M (zK M)<|ZG M M M (xY M M)<|ZG M M M (zK M)<|zF 33 M (fun hb=>?_) (fun hb=>?_)
        ·replace hb:=Ke hb;refine ZG M M M (zK M)<|ZG M M M (xL M M)<|ZG M M M (zJ M M)<|ZF M (zM M M)<|Za M M<|zI ?_
         first|exact zU (ι:={z:Bool // z=true↔((16≤op∧op≤27)∨(32≤op∧op≤37))}) ⟨true,by simp;omega⟩ (O3 rfl rfl rfl) Jv|exact zU (ι:={z:Bool // z=true↔((16≤op∧op≤27)∨(32≤op∧op≤37))}) ⟨false,by simp;omega⟩ (O3 rfl rfl rfl) Jv|exact zU (ι:={z:Bool // z=true↔((16≤op∧op≤27)∨(32≤op∧op≤37))}) ⟨decide (op≤37),by rw[decide_eq_true_iff];omega⟩ (O3 rfl rfl rfl) Jv
        ·replace hb:=Kf hb;refine ZP M<|ZP M<|ZG M M M (zM M M)<|ZF M (zM M M)<|Za M M<|zI ?_
         first|exact zU (ι:={z:Bool // z=true↔((16≤op∧op≤27)∨(32≤op∧op≤37))}) ⟨true,by simp;omega⟩ (O3 rfl rfl rfl) Jv|exact zU (ι:={z:Bool // z=true↔((16≤op∧op≤27)∨(32≤op∧op≤37))}) ⟨false,by simp;omega⟩ (O3 rfl rfl rfl) Jv|exact zU (ι:={z:Bool // z=true↔((16≤op∧op≤27)∨(32≤op∧op≤37))}) ⟨decide (op≤37),by rw[decide_eq_true_iff];omega⟩ (O3 rfl rfl rfl) Jv
      ·replace hb:=Kf hb;refine ZP M<|ZP M<|ZF M (zM M M)<|Zm M M<|ZG M M M (zK M)<|ZG M M M (xY M M)<|ZG M M M (zK M)<|zF 33 M (fun hb=>?_) (fun hb=>?_)
       ·replace hb:=Ke hb;refine ZG M M M (zK M)<|ZG M M M (xL M M)<|ZG M M M (zJ M M)<|ZF M (zM M M)<|Za M M<|zI ?_
        first|exact zU (ι:={z:Bool // z=true↔((16≤op∧op≤27)∨(32≤op∧op≤37))}) ⟨true,by simp;omega⟩ (O3 rfl rfl rfl) Jv|exact zU (ι:={z:Bool // z=true↔((16≤op∧op≤27)∨(32≤op∧op≤37))}) ⟨false,by simp;omega⟩ (O3 rfl rfl rfl) Jv|exact zU (ι:={z:Bool // z=true↔((16≤op∧op≤27)∨(32≤op∧op≤37))}) ⟨decide (op≤37),by rw[decide_eq_true_iff];omega⟩ (O3 rfl rfl rfl) Jv
       ·replace hb:=Kf hb;refine ZP M<|ZP M<|ZG M M M (zM M M)<|ZF M (zM M M)<|Za M M<|zI ?_
        first|exact zU (ι:={z:Bool // z=true↔((16≤op∧op≤27)∨(32≤op∧op≤37))}) ⟨true,by simp;omega⟩ (O3 rfl rfl rfl) Jv|exact zU (ι:={z:Bool // z=true↔((16≤op∧op≤27)∨(32≤op∧op≤37))}) ⟨false,by simp;omega⟩ (O3 rfl rfl rfl) Jv|exact zU (ι:={z:Bool // z=true↔((16≤op∧op≤27)∨(32≤op∧op≤37))}) ⟨decide (op≤37),by rw[decide_eq_true_iff];omega⟩ (O3 rfl rfl rfl) Jv
     ·obtain⟨z,hz5⟩:=z;dsimp only;refine zW M (fun h23=>?_) (fun h23=>?_)
      ·refine zX<|zZ<|ZF M (yT [.bool false,.bool false,.bool false,.bool false,.bool false,.int .i64 0,.int .u32 0] [(0,1),(1,1),(2,1),(3,1),(4,1),(5,1),(6,1)] M (by kernel_rfl) (by kernel_rfl) M) ?_;refine ZR 0 M M M M M (by kernel_rfl) ?_;refine ZT<|zQ<|yZ<|zT<|yC M M 0 M U146 M (by kernel_rfl) (fun w hw=>?_);exact⟨ro_eq (sq_of (sh_3 (hz5.1 h23) h11')) rfl,(Kg hw).ext⟩
      ·have h23':¬((16≤op∧op≤27)∨(32≤op∧op≤37)):=fun h=>by rw[hz5.2 h] at h23;cases h23
       have hsn:=sh_n h3' h23';refine zX<|zZ<|Zm M M<|ZF M (yY M M)<|Za M M<|ZT<|zW M (fun h39=>?_) (fun h39=>?_)
       ·replace h39:=Km h39;refine zX<|Z4r 0 2 23 39 M M M M<|ZF M (yT [.bool false,.bool false,.bool false,.bool false,.bool false,.int .i64 0,.int .u32 0] [(0,1),(1,1),(2,1),(3,1),(4,1),(5,1),(6,1)] M (by kernel_rfl) (by kernel_rfl) M) ?_;refine ZR 0 M M M M M (by kernel_rfl) ?_;refine ZT<|zQ<|yZ<|zT<|yC M M 0 M U146 M (by kernel_rfl) (fun w hw=>?_);exact⟨ro_eq (sq_of (hsn.trans (by rw[Ae h39]))) rfl,(Kg hw).ext⟩
       ·replace h39:=yR h39;refine zX<|Z4r 0 2 23 39 M M M M<|Zm M M<|ZF M (yY M M)<|Za M M<|ZT<|zW M (fun h43=>?_) (fun h43=>?_)
        ·replace h43:=Km h43;refine zX<|Z5r 0 2 23 39 43 M M M M M<|ZF M (yT [.bool false,.bool false,.bool false,.bool false,.bool false,.int .i64 0,.int .u32 0] [(0,1),(1,1),(2,1),(3,1),(4,1),(5,1),(6,1)] M (by kernel_rfl) (by kernel_rfl) M) ?_;refine ZR 0 M M M M M (by kernel_rfl) ?_;refine ZT<|zQ<|yZ<|zT<|yC M M 0 M U146 M (by kernel_rfl) (fun w hw=>?_);exact⟨ro_eq (sq_of (hsn.trans (by rw[Ad h39,Ae h43]))) rfl,(Kg hw).ext⟩
        ·replace h43:=yR h43;refine zX<|Z5r 0 2 23 39 43 M M M M M<|Zm M M<|ZF M (yY M M)<|Za M M<|ZT<|zW M (fun h47=>?_) (fun h47=>?_)
         ·replace h47:=Km h47;refine zX<|Z6r 0 2 23 39 43 47 M M M M M M<|ZF M (yT [.bool false,.bool false,.bool false,.bool false,.bool false,.int .i64 0,.int .u32 0] [(0,1),(1,1),(2,1),(3,1),(4,1),(5,1),(6,1)] M (by kernel_rfl) (by kernel_rfl) M) ?_;refine ZR 0 M M M M M (by kernel_rfl) ?_;refine ZT<|zQ<|yZ<|zT<|yC M M 0 M U146 M (by kernel_rfl) (fun w hw=>?_);exact⟨ro_eq (sq_of (hsn.trans (by rw[Ad h39,Ad h43,Ae h47]))) rfl,(Kg hw).ext⟩
         ·replace h47:=yR h47;refine yN (ι:={z:Bool // z=true↔(op=49∨op=50∨op=51)}) (fun z=>[(0,.int .i64 op),(2,.pointer (some ⟨b2,0,none⟩)),(51,.bool z.1)]) (fun _=>Hp (fun _=>False) w_0 [(b2,roO zSQ)] [] (fun _=>True)) ?_ (fun z=>?_)
          ·refine Z6r 0 2 23 39 43 47 M M M M M M<|Zm M M<|ZF M (yY M M)<|Zm M M<|zF 54 M (fun hb=>?_) (fun hb=>?_)
           ·replace hb:=Km hb;exact ZP M<|ZP M<|ZF M (zJ M M)<|Zm M M<|ZP M<|ZP M<|ZF M (zJ M M)<|Za M M<|zI<|zU (ι:={z:Bool // z=true↔(op=49∨op=50∨op=51)}) ⟨true,by simp;omega⟩ (O3 M M M) Jv
           ·replace hb:=yR hb;refine ZG M M M (zK M)<|ZG M M M (yY M M)<|ZF M (zM M M)<|Zm M M<|zF 58 M (fun hb=>?_) (fun hb=>?_)
            ·replace hb:=Km hb;exact ZP M<|ZP M<|ZF M (zJ M M)<|Za M M<|zI<|zU (ι:={z:Bool // z=true↔(op=49∨op=50∨op=51)}) ⟨true,by simp;omega⟩ (O3 M M M) Jv
            ·replace hb:=yR hb;exact ZG M M M (zK M)<|ZG M M M (yY M M)<|ZF M (zM M M)<|Za M M<|zI<|zU (ι:={z:Bool // z=true↔(op=49∨op=50∨op=51)}) ⟨op==51,by rw[Ai];omega⟩ (O3 M M M) Jv
          ·obtain⟨z,hz13⟩:=z;dsimp only;refine zW M (fun h51=>?_) (fun h51=>?_)
           ·refine zX<|zZ<|ZF M (yT [.bool false,.bool false,.bool false,.bool false,.bool false,.int .i64 0,.int .u32 0] [(0,1),(1,1),(2,1),(3,1),(4,1),(5,1),(6,1)] M (by kernel_rfl) (by kernel_rfl) M) ?_;refine ZR 0 M M M M M (by kernel_rfl) ?_;refine ZT<|zQ<|yZ<|zT<|yC M M 0 M U146 M (by kernel_rfl) (fun w hw=>?_);exact⟨ro_eq (sq_of (hsn.trans (by rw[Ad h39,Ad h43,Ad h47,Ae (hz13.1 h51)]))) rfl,(Kg hw).ext⟩
           ·have h51':¬(op=49∨op=50∨op=51):=fun h=>by rw[hz13.2 h] at h51;cases h51
            refine zX<|zZ<|Zm M M<|ZF M (yY M M)<|Za M M<|ZT<|zW M (fun h63=>?_) (fun h63=>?_)
            ·replace h63:=Km h63;refine zX<|Z4r 0 2 51 63 M M M M<|ZF M (yT [.bool false,.bool false,.bool false,.bool false,.bool false,.int .i64 0,.int .u32 0] [(0,1),(1,1),(2,1),(3,1),(4,1),(5,1),(6,1)] M (by kernel_rfl) (by kernel_rfl) M) ?_;refine ZR 0 M M M M M (by kernel_rfl) ?_;refine ZT<|zQ<|yZ<|zT<|yC M M 0 M U146 M (by kernel_rfl) (fun w hw=>?_);exact⟨ro_eq (sq_of (hsn.trans (by rw[Ad h39,Ad h43,Ad h47,Ad h51',Ae h63]))) rfl,(Kg hw).ext⟩
            ·replace h63:=yR h63;refine zX<|Z4r 0 2 51 63 M M M M<|Zm M M<|ZF M (yY M M)<|Za M M<|ZT<|zW M (fun h67=>?_) (fun h67=>?_)
             ·replace h67:=Km h67;refine zX<|Z5r 0 2 51 63 67 M M M M M<|ZF M (yT [.bool false,.bool false,.bool false,.bool false,.bool false,.int .i64 0,.int .u32 0] [(0,1),(1,1),(2,1),(3,1),(4,1),(5,1),(6,1)] M (by kernel_rfl) (by kernel_rfl) M) ?_;refine ZR 0 M M M M M (by kernel_rfl) ?_;refine ZT<|zQ<|yZ<|zT<|yC M M 0 M U146 M (by kernel_rfl) (fun w hw=>?_);exact⟨ro_eq (sq_of (hsn.trans (by rw[Ad h39,Ad h43,Ad h47,Ad h51',Ad h63,Ae h67]))) rfl,(Kg hw).ext⟩
             ·replace h67:=yR h67;refine zX<|Z5r 0 2 51 63 67 M M M M M<|Zm M M<|ZF M (yY M M)<|Za M M<|ZT<|zW M (fun h71=>?_) (fun h71=>?_)
              ·replace h71:=Km h71;refine zX<|Z6r 0 2 51 63 67 71 M M M M M M<|ZF M (yT [.bool false,.bool false,.bool false,.bool false,.bool false,.int .i64 0,.int .u32 0] [(0,1),(1,1),(2,1),(3,1),(4,1),(5,1),(6,1)] M (by kernel_rfl) (by kernel_rfl) M) ?_;refine ZR 0 M M M M M (by kernel_rfl) ?_;refine ZT<|zQ<|yZ<|zT<|yC M M 0 M U146 M (by kernel_rfl) (fun w hw=>?_);exact⟨ro_eq (sq_of (hsn.trans (by rw[Ad h39,Ad h43,Ad h47,Ad h51',Ad h63,Ad h67,Ae h71]))) rfl,(Kg hw).ext⟩
              ·replace h71:=yR h71;refine zL<|yW<|zP<|zX<|Z6r 0 2 51 63 67 71 M M M M M M<|ZF M (yT [.bool false,.bool false,.bool false,.bool false,.bool false,.int .i64 0,.int .u32 0] [(0,1),(1,1),(2,1),(3,1),(4,1),(5,1),(6,1)] M (by kernel_rfl) (by kernel_rfl) M) ?_;refine ZR 0 M M M M M (by kernel_rfl) ?_;refine ZT<|zQ<|yC M M 0 M U146 M (by kernel_rfl) (fun w hw=>?_);exact⟨ro_eq (sq_no (hsn.trans (by rw[Ad h39,Ad h43,Ad h47,Ad h51',Ad h63,Ad h67,Ad h71]))) rfl,(Kg hw).ext⟩
theorem oZ (n:Int) (u:Bool) (w_0:World):Calls Tryz.prog 161 #[.int .i64 n,.bool u] w_0 fun e w'=>e=.returned (.bool (tO n u))∧Ext w_0 w':=by
 refine zH (args:=[.int .i64 n,.bool u]) Tryz.func161 M 18 M (Kc M)<|Z2 0 1 M M<|zR (H':=Hp (fun _=>False) w_0 [] [] (fun _=>True)) (fun u hu=>?_) ?_
 ·subst hu;exact Hp.start0
 refine zX<|zZ<|Za M M<|ZX<|zZ<|Zm M M<|ZF M (yY M M)<|Zm M M<|zF 7 M (fun g3=>?_) (fun g3=>?_)
 ·replace g3:=Km g3;refine ZP M<|ZP M<|xH M M M<|xH M M M<|ZP M<|ZP M<|xH M M M<|xH M M M<|ZP M<|ZF M (zJ M M)<|Za M M<|ZT<|zQ<|zO M M (fun w hw=>?_);exact⟨by unfold tO;first|(rw[Aj g3];rfl)|(rw[Ak g3,g5];first|rfl|(rw[Aj g9];rfl)|(rw[Ak g9];rfl)),hw.ext0⟩
 ·replace g3:=yR g3;refine ZG M M M (zK M)<|ZG M M M (zK M)<|zF 9 M (fun g5=>?_) (fun g5=>?_)
  ·refine ZG M M M (zK M)<|ZG M M M (uL M M)<|ZG M M M (zJ M M)<|ZG M M M (zK M)<|zF 13 M (fun g9=>?_) (fun g9=>?_)
   ·replace g9:=Ke g9;refine ZG M M M (zK M)<|ZG M M M (yB M M)<|ZG M M M (zJ M M)<|ZF M (zM M M)<|Za M M<|ZT<|zQ<|zO M M (fun w hw=>?_);exact⟨by unfold tO;first|(rw[Aj g3];rfl)|(rw[Ak g3,g5];first|rfl|(rw[Aj g9];rfl)|(rw[Ak g9];rfl)),hw.ext0⟩
   ·replace g9:=Kf g9;refine ZP M<|ZP M<|ZG M M M (zM M M)<|ZF M (zM M M)<|Za M M<|ZT<|zQ<|zO M M (fun w hw=>?_);exact⟨by unfold tO;first|(rw[Aj g3];rfl)|(rw[Ak g3,g5];first|rfl|(rw[Aj g9];rfl)|(rw[Ak g9];rfl)),hw.ext0⟩
  ·refine ZP M<|ZP M<|ZG M M M (zM M M)<|ZG M M M (zK M)<|ZP M<|ZP M<|ZG M M M (zM M M)<|ZF M (zM M M)<|Za M M<|ZT<|zQ<|zO M M (fun w hw=>?_);exact⟨by unfold tO;first|(rw[Aj g3];rfl)|(rw[Ak g3,g5];first|rfl|(rw[Aj g9];rfl)|(rw[Ak g9];rfl)),hw.ext0⟩
theorem shl_p {b:Nat}(hb:b≤31) (z:Int) (hz:z=b):IntKind.u32.wrap (1*2 ^ (min z.toNat IntKind.u32.bits))=((2 ^ b:Nat):Int):=by
 subst hz;have h1:min (b:Int).toNat IntKind.u32.bits=b:=by have:IntKind.u32.bits=32:=rfl;omega
 have h2:2 ^ b≤2 ^ 31:=Nat.pow_le_pow_right (by decide) hb;rw[h1,Int.one_mul,show ((2:Int) ^ b)=((2 ^ b:Nat):Int) by simp];have h3:(2:Nat) ^ 31=2147483648:=by decide
 rw[h3] at h2;generalize 2 ^ b=p at h2;exact sQ _ (by omega) (by omega)
theorem rsign_any (n b:Nat) (hn:n<4294967296) (hb:1≤b∧b≤31) (w_0:World):Calls Tryz.prog 79 #[.int .u32 n,.int .i64 b] w_0 fun e w'=>e=.returned (.int .u32 (sxL n b:Nat))∧Ext w_0 w':=by
 have e1:=shl_p hb.2 (b:Int) rfl;have e2:=shl_p (b:=b-1) (by omega) ((b:Int)-1) (by omega);have h2:2 ^ b≤2 ^ 31:=Nat.pow_le_pow_right (by decide) hb.2;have hp:0<2 ^ b:=Nat.pow_pos (by decide);have e3:(n:Int).tmod ((2 ^ b:Nat):Int)=((n%2 ^ b:Nat):Int):=by rw[Int.tmod_eq_emod_of_nonneg (Int.natCast_nonneg _)];simp
 have hm:n%2 ^ b<2 ^ b:=Nat.mod_lt _ hp;have hx:sxL n b=if n%2 ^ b<2 ^ (b-1) then n%2 ^ b else n%2 ^ b+(4294967296-2 ^ b):=rfl;rw[hx];generalize n%2 ^ b=m at *;generalize 2 ^ b=p at *;generalize 2 ^ (b-1)=q at *;refine zH (args:=[.int .u32 n,.int .i64 b]) Tryz.func79 M 25 M (Kc M)<|Z2 0 1 M M<|zR (H':=Hp (fun _=>False) w_0 [] [] (fun _=>True)) (fun u hu=>?_) ?_
 ·subst hu;exact Hp.start0
 refine zX<|zZ<|Za M M<|ZX<|zX<|zZ<|Zm M M<|ZF M (yB M M)<|ZT<|zW M (fun h7=>?_) (fun h7=>?_)
 ·replace h7:=Ke h7;exact False.elim (by omega)
 ·replace h7:=Kf h7;refine zL<|zP<|zX<|zX<|Z4r 0 1 4 7 M M M M<|Zm M M<|ZF M (xY M M)<|ZT<|zW M (fun h9=>?_) (fun h9=>?_)
  ·replace h9:=Ke h9;exact False.elim (by omega)
  ·replace h9:=Kf h9;refine zL<|zP<|zX<|Z5r 0 1 4 7 9 rfl rfl rfl rfl rfl<|Zm rfl rfl<|Zm rfl rfl<|ZF rfl (uM rfl rfl (by first|decide|omega) e1) ?_;refine ZF rfl (rX rfl rfl (by first|decide|omega) e3) ?_;refine Za M M<|ZX<|zX<|Z6r 0 1 4 5 7 9 M M M M M M<|Zm M M<|Zm M M<|ZF M (xV M M (i64_in _ (by omega) (by omega))) ?_;refine ZF rfl (uM rfl rfl (by first|decide|omega) e2) ?_;refine ZF M (xY M M)<|ZT<|zW M (fun h19=>?_) (fun h19=>?_)
   ·replace h19:=Ke h19;refine zX<|Z7r 0 1 4 5 7 9 19 rfl rfl rfl rfl rfl rfl rfl<|Zm rfl rfl<|Zm rfl rfl<|ZF rfl (uM rfl rfl (by first|decide|omega) e1) ?_;refine ZF M (xV M M (show IntKind.u32.wrap ((m:Int)-((p:Nat):Int))=((m+(4294967296-p):Nat):Int) by rw[sX];omega)) ?_;refine Za M M<|ZT<|zQ<|zT<|zO M M (fun w hw=>?_);exact⟨by rw[Ad (by omega)],hw.ext0⟩
   ·replace h19:=Kf h19;refine zL<|zP<|zX<|Z7r 0 1 4 5 7 9 19 M M M M M M M<|Zm M M<|Za M M<|ZT<|zQ<|zO M M (fun w hw=>?_);exact⟨by rw[Ae (by omega)],hw.ext0⟩
theorem fit_sx {n b:Nat}(hb:b=18∨b=22):(((sxL n b:Nat):Int)==(n:Int))=(vC n b&&decide (n<4294967296)):=by
 rw[Ka,Ai,Ky,Ac];unfold sxL vC;rcases hb with rfl|rfl
 ·simp only[Nat.reducePow,Nat.reduceSub,Bool.or_eq_true,Ac]
  split<;>omega
 ·simp only[Nat.reducePow,Nat.reduceSub,Bool.or_eq_true,Ac]
  split<;>omega
theorem rfits_any (n b:Nat) (hn:n<4294967296) (hb:b=18∨b=22) (w_0:World):Calls Tryz.prog 162 #[.int .u32 n,.int .i64 b] w_0 fun e w'=>e=.returned (.bool (vC n b))∧Ext w_0 w':=by
 have hf:=fit_sx (n:=n) hb;rw[Aj hn,Bool.and_true] at hf;refine zH (args:=[.int .u32 n,.int .i64 b]) Tryz.func162 M 10 M (Kc M)<|Z2 0 1 M M<|zR (H':=Hp (fun _=>False) w_0 [] [] (fun _=>True)) (fun u hu=>?_) ?_
 ·subst hu;exact Hp.start0
 refine zX<|zZ<|Za M M<|ZX<|zZ<|Zm M M<|Zm M M<|zE .none M  (v:=.int .u32 (sxL n b:Nat)) (by kernel_rfl) M (fun w hw=>rsign_any n b hn (by omega) w) ?_;refine Zm M M<|ZF M (yY M M)<|Za M M<|ZT<|zQ<|zO M M (fun w hw=>?_);exact⟨by rw[hf],hw.ext0⟩
end Go.Proofs.YtkaepknpplhgkaaGreatDoor
namespace Go.Proofs.YtkaepknpplhgkaaGreatDoor
open Go.RowKit
structure SqK (q:SQ):Prop where
 z:q.bits=0↔q.kind=0
 m:q.kind=1→q.most=0
 n:0<q.most→q.bits≠0
theorem sqOf_k (op:Int):SqK (xD op):=by
 by_cases h:op<0∨64≤op
 ·rw[qB h];exact⟨⟨fun _=>rfl,fun _=>rfl⟩,fun h=>(by cases h),fun h=>absurd h (by decide)⟩
 ·have h1:(List.range 64).all (fun op=>(decide ((xD (op:Nat)).bits=0)==decide ((xD (op:Nat)).kind=0))&&(!decide ((xD (op:Nat)).kind=1)||decide ((xD (op:Nat)).most=0))&&(!decide (0<(xD (op:Nat)).most)||!decide ((xD (op:Nat)).bits=0)))=true:=by kernel_rfl
  have:=tP h1 op.toNat (by omega);rw[show ((op.toNat:Nat):Int)=op by omega] at this;simp only[Ky,Bool.or_eq_true,Ac,Bool.not_eq_true',decide_eq_false_iff_not,Ai,decide_eq_decide] at this;obtain⟨⟨a,b⟩,c⟩:=this;exact⟨a,fun h=>b.resolve_left fun x=>x h,fun h=>c.resolve_left fun x=>x h⟩
theorem rvalidQ_any (i:QI) (hi:i.imm<4294967296) (w_0:World):Calls Tryz.prog 87 #[.agg (qiC i).toArray] w_0 fun e w'=>e=.returned (.bool (wQ i))∧Ext w_0 w':=by
 have hv:=oW i;have hq:=sqOf_ok i.op;have hk:=sqOf_k i.op;have ho:=fun w=>rof_any i.op w;generalize xD i.op=q at hv hq ho hk;have hbb:=hq.b;refine zH (args:=[.agg (qiC i).toArray]) Tryz.func87 M 66 M (Kc M)<|Z1 0 M<|zR (H':=Hp (fun _=>False) w_0 [] [] (fun _=>True)) (fun u hu=>?_) ?_
 ·subst hu;exact Hp.start0
 refine zX<|zZ<|zC .none M (yF M M) (fun b1=>?_);refine Za M M<|ZX<|zZ<|ZF M (Y74x0 M) ?_;refine ZF M (zV 0 M M M U3 M)<|zE .none M  (v:=.agg (roC q).toArray) (by kernel_rfl) M (fun w hw=>ho w) ?_;refine zC .none M (yS (z:=Jh) (cs:=Js) (by kernel_rfl) M) (fun b3=>?_);refine ZR 0 M M M M M (by kernel_rfl) ?_;refine ZX<|zX<|Z4r 0 1 2 3 M M M M<|ZF M (zY (off:=0) (sz:=0) M U146 (by kernel_rfl) M) ?_;refine ZF M (zV 0 M M M U4 M)<|ZF M (xF M)<|ZT<|zW M (fun h12=>?_) (fun h12=>?_)
 ·have h12:q.known=false:=by simpa using h12
  refine zX<|Z5r 0 1 2 3 12 M M M M M<|Za M M<|ZT<|zQ<|zT<|zO M M (fun w hw=>?_);exact⟨by rw[hv,h12];rfl,(Kg hw).ext⟩
 ·have h12:q.known=true:=by simpa using h12
  refine zL<|zP<|zX<|Z5r 0 1 2 3 12 M M M M M<|ZF M (Y74x1 M) ?_;refine ZF M (zV 1 M M M U3 M)<|ZF M (zY (off:=1) (sz:=0) M U146 (by kernel_rfl) M) ?_;refine ZF M (zV 0 M M M U4 M)<|zE .none M  (v:=.bool (tO i.d q.d)) (by kernel_rfl) M (fun w hw=>oZ i.d q.d w) ?_;refine Za M M<|ZX<|Z6r 0 1 2 3 4 12 M M M M M M<|ZF M (Y74x2 M) ?_;refine ZF M (zV 1 M M M U3 M)<|ZF M (zY (off:=2) (sz:=0) M U146 (by kernel_rfl) M) ?_;refine ZF M (zV 0 M M M U4 M)<|zE .none M  (v:=.bool (tO i.a q.a)) (by kernel_rfl) M (fun w hw=>oZ i.a q.a w) ?_;refine Za M M<|ZX<|Z7r 0 1 2 3 4 5 12 M M M M M M M<|ZF M (Y74x3 M) ?_;refine ZF M (zV 1 M M M U3 M)<|ZF M (zY (off:=3) (sz:=0) M U146 (by kernel_rfl) M) ?_;refine ZF M (zV 0 M M M U4 M)<|zE .none M  (v:=.bool (tO i.b q.b)) (by kernel_rfl) M (fun w hw=>oZ i.b q.b w) ?_;refine Za M M<|ZX<|zX<|Z8r 0 1 2 3 4 5 6 12 M M M M M M M M<|Zm M M<|ZF M (xF M)<|Zm M M<|zF 30 M (fun g3=>?_) (fun g3=>?_)
  ·have g3:tO i.d q.d=false:=by simpa using g3
   refine ZP M<|ZP M<|ZF M (zJ M M)<|Zm M M<|ZP M<|ZP M<|ZF M (zJ M M)<|ZT<|uA M<|zX<|Z9r 0 1 2 3 4 5 6 12 37 M M M M M M M M M<|Za M M<|ZT<|zQ<|zT<|zO M M (fun w hw=>?_);exact⟨by rw[hv,h12,g3];rfl,(Kg hw).ext⟩
  ·have g3:tO i.d q.d=true:=by simpa using g3
   refine ZG M M M (zK M)<|ZG M M M (xF M)<|ZF M (zM M M)<|Zm M M<|zF 34 M (fun g7=>?_) (fun g7=>?_)
   ·have g7:tO i.a q.a=false:=by simpa using g7
    refine ZP M<|ZP M<|ZF M (zJ M M)<|ZT<|uA M<|zX<|Z9r 0 1 2 3 4 5 6 12 37 M M M M M M M M M<|Za M M<|ZT<|zQ<|zT<|zO M M (fun w hw=>?_);exact⟨by rw[hv,h12,g3,g7];rfl,(Kg hw).ext⟩
   ·have g7:tO i.a q.a=true:=by simpa using g7
    refine ZG M M M (zK M)<|ZG M M M (xF M)<|ZF M (zM M M)<|ZT<|zW M (fun h37=>?_) (fun h37=>?_)
    ·refine zX<|Z9r 0 1 2 3 4 5 6 12 37 M M M M M M M M M<|Za M M<|ZT<|zQ<|zT<|zO M M (fun w hw=>?_);exact⟨by rw[hv,h12,g3,g7,show tO i.b q.b=false by simpa using h37];rfl,(Kg hw).ext⟩
    ·have hve:wQ i=immS q i.imm:=by rw[hv,h12,g3,g7,show tO i.b q.b=true by simpa using h37];rfl
     refine zL<|zP<|zX<|zX<|Z9r 0 1 2 3 4 5 6 12 37 M M M M M M M M M<|ZF M (Y146x5 M) ?_;refine ZF M (zV 0 M M M U3 M)<|ZF M (yY M M)<|ZT<|zW M (fun h40=>?_) (fun h40=>?_)
     ·replace h40:=Km h40;refine zX<|Z10r 0 1 2 3 4 5 6 12 37 40 M M M M M M M M M M<|ZF M (Y74x4 M) ?_;refine ZF M (zV 1 M M M U22 M)<|ZF M (yY M M)<|Za M M<|ZT<|zQ<|zT<|zO M M (fun w hw=>?_)
      exact⟨by
       rw[hve];unfold immS;rw[Ae (hk.z.1 (by omega))];congr 2
       rw[Ka,Ai,decide_eq_true_iff];omega,(Kg hw).ext⟩
     ·replace h40:=yR h40;refine zL<|zP<|zX<|zX<|Z10r 0 1 2 3 4 5 6 12 37 40 M M M M M M M M M M<|ZF M (zY (off:=4) (sz:=0) M U146 (by kernel_rfl) M) ?_;refine ZF M (zV 0 M M M U4 M)<|ZT<|zW M (fun h45=>?_) (fun h45=>?_)
      ·refine zX<|Z11r 0 1 2 3 4 5 6 12 37 40 45 M M M M M M M M M M M<|ZF M (Y74x4 M) ?_;refine ZF M (zV 1 M M M U22 M)<|ZF M (Y146x5 M) ?_;refine ZF M (zV 0 M M M U3 M)<|zE .none M  (v:=.bool (vC i.imm q.bits)) (by kernel_rfl) M (fun w hw=>rfits_any i.imm q.bits hi (by omega) w) ?_;refine Za M M<|ZT<|zQ<|zT<|zO M M (fun w hw=>?_)
       exact⟨by
        have h1:q.kind=1:=Ke h45;rw[hve];unfold immS
        rw[Ad (by omega),Ae h1],(Kg hw).ext⟩
      ·have h45:¬q.kind=1:=Kf h45;have h00:¬q.kind=0:=fun h=>by have:=hk.z.2 h;omega
       refine zL<|zP<|zX<|zX<|Z11r 0 1 2 3 4 5 6 12 37 40 45 M M M M M M M M M M M<|ZF M (zY (off:=6) (sz:=0) M U146 (by kernel_rfl) M) ?_;refine ZF M (zV 0 M M M U22 M)<|ZF M (uL M M)<|ZT<|zW M (fun h53=>?_) (fun h53=>?_)
       ·replace h53:=Ke h53;refine zX<|Z12r 0 1 2 3 4 5 6 12 37 40 45 53 M M M M M M M M M M M M<|ZF M (Y74x4 M) ?_;refine ZF M (zV 1 M M M U22 M)<|ZF M (zY (off:=6) (sz:=0) M U146 (by kernel_rfl) M) ?_;refine ZF M (zV 0 M M M U22 M)<|ZF M (xL M M)<|Za M M<|ZT<|zQ<|zT<|zO M M (fun w hw=>?_)
        exact⟨by
         rw[hve];unfold immS;rw[Ad h00,Ad h45,Ae (by omega)];congr 2
         rw[Ka,decide_eq_true_iff,decide_eq_true_iff];omega,(Kg hw).ext⟩
       ·replace h53:=Kf h53;refine zL<|zP<|zX<|Z12r 0 1 2 3 4 5 6 12 37 40 45 53 M M M M M M M M M M M M<|ZF M (Y74x4 M) ?_;refine ZF M (zV 1 M M M U22 M)<|ZF M (Y146x5 M) ?_;refine ZF M (zV 0 M M M U3 M) ?_
        refine ZF M (yQ M (by kernel_rfl) Tryz.underlying42 (show IntKind.u64.wrap ((q.bits:Nat):Int)=((q.bits:Nat):Int) from u64_in _ (by omega) (by omega))) ?_
        refine ZF rfl (uM rfl rfl (by first|decide|omega) (shl_p (by omega) _ rfl)) ?_;refine ZF M (yB M M)<|Za M M<|ZT<|zQ<|zO M M (fun w hw=>?_)
        exact⟨by
         rw[hve];unfold immS;rw[Ad h00,Ad h45,Ad (by omega)];congr 2;have hp:0<2 ^ q.bits:=Nat.pow_pos (by decide);rw[Ka,decide_eq_true_iff,decide_eq_true_iff,Nat.div_eq_zero_iff]
         omega,(Kg hw).ext⟩
theorem mulW {x k:Nat}(h:x*k<4294967296):IntKind.u32.wrap ((x:Int)*(k:Nat))=((x*k:Nat):Int):=by
 rw[← Int.natCast_mul];exact sQ _ (by omega) (by omega)
theorem addW {x y:Nat}(h:x+y<4294967296):IntKind.u32.wrap ((x:Int)+(y:Nat))=((x+y:Nat):Int):=by
 rw[← Int.natCast_add];exact sQ _ (by omega) (by omega)
theorem rencodeQ_any (i:QI) (hi:i.imm<4294967296) (w_0:World):Calls Tryz.prog 35 #[.agg (qiC i).toArray] w_0 fun e w'=>e=.returned (.tuple #[.int .u32 ((tI i).getD 0),.int .i64 (if wQ i=true then 0 else 12)])∧Ext w_0 w':=by
 have hvd0:=rvalidQ_any i hi
 cases hvd:wQ i with
 | false =>
  have hn:tI i=none:=by
   unfold wQ at hvd
   cases he:tI i with
   | none=>rfl
   | some c=>rw[he] at hvd;cases hvd
  rw[hn];refine zH (args:=[.agg (qiC i).toArray]) Tryz.func35 M 45 M (Kc M)<|Z1 0 M<|zR (H':=Hp (fun _=>False) w_0 [] [] (fun _=>True)) (fun u hu=>?_) ?_
  ·subst hu;exact Hp.start0
  refine zX<|zZ<|zC .none M (yF M M) (fun b1=>?_);refine Za M M<|Za M M<|ZX<|zZ<|ZF M (yU 0 M M U74 M (by kernel_rfl)) ?_;refine zE .none M  (v:=.bool false) (by kernel_rfl) M (fun w hw=>(hvd0 w).mono fun e w' ⟨h1,h2⟩=>⟨by rw[h1,hvd],h2⟩) ?_;refine Za M M<|ZX<|zX<|Z5r 0 1 2 3 4 M M M M M<|Zm M M<|ZF M (xF M)<|ZT<|zW M (fun h10=>?_) (fun h10=>?_)
  ·refine zX<|Z6r 0 1 2 3 4 10 M M M M M M<|Za M M<|Za M M<|ZT<|zQ<|zT<|uU M M M (fun w hw=>?_);exact⟨rfl,(Kg hw).ext⟩
  ·exact absurd h10 (by decide)
 | true =>
  obtain⟨cd,hcd⟩:∃c,tI i=some c:=by
   unfold wQ at hvd;exact Option.isSome_iff_exists.1 hvd
  have hve:=oW i;rw[hvd] at hve;have hsq:=sqOf_ok i.op;have hoq:=fun w=>rof_any i.op w
  have hcd2:∃s,sW i.op=some s∧cd=i.op.toNat*67108864+i.d.toNat*4194304+i.a.toNat*262144+i.b.toNat*16384+i.imm%2 ^ s.bits:=by
   unfold tI at hcd
   cases hs:sW i.op with
   | none=>rw[hs] at hcd;cases hcd
   | some s =>
    rw[hs] at hcd;dsimp only at hcd
    split at hcd
    ·cases hcd;exact⟨s,rfl,rfl⟩
    ·cases hcd
  obtain⟨s,hs,hcd2⟩:=hcd2;have hbs:(xD i.op).bits=s.bits:=by unfold xD;rw[hs]
  have hop:0≤i.op∧i.op<64:=by
   refine Classical.byContradiction fun hh=>?_;have h2:(xD i.op).known=true:=by unfold xD;rw[hs]
   rw[qB (by omega)] at h2;cases h2
  have hlt:=encQ_lt hcd;rw[← hbs] at hcd2;have hbb:=hsq.b;obtain⟨op,d,a,b,n⟩:=i;dsimp only at hve hop hcd2 hi hoq hbb;generalize xD op=q at *;have hve:=hve.symm;simp only[Ky] at hve;obtain⟨⟨⟨⟨_,k1⟩,k2⟩,k3⟩,_⟩:=hve;obtain⟨dn,rfl,hd,_⟩:=sF k1;obtain⟨an,rfl,ha,ha0⟩:=sF k2;obtain⟨bn,rfl,hb,hb0⟩:=sF k3;obtain⟨on,rfl,ho⟩:=xS (n:=64) hop.1 hop.2;simp only[Int.toNat_natCast] at hcd2;have o5:(n:Int).tmod ((2 ^ q.bits:Nat):Int)=((n%2 ^ q.bits:Nat):Int):=by rw[Int.tmod_eq_emod_of_nonneg (Int.natCast_nonneg _)];simp
  have hp0:0<2 ^ q.bits:=Nat.pow_pos (by decide);have hb0n:q.bits=0→n%2 ^ q.bits=0:=fun h=>by rw[h];exact Nat.mod_one n
  have hshl:=shl_p (b:=q.bits) (by omega);generalize n%2 ^ q.bits=m at *;generalize 2 ^ q.bits=p at *;rw[hcd];refine zH (args:=[.agg (qiC ⟨on,dn,an,bn,n⟩).toArray]) Tryz.func35 M 45 M (Kc M)<|Z1 0 M<|zR (H':=Hp (fun _=>False) w_0 [] [] (fun _=>True)) (fun u hu=>?_) ?_
  ·subst hu;exact Hp.start0
  refine zX<|zZ<|zC .none M (yF M M) (fun b1=>?_);refine Za M M<|Za M M<|ZX<|zZ<|ZF M (yU 0 M M U74 M (by kernel_rfl)) ?_;refine zE .none M  (v:=.bool true) (by kernel_rfl) M (fun w hw=>(hvd0 w).mono fun e w' ⟨h1,h2⟩=>⟨by rw[h1,hvd],h2⟩) ?_;refine Za M M<|ZX<|zX<|Z5r 0 1 2 3 4 M M M M M<|Zm M M<|ZF M (xF M)<|ZT<|zW M (fun h10=>?_) (fun h10=>?_)
  ·exact absurd h10 (by decide)
  ·refine zL<|zP<|zX<|Z6r 0 1 2 3 4 10 M M M M M M<|ZF M (Y74x0 M) ?_;refine ZF M (zV 0 M M M U3 M) ?_
   refine ZF M (yQ M (by kernel_rfl) U22 (u32n ho (by decide))) ?_
   refine ZF M (sY M M (mulW (k:=67108864) (by omega))) ?_;refine ZF M (Y74x1 M) ?_;refine ZF M (zV 0 M M M U3 M) ?_
   refine ZF M (yQ M (by kernel_rfl) U22 (u32n hd (by decide))) ?_
   refine ZF M (sY M M (mulW (k:=4194304) (by omega))) ?_;refine ZF M (yO M M (addW (by omega))) ?_;refine ZF M (Y74x2 M) ?_;refine ZF M (zV 0 M M M U3 M) ?_
   refine ZF M (yQ M (by kernel_rfl) U22 (u32n ha (by decide))) ?_
   refine ZF M (sY M M (mulW (k:=262144) (by omega))) ?_;refine ZF M (yO M M (addW (by omega))) ?_;refine ZF M (Y74x3 M) ?_;refine ZF M (zV 0 M M M U3 M) ?_
   refine ZF M (yQ M (by kernel_rfl) U22 (u32n hb (by decide))) ?_
   refine ZF M (sY M M (mulW (k:=16384) (by omega))) ?_;refine ZF M (yO M M (addW (by omega))) ?_;refine Za M M<|ZX<|Z7r 0 1 2 3 4 5 10 M M M M M M M<|ZF M (Y74x0 M) ?_;refine ZF M (zV 0 M M M U3 M)<|zE .none M  (v:=.agg (roC q).toArray) (by kernel_rfl) M (fun w hw=>hoq w) ?_;refine ZF M (tU (off:=5) (ft:=3) M U146 (by kernel_rfl) U3 M M) ?_;refine Za M M<|ZX<|zX<|Z8r 0 1 2 3 4 5 6 10 M M M M M M M M<|Zm M M<|ZF M (yY M M)<|ZT<|zW M (fun h35=>?_) (fun h35=>?_)
   ·replace h35:=Km h35;refine zX<|Z9r 0 1 2 3 4 5 6 10 35 M M M M M M M M M<|Zm M M<|Za M M<|Za M M<|ZT<|zQ<|zT<|uU M M M (fun w hw=>?_)
    exact⟨by
      have hm0:=hb0n (by omega);have hsum:on*67108864+dn*4194304+an*262144+bn*16384=cd:=by rw[hcd2,hm0,Nat.add_zero]
      show Ending.returned (Value.tuple #[.int .u32 ((on*67108864+dn*4194304+an*262144+bn*16384:Nat):Int),.int .i64 0])=Ending.returned (Value.tuple #[.int .u32 ((cd:Nat):Int),.int .i64 0])
      rw[hsum],(Kg hw).ext⟩
   ·replace h35:=yR h35;refine zL<|zP<|zX<|Z9r 0 1 2 3 4 5 6 10 35 M M M M M M M M M<|Zm M M<|ZF M (Y74x4 M) ?_;refine ZF M (zV 0 M M M U22 M)<|Zm M M ?_
    refine ZF M (yQ M (by kernel_rfl) Tryz.underlying42 (show IntKind.u64.wrap ((q.bits:Nat):Int)=((q.bits:Nat):Int) from u64_in _ (by omega) (by omega))) ?_
    refine ZF rfl (uM rfl rfl (by first|decide|omega) (hshl _ rfl)) ?_;refine ZF rfl (rX rfl rfl (by first|decide|omega) o5) ?_;refine ZF M (yO M M (addW (by omega))) ?_;refine Za M M<|Za M M<|ZT<|zQ<|uU M M M (fun w hw=>?_)
    exact⟨by
      have hsum:on*67108864+dn*4194304+an*262144+bn*16384+m=cd:=hcd2.symm;show Ending.returned (Value.tuple #[.int .u32 ((on*67108864+dn*4194304+an*262144+bn*16384+m:Nat):Int),.int .i64 0])=Ending.returned (Value.tuple #[.int .u32 ((cd:Nat):Int),.int .i64 0])
      rw[hsum],(Kg hw).ext⟩
end Go.Proofs.YtkaepknpplhgkaaGreatDoor
namespace Go.Proofs.YtkaepknpplhgkaaGreatDoor
open Go.RowKit
theorem quoN {v k:Nat}:(v:Int).tdiv (k:Nat)=((v/k:Nat):Int):=by rw[Int.tdiv_eq_ediv_of_nonneg (Int.natCast_nonneg _)];simp
theorem quoW {v k:Nat}(h:v<4294967296):IntKind.u32.wrap ((v:Int).tdiv (k:Nat))=((v/k:Nat):Int):=by
 rw[quoN];have:v/k≤v:=Nat.div_le_self v k;generalize v/k=q at this ⊢;exact sQ _ (by omega) (by omega)
theorem remN {v k:Nat}:(v:Int).tmod (k:Nat)=((v%k:Nat):Int):=by rw[Int.tmod_eq_emod_of_nonneg (Int.natCast_nonneg _)];simp
def RdqPost (v:Nat) (w:World) (e:Ending) (w':World):Prop:=Ext w w'∧e=.returned (match decQ v with
 | some i=>.tuple #[.agg (qiC i).toArray,.int .i64 0]
 | none=>.tuple #[.agg (qiC qi0).toArray,.int .i64 12])
abbrev dqL (b4 b5 b2:Nat) (q:SQ) (i:QI):List (Nat×Obj):=[(b5,roO q),(b4,qiO i),(b2,qiO qi0)]
abbrev dqM (v b4 b5 b2:Nat):List (Nat×Value):=[(0,.int .u32 v),(2,.pointer (some ⟨b2,0,none⟩)),(3,.int .i64 0),(4,.pointer (some ⟨b4,0,none⟩)),(5,.pointer (some ⟨b5,0,none⟩))]
theorem fldW_t (v k:Nat) {q:Bool}(h:q=true):fldW v k q=v/2 ^ k%16:=by subst h;rfl
theorem fldW_f (v k:Nat) {q:Bool}(h:q=false):fldW v k q=0:=by subst h;rfl
theorem dq_no {en:Option Nat}{v:Nat}{i:QI}{e:Ending}(h:en≠some v) (he:e=.returned (.tuple #[.agg (qiC qi0).toArray,.int .i64 12])):e=.returned (match (if en=some v then some i else none) with
 | some i=>.tuple #[.agg (qiC i).toArray,.int .i64 0]
 | none=>.tuple #[.agg (qiC qi0).toArray,.int .i64 12]):=by rw[Ad h];exact he
theorem rdecodeQ_any (v:Nat) (hv:v<4294967296) (w_0:World):Calls Tryz.prog 94 #[.int .u32 v] w_0 (RdqPost v w_0):=by
 unfold RdqPost;rw[decQ_eq v];have hq:=sqOf_ok ((v/67108864:Nat):Int);have ho:=fun w=>rof_any ((v/67108864:Nat):Int) w;generalize xD ((v/67108864:Nat):Int)=q at hq ho ⊢;have him:=mkS_imm v q hq;have hbits:=hq.b;have hp0:0<2 ^ q.bits:=Nat.pow_pos (by decide);have hmb:v%2 ^ q.bits<4294967296:=Nat.lt_of_le_of_lt (Nat.mod_le _ _) hv;have hmz:q.bits=0→v%2 ^ q.bits=0:=fun h=>by rw[h];exact Nat.mod_one v
 have hshl:=shl_p (b:=q.bits) (by omega);have hrem:(v:Int).tmod ((2 ^ q.bits:Nat):Int)=((v%2 ^ q.bits:Nat):Int):=remN;obtain⟨m,hm⟩:∃m,m=v%2 ^ q.bits:=⟨_,rfl⟩;rw[← hm] at hmb hmz hrem;have hmk:mkS v q=⟨(v/67108864:Nat),(fldW v 22 q.d:Nat),(fldW v 18 q.a:Nat),(fldW v 14 q.b:Nat),if q.kind=1 then sxL m q.bits else m⟩:=by rw[hm];rfl
 generalize 2 ^ q.bits=p at *;refine zH (args:=[.int .u32 v]) Tryz.func94 M 68 M (Kc M)<|Z1 0 M<|zR (H':=Hp (fun _=>False) w_0 [] [] (fun _=>True)) (fun u hu=>?_) ?_
 ·subst hu;exact Hp.start0
 refine zX<|zZ<|zC .none M (yS (z:=Jf) (cs:=Jp) (by kernel_rfl) M) (fun b2=>?_);refine Za rfl rfl<|ZX<|zZ<|Zm rfl rfl<|ZF rfl (yf_quo rfl rfl (by first|decide|omega) (quoW (k:=67108864) hv)) ?_
 refine ZF M (yQ M (by kernel_rfl) U3 (wK (by omega))) ?_
 refine ZF M (yT [.int .i64 0,.int .i64 0,.int .i64 0,.int .i64 0,.int .u32 0] [(0,1),(1,1),(2,1),(3,1),(4,1)] M (by kernel_rfl) (by kernel_rfl) M) ?_;refine zC .none M (yS (z:=Jf) (cs:=Jp) (by kernel_rfl) M) (fun b4=>?_);refine ZR 0 M M M M M (by kernel_rfl) ?_;refine ZX<|Z4r 0 2 3 4 M M M M<|ZF M (Y74x0 M) ?_;refine ZF M (zV 0 M M M U3 M)<|zE .none M  (v:=.agg (roC q).toArray) (by kernel_rfl) M (fun w hw=>ho w) ?_;refine zC .none M (yS (z:=Jh) (cs:=Js) (by kernel_rfl) M) (fun b5=>?_);refine ZR 0 M M M M M (by kernel_rfl) ?_;refine ZT<|yN (ι:=Unit) (fun _=>dqM v b4 b5 b2) (fun _=>Hp (fun _=>False) w_0 (dqL b4 b5 b2 q ⟨(v/67108864:Nat),(fldW v 22 q.d:Nat),0,0,0⟩) [] (fun _=>True)) ?_ (fun _=>?_)
 ·refine zX<|Z5r 0 2 3 4 5 M M M M M<|ZF M (zY (off:=1) (sz:=0) M U146 (by kernel_rfl) M) ?_;refine ZF M (zV 0 M M M U4 M)<|ZT<|zW M (fun h16=>?_) (fun h16=>?_)
  ·refine Z6r 0 2 3 4 5 16 rfl rfl rfl rfl rfl rfl<|Zm rfl rfl<|ZF rfl (yf_quo rfl rfl (by first|decide|omega) (quoW (k:=4194304) hv)) ?_;refine ZF rfl (rX rfl rfl (by first|decide|omega) (remN (k:=16))) ?_
   refine ZF M (yQ M (by kernel_rfl) U3 (wK (by omega))) ?_
   refine ZF M (Y74x1 M) ?_;refine ZS 1 M M M M M (by kernel_rfl) ?_;exact zI<|zU (ι:=Unit) () (O5 M M M M M) (fun w h=>by rw[fldW_t v 22 h16];exact h)
  ·exact zL<|zU (ι:=Unit) () (O5 M M M M M) (fun w h=>by rw[fldW_f v 22 h16];exact h)
 ·refine yN (ι:=Unit) (fun _=>dqM v b4 b5 b2) (fun _=>Hp (fun _=>False) w_0 (dqL b4 b5 b2 q ⟨(v/67108864:Nat),(fldW v 22 q.d:Nat),(fldW v 18 q.a:Nat),0,0⟩) [] (fun _=>True)) ?_ (fun _=>?_)
  ·refine zX<|zZ<|ZF M (zY (off:=2) (sz:=0) M U146 (by kernel_rfl) M) ?_;refine ZF M (zV 0 M M M U4 M)<|ZT<|zW M (fun h23=>?_) (fun h23=>?_)
   ·refine Z6r 0 2 3 4 5 23 rfl rfl rfl rfl rfl rfl<|Zm rfl rfl<|ZF rfl (yf_quo rfl rfl (by first|decide|omega) (quoW (k:=262144) hv)) ?_;refine ZF rfl (rX rfl rfl (by first|decide|omega) (remN (k:=16))) ?_
    refine ZF M (yQ M (by kernel_rfl) U3 (wK (by omega))) ?_
    refine ZF M (Y74x2 M) ?_;refine ZS 1 M M M M M (by kernel_rfl) ?_;exact zI<|zU (ι:=Unit) () (O5 M M M M M) (fun w h=>by rw[fldW_t v 18 h23];exact h)
   ·exact zL<|zU (ι:=Unit) () (O5 M M M M M) (fun w h=>by rw[fldW_f v 18 h23];exact h)
  ·refine yN (ι:=Unit) (fun _=>dqM v b4 b5 b2) (fun _=>Hp (fun _=>False) w_0 (dqL b4 b5 b2 q ⟨(v/67108864:Nat),(fldW v 22 q.d:Nat),(fldW v 18 q.a:Nat),(fldW v 14 q.b:Nat),0⟩) [] (fun _=>True)) ?_ (fun _=>?_)
   ·refine zX<|zZ<|ZF M (zY (off:=3) (sz:=0) M U146 (by kernel_rfl) M) ?_;refine ZF M (zV 0 M M M U4 M)<|ZT<|zW M (fun h30=>?_) (fun h30=>?_)
    ·refine Z6r 0 2 3 4 5 30 rfl rfl rfl rfl rfl rfl<|Zm rfl rfl<|ZF rfl (yf_quo rfl rfl (by first|decide|omega) (quoW (k:=16384) hv)) ?_;refine ZF rfl (rX rfl rfl (by first|decide|omega) (remN (k:=16))) ?_
     refine ZF M (yQ M (by kernel_rfl) U3 (wK (by omega))) ?_
     refine ZF M (Y74x3 M) ?_;refine ZS 1 M M M M M (by kernel_rfl) ?_;exact zI<|zU (ι:=Unit) () (O5 M M M M M) (fun w h=>by rw[fldW_t v 14 h30];exact h)
    ·exact zL<|zU (ι:=Unit) () (O5 M M M M M) (fun w h=>by rw[fldW_f v 14 h30];exact h)
   ·refine yN (ι:=Unit) (fun _=>dqM v b4 b5 b2) (fun _=>Hp (fun _=>False) w_0 (dqL b4 b5 b2 q ⟨(v/67108864:Nat),(fldW v 22 q.d:Nat),(fldW v 18 q.a:Nat),(fldW v 14 q.b:Nat),m⟩) [] (fun _=>True)) ?_ (fun _=>?_)
    ·refine zX<|zZ<|ZF M (Y146x5 M) ?_;refine ZF M (zV 0 M M M U3 M)<|ZF M (uL M M)<|ZT<|zW M (fun h38=>?_) (fun h38=>?_)
     ·replace h38:=Ke h38;refine Z6r 0 2 3 4 5 38 M M M M M M<|Zm M M<|ZF M (Y146x5 M) ?_;refine ZF M (zV 0 M M M U3 M) ?_
      refine ZF M (yQ M (by kernel_rfl) Tryz.underlying42 (show IntKind.u64.wrap ((q.bits:Nat):Int)=((q.bits:Nat):Int) from u64_in _ (by omega) (by omega))) ?_
      refine ZF rfl (uM rfl rfl (by first|decide|omega) (hshl _ rfl)) ?_;refine ZF rfl (rX rfl rfl (by first|decide|omega) hrem) ?_;refine ZF M (Y74x4 M) ?_;refine ZS 1 M M M M M (by kernel_rfl) ?_;exact zI<|zU (ι:=Unit) () (O5 M M M M M) Jv
     ·replace h38:=Kf h38;exact zL<|zU (ι:=Unit) () (O5 M M M M M) (fun w h=>by rw[hmz (by omega)];exact h)
    ·refine yN (ι:=Unit) (fun _=>dqM v b4 b5 b2) (fun _=>Hp (fun _=>False) w_0 (dqL b4 b5 b2 q (mkS v q)) [] (fun _=>True)) ?_ (fun _=>?_)
     ·refine zX<|zZ<|ZF M (zY (off:=4) (sz:=0) M U146 (by kernel_rfl) M) ?_;refine ZF M (zV 0 M M M U4 M)<|ZT<|zW M (fun h47=>?_) (fun h47=>?_)
      ·refine Z6r 0 2 3 4 5 47 M M M M M M<|ZF M (Y74x4 M) ?_;refine ZF M (zV 1 M M M U22 M)<|ZF M (Y146x5 M) ?_;refine ZF M (zV 0 M M M U3 M)<|zE .none M  (v:=.int .u32 (sxL m q.bits:Nat)) (by kernel_rfl) M (fun w hw=>rsign_any m q.bits hmb (by have:=hq.k (Ke h47);omega) w) ?_;refine ZF M (Y74x4 M) ?_;refine ZS 1 M M M M M (by kernel_rfl) ?_;exact zI<|zU (ι:=Unit) () (O5 M M M M M) (fun w h=>by rw[hmk,Ae (Ke h47)];exact h)
      ·exact zL<|zU (ι:=Unit) () (O5 M M M M M) (fun w h=>by rw[hmk,Ad (Kf h47)];exact h)
     ·refine zX ?_;generalize mkS v q=i at him ⊢;obtain⟨vd,hvd⟩:∃x,x=wQ i:=⟨_,rfl⟩;obtain⟨en,hen⟩:∃x,x=tI i:=⟨_,rfl⟩;have hvd2:vd=en.isSome:=by rw[hvd,hen];rfl
      rw[← hen];refine zZ<|ZF M (yU 1 M M U74 M (by kernel_rfl)) ?_;refine zE .none M  (v:=.tuple #[.int .u32 (en.getD 0:Nat),.int .i64 (if vd=true then 0 else 12)]) (by kernel_rfl) M (fun w hw=>by rw[hen,hvd];exact rencodeQ_any i him w) ?_;refine Zm M M<|ZF M (yX M M)<|ZF M (yX M M)<|Za M M<|Za M M<|ZX<|zX<|Z7r 0 2 3 4 5 6 7 M M M M M M M<|Zm M M<|ZF M (vW M M)<|Zm M M<|zF 61 M (fun g3=>?_) (fun g3=>?_)
      ·replace g3:=wE g3;refine ZP M<|ZP M<|ZP M<|ZF M (zJ M M)<|ZT<|uA M<|zX<|Z8r 0 2 3 4 5 6 7 65 M M M M M M M M<|ZF M (yT [.int .i64 0,.int .i64 0,.int .i64 0,.int .i64 0,.int .u32 0] [(0,1),(1,1),(2,1),(3,1),(4,1)] M (by kernel_rfl) (by kernel_rfl) M) ?_;refine ZR 2 M M M M M (by kernel_rfl) ?_;refine Za M M<|ZT<|zQ<|zT<|vM M M M 2 M Tryz.underlying74 M (by kernel_rfl) (fun w hw=>?_);exact⟨(Kg hw).ext,dq_no (fun h=>g3 (by rw[hvd2,h];rfl)) rfl⟩
      ·replace g3:=uY g3;refine ZG M M M (zK M)<|ZG M M M (zK M)<|ZG M M M (vW M M)<|ZF M (zM M M)<|ZT<|zW M (fun h65=>?_) (fun h65=>?_)
       ·replace h65:=wE h65;refine zX<|Z8r 0 2 3 4 5 6 7 65 M M M M M M M M<|ZF M (yT [.int .i64 0,.int .i64 0,.int .i64 0,.int .i64 0,.int .u32 0] [(0,1),(1,1),(2,1),(3,1),(4,1)] M (by kernel_rfl) (by kernel_rfl) M) ?_;refine ZR 2 M M M M M (by kernel_rfl) ?_;refine Za M M<|ZT<|zQ<|zT<|vM M M M 2 M Tryz.underlying74 M (by kernel_rfl) (fun w hw=>?_);exact⟨(Kg hw).ext,dq_no (fun h=>h65 (by rw[h];rfl)) rfl⟩
       ·replace h65:=uY h65;refine zL<|zP<|zX<|Z8r 0 2 3 4 5 6 7 65 M M M M M M M M<|ZF M (yU 1 M M U74 M (by kernel_rfl)) ?_;refine ZR 2 M M M M M (by kernel_rfl) ?_;refine Za M M<|ZT<|zQ<|vM M M M 2 M Tryz.underlying74 M (by kernel_rfl) (fun w hw=>?_)
        exact⟨(Kg hw).ext,by
         have h1:en=some v:=by
          cases en with
          | none =>
           rw[hvd2] at g3;exact absurd g3 (by decide)
          | some c=>exact congrArg some (Int.ofNat.inj h65)
         rw[Ae h1];rfl⟩
end Go.Proofs.YtkaepknpplhgkaaGreatDoor
namespace Go.Proofs.YtkaepknpplhgkaaGreatDoor
open Go.RowKit
end Go.Proofs.YtkaepknpplhgkaaGreatDoor
