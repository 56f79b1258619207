import Derived.Test.YtkaepknpplhgkaaGreatDoorMah
namespace Go.Proofs.YtkaepknpplhgkaaGreatDoor
open Go.RowKit
def fmN (op:Int):Nat :=
 if 0≤op∧op≤4 then 1 else if 16≤op∧op≤21 then 2 else if 32≤op∧op≤46 then 3 else if 48≤op∧op≤62 then 4 else if 64≤op∧op≤78 then 5
 else if 80≤op∧op≤86 then 6 else if 88≤op∧op≤94 then 7 else if 96≤op∧op≤109 then 8 else if op=112∨op=113 then 9 else if 128≤op∧op≤130 then (op-118).toNat else 0
def szN (f:Nat):Nat:=[0,1,2,2,3,6,3,7,2,5,2,2,2].getD f 0
theorem fmN_lt (op:Int):fmN op<13:=by
 unfold fmN
 repeat' split
 all_goals omega
set_option maxRecDepth 100000 in
theorem wO (op:Int) (w_0:World):Calls Tryz.prog 55 #[.int .i64 op] w_0 fun e w'=>e=.returned (.int .i64 (fmN op))∧Ext w_0 w':=by
 generalize hv:fmN op=v;unfold fmN at hv;refine zO (args:=[.int .i64 op]) Tryz.func55 M 66 M (Ju M)<|Z1 0 M<|zS (H':=Hp (fun _=>False) w_0 [] [] (fun _=>True)) (fun u hu=>?_) ?_
 ·subst hu;exact Hp.start0
 refine zX<|zY<|Za M M<|ZX<|yM (ι:=Unit) (fun _=>[(0,.int .i64 op),(8,.bool (decide (0≤op∧op≤4)))]) (fun _=>Hp (fun _=>False) w_0 [] [] (fun _=>True)) ?_ (fun _=>?_)
 ·refine zY<|Zm M M<|ZF M (xD M M)<|Zm M M<|zA 5 M (fun g3=>?_) (fun g3=>?_)
  ·replace g3:=Jv g3;exact ZG rfl rfl rfl (zH rfl)<|ZG rfl rfl rfl (wW rfl rfl)<|ZF rfl (zD rfl rfl)<|zK<|zM (ι:=Unit) () (.cons rfl<|.consE rfl (by congr 1;first|(rw[Js,Kt,Kt];omega)|(rw[eq_comm,Kt];omega)|(rw[eq_comm,decide_eq_false_iff_not];omega)|(rw[Js,Kz,Kt];omega))<|.nil) (fun w h=>h)
  ·replace g3:=Jw g3;exact ZP rfl<|ZP rfl<|ZF rfl (zF rfl rfl)<|zK<|zM (ι:=Unit) () (.cons rfl<|.consE rfl (by congr 1;first|(rw[Js,Kt,Kt];omega)|(rw[eq_comm,Kt];omega)|(rw[eq_comm,decide_eq_false_iff_not];omega)|(rw[Js,Kz,Kt];omega))<|.nil) (fun w h=>h)
 ·refine zT M (fun h8=>?_) (fun h8=>?_)
  ·replace h8:=Jv h8;refine zX<|zY<|Za M M<|ZT<|zQ<|zJ<|zP M M (fun w hw=>?_);exact⟨by rw[← hv,Kv ‹_›];rfl,hw.ext0⟩
  ·replace h8:=Jw h8;refine zI<|zU<|zX<|yM (ι:=Unit) (fun _=>[(0,.int .i64 op),(14,.bool (decide (16≤op∧op≤21)))]) (fun _=>Hp (fun _=>False) w_0 [] [] (fun _=>True)) ?_ (fun _=>?_)
   ·refine zY<|Zm M M<|ZF M (xD M M)<|Zm M M<|zA 11 M (fun g3=>?_) (fun g3=>?_)
    ·replace g3:=Jv g3;exact ZG rfl rfl rfl (zH rfl)<|ZG rfl rfl rfl (wW rfl rfl)<|ZF rfl (zD rfl rfl)<|zK<|zM (ι:=Unit) () (.cons rfl<|.consE rfl (by congr 1;first|(rw[Js,Kt,Kt];omega)|(rw[eq_comm,Kt];omega)|(rw[eq_comm,decide_eq_false_iff_not];omega)|(rw[Js,Kz,Kt];omega))<|.nil) (fun w h=>h)
    ·replace g3:=Jw g3;exact ZP rfl<|ZP rfl<|ZF rfl (zF rfl rfl)<|zK<|zM (ι:=Unit) () (.cons rfl<|.consE rfl (by congr 1;first|(rw[Js,Kt,Kt];omega)|(rw[eq_comm,Kt];omega)|(rw[eq_comm,decide_eq_false_iff_not];omega)|(rw[Js,Kz,Kt];omega))<|.nil) (fun w h=>h)
   ·refine zT M (fun h14=>?_) (fun h14=>?_)
    ·replace h14:=Jv h14;refine zX<|zY<|Za M M<|ZT<|zQ<|zJ<|zP M M (fun w hw=>?_);exact⟨by rw[← hv,Ku ‹_›,Kv ‹_›];rfl,hw.ext0⟩
    ·replace h14:=Jw h14;refine zI<|zU<|zX<|yM (ι:=Unit) (fun _=>[(0,.int .i64 op),(20,.bool (decide (32≤op∧op≤46)))]) (fun _=>Hp (fun _=>False) w_0 [] [] (fun _=>True)) ?_ (fun _=>?_)
     ·refine zY<|Zm M M<|ZF M (xD M M)<|Zm M M<|zA 17 M (fun g3=>?_) (fun g3=>?_)
      ·replace g3:=Jv g3;exact ZG rfl rfl rfl (zH rfl)<|ZG rfl rfl rfl (wW rfl rfl)<|ZF rfl (zD rfl rfl)<|zK<|zM (ι:=Unit) () (.cons rfl<|.consE rfl (by congr 1;first|(rw[Js,Kt,Kt];omega)|(rw[eq_comm,Kt];omega)|(rw[eq_comm,decide_eq_false_iff_not];omega)|(rw[Js,Kz,Kt];omega))<|.nil) (fun w h=>h)
      ·replace g3:=Jw g3;exact ZP rfl<|ZP rfl<|ZF rfl (zF rfl rfl)<|zK<|zM (ι:=Unit) () (.cons rfl<|.consE rfl (by congr 1;first|(rw[Js,Kt,Kt];omega)|(rw[eq_comm,Kt];omega)|(rw[eq_comm,decide_eq_false_iff_not];omega)|(rw[Js,Kz,Kt];omega))<|.nil) (fun w h=>h)
     ·refine zT M (fun h20=>?_) (fun h20=>?_)
      ·replace h20:=Jv h20;refine zX<|zY<|Za M M<|ZT<|zQ<|zJ<|zP M M (fun w hw=>?_);exact⟨by rw[← hv,Ku ‹_›,Ku ‹_›,Kv ‹_›];rfl,hw.ext0⟩
      ·replace h20:=Jw h20;refine zI<|zU<|zX<|yM (ι:=Unit) (fun _=>[(0,.int .i64 op),(26,.bool (decide (48≤op∧op≤62)))]) (fun _=>Hp (fun _=>False) w_0 [] [] (fun _=>True)) ?_ (fun _=>?_)
       ·refine zY<|Zm M M<|ZF M (xD M M)<|Zm M M<|zA 23 M (fun g3=>?_) (fun g3=>?_)
        ·replace g3:=Jv g3;exact ZG rfl rfl rfl (zH rfl)<|ZG rfl rfl rfl (wW rfl rfl)<|ZF rfl (zD rfl rfl)<|zK<|zM (ι:=Unit) () (.cons rfl<|.consE rfl (by congr 1;first|(rw[Js,Kt,Kt];omega)|(rw[eq_comm,Kt];omega)|(rw[eq_comm,decide_eq_false_iff_not];omega)|(rw[Js,Kz,Kt];omega))<|.nil) (fun w h=>h)
        ·replace g3:=Jw g3;exact ZP rfl<|ZP rfl<|ZF rfl (zF rfl rfl)<|zK<|zM (ι:=Unit) () (.cons rfl<|.consE rfl (by congr 1;first|(rw[Js,Kt,Kt];omega)|(rw[eq_comm,Kt];omega)|(rw[eq_comm,decide_eq_false_iff_not];omega)|(rw[Js,Kz,Kt];omega))<|.nil) (fun w h=>h)
       ·refine zT M (fun h26=>?_) (fun h26=>?_)
        ·replace h26:=Jv h26;refine zX<|zY<|Za M M<|ZT<|zQ<|zJ<|zP M M (fun w hw=>?_);exact⟨by rw[← hv,Ku ‹_›,Ku ‹_›,Ku ‹_›,Kv ‹_›];rfl,hw.ext0⟩
        ·replace h26:=Jw h26;refine zI<|zU<|zX<|yM (ι:=Unit) (fun _=>[(0,.int .i64 op),(32,.bool (decide (64≤op∧op≤78)))]) (fun _=>Hp (fun _=>False) w_0 [] [] (fun _=>True)) ?_ (fun _=>?_)
         ·refine zY<|Zm M M<|ZF M (xD M M)<|Zm M M<|zA 29 M (fun g3=>?_) (fun g3=>?_)
          ·replace g3:=Jv g3;exact ZG rfl rfl rfl (zH rfl)<|ZG rfl rfl rfl (wW rfl rfl)<|ZF rfl (zD rfl rfl)<|zK<|zM (ι:=Unit) () (.cons rfl<|.consE rfl (by congr 1;first|(rw[Js,Kt,Kt];omega)|(rw[eq_comm,Kt];omega)|(rw[eq_comm,decide_eq_false_iff_not];omega)|(rw[Js,Kz,Kt];omega))<|.nil) (fun w h=>h)
          ·replace g3:=Jw g3;exact ZP rfl<|ZP rfl<|ZF rfl (zF rfl rfl)<|zK<|zM (ι:=Unit) () (.cons rfl<|.consE rfl (by congr 1;first|(rw[Js,Kt,Kt];omega)|(rw[eq_comm,Kt];omega)|(rw[eq_comm,decide_eq_false_iff_not];omega)|(rw[Js,Kz,Kt];omega))<|.nil) (fun w h=>h)
         ·refine zT M (fun h32=>?_) (fun h32=>?_)
          ·replace h32:=Jv h32;refine zX<|zY<|Za M M<|ZT<|zQ<|zJ<|zP M M (fun w hw=>?_);exact⟨by rw[← hv,Ku ‹_›,Ku ‹_›,Ku ‹_›,Ku ‹_›,Kv ‹_›];rfl,hw.ext0⟩
          ·replace h32:=Jw h32;refine zI<|zU<|zX<|yM (ι:=Unit) (fun _=>[(0,.int .i64 op),(38,.bool (decide (80≤op∧op≤86)))]) (fun _=>Hp (fun _=>False) w_0 [] [] (fun _=>True)) ?_ (fun _=>?_)
           ·refine zY<|Zm M M<|ZF M (xD M M)<|Zm M M<|zA 35 M (fun g3=>?_) (fun g3=>?_)
            ·replace g3:=Jv g3;exact ZG rfl rfl rfl (zH rfl)<|ZG rfl rfl rfl (wW rfl rfl)<|ZF rfl (zD rfl rfl)<|zK<|zM (ι:=Unit) () (.cons rfl<|.consE rfl (by congr 1;first|(rw[Js,Kt,Kt];omega)|(rw[eq_comm,Kt];omega)|(rw[eq_comm,decide_eq_false_iff_not];omega)|(rw[Js,Kz,Kt];omega))<|.nil) (fun w h=>h)
            ·replace g3:=Jw g3;exact ZP rfl<|ZP rfl<|ZF rfl (zF rfl rfl)<|zK<|zM (ι:=Unit) () (.cons rfl<|.consE rfl (by congr 1;first|(rw[Js,Kt,Kt];omega)|(rw[eq_comm,Kt];omega)|(rw[eq_comm,decide_eq_false_iff_not];omega)|(rw[Js,Kz,Kt];omega))<|.nil) (fun w h=>h)
           ·refine zT M (fun h38=>?_) (fun h38=>?_)
            ·replace h38:=Jv h38;refine zX<|zY<|Za M M<|ZT<|zQ<|zJ<|zP M M (fun w hw=>?_);exact⟨by rw[← hv,Ku ‹_›,Ku ‹_›,Ku ‹_›,Ku ‹_›,Ku ‹_›,Kv ‹_›];rfl,hw.ext0⟩
            ·replace h38:=Jw h38;refine zI<|zU<|zX<|yM (ι:=Unit) (fun _=>[(0,.int .i64 op),(44,.bool (decide (88≤op∧op≤94)))]) (fun _=>Hp (fun _=>False) w_0 [] [] (fun _=>True)) ?_ (fun _=>?_)
             ·refine zY<|Zm M M<|ZF M (xD M M)<|Zm M M<|zA 41 M (fun g3=>?_) (fun g3=>?_)
              ·replace g3:=Jv g3;exact ZG rfl rfl rfl (zH rfl)<|ZG rfl rfl rfl (wW rfl rfl)<|ZF rfl (zD rfl rfl)<|zK<|zM (ι:=Unit) () (.cons rfl<|.consE rfl (by congr 1;first|(rw[Js,Kt,Kt];omega)|(rw[eq_comm,Kt];omega)|(rw[eq_comm,decide_eq_false_iff_not];omega)|(rw[Js,Kz,Kt];omega))<|.nil) (fun w h=>h)
              ·replace g3:=Jw g3;exact ZP rfl<|ZP rfl<|ZF rfl (zF rfl rfl)<|zK<|zM (ι:=Unit) () (.cons rfl<|.consE rfl (by congr 1;first|(rw[Js,Kt,Kt];omega)|(rw[eq_comm,Kt];omega)|(rw[eq_comm,decide_eq_false_iff_not];omega)|(rw[Js,Kz,Kt];omega))<|.nil) (fun w h=>h)
             ·refine zT M (fun h44=>?_) (fun h44=>?_)
              ·replace h44:=Jv h44;refine zX<|zY<|Za M M<|ZT<|zQ<|zJ<|zP M M (fun w hw=>?_);exact⟨by rw[← hv,Ku ‹_›,Ku ‹_›,Ku ‹_›,Ku ‹_›,Ku ‹_›,Ku ‹_›,Kv ‹_›];rfl,hw.ext0⟩
              ·replace h44:=Jw h44;refine zI<|zU<|zX<|yM (ι:=Unit) (fun _=>[(0,.int .i64 op),(50,.bool (decide (96≤op∧op≤109)))]) (fun _=>Hp (fun _=>False) w_0 [] [] (fun _=>True)) ?_ (fun _=>?_)
               ·refine zY<|Zm M M<|ZF M (xD M M)<|Zm M M<|zA 47 M (fun g3=>?_) (fun g3=>?_)
                ·replace g3:=Jv g3;exact ZG rfl rfl rfl (zH rfl)<|ZG rfl rfl rfl (wW rfl rfl)<|ZF rfl (zD rfl rfl)<|zK<|zM (ι:=Unit) () (.cons rfl<|.consE rfl (by congr 1;first|(rw[Js,Kt,Kt];omega)|(rw[eq_comm,Kt];omega)|(rw[eq_comm,decide_eq_false_iff_not];omega)|(rw[Js,Kz,Kt];omega))<|.nil) (fun w h=>h)
                ·replace g3:=Jw g3;exact ZP rfl<|ZP rfl<|ZF rfl (zF rfl rfl)<|zK<|zM (ι:=Unit) () (.cons rfl<|.consE rfl (by congr 1;first|(rw[Js,Kt,Kt];omega)|(rw[eq_comm,Kt];omega)|(rw[eq_comm,decide_eq_false_iff_not];omega)|(rw[Js,Kz,Kt];omega))<|.nil) (fun w h=>h)
               ·refine zT M (fun h50=>?_) (fun h50=>?_)
                ·replace h50:=Jv h50;refine zX<|zY<|Za M M<|ZT<|zQ<|zJ<|zP M M (fun w hw=>?_);exact⟨by rw[← hv,Ku ‹_›,Ku ‹_›,Ku ‹_›,Ku ‹_›,Ku ‹_›,Ku ‹_›,Ku ‹_›,Kv ‹_›];rfl,hw.ext0⟩
                ·replace h50:=Jw h50;refine zI<|zU<|zX<|yM (ι:=Unit) (fun _=>[(0,.int .i64 op),(56,.bool (decide (op=112∨op=113)))]) (fun _=>Hp (fun _=>False) w_0 [] [] (fun _=>True)) ?_ (fun _=>?_)
                 ·refine zY<|Zm M M<|ZF M (zG M M)<|Zm M M<|zA 53 M (fun g3=>?_) (fun g3=>?_)
                  ·replace g3:=Ke g3;exact ZP rfl<|ZP rfl<|ZF rfl (zD rfl rfl)<|zK<|zM (ι:=Unit) () (.cons rfl<|.consE rfl (by congr 1;first|(rw[Js,Kt,Kt];omega)|(rw[eq_comm,Kt];omega)|(rw[eq_comm,decide_eq_false_iff_not];omega)|(rw[Js,Kz,Kt];omega))<|.nil) (fun w h=>h)
                  ·replace g3:=yO g3;exact ZG rfl rfl rfl (zH rfl)<|ZG rfl rfl rfl (zG rfl rfl)<|ZF rfl (zF rfl rfl)<|zK<|zM (ι:=Unit) () (.cons rfl<|.consE rfl (by congr 1;first|(rw[Js,Kt,Kt];omega)|(rw[eq_comm,Kt];omega)|(rw[eq_comm,decide_eq_false_iff_not];omega)|(rw[Js,Kz,Kt];omega))<|.nil) (fun w h=>h)
                 ·refine zT M (fun h56=>?_) (fun h56=>?_)
                  ·replace h56:=Jv h56;refine zX<|zY<|Za M M<|ZT<|zQ<|zJ<|zP M M (fun w hw=>?_);exact⟨by rw[← hv,Ku ‹_›,Ku ‹_›,Ku ‹_›,Ku ‹_›,Ku ‹_›,Ku ‹_›,Ku ‹_›,Ku ‹_›,Kv ‹_›];rfl,hw.ext0⟩
                  ·replace h56:=Jw h56;refine zI<|zU<|zX<|yM (ι:=Unit) (fun _=>[(0,.int .i64 op),(62,.bool (decide (128≤op∧op≤130)))]) (fun _=>Hp (fun _=>False) w_0 [] [] (fun _=>True)) ?_ (fun _=>?_)
                   ·refine zY<|Zm M M<|ZF M (xD M M)<|Zm M M<|zA 59 M (fun g3=>?_) (fun g3=>?_)
                    ·replace g3:=Jv g3;exact ZG rfl rfl rfl (zH rfl)<|ZG rfl rfl rfl (wW rfl rfl)<|ZF rfl (zD rfl rfl)<|zK<|zM (ι:=Unit) () (.cons rfl<|.consE rfl (by congr 1;first|(rw[Js,Kt,Kt];omega)|(rw[eq_comm,Kt];omega)|(rw[eq_comm,decide_eq_false_iff_not];omega)|(rw[Js,Kz,Kt];omega))<|.nil) (fun w h=>h)
                    ·replace g3:=Jw g3;exact ZP rfl<|ZP rfl<|ZF rfl (zF rfl rfl)<|zK<|zM (ι:=Unit) () (.cons rfl<|.consE rfl (by congr 1;first|(rw[Js,Kt,Kt];omega)|(rw[eq_comm,Kt];omega)|(rw[eq_comm,decide_eq_false_iff_not];omega)|(rw[Js,Kz,Kt];omega))<|.nil) (fun w h=>h)
                   ·refine zT M (fun h62=>?_) (fun h62=>?_)
                    ·replace h62:=Jv h62;refine zX<|zY<|Zm M M<|ZF M (xS M M (i64_in _ (by omega) (by omega))) ?_;refine ZF M (yN M M (show IntKind.i64.wrap (op-128+10)=((op-118).toNat:Nat) by rw[i64_in _ (by omega) (by omega)];omega)) ?_;refine Za M M<|ZT<|zQ<|zJ<|zP M M (fun w hw=>?_);exact⟨by rw[← hv,Ku ‹_›,Ku ‹_›,Ku ‹_›,Ku ‹_›,Ku ‹_›,Ku ‹_›,Ku ‹_›,Ku ‹_›,Ku ‹_›,Kv ‹_›],hw.ext0⟩
                    ·replace h62:=Jw h62;refine zI<|zU<|zX<|zY<|Za M M<|ZT<|zQ<|zP M M (fun w hw=>?_);exact⟨by rw[← hv,Ku ‹_›,Ku ‹_›,Ku ‹_›,Ku ‹_›,Ku ‹_›,Ku ‹_›,Ku ‹_›,Ku ‹_›,Ku ‹_›,Ku ‹_›];rfl,hw.ext0⟩
theorem szN_at {f:Nat}(h:f<13):([.int .i64 0,.int .i64 1,.int .i64 2,.int .i64 2,.int .i64 3,.int .i64 6,.int .i64 3,.int .i64 7,.int .i64 2,.int .i64 5,.int .i64 2,.int .i64 2,.int .i64 2]:List Value)[0+f*1]? = some (.int .i64 (szN f:Nat)):=by
 have h1:(List.range 13).all (fun f=>decide (([0,1,2,2,3,6,3,7,2,5,2,2,2]:List Nat)[f]? = some (szN f)))=true:=by decide
 have h2:=Jv (sQ h1 f h);have e:([.int .i64 0,.int .i64 1,.int .i64 2,.int .i64 2,.int .i64 3,.int .i64 6,.int .i64 3,.int .i64 7,.int .i64 2,.int .i64 5,.int .i64 2,.int .i64 2,.int .i64 2]:List Value)=([0,1,2,2,3,6,3,7,2,5,2,2,2]:List Nat).map fun n=>.int .i64 (n:Nat):=rfl;rw[e,List.getElem?_map,Kq,Nat.mul_one,h2];rfl
theorem rsize_any (c:Nat) (hc:c<256) (w_0:World):Calls Tryz.prog 52 #[.int .u8 c] w_0 fun e w'=>e=.returned (.int .i64 (szN (fmN c):Nat))∧Ext w_0 w':=by
 have hf:=fmN_lt c;refine zO (args:=[.int .u8 c]) Tryz.func52 M 10 M (Ju M)<|Z1 0 M<|zS (H':=Hp (fun _=>False) w_0 [] [] (fun _=>True)) (fun u hu=>?_) ?_
 ·subst hu;exact Hp.start0
 refine zX<|zY<|Za M M<|ZX<|zY<|ZF M (xB (cells:=#[.int .i64 0,.int .i64 1,.int .i64 2,.int .i64 2,.int .i64 3,.int .i64 6,.int .i64 3,.int .i64 7,.int .i64 2,.int .i64 5,.int .i64 2,.int .i64 2,.int .i64 2]) M (by kernel_rfl)) ?_;refine zL .none M (yQ (z:=.agg #[.int .i64 0,.int .i64 0,.int .i64 0,.int .i64 0,.int .i64 0,.int .i64 0,.int .i64 0,.int .i64 0,.int .i64 0,.int .i64 0,.int .i64 0,.int .i64 0,.int .i64 0]) (cs:=[.int .i64 0,.int .i64 0,.int .i64 0,.int .i64 0,.int .i64 0,.int .i64 0,.int .i64 0,.int .i64 0,.int .i64 0,.int .i64 0,.int .i64 0,.int .i64 0,.int .i64 0]) (by kernel_rfl) M) (fun b3=>?_);refine ZR 0 M M M M M (by kernel_rfl) ?_;refine ZX<|Z3r 0 2 3 M M M<|Zm M M ?_
 refine ZF M (yV M (by kernel_rfl) Tryz.underlying3 (i64w_nat (by omega))) ?_
 refine zE .none M  (v:=.int .i64 (fmN c:Nat)) (by kernel_rfl) M (fun w hw=>wO c w) ?_;refine ZF M (xY (es:=1) (j:=fmN c) M M Tryz.underlying203 (by kernel_rfl) M hf M) ?_;refine ZF M (zC M Tryz.underlying3 M (fun w hw=>HpG.cell (k:=0) hw M (szN_at hf))) ?_;refine Za M M<|ZT<|zQ<|zP M M (fun w hw=>?_);exact⟨rfl,hw.ext0⟩
end Go.Proofs.YtkaepknpplhgkaaGreatDoor
namespace Go.Proofs.YtkaepknpplhgkaaGreatDoor
open Go.RowKit
theorem rreg_any (n:Int) (w_0:World):Calls Tryz.prog 143 #[.int .i64 n] w_0 fun e w'=>e=.returned (.bool (decide (0≤n∧n<8)))∧Ext w_0 w':=by
 refine zO (args:=[.int .i64 n]) Tryz.func143 M 9 M (Ju M)<|Z1 0 M<|zS (H':=Hp (fun _=>False) w_0 [] [] (fun _=>True)) (fun u hu=>?_) ?_
 ·subst hu;exact Hp.start0
 refine zX<|zY<|Za M M<|ZX<|zY<|Zm M M<|ZF M (xD M M)<|Zm M M<|zA 5 M (fun g3=>?_) (fun g3=>?_)
 ·replace g3:=Jv g3;refine ZG M M M (zH M)<|ZG M M M (xR M M)<|ZF M (zD M M)<|Za M M<|ZT<|zQ<|zP M M (fun w hw=>?_);exact⟨by congr 2;rw[Js,Kt,Kt];omega,hw.ext0⟩
 ·replace g3:=Jw g3;refine ZP M<|ZP M<|ZF M (zF M M)<|Za M M<|ZT<|zQ<|zP M M (fun w hw=>?_);exact⟨by rw[Ab (by omega)],hw.ext0⟩
end Go.Proofs.YtkaepknpplhgkaaGreatDoor
