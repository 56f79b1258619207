/- The reference of K (babelref02): formats and sizes. -/
import Derived.Test.YtkaepknpplhgkaaGreatDoorMah
import Derived.Test.YtkaepknpplhgkaaGreatDoorMaY
import Derived.Test.YtkaepknpplhgkaaGreatDoorMaj
namespace Go.Proofs.YtkaepknpplhgkaaGreatDoor
open Go.RowKit
/-- The reference's number of a format. -/
def fmN (op:Int):Nat :=
 if 0≤op∧op≤4 then 1 else if 16≤op∧op≤21 then 2 else if 32≤op∧op≤46 then 3 else if 48≤op∧op≤62 then 4 else if 64≤op∧op≤78 then 5
 else if 80≤op∧op≤86 then 6 else if 88≤op∧op≤94 then 7 else if 96≤op∧op≤109 then 8 else if op=112∨op=113 then 9 else if 128≤op∧op≤130 then (op-118).toNat else 0
def szN (f:Nat):Nat:=[0,1,2,2,3,6,3,7,2,5,2,2,2].getD f 0
theorem fmN_lt (op:Int):fmN op<13:=by
 unfold fmN
 repeat' split
 all_goals omega
set_option maxRecDepth 100000 in
theorem rfmt_any (op:Int) (w_0:World):Calls Tryz.prog 55 #[.int .i64 op] w_0 fun e w'=>e=.returned (.int .i64 (fmN op))∧Ext w_0 w':=by
 generalize hv:fmN op=v;unfold fmN at hv;refine zP (args:=[.int .i64 op]) Tryz.func55 M 66 M (Nat.le_of_ble_eq_true M)<|Z1 0 M<|zU (H':=Hp (fun _=>False) w_0 [] [] (fun _=>True)) (fun u hu=>?_) ?_
 ·subst hu;exact Hp.start0
 refine zX<|zZ<|Za M M<|ZX<|yA (ι:=Unit) (fun _=>[(0,.int .i64 op),(8,.bool (decide (0≤op∧op≤4)))]) (fun _=>Hp (fun _=>False) w_0 [] [] (fun _=>True)) ?_ (fun _=>?_)
 ·refine zZ<|Zm M M<|ZF M (wT M M)<|Zm M M<|zH 5 M (fun g3=>?_) (fun g3=>?_)
  ·replace g3:=of_decide_eq_true g3;exact ZG rfl rfl rfl (zS rfl)<|ZG rfl rfl rfl (wE rfl rfl)<|ZF rfl (zM rfl rfl)<|zJ<|zF (ι:=Unit) () (.cons rfl<|.consE rfl (by congr 1;first|(rw[Bool.eq_iff_iff,decide_eq_true_eq,decide_eq_true_eq];omega)|(rw[eq_comm,decide_eq_true_eq];omega)|(rw[eq_comm,decide_eq_false_iff_not];omega)|(rw[Bool.eq_iff_iff,beq_iff_eq,decide_eq_true_eq];omega))<|.nil) (fun w h=>h)
  ·replace g3:=of_decide_eq_false g3;exact ZP rfl<|ZP rfl<|ZF rfl (zN rfl rfl)<|zJ<|zF (ι:=Unit) () (.cons rfl<|.consE rfl (by congr 1;first|(rw[Bool.eq_iff_iff,decide_eq_true_eq,decide_eq_true_eq];omega)|(rw[eq_comm,decide_eq_true_eq];omega)|(rw[eq_comm,decide_eq_false_iff_not];omega)|(rw[Bool.eq_iff_iff,beq_iff_eq,decide_eq_true_eq];omega))<|.nil) (fun w h=>h)
 ·refine zO M (fun h8=>?_) (fun h8=>?_)
  ·replace h8:=of_decide_eq_true h8;refine zX<|zZ<|Za M M<|ZT<|zQ<|zG<|zR M M (fun w hw=>?_);exact⟨by rw[← hv,if_pos ‹_›];rfl,hw.ext0⟩
  ·replace h8:=of_decide_eq_false h8;refine zL<|zT<|zX<|yA (ι:=Unit) (fun _=>[(0,.int .i64 op),(14,.bool (decide (16≤op∧op≤21)))]) (fun _=>Hp (fun _=>False) w_0 [] [] (fun _=>True)) ?_ (fun _=>?_)
   ·refine zZ<|Zm M M<|ZF M (wT M M)<|Zm M M<|zH 11 M (fun g3=>?_) (fun g3=>?_)
    ·replace g3:=of_decide_eq_true g3;exact ZG rfl rfl rfl (zS rfl)<|ZG rfl rfl rfl (wE rfl rfl)<|ZF rfl (zM rfl rfl)<|zJ<|zF (ι:=Unit) () (.cons rfl<|.consE rfl (by congr 1;first|(rw[Bool.eq_iff_iff,decide_eq_true_eq,decide_eq_true_eq];omega)|(rw[eq_comm,decide_eq_true_eq];omega)|(rw[eq_comm,decide_eq_false_iff_not];omega)|(rw[Bool.eq_iff_iff,beq_iff_eq,decide_eq_true_eq];omega))<|.nil) (fun w h=>h)
    ·replace g3:=of_decide_eq_false g3;exact ZP rfl<|ZP rfl<|ZF rfl (zN rfl rfl)<|zJ<|zF (ι:=Unit) () (.cons rfl<|.consE rfl (by congr 1;first|(rw[Bool.eq_iff_iff,decide_eq_true_eq,decide_eq_true_eq];omega)|(rw[eq_comm,decide_eq_true_eq];omega)|(rw[eq_comm,decide_eq_false_iff_not];omega)|(rw[Bool.eq_iff_iff,beq_iff_eq,decide_eq_true_eq];omega))<|.nil) (fun w h=>h)
   ·refine zO M (fun h14=>?_) (fun h14=>?_)
    ·replace h14:=of_decide_eq_true h14;refine zX<|zZ<|Za M M<|ZT<|zQ<|zG<|zR M M (fun w hw=>?_);exact⟨by rw[← hv,if_neg ‹_›,if_pos ‹_›];rfl,hw.ext0⟩
    ·replace h14:=of_decide_eq_false h14;refine zL<|zT<|zX<|yA (ι:=Unit) (fun _=>[(0,.int .i64 op),(20,.bool (decide (32≤op∧op≤46)))]) (fun _=>Hp (fun _=>False) w_0 [] [] (fun _=>True)) ?_ (fun _=>?_)
     ·refine zZ<|Zm M M<|ZF M (wT M M)<|Zm M M<|zH 17 M (fun g3=>?_) (fun g3=>?_)
      ·replace g3:=of_decide_eq_true g3;exact ZG rfl rfl rfl (zS rfl)<|ZG rfl rfl rfl (wE rfl rfl)<|ZF rfl (zM rfl rfl)<|zJ<|zF (ι:=Unit) () (.cons rfl<|.consE rfl (by congr 1;first|(rw[Bool.eq_iff_iff,decide_eq_true_eq,decide_eq_true_eq];omega)|(rw[eq_comm,decide_eq_true_eq];omega)|(rw[eq_comm,decide_eq_false_iff_not];omega)|(rw[Bool.eq_iff_iff,beq_iff_eq,decide_eq_true_eq];omega))<|.nil) (fun w h=>h)
      ·replace g3:=of_decide_eq_false g3;exact ZP rfl<|ZP rfl<|ZF rfl (zN rfl rfl)<|zJ<|zF (ι:=Unit) () (.cons rfl<|.consE rfl (by congr 1;first|(rw[Bool.eq_iff_iff,decide_eq_true_eq,decide_eq_true_eq];omega)|(rw[eq_comm,decide_eq_true_eq];omega)|(rw[eq_comm,decide_eq_false_iff_not];omega)|(rw[Bool.eq_iff_iff,beq_iff_eq,decide_eq_true_eq];omega))<|.nil) (fun w h=>h)
     ·refine zO M (fun h20=>?_) (fun h20=>?_)
      ·replace h20:=of_decide_eq_true h20;refine zX<|zZ<|Za M M<|ZT<|zQ<|zG<|zR M M (fun w hw=>?_);exact⟨by rw[← hv,if_neg ‹_›,if_neg ‹_›,if_pos ‹_›];rfl,hw.ext0⟩
      ·replace h20:=of_decide_eq_false h20;refine zL<|zT<|zX<|yA (ι:=Unit) (fun _=>[(0,.int .i64 op),(26,.bool (decide (48≤op∧op≤62)))]) (fun _=>Hp (fun _=>False) w_0 [] [] (fun _=>True)) ?_ (fun _=>?_)
       ·refine zZ<|Zm M M<|ZF M (wT M M)<|Zm M M<|zH 23 M (fun g3=>?_) (fun g3=>?_)
        ·replace g3:=of_decide_eq_true g3;exact ZG rfl rfl rfl (zS rfl)<|ZG rfl rfl rfl (wE rfl rfl)<|ZF rfl (zM rfl rfl)<|zJ<|zF (ι:=Unit) () (.cons rfl<|.consE rfl (by congr 1;first|(rw[Bool.eq_iff_iff,decide_eq_true_eq,decide_eq_true_eq];omega)|(rw[eq_comm,decide_eq_true_eq];omega)|(rw[eq_comm,decide_eq_false_iff_not];omega)|(rw[Bool.eq_iff_iff,beq_iff_eq,decide_eq_true_eq];omega))<|.nil) (fun w h=>h)
        ·replace g3:=of_decide_eq_false g3;exact ZP rfl<|ZP rfl<|ZF rfl (zN rfl rfl)<|zJ<|zF (ι:=Unit) () (.cons rfl<|.consE rfl (by congr 1;first|(rw[Bool.eq_iff_iff,decide_eq_true_eq,decide_eq_true_eq];omega)|(rw[eq_comm,decide_eq_true_eq];omega)|(rw[eq_comm,decide_eq_false_iff_not];omega)|(rw[Bool.eq_iff_iff,beq_iff_eq,decide_eq_true_eq];omega))<|.nil) (fun w h=>h)
       ·refine zO M (fun h26=>?_) (fun h26=>?_)
        ·replace h26:=of_decide_eq_true h26;refine zX<|zZ<|Za M M<|ZT<|zQ<|zG<|zR M M (fun w hw=>?_);exact⟨by rw[← hv,if_neg ‹_›,if_neg ‹_›,if_neg ‹_›,if_pos ‹_›];rfl,hw.ext0⟩
        ·replace h26:=of_decide_eq_false h26;refine zL<|zT<|zX<|yA (ι:=Unit) (fun _=>[(0,.int .i64 op),(32,.bool (decide (64≤op∧op≤78)))]) (fun _=>Hp (fun _=>False) w_0 [] [] (fun _=>True)) ?_ (fun _=>?_)
         ·refine zZ<|Zm M M<|ZF M (wT M M)<|Zm M M<|zH 29 M (fun g3=>?_) (fun g3=>?_)
          ·replace g3:=of_decide_eq_true g3;exact ZG rfl rfl rfl (zS rfl)<|ZG rfl rfl rfl (wE rfl rfl)<|ZF rfl (zM rfl rfl)<|zJ<|zF (ι:=Unit) () (.cons rfl<|.consE rfl (by congr 1;first|(rw[Bool.eq_iff_iff,decide_eq_true_eq,decide_eq_true_eq];omega)|(rw[eq_comm,decide_eq_true_eq];omega)|(rw[eq_comm,decide_eq_false_iff_not];omega)|(rw[Bool.eq_iff_iff,beq_iff_eq,decide_eq_true_eq];omega))<|.nil) (fun w h=>h)
          ·replace g3:=of_decide_eq_false g3;exact ZP rfl<|ZP rfl<|ZF rfl (zN rfl rfl)<|zJ<|zF (ι:=Unit) () (.cons rfl<|.consE rfl (by congr 1;first|(rw[Bool.eq_iff_iff,decide_eq_true_eq,decide_eq_true_eq];omega)|(rw[eq_comm,decide_eq_true_eq];omega)|(rw[eq_comm,decide_eq_false_iff_not];omega)|(rw[Bool.eq_iff_iff,beq_iff_eq,decide_eq_true_eq];omega))<|.nil) (fun w h=>h)
         ·refine zO M (fun h32=>?_) (fun h32=>?_)
          ·replace h32:=of_decide_eq_true h32;refine zX<|zZ<|Za M M<|ZT<|zQ<|zG<|zR M M (fun w hw=>?_);exact⟨by rw[← hv,if_neg ‹_›,if_neg ‹_›,if_neg ‹_›,if_neg ‹_›,if_pos ‹_›];rfl,hw.ext0⟩
          ·replace h32:=of_decide_eq_false h32;refine zL<|zT<|zX<|yA (ι:=Unit) (fun _=>[(0,.int .i64 op),(38,.bool (decide (80≤op∧op≤86)))]) (fun _=>Hp (fun _=>False) w_0 [] [] (fun _=>True)) ?_ (fun _=>?_)
           ·refine zZ<|Zm M M<|ZF M (wT M M)<|Zm M M<|zH 35 M (fun g3=>?_) (fun g3=>?_)
            ·replace g3:=of_decide_eq_true g3;exact ZG rfl rfl rfl (zS rfl)<|ZG rfl rfl rfl (wE rfl rfl)<|ZF rfl (zM rfl rfl)<|zJ<|zF (ι:=Unit) () (.cons rfl<|.consE rfl (by congr 1;first|(rw[Bool.eq_iff_iff,decide_eq_true_eq,decide_eq_true_eq];omega)|(rw[eq_comm,decide_eq_true_eq];omega)|(rw[eq_comm,decide_eq_false_iff_not];omega)|(rw[Bool.eq_iff_iff,beq_iff_eq,decide_eq_true_eq];omega))<|.nil) (fun w h=>h)
            ·replace g3:=of_decide_eq_false g3;exact ZP rfl<|ZP rfl<|ZF rfl (zN rfl rfl)<|zJ<|zF (ι:=Unit) () (.cons rfl<|.consE rfl (by congr 1;first|(rw[Bool.eq_iff_iff,decide_eq_true_eq,decide_eq_true_eq];omega)|(rw[eq_comm,decide_eq_true_eq];omega)|(rw[eq_comm,decide_eq_false_iff_not];omega)|(rw[Bool.eq_iff_iff,beq_iff_eq,decide_eq_true_eq];omega))<|.nil) (fun w h=>h)
           ·refine zO M (fun h38=>?_) (fun h38=>?_)
            ·replace h38:=of_decide_eq_true h38;refine zX<|zZ<|Za M M<|ZT<|zQ<|zG<|zR M M (fun w hw=>?_);exact⟨by rw[← hv,if_neg ‹_›,if_neg ‹_›,if_neg ‹_›,if_neg ‹_›,if_neg ‹_›,if_pos ‹_›];rfl,hw.ext0⟩
            ·replace h38:=of_decide_eq_false h38;refine zL<|zT<|zX<|yA (ι:=Unit) (fun _=>[(0,.int .i64 op),(44,.bool (decide (88≤op∧op≤94)))]) (fun _=>Hp (fun _=>False) w_0 [] [] (fun _=>True)) ?_ (fun _=>?_)
             ·refine zZ<|Zm M M<|ZF M (wT M M)<|Zm M M<|zH 41 M (fun g3=>?_) (fun g3=>?_)
              ·replace g3:=of_decide_eq_true g3;exact ZG rfl rfl rfl (zS rfl)<|ZG rfl rfl rfl (wE rfl rfl)<|ZF rfl (zM rfl rfl)<|zJ<|zF (ι:=Unit) () (.cons rfl<|.consE rfl (by congr 1;first|(rw[Bool.eq_iff_iff,decide_eq_true_eq,decide_eq_true_eq];omega)|(rw[eq_comm,decide_eq_true_eq];omega)|(rw[eq_comm,decide_eq_false_iff_not];omega)|(rw[Bool.eq_iff_iff,beq_iff_eq,decide_eq_true_eq];omega))<|.nil) (fun w h=>h)
              ·replace g3:=of_decide_eq_false g3;exact ZP rfl<|ZP rfl<|ZF rfl (zN rfl rfl)<|zJ<|zF (ι:=Unit) () (.cons rfl<|.consE rfl (by congr 1;first|(rw[Bool.eq_iff_iff,decide_eq_true_eq,decide_eq_true_eq];omega)|(rw[eq_comm,decide_eq_true_eq];omega)|(rw[eq_comm,decide_eq_false_iff_not];omega)|(rw[Bool.eq_iff_iff,beq_iff_eq,decide_eq_true_eq];omega))<|.nil) (fun w h=>h)
             ·refine zO M (fun h44=>?_) (fun h44=>?_)
              ·replace h44:=of_decide_eq_true h44;refine zX<|zZ<|Za M M<|ZT<|zQ<|zG<|zR M M (fun w hw=>?_);exact⟨by rw[← hv,if_neg ‹_›,if_neg ‹_›,if_neg ‹_›,if_neg ‹_›,if_neg ‹_›,if_neg ‹_›,if_pos ‹_›];rfl,hw.ext0⟩
              ·replace h44:=of_decide_eq_false h44;refine zL<|zT<|zX<|yA (ι:=Unit) (fun _=>[(0,.int .i64 op),(50,.bool (decide (96≤op∧op≤109)))]) (fun _=>Hp (fun _=>False) w_0 [] [] (fun _=>True)) ?_ (fun _=>?_)
               ·refine zZ<|Zm M M<|ZF M (wT M M)<|Zm M M<|zH 47 M (fun g3=>?_) (fun g3=>?_)
                ·replace g3:=of_decide_eq_true g3;exact ZG rfl rfl rfl (zS rfl)<|ZG rfl rfl rfl (wE rfl rfl)<|ZF rfl (zM rfl rfl)<|zJ<|zF (ι:=Unit) () (.cons rfl<|.consE rfl (by congr 1;first|(rw[Bool.eq_iff_iff,decide_eq_true_eq,decide_eq_true_eq];omega)|(rw[eq_comm,decide_eq_true_eq];omega)|(rw[eq_comm,decide_eq_false_iff_not];omega)|(rw[Bool.eq_iff_iff,beq_iff_eq,decide_eq_true_eq];omega))<|.nil) (fun w h=>h)
                ·replace g3:=of_decide_eq_false g3;exact ZP rfl<|ZP rfl<|ZF rfl (zN rfl rfl)<|zJ<|zF (ι:=Unit) () (.cons rfl<|.consE rfl (by congr 1;first|(rw[Bool.eq_iff_iff,decide_eq_true_eq,decide_eq_true_eq];omega)|(rw[eq_comm,decide_eq_true_eq];omega)|(rw[eq_comm,decide_eq_false_iff_not];omega)|(rw[Bool.eq_iff_iff,beq_iff_eq,decide_eq_true_eq];omega))<|.nil) (fun w h=>h)
               ·refine zO M (fun h50=>?_) (fun h50=>?_)
                ·replace h50:=of_decide_eq_true h50;refine zX<|zZ<|Za M M<|ZT<|zQ<|zG<|zR M M (fun w hw=>?_);exact⟨by rw[← hv,if_neg ‹_›,if_neg ‹_›,if_neg ‹_›,if_neg ‹_›,if_neg ‹_›,if_neg ‹_›,if_neg ‹_›,if_pos ‹_›];rfl,hw.ext0⟩
                ·replace h50:=of_decide_eq_false h50;refine zL<|zT<|zX<|yA (ι:=Unit) (fun _=>[(0,.int .i64 op),(56,.bool (decide (op=112∨op=113)))]) (fun _=>Hp (fun _=>False) w_0 [] [] (fun _=>True)) ?_ (fun _=>?_)
                 ·refine zZ<|Zm M M<|ZF M (yY M M)<|Zm M M<|zH 53 M (fun g3=>?_) (fun g3=>?_)
                  ·replace g3:=eq_of_beq g3;exact ZP rfl<|ZP rfl<|ZF rfl (zM rfl rfl)<|zJ<|zF (ι:=Unit) () (.cons rfl<|.consE rfl (by congr 1;first|(rw[Bool.eq_iff_iff,decide_eq_true_eq,decide_eq_true_eq];omega)|(rw[eq_comm,decide_eq_true_eq];omega)|(rw[eq_comm,decide_eq_false_iff_not];omega)|(rw[Bool.eq_iff_iff,beq_iff_eq,decide_eq_true_eq];omega))<|.nil) (fun w h=>h)
                  ·replace g3:=xV g3;exact ZG rfl rfl rfl (zS rfl)<|ZG rfl rfl rfl (yY rfl rfl)<|ZF rfl (zN rfl rfl)<|zJ<|zF (ι:=Unit) () (.cons rfl<|.consE rfl (by congr 1;first|(rw[Bool.eq_iff_iff,decide_eq_true_eq,decide_eq_true_eq];omega)|(rw[eq_comm,decide_eq_true_eq];omega)|(rw[eq_comm,decide_eq_false_iff_not];omega)|(rw[Bool.eq_iff_iff,beq_iff_eq,decide_eq_true_eq];omega))<|.nil) (fun w h=>h)
                 ·refine zO M (fun h56=>?_) (fun h56=>?_)
                  ·replace h56:=of_decide_eq_true h56;refine zX<|zZ<|Za M M<|ZT<|zQ<|zG<|zR M M (fun w hw=>?_);exact⟨by rw[← hv,if_neg ‹_›,if_neg ‹_›,if_neg ‹_›,if_neg ‹_›,if_neg ‹_›,if_neg ‹_›,if_neg ‹_›,if_neg ‹_›,if_pos ‹_›];rfl,hw.ext0⟩
                  ·replace h56:=of_decide_eq_false h56;refine zL<|zT<|zX<|yA (ι:=Unit) (fun _=>[(0,.int .i64 op),(62,.bool (decide (128≤op∧op≤130)))]) (fun _=>Hp (fun _=>False) w_0 [] [] (fun _=>True)) ?_ (fun _=>?_)
                   ·refine zZ<|Zm M M<|ZF M (wT M M)<|Zm M M<|zH 59 M (fun g3=>?_) (fun g3=>?_)
                    ·replace g3:=of_decide_eq_true g3;exact ZG rfl rfl rfl (zS rfl)<|ZG rfl rfl rfl (wE rfl rfl)<|ZF rfl (zM rfl rfl)<|zJ<|zF (ι:=Unit) () (.cons rfl<|.consE rfl (by congr 1;first|(rw[Bool.eq_iff_iff,decide_eq_true_eq,decide_eq_true_eq];omega)|(rw[eq_comm,decide_eq_true_eq];omega)|(rw[eq_comm,decide_eq_false_iff_not];omega)|(rw[Bool.eq_iff_iff,beq_iff_eq,decide_eq_true_eq];omega))<|.nil) (fun w h=>h)
                    ·replace g3:=of_decide_eq_false g3;exact ZP rfl<|ZP rfl<|ZF rfl (zN rfl rfl)<|zJ<|zF (ι:=Unit) () (.cons rfl<|.consE rfl (by congr 1;first|(rw[Bool.eq_iff_iff,decide_eq_true_eq,decide_eq_true_eq];omega)|(rw[eq_comm,decide_eq_true_eq];omega)|(rw[eq_comm,decide_eq_false_iff_not];omega)|(rw[Bool.eq_iff_iff,beq_iff_eq,decide_eq_true_eq];omega))<|.nil) (fun w h=>h)
                   ·refine zO M (fun h62=>?_) (fun h62=>?_)
                    ·replace h62:=of_decide_eq_true h62;refine zX<|zZ<|Zm M M<|ZF M (tI M M (i64_in _ (by omega) (by omega))) ?_;refine ZF M (yS M M (show IntKind.i64.wrap (op-128+10)=((op-118).toNat:Nat) by rw[i64_in _ (by omega) (by omega)];omega)) ?_;refine Za M M<|ZT<|zQ<|zG<|zR M M (fun w hw=>?_);exact⟨by rw[← hv,if_neg ‹_›,if_neg ‹_›,if_neg ‹_›,if_neg ‹_›,if_neg ‹_›,if_neg ‹_›,if_neg ‹_›,if_neg ‹_›,if_neg ‹_›,if_pos ‹_›],hw.ext0⟩
                    ·replace h62:=of_decide_eq_false h62;refine zL<|zT<|zX<|zZ<|Za M M<|ZT<|zQ<|zR M M (fun w hw=>?_);exact⟨by rw[← hv,if_neg ‹_›,if_neg ‹_›,if_neg ‹_›,if_neg ‹_›,if_neg ‹_›,if_neg ‹_›,if_neg ‹_›,if_neg ‹_›,if_neg ‹_›,if_neg ‹_›];rfl,hw.ext0⟩
theorem szN_at {f:Nat}(h:f<13):([.int .i64 0,.int .i64 1,.int .i64 2,.int .i64 2,.int .i64 3,.int .i64 6,.int .i64 3,.int .i64 7,.int .i64 2,.int .i64 5,.int .i64 2,.int .i64 2,.int .i64 2]:List Value)[0+f*1]? = some (.int .i64 (szN f:Nat)):=by
 have h1:(List.range 13).all (fun f=>decide (([0,1,2,2,3,6,3,7,2,5,2,2,2]:List Nat)[f]? = some (szN f)))=true:=by decide
 have h2:=of_decide_eq_true (sE h1 f h);have e:([.int .i64 0,.int .i64 1,.int .i64 2,.int .i64 2,.int .i64 3,.int .i64 6,.int .i64 3,.int .i64 7,.int .i64 2,.int .i64 5,.int .i64 2,.int .i64 2,.int .i64 2]:List Value)=([0,1,2,2,3,6,3,7,2,5,2,2,2]:List Nat).map fun n=>.int .i64 (n:Nat):=rfl;rw[e,List.getElem?_map,Nat.zero_add,Nat.mul_one,h2];rfl
theorem rsize_any (c:Nat) (hc:c<256) (w_0:World):Calls Tryz.prog 52 #[.int .u8 c] w_0 fun e w'=>e=.returned (.int .i64 (szN (fmN c):Nat))∧Ext w_0 w':=by
 have hf:=fmN_lt c;refine zP (args:=[.int .u8 c]) Tryz.func52 M 10 M (Nat.le_of_ble_eq_true M)<|Z1 0 M<|zU (H':=Hp (fun _=>False) w_0 [] [] (fun _=>True)) (fun u hu=>?_) ?_
 ·subst hu;exact Hp.start0
 refine zX<|zZ<|Za M M<|ZX<|zZ<|ZF M (xF (cells:=#[.int .i64 0,.int .i64 1,.int .i64 2,.int .i64 2,.int .i64 3,.int .i64 6,.int .i64 3,.int .i64 7,.int .i64 2,.int .i64 5,.int .i64 2,.int .i64 2,.int .i64 2]) M (by kernel_rfl)) ?_;refine zK .none M (yW (z:=.agg #[.int .i64 0,.int .i64 0,.int .i64 0,.int .i64 0,.int .i64 0,.int .i64 0,.int .i64 0,.int .i64 0,.int .i64 0,.int .i64 0,.int .i64 0,.int .i64 0,.int .i64 0]) (cs:=[.int .i64 0,.int .i64 0,.int .i64 0,.int .i64 0,.int .i64 0,.int .i64 0,.int .i64 0,.int .i64 0,.int .i64 0,.int .i64 0,.int .i64 0,.int .i64 0,.int .i64 0]) (by kernel_rfl) M) (fun b3=>?_);refine ZR 0 M M M M M (by kernel_rfl) ?_;refine ZX<|Z3r 0 2 3 M M M<|Zm M M ?_
 refine ZF M (yT M (by kernel_rfl) Tryz.underlying3 (rR (by omega))) ?_
 refine zB .none M  (v:=.int .i64 (fmN c:Nat)) (by kernel_rfl) M (fun w hw=>rfmt_any c w) ?_;refine ZF M (wR (es:=1) (j:=fmN c) M M Tryz.underlying203 (by kernel_rfl) M hf M) ?_;refine ZF M (zC M Tryz.underlying3 M (fun w hw=>HpG.cell (k:=0) hw M (szN_at hf))) ?_;refine Za M M<|ZT<|zQ<|zR M M (fun w hw=>?_);exact⟨rfl,hw.ext0⟩
end Go.Proofs.YtkaepknpplhgkaaGreatDoor
/- The reference of K (babelref02): a jump read from bytes, and its target. -/
namespace Go.Proofs.YtkaepknpplhgkaaGreatDoor
open Go.RowKit
theorem rreg_any (n:Int) (w_0:World):Calls Tryz.prog 143 #[.int .i64 n] w_0 fun e w'=>e=.returned (.bool (decide (0≤n∧n<8)))∧Ext w_0 w':=by
 refine zP (args:=[.int .i64 n]) Tryz.func143 M 9 M (Nat.le_of_ble_eq_true M)<|Z1 0 M<|zU (H':=Hp (fun _=>False) w_0 [] [] (fun _=>True)) (fun u hu=>?_) ?_
 ·subst hu;exact Hp.start0
 refine zX<|zZ<|Za M M<|ZX<|zZ<|Zm M M<|ZF M (wT M M)<|Zm M M<|zH 5 M (fun g3=>?_) (fun g3=>?_)
 ·replace g3:=of_decide_eq_true g3;refine ZG M M M (zS M)<|ZG M M M (xM M M)<|ZF M (zM M M)<|Za M M<|ZT<|zQ<|zR M M (fun w hw=>?_);exact⟨by congr 2;rw[Bool.eq_iff_iff,decide_eq_true_eq,decide_eq_true_eq];omega,hw.ext0⟩
 ·replace g3:=of_decide_eq_false g3;refine ZP M<|ZP M<|ZF M (zN M M)<|Za M M<|ZT<|zQ<|zR M M (fun w hw=>?_);exact⟨by rw[decide_eq_false (by omega)],hw.ext0⟩
abbrev jmI (imm:Nat):KI:=⟨112,0,0,-1,0,imm,5⟩
set_option maxRecDepth 100000 in
theorem rvalid_jm (imm:Nat) (w_0:World):Calls Tryz.prog 54 #[.agg (kiC (jmI imm)).toArray] w_0 fun e w'=>e=.returned (.bool true)∧Ext w_0 w':=by
 refine zP (args:=[.agg (kiC (jmI imm)).toArray]) Tryz.func54 M 147 M (Nat.le_of_ble_eq_true M)<|Z1 0 M<|zU (H':=Hp (fun _=>False) w_0 [] [] (fun _=>True)) (fun u hu=>?_) ?_
 ·subst hu;exact Hp.start0
 refine zX<|zZ<|zK .none M (yC M M) (fun b1=>?_);refine Za M M<|ZX<|zZ<|ZF M (zY (off:=0) (sz:=0) M Tryz.underlying35 (by kernel_rfl) M) ?_;refine ZF M (zV 0 M M M Tryz.underlying3 M)<|zB .none M  (v:=.int .i64 9) (by kernel_rfl) M (fun w hw=>rfmt_any 112 w) ?_;refine Za M M<|ZX<|zX<|Z4 0 1 2 3 M M M M<|wc_drawN [0,1,2,3,4,5,6,7,8,9,10] (Blk b1 (kiO (jmI imm))) (by kernel_rfl) (by kernel_rfl) Blk.stab (fun w h=>HpG.blk h (k:=0) M) (fun n0 hn0=>?_);refine Zd M M M (zS M)<|Zd M M M (yY M M)<|Zd M M M (zS M)<|wZ M ?_;(refine xO ?_ (.some rfl rfl) rfl (zY (off:=6) (sz:=0) rfl Tryz.underlying35 (by kernel_rfl) rfl) ?_;(· rfl);skip);refine wZ M ?_;(refine xO ?_ (.some rfl rfl) rfl (zC (v:=.int .i64 5) rfl Tryz.underlying3 rfl (fun w hw=>Blk.cell hw rfl)) ?_;(· rfl);skip);refine wZ M ?_;(refine xO ?_ (.some rfl rfl) rfl (zY (off:=0) (sz:=0) rfl Tryz.underlying35 (by kernel_rfl) rfl) ?_;(· rfl);skip);refine wZ M ?_;(refine xO ?_ (.some rfl rfl) rfl (zC (v:=.int .i64 112) rfl Tryz.underlying3 rfl (fun w hw=>Blk.cell hw rfl)) ?_;(· rfl);skip);refine wZ M ?_
 (refine xO ?_ (.some rfl rfl) rfl (yT rfl (by kernel_rfl) Tryz.underlying5 (show IntKind.u8.wrap 112=((112:Nat):Int) from rfl)) ?_;(· rfl);skip)
 refine wZ M<|wd_pure (.some M M) M  (v:=.int .i64 5) (by kernel_rfl) M (fun _ _ h hx=>Blk.onE h hx) (fun w hw=>rsize_any 112 (by decide) w) ?_;refine wZ M ?_;(refine xO ?_ (.some rfl rfl) rfl (vW rfl rfl) ?_;(· rfl);skip);refine Zd M M M (zN M M)<|wd_endH<|zT<|xW M<|zL<|zT<|zX<|Z5r 0 1 2 3 21 M M M M M<|ZF M (zY (off:=1) (sz:=0) M Tryz.underlying35 (by kernel_rfl) M) ?_;refine ZF M (zV 0 M M M Tryz.underlying3 M)<|zB .none M  (v:=.bool true) (by kernel_rfl) M (fun w hw=>rreg_any 0 w) ?_;refine Za M M<|ZX<|Z6r 0 1 2 3 4 21 M M M M M M<|ZF M (zY (off:=2) (sz:=0) M Tryz.underlying35 (by kernel_rfl) M) ?_;refine ZF M (zV 0 M M M Tryz.underlying3 M)<|zB .none M  (v:=.bool true) (by kernel_rfl) M (fun w hw=>rreg_any 0 w) ?_;refine Za M M<|ZX<|zX<|Z7r 0 1 2 3 4 5 21 M M M M M M M<|Zm M M<|ZF M (yY M M)<|Zm M M<|ZG M M M (zS M)<|ZG M M M (yY M M)<|ZF M (zN M M)<|Zm M M<|ZG M M M (zS M)<|ZG M M M (yY M M)<|ZF M (zN M M)<|Zm M M<|ZP M<|ZP M<|ZF M (zM M M)<|ZT<|vM M<|Z8r 0 1 2 3 4 5 21 41 M M M M M M M M<|ZF M (zY (off:=1) (sz:=0) M Tryz.underlying35 (by kernel_rfl) M) ?_;refine ZF M (zV 0 M M M Tryz.underlying3 M)<|ZF M (yY M M)<|Za M M<|ZX<|zX<|Z8r 0 1 2 3 4 5 21 41 M M M M M M M M<|Zm M M<|ZF M (vW M M)<|Zm M M<|ZG M M M (zS M)<|ZG M M M (vW M M)<|ZF M (zM M M)<|Zm M M<|ZG M M M (zS M)<|ZG M M M (vW M M)<|ZF M (zM M M)<|ZT<|vM M<|Z9r 0 1 2 3 4 5 21 41 54 M M M M M M M M M<|ZF M (zY (off:=2) (sz:=0) M Tryz.underlying35 (by kernel_rfl) M) ?_;refine ZF M (zV 0 M M M Tryz.underlying3 M)<|ZF M (yY M M)<|Za M M<|ZX<|zX<|Z9r 0 1 2 3 4 5 21 41 54 M M M M M M M M M<|Zm M M<|ZF M (yY M M)<|ZT<|xW M<|zL<|zT<|zX<|zX<|Z10r 0 1 2 3 4 5 21 41 54 59 M M M M M M M M M M<|Zm M M<|ZF M (yY M M)<|ZT<|xW M<|zL<|zT<|zX<|Z11r 0 1 2 3 4 5 21 41 54 59 69 M M M M M M M M M M M<|ZF M (zY (off:=3) (sz:=0) M Tryz.underlying35 (by kernel_rfl) M) ?_;refine ZF M (zV 0 M M M Tryz.underlying3 M)<|ZF M (yY M M)<|Zm M M<|ZG M M M (zY (off:=4) (sz:=0) M Tryz.underlying35 (by kernel_rfl) M) ?_
 refine ZG M M M (zV 0 M M M Tryz.underlying3 M)<|ZG M M M (yY M M)<|ZF M (zM M M)<|Za M M<|ZX<|zX<|Z12r 0 1 2 3 4 5 6 21 41 54 59 69 M M M M M M M M M M M M<|Zm M M<|ZF M (yY M M)<|Zm M M<|ZP M<|ZP M<|ZP M<|ZF M (zN M M)<|ZT<|xW M<|zL<|zT<|zX<|Z13r 0 1 2 3 4 5 6 21 41 54 59 69 92 M M M M M M M M M M M M M<|ZF M (zY (off:=5) (sz:=0) M Tryz.underlying35 (by kernel_rfl) M) ?_;refine ZF M (zV 0 M M M Tryz.underlying22 M)<|ZF M (yY M M)<|Za M M<|ZX<|zX<|Z14r 0 1 2 3 4 5 6 7 21 41 54 59 69 92 M M M M M M M M M M M M M M<|Zm M M<|ZF M (yY M M)<|Zm M M<|ZG M M M (zS M)<|ZG M M M (yY M M)<|ZF M (zN M M)<|Zm M M<|ZG M M M (zS M)<|ZG M M M (yY M M)<|ZF M (zN M M)<|ZT<|xW M<|zL<|zT<|zX<|zX<|Z15r 0 1 2 3 4 5 6 7 21 41 54 59 69 92 118 M M M M M M M M M M M M M M M<|Zm M M<|ZF M (yY M M)<|Zm M M<|ZG M M M (zS M)<|ZG M M M (yY M M)<|ZF M (zN M M)<|Zm M M<|ZG M M M (zS M) ?_;refine ZG M M M (yY M M)<|ZF M (zN M M)<|ZT<|vM M<|Z16r 0 1 2 3 4 5 6 7 21 41 54 59 69 92 118 131 M M M M M M M M M M M M M M M M<|Za M M<|ZX<|zX<|zZ<|Zm M M<|ZF M (yY M M)<|ZT<|xW M<|zL<|zT<|zX<|Z17r 0 1 2 3 4 5 6 7 21 41 54 59 69 92 118 131 133 M M M M M M M M M M M M M M M M M<|Zm M M<|Zm M M<|ZG M M M (zS M)<|ZF M (zM M M)<|Zm M M<|ZG M M M (zS M)<|ZF M (zM M M)<|Zm M M<|ZG M M M (zS M)<|ZF M (zM M M)<|Za M M<|ZT<|zQ<|zR M M (fun w hw=>?_);exact⟨rfl,hw.ext0⟩
theorem long_sum (a b c d:UInt8):getL [a,b,c,d]=((a.toNat+256*b.toNat)+65536*c.toNat)+16777216*d.toNat:=by
 show a.toNat+256*(b.toNat+256*(c.toNat+256*(d.toNat+256*0)))=_;omega
theorem rlong_any (a b c d:UInt8) (r:Bs) (w_0:World):Calls Tryz.prog 142 #[.string ⟨(a::b::c::d::r).toArray⟩] w_0 fun e w'=>e=.returned (.int .u32 (getL [a,b,c,d]:Nat))∧Ext w_0 w':=by
 have ha:=UInt8.toNat_lt a;have hb:=UInt8.toNat_lt b;have hc:=UInt8.toNat_lt c;have hd:=UInt8.toNat_lt d;have e0:∀x:Nat,x<4294967296→IntKind.u32.wrap (x:Int)=x:=fun x hx=>u32n hx (Nat.le_refl _);rw[long_sum];refine zP (args:=[.string ⟨(a::b::c::d::r).toArray⟩]) Tryz.func142 M 21 M (Nat.le_of_ble_eq_true M)<|Z1 0 M<|zU (H':=Hp (fun _=>False) w_0 [] [] (fun _=>True)) (fun u hu=>?_) ?_
 ·subst hu;exact Hp.start0
 refine zX<|zZ<|Za M M<|ZX<|wc_draw0 [0,1,2,3,4,5,6,7,8,9,10,11,12,13,14,15,16,17,18] _ (by kernel_rfl) (by kernel_rfl) HpG.stab HpG.stab (fun _ h=>HpG.drew h) (fun _ h=>h) ?_;refine Zd M M M (zS M)<|Zd M M M (xZ (j:=0) M M Tryz.underlying9 M M)<|wZ M ?_
 (refine xO ?_ .none rfl (yT rfl (by kernel_rfl) Tryz.underlying22 (e0 a.toNat (by omega))) ?_;·rfl)
 refine wZ M ?_;(refine xO ?_ .none rfl (zS rfl) ?_;·rfl);refine Zd M M M (xZ (j:=1) M M Tryz.underlying9 M M)<|wZ M ?_
 (refine xO ?_ .none rfl (yT rfl (by kernel_rfl) Tryz.underlying22 (e0 b.toNat (by omega))) ?_;·rfl)
 refine wZ M ?_;(refine xO ?_ .none rfl (yf_mul rfl rfl (e0 (256*b.toNat) (by omega))) ?_;·rfl);refine Zd M M M (yS M M (e0 (a.toNat+256*b.toNat) (by omega))) ?_;refine Zd M M M (zS M)<|Zd M M M (xZ (j:=2) M M Tryz.underlying9 M M)<|wZ M ?_
 (refine xO ?_ .none rfl (yT rfl (by kernel_rfl) Tryz.underlying22 (e0 c.toNat (by omega))) ?_;·rfl)
 refine wZ M ?_;(refine xO ?_ .none rfl (yf_mul rfl rfl (e0 (65536*c.toNat) (by omega))) ?_;·rfl);refine Zd M M M (yS M M (e0 ((a.toNat+256*b.toNat)+65536*c.toNat) (by omega))) ?_;refine Zd M M M (zS M)<|Zd M M M (xZ (j:=3) M M Tryz.underlying9 M M)<|wZ M ?_
 (refine xO ?_ .none rfl (yT rfl (by kernel_rfl) Tryz.underlying22 (e0 d.toNat (by omega))) ?_;·rfl)
 refine wZ M ?_;(refine xO ?_ .none rfl (yf_mul rfl rfl (e0 (16777216*d.toNat) (by omega))) ?_;·rfl);refine Zd M M M (yS M M (e0 (((a.toNat+256*b.toNat)+65536*c.toNat)+16777216*d.toNat) (by omega))) ?_;refine Zd M M M (uZ M)<|wd_end<|zT<|zQ<|zR M M (fun w hw=>?_);exact⟨rfl,hw.ext0⟩
set_option maxRecDepth 100000 in
theorem rread_jm (a b c d:UInt8) (w_0:World):Calls Tryz.prog 53 #[.string ⟨[112,a,b,c,d].toArray⟩] w_0 fun e w'=>e=.returned (.agg (kiC (jmI (getL [a,b,c,d]))).toArray)∧Ext w_0 w':=by
 refine zP (args:=[.string ⟨[112,a,b,c,d].toArray⟩]) Tryz.func53 M 99 M (Nat.le_of_ble_eq_true M)<|Z1 0 M<|zU (H':=Hp (fun _=>False) w_0 [] [] (fun _=>True)) (fun u hu=>?_) ?_
 ·subst hu;exact Hp.start0
 refine zX<|zZ<|zK .none M (yW (z:=.agg #[.int .i64 0,.int .i64 0,.int .i64 0,.int .i64 0,.int .i64 0,.int .u32 0,.int .i64 0]) (cs:=[.int .i64 0,.int .i64 0,.int .i64 0,.int .i64 0,.int .i64 0,.int .u32 0,.int .i64 0]) (by kernel_rfl) M) (fun b2=>?_);refine ZX<|zZ<|Zm M M<|ZF M (xZ (j:=0) (c:=112) M M Tryz.underlying9 M M) ?_
 refine ZF M (yT M (by kernel_rfl) Tryz.underlying3 (show IntKind.i64.wrap (((112:UInt8).toNat:Nat):Int)=112 from M)) ?_
 refine zB .none M  (v:=.int .i64 9) (by kernel_rfl) M (fun w hw=>rfmt_any 112 w) ?_;refine Za M M<|ZX<|Z3r 0 2 3 M M M<|Zm M M<|ZF M (xZ (j:=0) (c:=112) M M Tryz.underlying9 M M) ?_
 refine ZF M (yT M (by kernel_rfl) Tryz.underlying3 (show IntKind.i64.wrap (((112:UInt8).toNat:Nat):Int)=112 from M)) ?_
 refine Zm M M<|ZF M (vN M Tryz.underlying9)<|ZF M (yV [.int .i64 0,.int .i64 0,.int .i64 0,.int .i64 0,.int .i64 0,.int .u32 0,.int .i64 0] [(0,1),(1,1),(2,1),(3,1),(4,1),(5,1),(6,1)] M (by kernel_rfl) (by kernel_rfl) M) ?_;refine zK .none M (yW (z:=.agg #[.int .i64 0,.int .i64 0,.int .i64 0,.int .i64 0,.int .i64 0,.int .u32 0,.int .i64 0]) (cs:=[.int .i64 0,.int .i64 0,.int .i64 0,.int .i64 0,.int .i64 0,.int .u32 0,.int .i64 0]) (by kernel_rfl) M) (fun b4=>?_);refine ZR 0 M M M M M (by kernel_rfl) ?_;refine ZX<|zX<|Z4r 0 2 3 4 M M M M<|Zm M M<|ZF M (vN M Tryz.underlying9)<|ZF M (uV M M)<|ZT<|vM M<|zX<|Z5r 0 2 3 4 17 M M M M M<|Zm M M<|ZF M (xZ (j:=1) M M Tryz.underlying9 M M) ?_
 refine ZF M (yT M (by kernel_rfl) Tryz.underlying3 M) ?_
 (refine ZF rfl (yf_quo rfl rfl ?_ rfl) ?_;(· first|decide|omega);skip);refine ZF M (zY (off:=1) (sz:=0) M Tryz.underlying35 (by kernel_rfl) M) ?_;refine ZS 0 M M M M M (by kernel_rfl) ?_;refine ZT<|Z5r 0 2 3 4 17 M M M M M<|Zm M M<|ZF M (xZ (j:=1) M M Tryz.underlying9 M M) ?_
 refine ZF M (yT M (by kernel_rfl) Tryz.underlying3 M) ?_
 (refine ZF rfl (yf_rem rfl rfl ?_ rfl) ?_;(· first|decide|omega);skip);refine ZF M (zY (off:=2) (sz:=0) M Tryz.underlying35 (by kernel_rfl) M) ?_;refine ZS 0 M M M M M (by kernel_rfl) ?_;refine ZX<|zX<|Z5r 0 2 3 4 17 M M M M M<|Zm M M<|ZF M (yY M M)<|Zm M M<|ZG M M M (zS M)<|ZG M M M (yY M M)<|ZF M (zN M M)<|Zm M M<|ZG M M M (zS M)<|ZG M M M (yY M M)<|ZF M (zN M M)<|ZT<|xW M<|zL<|zT<|zX<|zX<|Z6r 0 2 3 4 17 37 M M M M M M<|Zm M M<|ZT<|yZ<|zX<|zX<|zZ<|ZF M (yY M M)<|Za M M<|ZT<|xW M<|Z8r 0 2 3 4 17 37 43 44 M M M M M M M M ?_;refine ZF M (yY M M)<|Za M M<|ZT<|xW M<|zX<|Z8r 0 2 3 4 17 37 43 44 M M M M M M M M<|ZF M (yY M M)<|Za M M<|ZT<|xW M<|zX<|Z9r 0 2 3 4 17 37 43 44 51 M M M M M M M M M<|ZF M (yY M M)<|Za M M<|ZT<|xW M<|zX<|zX<|Z10r 0 2 3 4 17 37 43 44 51 57 M M M M M M M M M M<|ZF M (yY M M)<|Za M M<|ZT<|xW M<|zX<|Z11r 0 2 3 4 17 37 43 44 51 57 76 M M M M M M M M M M M<|ZF M (yY M M)<|Za M M<|ZT<|xW M<|Z11r 0 2 3 4 17 37 43 44 51 57 76 M M M M M M M M M M M<|ZF M (yY M M) ?_;refine Za M M<|ZT<|vM M<|zX<|Z11r 0 2 3 4 17 37 43 44 51 57 76 M M M M M M M M M M M<|ZF M (zY (off:=1) (sz:=0) M Tryz.underlying35 (by kernel_rfl) M) ?_;refine ZS 0 M M M M M (by kernel_rfl) ?_;refine ZX<|Z11r 0 2 3 4 17 37 43 44 51 57 76 M M M M M M M M M M M<|ZF M (zY (off:=2) (sz:=0) M Tryz.underlying35 (by kernel_rfl) M) ?_;refine ZS 0 M M M M M (by kernel_rfl) ?_;refine ZX<|Z11r 0 2 3 4 17 37 43 44 51 57 76 M M M M M M M M M M M<|Zm M M<|ZF M (xZ (j:=1) M M Tryz.underlying9 M M) ?_
 refine ZF M (yT M (by kernel_rfl) Tryz.underlying22 M) ?_
 refine ZF M (zY (off:=5) (sz:=0) M Tryz.underlying35 (by kernel_rfl) M) ?_;refine ZS 0 M M M M M (by kernel_rfl) ?_;refine ZX<|zX<|Z11r 0 2 3 4 17 37 43 44 51 57 76 M M M M M M M M M M M<|Zm M M<|ZF M (yY M M)<|ZT<|xW M<|zL<|zT<|zX<|Z12r 0 2 3 4 17 37 43 44 51 57 76 87 M M M M M M M M M M M M<|Zm M M<|ZF M (yY M M)<|ZT<|vM M<|Z13r 0 2 3 4 17 37 43 44 51 57 76 87 93 M M M M M M M M M M M M M<|Zm M M<|ZF M (yf_strLo (c:=[a,b,c,d]) M M Tryz.underlying9 (by decide) (by show (1:Int)≤((5:Nat):Int);decide) M) ?_;refine zB .none M  (v:=.int .u32 (getL [a,b,c,d]:Nat)) (by kernel_rfl) M (fun w hw=>rlong_any a b c d [] w) ?_;refine ZF M (zY (off:=5) (sz:=0) M Tryz.underlying35 (by kernel_rfl) M) ?_;refine ZS 0 M M M M M (by kernel_rfl) ?_;refine zJ<|yX<|zT<|zX<|Z13r 0 2 3 4 17 37 43 44 51 57 76 87 93 M M M M M M M M M M M M M<|ZF M (yQ 0 M M Tryz.underlying35 M (by kernel_rfl)) ?_;refine ZR 1 M M M M M (by kernel_rfl) ?_;refine ZT<|zQ<|wV M M 1 M Tryz.underlying35 M (by kernel_rfl) (fun w hw=>?_);exact⟨rfl,hw.ext0⟩
end Go.Proofs.YtkaepknpplhgkaaGreatDoor
/- The law of labels: what the reference decodes. -/
namespace Go.Proofs.YtkaepknpplhgkaaGreatDoor
open Go.RowKit
set_option maxRecDepth 100000 in
theorem rdecode_jm (a b c d:UInt8) (r:Bs) (hr:r.length≤1000000) (w_0:World):Calls Tryz.prog 21 #[.string ⟨(112::a::b::c::d::r).toArray⟩] w_0 fun e w'=>e=.returned (.agg (kiC (jmI (getL [a,b,c,d]))++([.int .i64 0]:List Value)).toArray)∧Ext w_0 w':=by
 have hln:(112::a::b::c::d::r:Bs).length=5+r.length:=by simp only[List.length_cons];omega
 refine zP (args:=[.string ⟨(112::a::b::c::d::r).toArray⟩]) Tryz.func21 M 29 M (Nat.le_of_ble_eq_true M)<|Z1 0 M<|zU (H':=Hp (fun _=>False) w_0 [] [] (fun _=>True)) (fun u hu=>?_) ?_
 ·subst hu;exact Hp.start0
 refine zX<|zZ<|zK .none M (yW (z:=.agg #[.int .i64 0,.int .i64 0,.int .i64 0,.int .i64 0,.int .i64 0,.int .u32 0,.int .i64 0,.int .i64 0]) (cs:=[.int .i64 0,.int .i64 0,.int .i64 0,.int .i64 0,.int .i64 0,.int .u32 0,.int .i64 0,.int .i64 0]) (by kernel_rfl) M) (fun b2=>?_);refine ZX<|zX<|zZ<|Zm M M<|ZF M (xG M M Tryz.underlying9)<|ZT<|zO M (fun h6=>?_) (fun h6=>?_)
 ·simp at h6
 ·refine zL<|zT<|zX<|Z3r 0 2 6 M M M<|Zm M M<|ZF M (xZ (j:=0) (c:=112) M M Tryz.underlying9 M M) ?_;refine zB .none M  (v:=.int .i64 5) (by kernel_rfl) M (fun w hw=>rsize_any 112 (by decide) w) ?_;refine Za M M<|ZX<|zX<|Z4r 0 2 3 6 M M M M<|Zm M M<|ZF M (yY M M)<|ZT<|xW M<|zL<|zT<|zX<|zX<|Z5r 0 2 3 6 12 M M M M M<|Zm M M<|ZF M (vN M Tryz.underlying9)<|Zm M M<|ZF M (xM M M)<|ZT<|zO M (fun h17=>?_) (fun h17=>?_)
  ·replace h17:=of_decide_eq_true h17;rw[hln] at h17;omega
  ·replace h17:=of_decide_eq_false h17;refine zL<|zT<|zX<|Z6r 0 2 3 6 12 17 M M M M M M<|Zm M M<|Zm M M<|ZF M (yf_strHi (c:=[112,a,b,c,d]) M M Tryz.underlying9 (by decide) (by rw[hln];omega) M) ?_;refine zB .none M  (by kernel_rfl) M (fun w hw=>rread_jm a b c d w) ?_;refine zK .none M (yW (z:=.agg #[.int .i64 0,.int .i64 0,.int .i64 0,.int .i64 0,.int .i64 0,.int .u32 0,.int .i64 0]) (cs:=[.int .i64 0,.int .i64 0,.int .i64 0,.int .i64 0,.int .i64 0,.int .u32 0,.int .i64 0]) (by kernel_rfl) M) (fun b4=>?_);refine ZR 0 M M M M M (by kernel_rfl) ?_;refine ZX<|zX<|Z7r 0 2 3 4 6 12 17 M M M M M M M<|ZF M (yQ 0 M M Tryz.underlying35 M (by kernel_rfl)) ?_;refine zB .none M  (v:=.bool true) (by kernel_rfl) M (fun w hw=>rvalid_jm _ w) ?_;refine ZF M (wD M)<|ZT<|zO M (fun h25=>?_) (fun h25=>?_)
   ·cases h25
   ·refine zL<|zT<|zX<|Z8r 0 2 3 4 6 12 17 25 M M M M M M M M<|ZF M (yQ 0 M M Tryz.underlying35 M (by kernel_rfl)) ?_;refine ZF M (yV [.int .i64 0,.int .i64 0,.int .i64 0,.int .i64 0,.int .i64 0,.int .u32 0,.int .i64 0,.int .i64 0] [(0,7),(7,1)] M (by kernel_rfl) (by kernel_rfl) M) ?_;refine ZR 1 M M M M M (by kernel_rfl) ?_;refine ZT<|zQ<|wV M M 1 M Tryz.underlying37 M (by kernel_rfl) (fun w hw=>?_);exact⟨rfl,hw.ext0⟩
set_option maxRecDepth 100000 in
theorem rtarget_jm (imm a:Nat) (_ha:a<4294967296) (w_0:World):Calls Tryz.prog 22 #[.agg (kiC (jmI imm)).toArray,.int .u32 a] w_0 fun e w'=>e=.returned (.agg #[.int .u32 ((a+5+imm)%4294967296:Nat),.bool true])∧Ext w_0 w':=by
 have e1:∀z:Int,IntKind.u32.wrap z=z%4294967296:=fun _=>rfl;have e2:IntKind.u32.wrap (IntKind.u32.wrap ((a:Int)+5)+(imm:Int))=((a+5+imm)%4294967296:Nat):=by rw[e1,e1];omega
 refine zP (args:=[.agg (kiC (jmI imm)).toArray,.int .u32 a]) Tryz.func22 M 30 M (Nat.le_of_ble_eq_true M)<|Z2 0 1 M M<|zU (H':=Hp (fun _=>False) w_0 [] [] (fun _=>True)) (fun u hu=>?_) ?_
 ·subst hu;exact Hp.start0
 refine zX<|zZ<|zK .none M (yC M M) (fun b2=>?_);refine zK .none M (yW (z:=.agg #[.int .u32 0,.bool false]) (cs:=[.int .u32 0,.bool false]) (by kernel_rfl) M) (fun b4=>?_);refine ZX<|zZ<|ZF M (zY (off:=0) (sz:=0) M Tryz.underlying35 (by kernel_rfl) M) ?_;refine ZF M (zV 1 M M M Tryz.underlying3 M)<|zB .none M  (v:=.int .i64 9) (by kernel_rfl) M (fun w hw=>rfmt_any 112 w) ?_;refine Za M M<|ZX<|zX<|Z5r 0 1 2 4 5 M M M M M<|ZF M (yQ 1 M M Tryz.underlying35 M (by kernel_rfl)) ?_;refine zB .none M  (v:=.bool true) (by kernel_rfl) M (fun w hw=>rvalid_jm _ w) ?_;refine ZF M (wD M)<|Zm M M<|zH 12 M (fun hb=>?_) (fun hb=>?_)
 ·cases hb
 ·refine ZG M M M (zS M)<|ZG M M M (vW M M)<|ZG M M M (zS M)<|ZG M M M (zS M)<|ZG M M M (vW M M)<|ZG M M M (zM M M)<|ZF M (zN M M)<|ZT<|xW M<|zL<|zT<|zX<|Z6r 0 1 2 4 5 19 M M M M M M<|Zm M M<|ZF M (zY (off:=6) (sz:=0) M Tryz.underlying35 (by kernel_rfl) M) ?_;refine ZF M (zV 1 M M M Tryz.underlying3 M) ?_
  refine ZF M (yT M (by kernel_rfl) Tryz.underlying22 (show IntKind.u32.wrap 5=5 from M)) ?_
  refine ZF M (yS M M M)<|ZF M (zY (off:=5) (sz:=0) M Tryz.underlying35 (by kernel_rfl) M) ?_;refine ZF M (zV 1 M M M Tryz.underlying22 M)<|ZF M (yS M M e2)<|ZF M (yV [.int .u32 0,.bool false] [(0,1),(1,1)] M (by kernel_rfl) (by kernel_rfl) M) ?_;refine ZR 0 M M M M M (by kernel_rfl) ?_;refine ZT<|zQ<|wV M M 0 M Tryz.underlying40 M (by kernel_rfl) (fun w hw=>?_);exact⟨rfl,hw.ext0⟩
end Go.Proofs.YtkaepknpplhgkaaGreatDoor
/- The law of labels. -/
namespace Go.Proofs.YtkaepknpplhgkaaGreatDoor
open Go.RowKit
structure LbP where
 text:Bs
 size:Nat
 dst:Nat
 at_:Nat
 pre:Bs
 mid:Bs
structure LbI (org:Nat) (p:LbP):Prop where
 asm:sW 1 p.text org=(p.pre++(112::(xC (subW (subW p.dst ((org+p.at_)%4294967296)) 5) 4++(p.mid++xC p.dst 4))),0,0)
 pl:p.pre.length=p.at_
 sz:p.size=p.at_+5+p.mid.length
 dst:p.dst<4294967296
 at_:p.at_≤300
 mid:p.mid.length≤300
theorem lb_A {a b:Nat}(ha:a<100) (hb:b<100) (org:Nat):LbI org ⟨sF a b,a+b+5,(org+a)%4294967296,a+b,vJ [0] a++vJ [1] b,[]⟩ :=
 ⟨by rw[labels_A ha hb org];simp,by simp[tD],by simp,Nat.mod_lt _ (by decide),by show a+b≤300;omega,by show 0≤300;decide⟩
theorem lb_B {a:Nat}(ha:a<100) (org:Nat):LbI org ⟨bTextB a,5+a,(org+(5+a))%4294967296,0,[],vJ [0] a⟩ :=
 ⟨by rw[labels_B ha org];simp,rfl,by show 5+a=0+5+(vJ [0] a).length;rw[tD];show 5+a=0+5+a*1;omega,Nat.mod_lt _ (by decide),by show 0≤300;decide,by show (vJ [0] a).length≤300;rw[tD];show a*1≤300;omega⟩
theorem byL_mod (n:Nat):(byL (n%256)).toNat=n%256:=by
 unfold byL;rw[UInt8.toNat_ofNat'];omega
theorem tmL (n k:Nat) (_hk:0<k):((n:Int)).tmod (k:Int)=((n%k:Nat):Int):=by
 rw[Int.tmod_eq_emod_of_nonneg (by omega)];rfl
theorem lb_sub {t a:Nat}(h:t<4294967296) (ha:a<4294967296):(a+5+subW (subW t a) 5)%4294967296=t:=by unfold subW;omega
set_option maxHeartbeats 2000000 in
set_option maxRecDepth 100000 in
theorem labels_law (x y:Nat) (b:Bool) (org:Nat) (hx:x<256) (hy:y<256) (ho:org<4294967296) (w_0:World) (hw0:WOk w_0):Calls Tryz.prog 4 #[.agg #[.int .u8 x,.int .u8 y],.bool b,.int .u32 org] w_0 fun e w'=>e=.returned (.bool true)∧Ext w_0 w':=by
 obtain⟨n,hn⟩:∃n,n=x%100:=⟨_,rfl⟩;obtain⟨k,hk⟩:∃k,k=y%100:=⟨_,rfl⟩;have hn100:n<100:=by omega
 have hk100:k<100:=by omega
 have hA:=lb_A hn100 hk100 org;have hB:=lb_B hn100 org;have e1:∀z:Int,IntKind.u32.wrap z=z%4294967296:=fun _=>rfl;have lN:(bN++[10]).length=4:=rfl;have hNl:(bN++[10]).length≤1000:=by rw[lN];decide
 have lR:(bR++([10]:Bs)).length=4:=rfl;have hRl:(bR++([10]:Bs)).length≤1000:=by rw[lR];decide
 have hn1000:n≤1000:=by omega
 have hk1000:k≤1000:=by omega
 have hr1:(vJ (bN++[10]) n).length≤400:=by rw[tD,lN];omega
 have hr2:(vJ (bR++[10]) k).length≤400:=by rw[tD];show k*4≤400;omega
 refine zP (args:=[Value.agg [Value.int .u8 x,Value.int .u8 y].toArray,Value.bool b,Value.int .u32 org]) Tryz.func4 M 136 M (Nat.le_of_ble_eq_true M)<|Z3 0 1 2 M M M<|zU (H':=Hp (fun _=>False) w_0 [] [] (fun _=>True)) (fun u hu=>?_) ?_
 ·subst hu;exact Hp.start0
 refine zX<|zZ<|zK .none M (yC M M) (fun b3=>?_);refine Za M M<|ZX<|zZ<|zB .none M  (v:=.bool true) (by kernel_rfl) M (fun w hw=>sanity_any w (hw0.ext hw.ext0)) ?_;refine Za M M<|ZX<|Z6r 0 1 2 3 6 7 M M M M M M ?_;(refine ZF rfl (wR (j:=0) (es:=1) rfl rfl Tryz.underlying33 (by kernel_rfl) rfl ?_ rfl) ?_;(· first|decide|omega|(simp;done)|(simp;omega));skip);refine ZF M (zV 0 M M M Tryz.underlying5 M) ?_;(refine ZF rfl (yf_rem rfl rfl ?_ ((tmL x 100 (by decide)).trans (by rw[← hn]))) ?_;(· first|decide|omega);skip)
 refine ZF M (yT M (by kernel_rfl) Tryz.underlying3 (rR (by omega))) ?_
 refine Za M M<|ZX<|Z7r 0 1 2 3 6 7 8 M M M M M M M ?_;(refine ZF rfl (wR (j:=1) (es:=1) rfl rfl Tryz.underlying33 (by kernel_rfl) rfl ?_ rfl) ?_;(· first|decide|omega|(simp;done)|(simp;omega));skip);refine ZF M (zV 0 M M M Tryz.underlying5 M) ?_;(refine ZF rfl (yf_rem rfl rfl ?_ ((tmL y 100 (by decide)).trans (by rw[← hk]))) ?_;(· first|decide|omega);skip)
 refine ZF M (yT M (by kernel_rfl) Tryz.underlying3 (rR (by omega))) ?_
 refine Za M M<|ZX<|Z8r 0 1 2 3 6 7 8 9 M M M M M M M M<|Zm M M<|zB .none M  (v:=.string ⟨(vJ (bN++[10]) n).toArray⟩) (by kernel_rfl) M (fun w hw=>repeat_any (bN++[10]) n hn1000 hNl w) ?_;(refine ZF rfl (yK rfl rfl ?_) ?_;(· (simp only[List.length_cons,List.length_nil];omega));skip);refine Zm M M<|zB .none M  (v:=.string ⟨(vJ (bR++[10]) k).toArray⟩) (by kernel_rfl) M (fun w hw=>repeat_any (bR++[10]) k hk1000 hRl w) ?_;(refine ZF rfl (yK rfl rfl ?_) ?_;(· (simp only[List.length_append,List.length_cons,List.length_nil];omega));skip);(refine ZF rfl (yK rfl rfl ?_) ?_;(· (simp only[List.length_append,List.length_cons,List.length_nil];omega));skip);refine Za M M<|ZX<|Z9r 0 1 2 3 6 7 8 9 10 M M M M M M M M M<|Zm M M<|Zm M M<|ZF M (yS M M (show IntKind.i64.wrap ((n:Int)+k)=((n+k:Nat):Int) from i64_in ((n+k:Nat):Int) (by omega) (by omega))) ?_;refine ZF M (yS M M (show IntKind.i64.wrap (((n+k:Nat):Int)+5)=((n+k+5:Nat):Int) from i64_in ((n+k+5:Nat):Int) (by omega) (by omega))) ?_;refine Za M M<|ZX<|Z10r 0 1 2 3 6 7 8 9 10 11 M M M M M M M M M M<|Zm M M<|Zm M M ?_
 refine ZF M (yT M (by kernel_rfl) Tryz.underlying22 M) ?_
 refine ZF M (yS M M (show IntKind.u32.wrap ((org:Int)+IntKind.u32.wrap (n:Int))=(((org+n)%4294967296:Nat):Int) by rw[e1,e1];omega)) ?_;refine Za M M<|ZX<|Z11r 0 1 2 3 6 7 8 9 10 11 12 M M M M M M M M M M M<|Zm M M<|Zm M M<|ZF M (yS M M (show IntKind.i64.wrap ((n:Int)+k)=((n+k:Nat):Int) from i64_in ((n+k:Nat):Int) (by omega) (by omega))) ?_;refine Za M M<|ZT<|yA (ι:={p:LbP // LbI org p}) (fun p=>[(2,.int .u32 org),(7,.bool true),(10,.string ⟨p.1.text.toArray⟩),(11,.int .i64 (p.1.size:Nat)),(12,.int .u32 (p.1.dst:Nat)),(13,.int .i64 (p.1.at_:Nat))]) (fun _=>Hp (fun _=>False) w_0 [] [] (fun _=>True)) ?_ (fun p=>?_)
 ·refine zX<|Z12r 0 1 2 3 6 7 8 9 10 11 12 13 M M M M M M M M M M M M<|Zm M M<|ZT<|zO M (fun h47=>?_) (fun h47=>?_)
  ·refine zX<|zZ<|Zm M M<|zB .none M  (v:=.string ⟨(vJ (bN++[10]) n).toArray⟩) (by kernel_rfl) M (fun w hw=>repeat_any (bN++[10]) n hn1000 hNl w) ?_;(refine ZF rfl (yK rfl rfl ?_) ?_;(· (simp only[List.length_cons,List.length_nil];omega));skip);(refine ZF rfl (yK rfl rfl ?_) ?_;(· (simp only[List.length_append,List.length_cons,List.length_nil];omega));skip);refine Za M M<|ZX<|Z13r 0 1 2 3 6 7 8 9 10 11 12 13 47 M M M M M M M M M M M M M<|Zm M M<|ZF M (yS M M (show IntKind.i64.wrap (5+(n:Int))=((5+n:Nat):Int) from i64_in ((5+n:Nat):Int) (by omega) (by omega))) ?_;refine Za M M<|ZX<|Z13r 0 1 2 3 6 7 8 9 10 11 12 13 47 M M M M M M M M M M M M M<|Zm M M<|Zm M M ?_
   refine ZF M (yT M (by kernel_rfl) Tryz.underlying22 M) ?_
   refine ZF M (yS M M (show IntKind.u32.wrap ((org:Int)+IntKind.u32.wrap ((5+n:Nat):Int))=(((org+(5+n))%4294967296:Nat):Int) by rw[e1,e1];omega)) ?_;exact Za M M<|ZT<|Z13r 0 1 2 3 6 7 8 9 10 11 12 13 47 M M M M M M M M M M M M M<|Za M M<|zJ<|zF (ι:={p:LbP // LbI org p}) ⟨_,hB⟩ (.cons M<|.cons M<|.consE M (by show _=Value.string ⟨(bTextB n).toArray⟩;unfold bTextB;congr 2;try simp[bC,bJ,bW])<|.cons M<|.cons M<|.cons M<|.nil) (fun w h=>Hp.drop h (List.nil_sublist _) (List.Sublist.refl _))
  ·exact zL<|zF (ι:={p:LbP // LbI org p}) ⟨_,hA⟩ (.cons M<|.cons M<|.consE M (by show _=Value.string ⟨(sF n k).toArray⟩;unfold sF;congr 2;simp[bC,bJ,bW])<|.cons M<|.cons M<|.cons M<|.nil) (fun w h=>Hp.drop h (List.nil_sublist _) (List.Sublist.refl _))
 ·obtain⟨⟨T,sz,t,a,pre,mid⟩,hI⟩:=p;obtain⟨hasm,hpl,hsz,ht,ha,hmid⟩:=hI;dsimp only at hasm hpl hsz ht ha hmid ⊢;obtain⟨im,him⟩:∃i,i=subW (subW t ((org+a)%4294967296)) 5:=⟨_,rfl⟩;have him2:im<4294967296:=by rw[him];exact subW_lt _ _
  have hto:((org+a)%4294967296+5+im)%4294967296=t:=by rw[him];exact lb_sub ht (Nat.mod_lt _ (by decide))
  rw[← him] at hasm;obtain⟨C,hC⟩:∃C,C=pre++(112::(xC im 4++(mid++xC t 4))):=⟨_,rfl⟩;rw[← hC] at hasm;have hp4:∀n,(xC n 4).length=4:=fun n=>put_len n 4;have hml4:(mid++xC t 4).length≤1000000:=by rw[List.length_append,hp4];omega
  have ham:(org+a)%4294967296<4294967296:=Nat.mod_lt _ (by decide);have hCl:C.length=sz+4:=by rw[hC];simp only[List.length_append,List.length_cons,hp4];omega
  have hCd:C.drop a=112::byL (im%256)::byL (im/256%256)::byL (im/256/256%256)::byL (im/256/256/256%256)::(mid++xC t 4):=by rw[hC,← hpl,List.drop_left];rfl
  have hgl:getL [byL (im%256),byL (im/256%256),byL (im/256/256%256),byL (im/256/256/256%256)]=im:=getL_putL 4 im (by omega)
  have hCs:∀j,C[sz+j]? = (xC t 4)[j]? := fun j=>by
   have e:C=(pre++(112::(xC im 4++mid)))++xC t 4:=by rw[hC];simp
   have el:(pre++(112::(xC im 4++mid))).length=sz:=by simp only[List.length_append,List.length_cons,hp4];omega
   rw[e,List.getElem?_append_right (by omega),el,Nat.add_sub_cancel_left]
  refine zX<|zZ<|Zm M M<|Zm M M<|zB .none M  (v:=.tuple #[.string ⟨C.toArray⟩,.int .i64 0,.int .i64 0]) (by kernel_rfl) M (fun w hw=>asm_is hasm ho (hw0.ext hw.ext0)) ?_;refine Zm M M<|ZF M (zA M M)<|ZF M (zA M M)<|ZF M (zA M M)<|Za M M<|Za M M<|Za M M<|ZX<|zX<|Z9r 2 7 10 11 12 13 14 15 16 M M M M M M M M M<|Zm M M<|ZF M (vW M M)<|Zm M M<|zH 67 M (fun hb=>?_) (fun hb=>?_)
  ·replace hb:=uB hb;exact absurd M hb
  ·replace hb:=sG hb;refine ZG M M M (zS M)<|ZG M M M (vW M M)<|ZF M (zN M M)<|Zm M M<|zH 71 M (fun hb=>?_) (fun hb=>?_)
   ·replace hb:=uB hb;exact absurd M hb
   ·replace hb:=sG hb;refine ZG M M M (zS M)<|ZG M M M (vN M Tryz.underlying9)<|ZG M M M (zS M)<|ZG M M M (yS M M (show IntKind.i64.wrap ((sz:Int)+4)=((sz+4:Nat):Int) from i64_in ((sz+4:Nat):Int) (by omega) (by omega))) ?_;refine ZG M M M (vW M M)<|ZF M (zN M M)<|ZT<|zO M (fun h77=>?_) (fun h77=>?_)
    ·replace h77:=uB h77;exact absurd (by rw[hCl]) h77
    ·replace h77:=sG h77;refine zL<|zT<|zX<|Z10r 2 7 10 11 12 13 14 15 16 77 M M M M M M M M M M<|Zm M M<|Zm M M<|ZF M (yf_strLo (c:=112::byL (im%256)::byL (im/256%256)::byL (im/256/256%256)::byL (im/256/256/256%256)::(mid++xC t 4)) M M Tryz.underlying9 (by omega) (by omega) (by rw[Int.toNat_natCast];exact hCd)) ?_
     refine zB .none M  (v:=.agg (kiC (jmI im)++([.int .i64 0]:List Value)).toArray) (by kernel_rfl) M (fun w hw=>by
      have:=rdecode_jm (byL (im%256)) (byL (im/256%256)) (byL (im/256/256%256)) (byL (im/256/256/256%256)) (mid++xC t 4) hml4 w
      rw[hgl] at this;exact this) ?_
     refine zK .none M (yW (z:=.agg #[.int .i64 0,.int .i64 0,.int .i64 0,.int .i64 0,.int .i64 0,.int .u32 0,.int .i64 0,.int .i64 0]) (cs:=[.int .i64 0,.int .i64 0,.int .i64 0,.int .i64 0,.int .i64 0,.int .u32 0,.int .i64 0,.int .i64 0]) (by kernel_rfl) M) (fun b17=>?_);refine ZR 0 M M M M M (by kernel_rfl) ?_;refine ZX<|Z11r 2 7 10 11 12 13 14 15 16 17 77 M M M M M M M M M M M<|ZF M (zY (off:=0) (sz:=6) M Tryz.underlying37 (by kernel_rfl) M) ?_
     refine ZF M (xU (cs:=kiC (jmI im)) M Tryz.underlying35 M (by kernel_rfl) (fun w hw=>HpG.range (k:=0) hw M (fun j v hj=>by
      show (kiC (jmI im)++([.int .i64 0]:List Value))[0+0+j]? = some v;rw[show 0+0+j=j by omega]
      exact (List.getElem?_append_left (List.getElem?_eq_some_iff.1 hj).1).trans hj))) ?_
     refine Zm M M<|Zm M M ?_
     refine ZF M (yT M (by kernel_rfl) Tryz.underlying22 M) ?_
     refine ZF M (yS M M (show IntKind.u32.wrap ((org:Int)+IntKind.u32.wrap (a:Int))=(((org+a)%4294967296:Nat):Int) by rw[e1,e1];omega)) ?_
     refine zB .none M  (v:=.agg #[.int .u32 (t:Nat),.bool true]) (by kernel_rfl) M (fun w hw=>by
      have:=rtarget_jm im ((org+a)%4294967296) ham w
      rw[hto] at this;exact this) ?_
     refine zK .none M (yW (z:=.agg #[.int .u32 0,.bool false]) (cs:=[.int .u32 0,.bool false]) (by kernel_rfl) M) (fun b18=>?_);refine ZR 0 M M M M M (by kernel_rfl) ?_;refine ZX<|Z12 2 7 10 11 12 13 14 15 16 17 18 77 M M M M M M M M M M M M<|wc_draw0 [0,1,2,3,4,5,6,7,8,9,10,11,12,13,14,15,16,17,18,19,20,21,22,23,24,25] _ (by kernel_rfl) (by kernel_rfl) HpG.stab HpG.stab (fun _ h=>HpG.drew h) (fun _ h=>h) ?_;refine Zd M M M (zS M)<|Zd M M M (zS M)<|Zd M M M (xZ (j:=sz) (c:=byL (t%256)) M M Tryz.underlying9 M (by have:=hCs 0;rw[Nat.add_zero] at this;exact this.trans M)) ?_;refine wZ M ?_
     (refine xO ?_ .none rfl (yT rfl (by kernel_rfl) Tryz.underlying22 (show IntKind.u32.wrap ((byL (t%256)).toNat:Nat)=((t%256):Nat) by rw[byL_mod,e1];omega)) ?_;·rfl)
     refine wZ M ?_;(refine xO ?_ .none rfl (zS rfl) ?_;·rfl);refine Zd M M M (zS M)<|Zd M M M (yS M M (show IntKind.i64.wrap ((sz:Int)+1)=((sz+1:Nat):Int) from i64_in ((sz+1:Nat):Int) (by omega) (by omega))) ?_;refine Zd M M M (xZ (j:=sz+1) (c:=byL (t/256%256)) M M Tryz.underlying9 M (by exact (hCs 1).trans M)) ?_;refine wZ M ?_
     (refine xO ?_ .none rfl (yT rfl (by kernel_rfl) Tryz.underlying22 (show IntKind.u32.wrap ((byL (t/256%256)).toNat:Nat)=((t/256%256):Nat) by rw[byL_mod,e1];omega)) ?_;·rfl)
     refine wZ M ?_;(refine xO ?_ .none rfl (tW rfl rfl ?_ (show IntKind.u32.wrap (((t/256%256):Nat)*2 ^ (min (8:Int).toNat IntKind.u32.bits))=((t/256%256)*256:Nat) by rw[show min (8:Int).toNat IntKind.u32.bits=8 from rfl,e1];omega)) ?_;(· rfl);(· first|decide|omega);skip);refine Zd M M M (yS M M (show IntKind.u32.wrap (((t%256):Nat)+((t/256%256)*256:Nat))=((t%256+t/256%256*256):Nat) by rw[e1];omega)) ?_;refine Zd M M M (zS M)<|Zd M M M (zS M)<|Zd M M M (yS M M (show IntKind.i64.wrap ((sz:Int)+2)=((sz+2:Nat):Int) from i64_in ((sz+2:Nat):Int) (by omega) (by omega))) ?_;refine Zd M M M (xZ (j:=sz+2) (c:=byL (t/256/256%256)) M M Tryz.underlying9 M (by exact (hCs 2).trans M)) ?_;refine wZ M ?_
     (refine xO ?_ .none rfl (yT rfl (by kernel_rfl) Tryz.underlying22 (show IntKind.u32.wrap ((byL (t/256/256%256)).toNat:Nat)=((t/256/256%256):Nat) by rw[byL_mod,e1];omega)) ?_;·rfl)
     refine wZ M ?_;(refine xO ?_ .none rfl (tW rfl rfl ?_ (show IntKind.u32.wrap (((t/256/256%256):Nat)*2 ^ (min (16:Int).toNat IntKind.u32.bits))=((t/256/256%256)*65536:Nat) by rw[show min (16:Int).toNat IntKind.u32.bits=16 from rfl,e1];omega)) ?_;(· rfl);(· first|decide|omega);skip);refine Zd M M M (yS M M (show IntKind.u32.wrap (((t%256+t/256%256*256):Nat)+((t/256/256%256)*65536:Nat))=((t%256+t/256%256*256+t/256/256%256*65536):Nat) by rw[e1];omega)) ?_;refine Zd M M M (zS M)<|Zd M M M (zS M)<|Zd M M M (yS M M (show IntKind.i64.wrap ((sz:Int)+3)=((sz+3:Nat):Int) from i64_in ((sz+3:Nat):Int) (by omega) (by omega))) ?_;refine Zd M M M (xZ (j:=sz+3) (c:=byL (t/256/256/256%256)) M M Tryz.underlying9 M (by exact (hCs 3).trans M)) ?_;refine wZ M ?_
     (refine xO ?_ .none rfl (yT rfl (by kernel_rfl) Tryz.underlying22 (show IntKind.u32.wrap ((byL (t/256/256/256%256)).toNat:Nat)=((t/256/256/256%256):Nat) by rw[byL_mod,e1];omega)) ?_;·rfl)
     refine wZ M ?_;(refine xO ?_ .none rfl (tW rfl rfl ?_ (show IntKind.u32.wrap (((t/256/256/256%256):Nat)*2 ^ (min (24:Int).toNat IntKind.u32.bits))=((t/256/256/256%256)*16777216:Nat) by rw[show min (24:Int).toNat IntKind.u32.bits=24 from rfl,e1];omega)) ?_;(· rfl);(· first|decide|omega);skip);refine Zd M M M (yS M M (show IntKind.u32.wrap (((t%256+t/256%256*256+t/256/256%256*65536):Nat)+((t/256/256/256%256)*16777216:Nat))=(t:Nat) by rw[e1];omega)) ?_;refine Zd M M M (uZ M)<|wd_end<|zT<|zX<|Z13r 2 7 10 11 12 13 14 15 16 17 18 19 77 M M M M M M M M M M M M M<|Zm M M<|Zm M M<|zH 115 M (fun hb=>?_) (fun hb=>?_)
     ·refine ZG M M M (zY (off:=0) (sz:=6) M Tryz.underlying37 (by kernel_rfl) M) ?_;refine ZG M M M (zY (off:=0) (sz:=0) M Tryz.underlying35 (by kernel_rfl) M) ?_;refine ZG M M M (zV 1 M M M Tryz.underlying3 M)<|ZG M M M (yY M M)<|ZF M (zM M M)<|Zm M M<|zH 121 M (fun hb=>?_) (fun hb=>?_)
      ·replace hb:=eq_of_beq hb;refine ZG M M M (zY (off:=1) (sz:=0) M Tryz.underlying40 (by kernel_rfl) M) ?_;refine ZG M M M (zV 0 M M M Tryz.underlying4 M)<|ZF M (zM M M)<|Zm M M<|zH 125 M (fun hb=>?_) (fun hb=>?_)
       ·refine ZG M M M (zY (off:=0) (sz:=0) M Tryz.underlying40 (by kernel_rfl) M) ?_;refine ZG M M M (zV 0 M M M Tryz.underlying22 M)<|ZG M M M (zS M)<|ZG M M M (yY M M)<|ZF M (zM M M)<|Zm M M<|zH 131 M (fun hb=>?_) (fun hb=>?_)
        ·replace hb:=eq_of_beq hb;refine ZG M M M (zS M)<|ZG M M M (zS M)<|ZG M M M (yY M M)<|ZF M (zM M M)<|Za M M<|ZT<|zQ<|zR M M (fun w hw=>?_);exact⟨by rw[beq_self_eq_true],hw.ext0⟩
        ·replace hb:=xV hb
         first|cases hb|exact absurd rfl hb
       ·first|cases hb|exact absurd rfl hb
      ·replace hb:=xV hb
       first|cases hb|exact absurd rfl hb
     ·first|cases hb|exact absurd rfl hb
end Go.Proofs.YtkaepknpplhgkaaGreatDoor
