import Derived.Test.YtkaepknpplhgkaaGreatDoorMah
namespace Go.Proofs.YtkaepknpplhgkaaGreatDoor
open Go.RowKit
def fmN (op:Int):Nat :=
 if 0≤op∧op≤4 then 1 else if 16≤op∧op≤21 then 2 else if 32≤op∧op≤46 then 3 else if 48≤op∧op≤62 then 4 else if 64≤op∧op≤78 then 5
 else if 80≤op∧op≤86 then 6 else if 88≤op∧op≤94 then 7 else if 96≤op∧op≤109 then 8 else if op=112∨op=113 then 9 else if 128≤op∧op≤130 then (op-118).toNat else 0
def szN (f:Nat):Nat:=[0,1,2,2,3,6,3,7,2,5,2,2,2].getD f 0
theorem fmN_lt (op:Int):fmN op<13:=by
 unfold fmN
 repeat' split
 all_goals omega
set_option maxRecDepth 100000 in
theorem oP (op:Int) (w_0:World):Calls Tryz.prog 55 #[.int .i64 op] w_0 fun e w'=>e=.returned (.int .i64 (fmN op))∧Ext w_0 w':=by
 generalize hv:fmN op=v;unfold fmN at hv;refine zH (args:=[.int .i64 op]) Tryz.func55 M 66 M (Kc M)<|Z1 0 M<|zR (H':=Hp (fun _=>False) w_0 [] [] (fun _=>True)) (fun u hu=>?_) ?_
 ·subst hu;exact Hp.start0
 refine zX<|zZ<|Za M M<|ZX<|yN (ι:=Unit) (fun _=>[(0,.int .i64 op),(8,.bool (decide (0≤op∧op≤4)))]) (fun _=>Hp (fun _=>False) w_0 [] [] (fun _=>True)) ?_ (fun _=>?_)
 ·refine zZ<|Zm M M<|ZF M (xY M M)<|Zm M M<|zF 5 M (fun g3=>?_) (fun g3=>?_)
  ·replace g3:=Ke g3;exact ZG rfl rfl rfl (zK rfl)<|ZG rfl rfl rfl (xL rfl rfl)<|ZF rfl (zJ rfl rfl)<|zI<|zU (ι:=Unit) () (.cons rfl<|.consE rfl (by congr 1;first|(rw[Ka,Ac,Ac];omega)|(rw[eq_comm,Ac];omega)|(rw[eq_comm,decide_eq_false_iff_not];omega)|(rw[Ka,Ai,Ac];omega))<|.nil) Jv
  ·replace g3:=Kf g3;exact ZP rfl<|ZP rfl<|ZF rfl (zM rfl rfl)<|zI<|zU (ι:=Unit) () (.cons rfl<|.consE rfl (by congr 1;first|(rw[Ka,Ac,Ac];omega)|(rw[eq_comm,Ac];omega)|(rw[eq_comm,decide_eq_false_iff_not];omega)|(rw[Ka,Ai,Ac];omega))<|.nil) Jv
 ·refine zW M (fun h8=>?_) (fun h8=>?_)
  ·replace h8:=Ke h8;refine zX<|zZ<|Za M M<|ZT<|zQ<|zT<|zO M M (fun w hw=>?_);exact⟨by rw[← hv,Ae ‹_›];rfl,hw.ext0⟩
  ·replace h8:=Kf h8;refine zL<|zP<|zX<|yN (ι:=Unit) (fun _=>[(0,.int .i64 op),(14,.bool (decide (16≤op∧op≤21)))]) (fun _=>Hp (fun _=>False) w_0 [] [] (fun _=>True)) ?_ (fun _=>?_)
   ·refine zZ<|Zm M M<|ZF M (xY M M)<|Zm M M<|zF 11 M (fun g3=>?_) (fun g3=>?_)
    ·replace g3:=Ke g3;exact ZG rfl rfl rfl (zK rfl)<|ZG rfl rfl rfl (xL rfl rfl)<|ZF rfl (zJ rfl rfl)<|zI<|zU (ι:=Unit) () (.cons rfl<|.consE rfl (by congr 1;first|(rw[Ka,Ac,Ac];omega)|(rw[eq_comm,Ac];omega)|(rw[eq_comm,decide_eq_false_iff_not];omega)|(rw[Ka,Ai,Ac];omega))<|.nil) Jv
    ·replace g3:=Kf g3;exact ZP rfl<|ZP rfl<|ZF rfl (zM rfl rfl)<|zI<|zU (ι:=Unit) () (.cons rfl<|.consE rfl (by congr 1;first|(rw[Ka,Ac,Ac];omega)|(rw[eq_comm,Ac];omega)|(rw[eq_comm,decide_eq_false_iff_not];omega)|(rw[Ka,Ai,Ac];omega))<|.nil) Jv
   ·refine zW M (fun h14=>?_) (fun h14=>?_)
    ·replace h14:=Ke h14;refine zX<|zZ<|Za M M<|ZT<|zQ<|zT<|zO M M (fun w hw=>?_);exact⟨by rw[← hv,Ad ‹_›,Ae ‹_›];rfl,hw.ext0⟩
    ·replace h14:=Kf h14;refine zL<|zP<|zX<|yN (ι:=Unit) (fun _=>[(0,.int .i64 op),(20,.bool (decide (32≤op∧op≤46)))]) (fun _=>Hp (fun _=>False) w_0 [] [] (fun _=>True)) ?_ (fun _=>?_)
     ·refine zZ<|Zm M M<|ZF M (xY M M)<|Zm M M<|zF 17 M (fun g3=>?_) (fun g3=>?_)
      ·replace g3:=Ke g3;exact ZG rfl rfl rfl (zK rfl)<|ZG rfl rfl rfl (xL rfl rfl)<|ZF rfl (zJ rfl rfl)<|zI<|zU (ι:=Unit) () (.cons rfl<|.consE rfl (by congr 1;first|(rw[Ka,Ac,Ac];omega)|(rw[eq_comm,Ac];omega)|(rw[eq_comm,decide_eq_false_iff_not];omega)|(rw[Ka,Ai,Ac];omega))<|.nil) Jv
      ·replace g3:=Kf g3;exact ZP rfl<|ZP rfl<|ZF rfl (zM rfl rfl)<|zI<|zU (ι:=Unit) () (.cons rfl<|.consE rfl (by congr 1;first|(rw[Ka,Ac,Ac];omega)|(rw[eq_comm,Ac];omega)|(rw[eq_comm,decide_eq_false_iff_not];omega)|(rw[Ka,Ai,Ac];omega))<|.nil) Jv
     ·refine zW M (fun h20=>?_) (fun h20=>?_)
      ·replace h20:=Ke h20;refine zX<|zZ<|Za M M<|ZT<|zQ<|zT<|zO M M (fun w hw=>?_);exact⟨by rw[← hv,Ad ‹_›,Ad ‹_›,Ae ‹_›];rfl,hw.ext0⟩
      ·replace h20:=Kf h20;refine zL<|zP<|zX<|yN (ι:=Unit) (fun _=>[(0,.int .i64 op),(26,.bool (decide (48≤op∧op≤62)))]) (fun _=>Hp (fun _=>False) w_0 [] [] (fun _=>True)) ?_ (fun _=>?_)
       ·refine zZ<|Zm M M<|ZF M (xY M M)<|Zm M M<|zF 23 M (fun g3=>?_) (fun g3=>?_)
        ·replace g3:=Ke g3;exact ZG rfl rfl rfl (zK rfl)<|ZG rfl rfl rfl (xL rfl rfl)<|ZF rfl (zJ rfl rfl)<|zI<|zU (ι:=Unit) () (.cons rfl<|.consE rfl (by congr 1;first|(rw[Ka,Ac,Ac];omega)|(rw[eq_comm,Ac];omega)|(rw[eq_comm,decide_eq_false_iff_not];omega)|(rw[Ka,Ai,Ac];omega))<|.nil) Jv
        ·replace g3:=Kf g3;exact ZP rfl<|ZP rfl<|ZF rfl (zM rfl rfl)<|zI<|zU (ι:=Unit) () (.cons rfl<|.consE rfl (by congr 1;first|(rw[Ka,Ac,Ac];omega)|(rw[eq_comm,Ac];omega)|(rw[eq_comm,decide_eq_false_iff_not];omega)|(rw[Ka,Ai,Ac];omega))<|.nil) Jv
       ·refine zW M (fun h26=>?_) (fun h26=>?_)
        ·replace h26:=Ke h26;refine zX<|zZ<|Za M M<|ZT<|zQ<|zT<|zO M M (fun w hw=>?_);exact⟨by rw[← hv,Ad ‹_›,Ad ‹_›,Ad ‹_›,Ae ‹_›];rfl,hw.ext0⟩
        ·replace h26:=Kf h26;refine zL<|zP<|zX<|yN (ι:=Unit) (fun _=>[(0,.int .i64 op),(32,.bool (decide (64≤op∧op≤78)))]) (fun _=>Hp (fun _=>False) w_0 [] [] (fun _=>True)) ?_ (fun _=>?_)
         ·refine zZ<|Zm M M<|ZF M (xY M M)<|Zm M M<|zF 29 M (fun g3=>?_) (fun g3=>?_)
          ·replace g3:=Ke g3;exact ZG rfl rfl rfl (zK rfl)<|ZG rfl rfl rfl (xL rfl rfl)<|ZF rfl (zJ rfl rfl)<|zI<|zU (ι:=Unit) () (.cons rfl<|.consE rfl (by congr 1;first|(rw[Ka,Ac,Ac];omega)|(rw[eq_comm,Ac];omega)|(rw[eq_comm,decide_eq_false_iff_not];omega)|(rw[Ka,Ai,Ac];omega))<|.nil) Jv
          ·replace g3:=Kf g3;exact ZP rfl<|ZP rfl<|ZF rfl (zM rfl rfl)<|zI<|zU (ι:=Unit) () (.cons rfl<|.consE rfl (by congr 1;first|(rw[Ka,Ac,Ac];omega)|(rw[eq_comm,Ac];omega)|(rw[eq_comm,decide_eq_false_iff_not];omega)|(rw[Ka,Ai,Ac];omega))<|.nil) Jv
         ·refine zW M (fun h32=>?_) (fun h32=>?_)
          ·replace h32:=Ke h32;refine zX<|zZ<|Za M M<|ZT<|zQ<|zT<|zO M M (fun w hw=>?_);exact⟨by rw[← hv,Ad ‹_›,Ad ‹_›,Ad ‹_›,Ad ‹_›,Ae ‹_›];rfl,hw.ext0⟩
          ·replace h32:=Kf h32;refine zL<|zP<|zX<|yN (ι:=Unit) (fun _=>[(0,.int .i64 op),(38,.bool (decide (80≤op∧op≤86)))]) (fun _=>Hp (fun _=>False) w_0 [] [] (fun _=>True)) ?_ (fun _=>?_)
           ·refine zZ<|Zm M M<|ZF M (xY M M)<|Zm M M<|zF 35 M (fun g3=>?_) (fun g3=>?_)
            ·replace g3:=Ke g3;exact ZG rfl rfl rfl (zK rfl)<|ZG rfl rfl rfl (xL rfl rfl)<|ZF rfl (zJ rfl rfl)<|zI<|zU (ι:=Unit) () (.cons rfl<|.consE rfl (by congr 1;first|(rw[Ka,Ac,Ac];omega)|(rw[eq_comm,Ac];omega)|(rw[eq_comm,decide_eq_false_iff_not];omega)|(rw[Ka,Ai,Ac];omega))<|.nil) Jv
            ·replace g3:=Kf g3;exact ZP rfl<|ZP rfl<|ZF rfl (zM rfl rfl)<|zI<|zU (ι:=Unit) () (.cons rfl<|.consE rfl (by congr 1;first|(rw[Ka,Ac,Ac];omega)|(rw[eq_comm,Ac];omega)|(rw[eq_comm,decide_eq_false_iff_not];omega)|(rw[Ka,Ai,Ac];omega))<|.nil) Jv
           ·refine zW M (fun h38=>?_) (fun h38=>?_)
            ·replace h38:=Ke h38;refine zX<|zZ<|Za M M<|ZT<|zQ<|zT<|zO M M (fun w hw=>?_);exact⟨by rw[← hv,Ad ‹_›,Ad ‹_›,Ad ‹_›,Ad ‹_›,Ad ‹_›,Ae ‹_›];rfl,hw.ext0⟩
            ·replace h38:=Kf h38;refine zL<|zP<|zX<|yN (ι:=Unit) (fun _=>[(0,.int .i64 op),(44,.bool (decide (88≤op∧op≤94)))]) (fun _=>Hp (fun _=>False) w_0 [] [] (fun _=>True)) ?_ (fun _=>?_)
             ·refine zZ<|Zm M M<|ZF M (xY M M)<|Zm M M<|zF 41 M (fun g3=>?_) (fun g3=>?_)
              ·replace g3:=Ke g3;exact ZG rfl rfl rfl (zK rfl)<|ZG rfl rfl rfl (xL rfl rfl)<|ZF rfl (zJ rfl rfl)<|zI<|zU (ι:=Unit) () (.cons rfl<|.consE rfl (by congr 1;first|(rw[Ka,Ac,Ac];omega)|(rw[eq_comm,Ac];omega)|(rw[eq_comm,decide_eq_false_iff_not];omega)|(rw[Ka,Ai,Ac];omega))<|.nil) Jv
              ·replace g3:=Kf g3;exact ZP rfl<|ZP rfl<|ZF rfl (zM rfl rfl)<|zI<|zU (ι:=Unit) () (.cons rfl<|.consE rfl (by congr 1;first|(rw[Ka,Ac,Ac];omega)|(rw[eq_comm,Ac];omega)|(rw[eq_comm,decide_eq_false_iff_not];omega)|(rw[Ka,Ai,Ac];omega))<|.nil) Jv
             ·refine zW M (fun h44=>?_) (fun h44=>?_)
              ·replace h44:=Ke h44;refine zX<|zZ<|Za M M<|ZT<|zQ<|zT<|zO M M (fun w hw=>?_);exact⟨by rw[← hv,Ad ‹_›,Ad ‹_›,Ad ‹_›,Ad ‹_›,Ad ‹_›,Ad ‹_›,Ae ‹_›];rfl,hw.ext0⟩
              ·replace h44:=Kf h44;refine zL<|zP<|zX<|yN (ι:=Unit) (fun _=>[(0,.int .i64 op),(50,.bool (decide (96≤op∧op≤109)))]) (fun _=>Hp (fun _=>False) w_0 [] [] (fun _=>True)) ?_ (fun _=>?_)
               ·refine zZ<|Zm M M<|ZF M (xY M M)<|Zm M M<|zF 47 M (fun g3=>?_) (fun g3=>?_)
                ·replace g3:=Ke g3;exact ZG rfl rfl rfl (zK rfl)<|ZG rfl rfl rfl (xL rfl rfl)<|ZF rfl (zJ rfl rfl)<|zI<|zU (ι:=Unit) () (.cons rfl<|.consE rfl (by congr 1;first|(rw[Ka,Ac,Ac];omega)|(rw[eq_comm,Ac];omega)|(rw[eq_comm,decide_eq_false_iff_not];omega)|(rw[Ka,Ai,Ac];omega))<|.nil) Jv
                ·replace g3:=Kf g3;exact ZP rfl<|ZP rfl<|ZF rfl (zM rfl rfl)<|zI<|zU (ι:=Unit) () (.cons rfl<|.consE rfl (by congr 1;first|(rw[Ka,Ac,Ac];omega)|(rw[eq_comm,Ac];omega)|(rw[eq_comm,decide_eq_false_iff_not];omega)|(rw[Ka,Ai,Ac];omega))<|.nil) Jv
               ·refine zW M (fun h50=>?_) (fun h50=>?_)
                ·replace h50:=Ke h50;refine zX<|zZ<|Za M M<|ZT<|zQ<|zT<|zO M M (fun w hw=>?_);exact⟨by rw[← hv,Ad ‹_›,Ad ‹_›,Ad ‹_›,Ad ‹_›,Ad ‹_›,Ad ‹_›,Ad ‹_›,Ae ‹_›];rfl,hw.ext0⟩
                ·replace h50:=Kf h50;refine zL<|zP<|zX<|yN (ι:=Unit) (fun _=>[(0,.int .i64 op),(56,.bool (decide (op=112∨op=113)))]) (fun _=>Hp (fun _=>False) w_0 [] [] (fun _=>True)) ?_ (fun _=>?_)
                 ·refine zZ<|Zm M M<|ZF M (yY M M)<|Zm M M<|zF 53 M (fun g3=>?_) (fun g3=>?_)
                  ·replace g3:=Km g3;exact ZP rfl<|ZP rfl<|ZF rfl (zJ rfl rfl)<|zI<|zU (ι:=Unit) () (.cons rfl<|.consE rfl (by congr 1;first|(rw[Ka,Ac,Ac];omega)|(rw[eq_comm,Ac];omega)|(rw[eq_comm,decide_eq_false_iff_not];omega)|(rw[Ka,Ai,Ac];omega))<|.nil) Jv
                  ·replace g3:=yR g3;exact ZG rfl rfl rfl (zK rfl)<|ZG rfl rfl rfl (yY rfl rfl)<|ZF rfl (zM rfl rfl)<|zI<|zU (ι:=Unit) () (.cons rfl<|.consE rfl (by congr 1;first|(rw[Ka,Ac,Ac];omega)|(rw[eq_comm,Ac];omega)|(rw[eq_comm,decide_eq_false_iff_not];omega)|(rw[Ka,Ai,Ac];omega))<|.nil) Jv
                 ·refine zW M (fun h56=>?_) (fun h56=>?_)
                  ·replace h56:=Ke h56;refine zX<|zZ<|Za M M<|ZT<|zQ<|zT<|zO M M (fun w hw=>?_);exact⟨by rw[← hv,Ad ‹_›,Ad ‹_›,Ad ‹_›,Ad ‹_›,Ad ‹_›,Ad ‹_›,Ad ‹_›,Ad ‹_›,Ae ‹_›];rfl,hw.ext0⟩
                  ·replace h56:=Kf h56;refine zL<|zP<|zX<|yN (ι:=Unit) (fun _=>[(0,.int .i64 op),(62,.bool (decide (128≤op∧op≤130)))]) (fun _=>Hp (fun _=>False) w_0 [] [] (fun _=>True)) ?_ (fun _=>?_)
                   ·refine zZ<|Zm M M<|ZF M (xY M M)<|Zm M M<|zF 59 M (fun g3=>?_) (fun g3=>?_)
                    ·replace g3:=Ke g3;exact ZG rfl rfl rfl (zK rfl)<|ZG rfl rfl rfl (xL rfl rfl)<|ZF rfl (zJ rfl rfl)<|zI<|zU (ι:=Unit) () (.cons rfl<|.consE rfl (by congr 1;first|(rw[Ka,Ac,Ac];omega)|(rw[eq_comm,Ac];omega)|(rw[eq_comm,decide_eq_false_iff_not];omega)|(rw[Ka,Ai,Ac];omega))<|.nil) Jv
                    ·replace g3:=Kf g3;exact ZP rfl<|ZP rfl<|ZF rfl (zM rfl rfl)<|zI<|zU (ι:=Unit) () (.cons rfl<|.consE rfl (by congr 1;first|(rw[Ka,Ac,Ac];omega)|(rw[eq_comm,Ac];omega)|(rw[eq_comm,decide_eq_false_iff_not];omega)|(rw[Ka,Ai,Ac];omega))<|.nil) Jv
                   ·refine zW M (fun h62=>?_) (fun h62=>?_)
                    ·replace h62:=Ke h62;refine zX<|zZ<|Zm M M<|ZF M (xV M M (i64_in _ (by omega) (by omega))) ?_;refine ZF M (yO M M (show IntKind.i64.wrap (op-128+10)=((op-118).toNat:Nat) by rw[i64_in _ (by omega) (by omega)];omega)) ?_;refine Za M M<|ZT<|zQ<|zT<|zO M M (fun w hw=>?_);exact⟨by rw[← hv,Ad ‹_›,Ad ‹_›,Ad ‹_›,Ad ‹_›,Ad ‹_›,Ad ‹_›,Ad ‹_›,Ad ‹_›,Ad ‹_›,Ae ‹_›],hw.ext0⟩
                    ·replace h62:=Kf h62;refine zL<|zP<|zX<|zZ<|Za M M<|ZT<|zQ<|zO M M (fun w hw=>?_);exact⟨by rw[← hv,Ad ‹_›,Ad ‹_›,Ad ‹_›,Ad ‹_›,Ad ‹_›,Ad ‹_›,Ad ‹_›,Ad ‹_›,Ad ‹_›,Ad ‹_›];rfl,hw.ext0⟩
theorem szN_at {f:Nat}(h:f<13):([.int .i64 0,.int .i64 1,.int .i64 2,.int .i64 2,.int .i64 3,.int .i64 6,.int .i64 3,.int .i64 7,.int .i64 2,.int .i64 5,.int .i64 2,.int .i64 2,.int .i64 2]:List Value)[0+f*1]? = some (.int .i64 (szN f:Nat)):=by
 have h1:(List.range 13).all (fun f=>decide (([0,1,2,2,3,6,3,7,2,5,2,2,2]:List Nat)[f]? = some (szN f)))=true:=by decide
 have h2:=Ke (tP h1 f h);have e:([.int .i64 0,.int .i64 1,.int .i64 2,.int .i64 2,.int .i64 3,.int .i64 6,.int .i64 3,.int .i64 7,.int .i64 2,.int .i64 5,.int .i64 2,.int .i64 2,.int .i64 2]:List Value)=([0,1,2,2,3,6,3,7,2,5,2,2,2]:List Nat).map fun n=>.int .i64 (n:Nat):=rfl;rw[e,List.getElem?_map,Kz,Nat.mul_one,h2];rfl
theorem rsize_any (c:Nat) (hc:c<256) (w_0:World):Calls Tryz.prog 52 #[.int .u8 c] w_0 fun e w'=>e=.returned (.int .i64 (szN (fmN c):Nat))∧Ext w_0 w':=by
 have hf:=fmN_lt c;refine zH (args:=[.int .u8 c]) Tryz.func52 M 10 M (Kc M)<|Z1 0 M<|zR (H':=Hp (fun _=>False) w_0 [] [] (fun _=>True)) (fun u hu=>?_) ?_
 ·subst hu;exact Hp.start0
 refine zX<|zZ<|Za M M<|ZX<|zZ<|ZF M (wT (cells:=#[.int .i64 0,.int .i64 1,.int .i64 2,.int .i64 2,.int .i64 3,.int .i64 6,.int .i64 3,.int .i64 7,.int .i64 2,.int .i64 5,.int .i64 2,.int .i64 2,.int .i64 2]) M (by kernel_rfl)) ?_;refine zC .none M (yS (z:=.agg #[.int .i64 0,.int .i64 0,.int .i64 0,.int .i64 0,.int .i64 0,.int .i64 0,.int .i64 0,.int .i64 0,.int .i64 0,.int .i64 0,.int .i64 0,.int .i64 0,.int .i64 0]) (cs:=[.int .i64 0,.int .i64 0,.int .i64 0,.int .i64 0,.int .i64 0,.int .i64 0,.int .i64 0,.int .i64 0,.int .i64 0,.int .i64 0,.int .i64 0,.int .i64 0,.int .i64 0]) (by kernel_rfl) M) (fun b3=>?_);refine ZR 0 M M M M M (by kernel_rfl) ?_;refine ZX<|Z3r 0 2 3 M M M<|Zm M M ?_
 refine ZF M (yQ M (by kernel_rfl) U3 (wK (by omega))) ?_
 refine zE .none M  (v:=.int .i64 (fmN c:Nat)) (by kernel_rfl) M (fun w hw=>oP c w) ?_;refine ZF M (xC (es:=1) (j:=fmN c) M M Tryz.underlying203 (by kernel_rfl) M hf M) ?_;refine ZF M (zD M U3 M (fun w hw=>HpG.cell (k:=0) hw M (szN_at hf))) ?_;refine Za M M<|ZT<|zQ<|zO M M (fun w hw=>?_);exact⟨rfl,hw.ext0⟩
end Go.Proofs.YtkaepknpplhgkaaGreatDoor
namespace Go.Proofs.YtkaepknpplhgkaaGreatDoor
open Go.RowKit
theorem rreg_any (n:Int) (w_0:World):Calls Tryz.prog 143 #[.int .i64 n] w_0 fun e w'=>e=.returned (.bool (decide (0≤n∧n<8)))∧Ext w_0 w':=by
 refine zH (args:=[.int .i64 n]) Tryz.func143 M 9 M (Kc M)<|Z1 0 M<|zR (H':=Hp (fun _=>False) w_0 [] [] (fun _=>True)) (fun u hu=>?_) ?_
 ·subst hu;exact Hp.start0
 refine zX<|zZ<|Za M M<|ZX<|zZ<|Zm M M<|ZF M (xY M M)<|Zm M M<|zF 5 M (fun g3=>?_) (fun g3=>?_)
 ·replace g3:=Ke g3;refine ZG M M M (zK M)<|ZG M M M (yB M M)<|ZF M (zJ M M)<|Za M M<|ZT<|zQ<|zO M M (fun w hw=>?_);exact⟨by congr 2;rw[Ka,Ac,Ac];omega,hw.ext0⟩
 ·replace g3:=Kf g3;refine ZP M<|ZP M<|ZF M (zM M M)<|Za M M<|ZT<|zQ<|zO M M (fun w hw=>?_);exact⟨by rw[Ak (by omega)],hw.ext0⟩
theorem long_sum (a b c d:UInt8):getL [a,b,c,d]=((a.toNat+256*b.toNat)+65536*c.toNat)+16777216*d.toNat:=by
 show a.toNat+256*(b.toNat+256*(c.toNat+256*(d.toNat+256*0)))=_;omega
theorem rlong_any (a b c d:UInt8) (r:Bs) (w_0:World):Calls Tryz.prog 142 #[.string ⟨(a::b::c::d::r).toArray⟩] w_0 fun e w'=>e=.returned (.int .u32 (getL [a,b,c,d]:Nat))∧Ext w_0 w':=by
 have ha:=UInt8.toNat_lt a;have hb:=UInt8.toNat_lt b;have hc:=UInt8.toNat_lt c;have hd:=UInt8.toNat_lt d;have e0:∀x:Nat,x<4294967296→IntKind.u32.wrap (x:Int)=x:=fun x hx=>u32n hx (Ab _);rw[long_sum];refine zH (args:=[.string ⟨(a::b::c::d::r).toArray⟩]) Tryz.func142 M 21 M (Kc M)<|Z1 0 M<|zR (H':=Hp (fun _=>False) w_0 [] [] (fun _=>True)) (fun u hu=>?_) ?_
 ·subst hu;exact Hp.start0
 refine zX<|zZ<|Za M M<|ZX<|wc_draw0 [0,1,2,3,4,5,6,7,8,9,10,11,12,13,14,15,16,17,18] _ (by kernel_rfl) (by kernel_rfl) HpG.stab HpG.stab (fun _ h=>HpG.drew h) (fun _ h=>h) ?_;refine Zd M M M (zK M)<|Zd M M M (yH (j:=0) M M Tryz.underlying9 M M)<|wU M ?_
 refine uB M .none M (yQ M (by kernel_rfl) U22 (e0 a.toNat (by omega))) ?_
 refine wU M<|uB M .none M (zK M)<|Zd M M M (yH (j:=1) M M Tryz.underlying9 M M)<|wU M ?_
 refine uB M .none M (yQ M (by kernel_rfl) U22 (e0 b.toNat (by omega))) ?_
 refine wU M<|uB M .none M (sY M M (e0 (256*b.toNat) (by omega))) ?_;refine Zd M M M (yO M M (e0 (a.toNat+256*b.toNat) (by omega))) ?_;refine Zd M M M (zK M)<|Zd M M M (yH (j:=2) M M Tryz.underlying9 M M)<|wU M ?_
 refine uB M .none M (yQ M (by kernel_rfl) U22 (e0 c.toNat (by omega))) ?_
 refine wU M<|uB M .none M (sY M M (e0 (65536*c.toNat) (by omega))) ?_;refine Zd M M M (yO M M (e0 ((a.toNat+256*b.toNat)+65536*c.toNat) (by omega))) ?_;refine Zd M M M (zK M)<|Zd M M M (yH (j:=3) M M Tryz.underlying9 M M)<|wU M ?_
 refine uB M .none M (yQ M (by kernel_rfl) U22 (e0 d.toNat (by omega))) ?_
 refine wU M<|uB M .none M (sY M M (e0 (16777216*d.toNat) (by omega))) ?_;refine Zd M M M (yO M M (e0 (((a.toNat+256*b.toNat)+65536*c.toNat)+16777216*d.toNat) (by omega))) ?_;refine Zd M M M (xZ M)<|wd_end<|zP<|zQ<|zO M M (fun w hw=>?_);exact⟨rfl,hw.ext0⟩
end Go.Proofs.YtkaepknpplhgkaaGreatDoor
