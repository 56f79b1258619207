import Derived.Test.YtfpkpnkdnammnaaGreatDoorSyY
import Derived.Test.YtfpkpnkdnammnaaGreatDoorCutR
namespace Go.Proofs.YtfpkpnkdnammnaaGreatDoor
open Go.RowKit
structure StI where
 named:Bool
 ne:Nat
 nb:Nat
structure StIok (k:Nat) (i:StI):Prop where
 named:i.named=decide (k=1∨k=2)
 ne:i.ne=if k=3 then 2 else 1
 nb:i.nb=if k=4 then 2 else if k=5 then 1 else 0
theorem okSt_eq {k:Nat}{i:StI}(h:StIok k i) (s:Bs) (es b c:Nat):pA k s es b c=(decide (1≤k)&&decide (k≤8)&&decide (es=i.ne)&&(i.named&&yG s||!i.named&&decide (s=[]))&&(decide (0<i.nb)||decide (b=0))&&(decide (1<i.nb)||decide (c=0))):=by
 obtain⟨h1,h2,h3⟩:=h;unfold pA;rw[h1,h2,h3]
 by_cases c1:k=1∨k=2
 ·have e1:¬(k=4∨k=5):=by omega
  have e2:k≠4:=by omega
  have e3:k≠5:=by omega
  simp[c1,e2,e3]
 ·by_cases c4:k=4
  ·subst c4;simp
  ·by_cases c5:k=5
   ·subst c5;simp
   ·simp[c1,c4,c5]
theorem rightSt_eq (k:Nat) (s:Bs) (es:List Ex) (b c:List St):xH (.mk k s es b c)=(pA k s es.length b.length c.length&&rightExs es&&rightSts b&&rightSts c):=by simp only[xH]
set_option maxHeartbeats 4000000 in
set_option maxRecDepth 100000 in
theorem rightS_step (k:Nat) (s:Bs) (es:List Ex) (b c:List St) (hb:∀x∈b,RS x) (hc:∀x∈c,RS x):RS (.mk k s es b c):=by
 intro F a w_0 h;obtain⟨A1,A2,A3,c1,c2,c3⟩:=a;obtain⟨p1,p2,p3,⟨x1,h1,k1⟩,h2,h3⟩:=h;dsimp only[St.exprs,St.body,St.els] at p1 p2 p3 h1 k1 h2 h3;have hX:(RdF F A1 x1 w_0∧ExsV F w_0 es x1)∧wQ F w_0 b A2 c2∧wQ F w_0 c A3 c3:=⟨⟨h1,k1⟩,⟨p2,h2⟩,⟨p3,h3⟩⟩;have hT:Lies fun F u=>(RdF F A1 x1 u∧ExsV F u es x1)∧wQ F u b A2 c2∧wQ F u c A3 c3:=⟨fun hk ⟨⟨a,b⟩,d,e⟩=>⟨⟨RdF.lies.foot hk a,ExsV.lies.foot hk b⟩,wQ.lies.foot hk d,wQ.lies.foot hk e⟩,fun ⟨⟨a,b⟩,d,e⟩=>⟨⟨RdF.lies.lt a,ExsV.lies.lt b⟩,wQ.lies.lt d,wQ.lies.lt e⟩,fun hF ⟨⟨a,b⟩,d,e⟩=>⟨⟨RdF.lies.mono hF a,ExsV.lies.mono hF b⟩,wQ.lies.mono hF d,wQ.lies.mono hF e⟩⟩;rw[rightSt_eq];refine yV (args:=[.agg (stC k s A1 es.length c1 A2 b.length c2 A3 c.length c3).toArray]) Tryz.func99 V 91 V (Jn V)<|Z1 0 V<|zD (H':=Hp (fun _=>False) w_0 [] [] (fun u=>(RdF F A1 x1 u∧ExsV F u es x1)∧wQ F u b A2 c2∧wQ F u c A3 c3)) (fun u hu=>?_) ?_
 ·subst hu;exact Hp.startT hT hX
 refine zY<|zX<|zC .none V (vY V V) (fun b1=>?_);refine Za V V<|ZX<|zX<|ZF V (Y60x0 V) ?_;refine ZF V (zW 0 V V V U3 V)<|ZF V (yS V V)<|Zm V V<|zH 9 V (fun g1=>?_) (fun g1=>?_)
 ·replace g1:=Jw g1;refine ZP V<|ZP V<|ZP V<|ZF V (zP V V)<|Za V V<|ZX<|Z4r 0 1 2 3 V V V V<|Za V V<|ZT<|xA (ι:=Unit) (fun _=>[(1,.pointer (some ⟨b1,0,none⟩)),(3,.bool (decide (k=1∨k=2))),(4,.int .i64 (((if k=3 then 2 else 1):Nat):Int))]) (fun _=>Hp (fun _=>False) w_0 [(b1,bk 60 (stC k s A1 es.length c1 A2 b.length c2 A3 c.length c3))] [] (fun u=>(RdF F A1 x1 u∧ExsV F u es x1)∧wQ F u b A2 c2∧wQ F u c A3 c3)) ?_ (fun _=>?_)
  ·refine zY<|zX<|ZF V (Y60x0 V) ?_;refine ZF V (zW 0 V V V U3 V)<|ZF V (yS V V)<|ZT<|zT V (fun h16=>?_) (fun h16=>?_)
   ·replace h16:=Jw h16
    first
     | (omega)
     | (
      refine Z6r 0 1 2 3 4 16 V V V V V V<|Za V V<|zU ?_
      refine zA (ι:=Unit) () (.cons V<|.cons (by
       show some (Value.bool _)=some (Value.bool _);congr 2;rw[Jl]
       first
        | (simp;done)
        | (simp;omega)
        | omega)<|.cons (by
       show some (Value.int .i64 _)=some (Value.int .i64 _);congr 2
       first
        | (rw[Kp (by omega)];rfl)
        | (rw[Ko (by omega)];rfl))<|.nil) (fun w h=>h))
   ·replace h16:=yP h16
    first
     | (omega)
     | (
      refine zG ?_
      refine zA (ι:=Unit) () (.cons V<|.cons (by
       show some (Value.bool _)=some (Value.bool _);congr 2;rw[Jl]
       first
        | (simp;done)
        | (simp;omega)
        | omega)<|.cons (by
       show some (Value.int .i64 _)=some (Value.int .i64 _);congr 2
       first
        | (rw[Kp (by omega)];rfl)
        | (rw[Ko (by omega)];rfl))<|.nil) (fun w h=>h))
  ·refine zY<|zX<|Za V V<|ZT<|xA (ι:={i:StI // StIok k i}) (fun i=>[(1,.pointer (some ⟨b1,0,none⟩)),(3,.bool i.1.named),(4,.int .i64 i.1.ne),(5,.int .i64 i.1.nb)]) (fun _=>Hp (fun _=>False) w_0 [(b1,bk 60 (stC k s A1 es.length c1 A2 b.length c2 A3 c.length c3))] [] (fun u=>(RdF F A1 x1 u∧ExsV F u es x1)∧wQ F u b A2 c2∧wQ F u c A3 c3)) ?_ (fun i=>?_)
   ·refine zY<|zX<|ZF V (Y60x0 V) ?_;refine ZF V (zW 0 V V V U3 V)<|ZT<|yY<|zY<|Z5r 1 3 4 5 18 V V V V V<|ZF V (yS V V)<|Za V V<|ZT<|zT V (fun h19=>?_) (fun h19=>?_)
    ·replace h19:=Jw h19
     first
      | (omega)
      | (
       refine Z6r 1 3 4 5 18 19 V V V V V V<|Za V V<|zU<|zM ?_
       refine zA (ι:={i:StI // StIok k i}) ⟨⟨decide (k=1∨k=2),if k=3 then 2 else 1,if k=4 then 2 else if k=5 then 1 else 0⟩,⟨rfl,rfl,rfl⟩⟩ (.cons V<|.cons V<|.cons V<|.cons (by
        show some (Value.int .i64 _)=some (Value.int .i64 _);dsimp only;congr 2
        first
         | (rw[Kp (by omega)];rfl)
         | (rw[Ko (by omega),Kp (by omega)];rfl)
         | (rw[Ko (by omega),Ko (by omega)];rfl))<|.nil) (fun w h=>h))
    ·replace h19:=yP h19
     first
      | (omega)
      | (
       refine zY<|Z6r 1 3 4 5 18 19 V V V V V V<|ZF V (yS V V)<|Za V V<|ZT<|zT V (fun h21=>?_) (fun h21=>?_)
       ·replace h21:=Jw h21
        first
         | (omega)
         | (
          refine Z7r 1 3 4 5 18 19 21 V V V V V V V<|Za V V<|zU<|zM ?_
          refine zA (ι:={i:StI // StIok k i}) ⟨⟨decide (k=1∨k=2),if k=3 then 2 else 1,if k=4 then 2 else if k=5 then 1 else 0⟩,⟨rfl,rfl,rfl⟩⟩ (.cons V<|.cons V<|.cons V<|.cons (by
           show some (Value.int .i64 _)=some (Value.int .i64 _);dsimp only;congr 2
           first
            | (rw[Kp (by omega)];rfl)
            | (rw[Ko (by omega),Kp (by omega)];rfl)
            | (rw[Ko (by omega),Ko (by omega)];rfl))<|.nil) (fun w h=>h))
       ·replace h21:=yP h21
        first
         | (omega)
         | (
          refine zG<|zM ?_
          refine zA (ι:={i:StI // StIok k i}) ⟨⟨decide (k=1∨k=2),if k=3 then 2 else 1,if k=4 then 2 else if k=5 then 1 else 0⟩,⟨rfl,rfl,rfl⟩⟩ (.cons V<|.cons V<|.cons V<|.cons (by
           show some (Value.int .i64 _)=some (Value.int .i64 _);dsimp only;congr 2
           first
            | (rw[Kp (by omega)];rfl)
            | (rw[Ko (by omega),Kp (by omega)];rfl)
            | (rw[Ko (by omega),Ko (by omega)];rfl))<|.nil) (fun w h=>h)))
   ·obtain⟨⟨named,ne,nb⟩,hi⟩:=i;dsimp only;rw[okSt_eq hi];clear hi;refine zY<|zX<|wl_cut 32 (ι:=Unit) (fun _=>[(1,.pointer (some ⟨b1,0,none⟩)),(5,.int .i64 nb),(54,.bool (decide (1≤k)&&decide (k≤8)&&decide (es.length=ne)&&(named&&yG s||!named&&decide (s=[]))))]) (fun _=>Hp (fun _=>False) w_0 [(b1,bk 60 (stC k s A1 es.length c1 A2 b.length c2 A3 c.length c3))] [] (fun u=>(RdF F A1 x1 u∧ExsV F u es x1)∧wQ F u b A2 c2∧wQ F u c A3 c3)) ?_ (fun _=>?_)
    ·refine ZF V (Y60x0 V) ?_;refine ZF V (zW 0 V V V U3 V)<|ZF V (tO V V)<|Zm V V<|zH 26 V (fun q4=>?_) (fun q4=>?_)
     ·replace q4:=Jo q4;refine ZG V V V (Y60x0 V) ?_;refine ZG V V V (zW 0 V V V U3 V)<|ZG V V V (yf_leq V V)<|ZF V (zP V V)<|Zm V V<|zH 31 V (fun q9=>?_) (fun q9=>?_)
      ·replace q9:=Jo q9;refine ZG V V V (Y60x2 V) ?_;refine ZG V V V (zW 0 V V V U55 V)<|ZG V V V (yM V U55)<|ZG V V V (zO V)<|ZG V V V (yS V V)<|ZF V (zP V V)<|Zm V V<|zH 38 V (fun q16=>?_) (fun q16=>?_)
       ·replace q16:=Jw q16;refine ZG V V V (zO V)<|ZG V V V (zO V)<|zH 40 V (fun q18=>?_) (fun q18=>?_)
        ·refine ZG V V V (Y60x1 V) ?_;refine ZG V V V (zW 0 V V V U9 V)<|yT (.some V V) V  (v:=.bool (yG s)) (by kernel_rfl) V (fun w hw=>rY s w) ?_;refine ZG V V V (zP V V)<|ZG V V V (zO V)<|zH 45 V (fun q23=>?_) (fun q23=>?_)
         ·refine ZP V<|ZP V<|ZP V<|yZ V V V<|yZ V V V<|yZ V V V<|ZP V<|ZG V V V (zP V V)<|ZF V (zP V V)<|zU<|vR (ι:=Unit) () (.cons V<|.cons V<|.cons ?_<|.nil) (fun w h=>h);show some (Value.bool _)=some (Value.bool _);congr 2;rw[Jl]
          first
           | (simp_all;done)
           | (simp_all;omega)
         ·refine ZG V V V (zO V)<|ZG V V V (xJ V)<|ZG V V V (zO V)<|zH 48 V (fun q26=>?_) (fun q26=>?_)
          ·refine ZG V V V (Y60x1 V) ?_;refine ZG V V V (zW 0 V V V U9 V)<|ZG V V V (xU V V U9)<|ZG V V V (zP V V)<|ZG V V V (zL V V)<|ZF V (zP V V)<|zU<|vR (ι:=Unit) () (.cons V<|.cons V<|.cons ?_<|.nil) (fun w h=>h);show some (Value.bool _)=some (Value.bool _);congr 2;rw[Jl]
           first
            | (simp_all;done)
            | (simp_all;omega)
          ·refine ZP V<|ZP V<|ZP V<|ZG V V V (zL V V)<|ZG V V V (zL V V)<|ZF V (zP V V)<|zU<|vR (ι:=Unit) () (.cons V<|.cons V<|.cons ?_<|.nil) (fun w h=>h);show some (Value.bool _)=some (Value.bool _);congr 2;rw[Jl]
           first
            | (simp_all;done)
            | (simp_all;omega)
        ·refine ZP V<|ZP V<|ZP V<|ZG V V V (zL V V)<|ZG V V V (zO V)<|ZG V V V (zO V)<|ZG V V V (xJ V)<|ZG V V V (zO V)<|zH 48 V (fun q26=>?_) (fun q26=>?_)
         ·refine ZG V V V (Y60x1 V) ?_;refine ZG V V V (zW 0 V V V U9 V)<|ZG V V V (xU V V U9)<|ZG V V V (zP V V)<|ZG V V V (zL V V)<|ZF V (zP V V)<|zU<|vR (ι:=Unit) () (.cons V<|.cons V<|.cons ?_<|.nil) (fun w h=>h);show some (Value.bool _)=some (Value.bool _);congr 2;rw[Jl]
          first
           | (simp_all;done)
           | (simp_all;omega)
         ·refine ZP V<|ZP V<|ZP V<|ZG V V V (zL V V)<|ZG V V V (zL V V)<|ZF V (zP V V)<|zU<|vR (ι:=Unit) () (.cons V<|.cons V<|.cons ?_<|.nil) (fun w h=>h);show some (Value.bool _)=some (Value.bool _);congr 2;rw[Jl]
          first
           | (simp_all;done)
           | (simp_all;omega)
       ·replace q16:=yP q16;refine ZP V<|ZP V<|yZ V V V<|yZ V V V<|yZ V V V<|ZP V<|ZP V<|yZ V V V<|yZ V V V<|yZ V V V<|yZ V V V<|yZ V V V<|yZ V V V<|yZ V V V<|ZP V<|ZF V (zL V V)<|zU<|vR (ι:=Unit) () (.cons V<|.cons V<|.cons ?_<|.nil) (fun w h=>h);show some (Value.bool _)=some (Value.bool _);congr 2;rw[Jl]
        first
         | (simp_all;done)
         | (simp_all;omega)
      ·replace q9:=Jp q9;refine ZP V<|ZP V<|ZP V<|ZP V<|ZP V<|ZF V (zL V V)<|Zm V V<|ZP V<|ZP V<|yZ V V V<|yZ V V V<|yZ V V V<|ZP V<|ZP V<|yZ V V V<|yZ V V V<|yZ V V V<|yZ V V V<|yZ V V V<|yZ V V V<|yZ V V V<|ZP V<|ZF V (zL V V)<|zU<|vR (ι:=Unit) () (.cons V<|.cons V<|.cons ?_<|.nil) (fun w h=>h);show some (Value.bool _)=some (Value.bool _);congr 2;rw[Jl]
       first
        | (simp_all;done)
        | (simp_all;omega)
     ·replace q4:=Jp q4;refine ZP V<|ZP V<|ZP V<|ZF V (zL V V)<|Zm V V<|ZP V<|ZP V<|ZP V<|ZP V<|ZP V<|ZF V (zL V V)<|Zm V V<|ZP V<|ZP V<|yZ V V V<|yZ V V V<|yZ V V V<|ZP V<|ZP V<|yZ V V V<|yZ V V V<|yZ V V V<|yZ V V V<|yZ V V V<|yZ V V V<|yZ V V V<|ZP V<|ZF V (zL V V)<|zU<|vR (ι:=Unit) () (.cons V<|.cons V<|.cons ?_<|.nil) (fun w h=>h);show some (Value.bool _)=some (Value.bool _);congr 2;rw[Jl]
      first
       | (simp_all;done)
       | (simp_all;omega)
    ·generalize hF:(decide (1≤k)&&decide (k≤8)&&decide (es.length=ne)&&(named&&yG s||!named&&decide (s=[])))=F54;refine wl_cut 20 (ι:=Unit) (fun _=>[(1,.pointer (some ⟨b1,0,none⟩)),(74,.bool (F54&&(decide (0<nb)||decide (b.length=0))&&(decide (1<nb)||decide (c.length=0))))]) (fun _=>Hp (fun _=>False) w_0 [(b1,bk 60 (stC k s A1 es.length c1 A2 b.length c2 A3 c.length c3))] [] (fun u=>(RdF F A1 x1 u∧ExsV F u es x1)∧wQ F u b A2 c2∧wQ F u c A3 c3)) ?_ (fun _=>?_)
     ·refine Zm V V<|zH 55 V (fun q33=>?_) (fun q33=>?_)
      ·refine ZG V V V (zO V)<|ZG V V V (wO V V)<|ZG V V V (zO V)<|zH 58 V (fun q36=>?_) (fun q36=>?_)
       ·replace q36:=Jo q36;refine ZP V<|ZP V<|ZP V<|ZP V<|ZG V V V (zP V V)<|ZF V (zP V V)<|Zm V V<|ZG V V V (zO V)<|ZG V V V (wO V V)<|ZG V V V (zO V)<|zH 68 V (fun q46=>?_) (fun q46=>?_)
        ·replace q46:=Jo q46;refine ZP V<|ZP V<|ZP V<|ZP V<|ZG V V V (zP V V)<|ZF V (zP V V)<|zU<|vR (ι:=Unit) () (.cons V<|.cons ?_<|.nil) (fun w h=>h);show some (Value.bool _)=some (Value.bool _);congr 2;rw[Jl]
         first
          | (simp_all;done)
          | (simp_all;omega)
        ·replace q46:=Jp q46;refine ZG V V V (Y60x4 V) ?_;refine ZG V V V (zW 0 V V V U58 V)<|ZG V V V (yM V U58)<|ZG V V V (yS V V)<|ZG V V V (zL V V)<|ZF V (zP V V)<|zU<|vR (ι:=Unit) () (.cons V<|.cons ?_<|.nil) (fun w h=>h);show some (Value.bool _)=some (Value.bool _);congr 2;rw[Jl]
         first
          | (simp_all;done)
          | (simp_all;omega)
       ·replace q36:=Jp q36;refine ZG V V V (Y60x3 V) ?_;refine ZG V V V (zW 0 V V V U58 V)<|ZG V V V (yM V U58)<|ZG V V V (yS V V)<|ZG V V V (zL V V)<|ZF V (zP V V)<|Zm V V<|zH 65 V (fun q43=>?_) (fun q43=>?_)
        ·replace q43:=Jw q43;refine ZG V V V (zO V)<|ZG V V V (wO V V)<|ZG V V V (zO V)<|zH 68 V (fun q46=>?_) (fun q46=>?_)
         ·replace q46:=Jo q46;refine ZP V<|ZP V<|ZP V<|ZP V<|ZG V V V (zP V V)<|ZF V (zP V V)<|zU<|vR (ι:=Unit) () (.cons V<|.cons ?_<|.nil) (fun w h=>h);show some (Value.bool _)=some (Value.bool _);congr 2;rw[Jl]
          first
           | (simp_all;done)
           | (simp_all;omega)
         ·replace q46:=Jp q46;refine ZG V V V (Y60x4 V) ?_;refine ZG V V V (zW 0 V V V U58 V)<|ZG V V V (yM V U58)<|ZG V V V (yS V V)<|ZG V V V (zL V V)<|ZF V (zP V V)<|zU<|vR (ι:=Unit) () (.cons V<|.cons ?_<|.nil) (fun w h=>h);show some (Value.bool _)=some (Value.bool _);congr 2;rw[Jl]
          first
           | (simp_all;done)
           | (simp_all;omega)
        ·replace q43:=yP q43;refine ZP V<|ZP V<|ZP V<|yZ V V V<|yZ V V V<|yZ V V V<|yZ V V V<|ZP V<|ZF V (zL V V)<|zU<|vR (ι:=Unit) () (.cons V<|.cons ?_<|.nil) (fun w h=>h);show some (Value.bool _)=some (Value.bool _);congr 2;rw[Jl]
         first
          | (simp_all;done)
          | (simp_all;omega)
      ·refine ZP V<|ZP V<|ZP V<|yZ V V V<|yZ V V V<|yZ V V V<|yZ V V V<|ZP V<|ZF V (zL V V)<|Zm V V<|ZP V<|ZP V<|ZP V<|yZ V V V<|yZ V V V<|yZ V V V<|yZ V V V<|ZP V<|ZF V (zL V V)<|zU<|vR (ι:=Unit) () (.cons V<|.cons ?_<|.nil) (fun w h=>h);show some (Value.bool _)=some (Value.bool _);congr 2;rw[Jl]
       first
        | (simp_all;done)
        | (simp_all;omega)
     ·generalize hG:(F54&&(decide (0<nb)||decide (b.length=0))&&(decide (1<nb)||decide (c.length=0)))=G74;refine Zm V V<|zH 75 V (fun q53=>?_) (fun q53=>?_)
      ·refine ZG V V V (Y60x2 V) ?_;refine ZG V V V (zW 0 V V V U55 V)<|yT (.some V V) V  (v:=.bool (es.any fun x=>!yJ x)) (by kernel_rfl) V (fun w hw=>rD es A1 c1 p1 x1 (pr_right2 es) w (HpG.x hw).1 trivial) ?_;refine ZG V V V (xJ V)<|ZF V (zP V V)<|Zm V V<|zH 81 V (fun q59=>?_) (fun q59=>?_)
       ·refine ZG V V V (Y60x3 V) ?_;refine ZG V V V (zW 0 V V V U58 V)<|yT (.some V V) V  (v:=.bool (rightSts b)) (by kernel_rfl) V (fun w hw=>qH b hb F A2 c2 w (HpG.x hw).2.1) ?_;refine ZF V (zP V V)<|Zm V V<|zH 86 V (fun q64=>?_) (fun q64=>?_)
        ·refine ZG V V V (Y60x4 V) ?_;refine ZG V V V (zW 0 V V V U58 V)<|yT (.some V V) V  (v:=.bool (rightSts c)) (by kernel_rfl) V (fun w hw=>qH c hc F A3 c3 w (HpG.x hw).2.2) ?_;refine ZF V (zP V V)<|Za V V<|ZT<|zK<|zI V V (fun w hw=>?_);refine⟨?_,(Jq hw).ext⟩;congr 2;rw[← sI];generalize (es.any fun x=>!yJ x)=z at *;rw[Jl]
         first
          | (simp_all;done)
          | (simp_all;omega)
        ·refine ZP V<|ZP V<|ZP V<|ZF V (zL V V)<|Za V V<|ZT<|zK<|zI V V (fun w hw=>?_);refine⟨?_,(Jq hw).ext⟩;congr 2;rw[← sI];generalize (es.any fun x=>!yJ x)=z at *;rw[Jl]
         first
          | (simp_all;done)
          | (simp_all;omega)
       ·refine ZP V<|ZP V<|ZP V<|ZF V (zL V V)<|Zm V V<|ZP V<|ZP V<|ZP V<|ZF V (zL V V)<|Za V V<|ZT<|zK<|zI V V (fun w hw=>?_);refine⟨?_,(Jq hw).ext⟩;congr 2;rw[← sI];generalize (es.any fun x=>!yJ x)=z at *;rw[Jl]
        first
         | (simp_all;done)
         | (simp_all;omega)
      ·refine ZP V<|ZP V<|ZP V<|ZP V<|ZF V (zL V V)<|Zm V V<|ZP V<|ZP V<|ZP V<|ZF V (zL V V)<|Zm V V<|ZP V<|ZP V<|ZP V<|ZF V (zL V V)<|Za V V<|ZT<|zK<|zI V V (fun w hw=>?_);refine⟨?_,(Jq hw).ext⟩;congr 2;rw[← sI];generalize (es.any fun x=>!yJ x)=z at *;rw[Jl]
       first
        | (simp_all;done)
        | (simp_all;omega)
 ·replace g1:=yP g1;refine ZG V V V (Y60x0 V) ?_;refine ZG V V V (zW 0 V V V U3 V)<|ZG V V V (yS V V)<|ZF V (zL V V)<|Za V V<|ZX<|Z4r 0 1 2 3 V V V V<|Za V V<|ZT<|xA (ι:=Unit) (fun _=>[(1,.pointer (some ⟨b1,0,none⟩)),(3,.bool (decide (k=1∨k=2))),(4,.int .i64 (((if k=3 then 2 else 1):Nat):Int))]) (fun _=>Hp (fun _=>False) w_0 [(b1,bk 60 (stC k s A1 es.length c1 A2 b.length c2 A3 c.length c3))] [] (fun u=>(RdF F A1 x1 u∧ExsV F u es x1)∧wQ F u b A2 c2∧wQ F u c A3 c3)) ?_ (fun _=>?_)
  ·refine zY<|zX<|ZF V (Y60x0 V) ?_;refine ZF V (zW 0 V V V U3 V)<|ZF V (yS V V)<|ZT<|zT V (fun h16=>?_) (fun h16=>?_)
   ·replace h16:=Jw h16
    first
     | (omega)
     | (
      refine Z6r 0 1 2 3 4 16 V V V V V V<|Za V V<|zU ?_
      refine zA (ι:=Unit) () (.cons V<|.cons (by
       show some (Value.bool _)=some (Value.bool _);congr 2;rw[Jl]
       first
        | (simp;done)
        | (simp;omega)
        | omega)<|.cons (by
       show some (Value.int .i64 _)=some (Value.int .i64 _);congr 2
       first
        | (rw[Kp (by omega)];rfl)
        | (rw[Ko (by omega)];rfl))<|.nil) (fun w h=>h))
   ·replace h16:=yP h16
    first
     | (omega)
     | (
      refine zG ?_
      refine zA (ι:=Unit) () (.cons V<|.cons (by
       show some (Value.bool _)=some (Value.bool _);congr 2;rw[Jl]
       first
        | (simp;done)
        | (simp;omega)
        | omega)<|.cons (by
       show some (Value.int .i64 _)=some (Value.int .i64 _);congr 2
       first
        | (rw[Kp (by omega)];rfl)
        | (rw[Ko (by omega)];rfl))<|.nil) (fun w h=>h))
  ·refine zY<|zX<|Za V V<|ZT<|xA (ι:={i:StI // StIok k i}) (fun i=>[(1,.pointer (some ⟨b1,0,none⟩)),(3,.bool i.1.named),(4,.int .i64 i.1.ne),(5,.int .i64 i.1.nb)]) (fun _=>Hp (fun _=>False) w_0 [(b1,bk 60 (stC k s A1 es.length c1 A2 b.length c2 A3 c.length c3))] [] (fun u=>(RdF F A1 x1 u∧ExsV F u es x1)∧wQ F u b A2 c2∧wQ F u c A3 c3)) ?_ (fun i=>?_)
   ·refine zY<|zX<|ZF V (Y60x0 V) ?_;refine ZF V (zW 0 V V V U3 V)<|ZT<|yY<|zY<|Z5r 1 3 4 5 18 V V V V V<|ZF V (yS V V)<|Za V V<|ZT<|zT V (fun h19=>?_) (fun h19=>?_)
    ·replace h19:=Jw h19
     first
      | (omega)
      | (
       refine Z6r 1 3 4 5 18 19 V V V V V V<|Za V V<|zU<|zM ?_
       refine zA (ι:={i:StI // StIok k i}) ⟨⟨decide (k=1∨k=2),if k=3 then 2 else 1,if k=4 then 2 else if k=5 then 1 else 0⟩,⟨rfl,rfl,rfl⟩⟩ (.cons V<|.cons V<|.cons V<|.cons (by
        show some (Value.int .i64 _)=some (Value.int .i64 _);dsimp only;congr 2
        first
         | (rw[Kp (by omega)];rfl)
         | (rw[Ko (by omega),Kp (by omega)];rfl)
         | (rw[Ko (by omega),Ko (by omega)];rfl))<|.nil) (fun w h=>h))
    ·replace h19:=yP h19
     first
      | (omega)
      | (
       refine zY<|Z6r 1 3 4 5 18 19 V V V V V V<|ZF V (yS V V)<|Za V V<|ZT<|zT V (fun h21=>?_) (fun h21=>?_)
       ·replace h21:=Jw h21
        first
         | (omega)
         | (
          refine Z7r 1 3 4 5 18 19 21 V V V V V V V<|Za V V<|zU<|zM ?_
          refine zA (ι:={i:StI // StIok k i}) ⟨⟨decide (k=1∨k=2),if k=3 then 2 else 1,if k=4 then 2 else if k=5 then 1 else 0⟩,⟨rfl,rfl,rfl⟩⟩ (.cons V<|.cons V<|.cons V<|.cons (by
           show some (Value.int .i64 _)=some (Value.int .i64 _);dsimp only;congr 2
           first
            | (rw[Kp (by omega)];rfl)
            | (rw[Ko (by omega),Kp (by omega)];rfl)
            | (rw[Ko (by omega),Ko (by omega)];rfl))<|.nil) (fun w h=>h))
       ·replace h21:=yP h21
        first
         | (omega)
         | (
          refine zG<|zM ?_
          refine zA (ι:={i:StI // StIok k i}) ⟨⟨decide (k=1∨k=2),if k=3 then 2 else 1,if k=4 then 2 else if k=5 then 1 else 0⟩,⟨rfl,rfl,rfl⟩⟩ (.cons V<|.cons V<|.cons V<|.cons (by
           show some (Value.int .i64 _)=some (Value.int .i64 _);dsimp only;congr 2
           first
            | (rw[Kp (by omega)];rfl)
            | (rw[Ko (by omega),Kp (by omega)];rfl)
            | (rw[Ko (by omega),Ko (by omega)];rfl))<|.nil) (fun w h=>h)))
   ·obtain⟨⟨named,ne,nb⟩,hi⟩:=i;dsimp only;rw[okSt_eq hi];clear hi;refine zY<|zX<|wl_cut 32 (ι:=Unit) (fun _=>[(1,.pointer (some ⟨b1,0,none⟩)),(5,.int .i64 nb),(54,.bool (decide (1≤k)&&decide (k≤8)&&decide (es.length=ne)&&(named&&yG s||!named&&decide (s=[]))))]) (fun _=>Hp (fun _=>False) w_0 [(b1,bk 60 (stC k s A1 es.length c1 A2 b.length c2 A3 c.length c3))] [] (fun u=>(RdF F A1 x1 u∧ExsV F u es x1)∧wQ F u b A2 c2∧wQ F u c A3 c3)) ?_ (fun _=>?_)
    ·refine ZF V (Y60x0 V) ?_;refine ZF V (zW 0 V V V U3 V)<|ZF V (tO V V)<|Zm V V<|zH 26 V (fun q4=>?_) (fun q4=>?_)
     ·replace q4:=Jo q4;refine ZG V V V (Y60x0 V) ?_;refine ZG V V V (zW 0 V V V U3 V)<|ZG V V V (yf_leq V V)<|ZF V (zP V V)<|Zm V V<|zH 31 V (fun q9=>?_) (fun q9=>?_)
      ·replace q9:=Jo q9;refine ZG V V V (Y60x2 V) ?_;refine ZG V V V (zW 0 V V V U55 V)<|ZG V V V (yM V U55)<|ZG V V V (zO V)<|ZG V V V (yS V V)<|ZF V (zP V V)<|Zm V V<|zH 38 V (fun q16=>?_) (fun q16=>?_)
       ·replace q16:=Jw q16;refine ZG V V V (zO V)<|ZG V V V (zO V)<|zH 40 V (fun q18=>?_) (fun q18=>?_)
        ·refine ZG V V V (Y60x1 V) ?_;refine ZG V V V (zW 0 V V V U9 V)<|yT (.some V V) V  (v:=.bool (yG s)) (by kernel_rfl) V (fun w hw=>rY s w) ?_;refine ZG V V V (zP V V)<|ZG V V V (zO V)<|zH 45 V (fun q23=>?_) (fun q23=>?_)
         ·refine ZP V<|ZP V<|ZP V<|yZ V V V<|yZ V V V<|yZ V V V<|ZP V<|ZG V V V (zP V V)<|ZF V (zP V V)<|zU<|vR (ι:=Unit) () (.cons V<|.cons V<|.cons ?_<|.nil) (fun w h=>h);show some (Value.bool _)=some (Value.bool _);congr 2;rw[Jl]
          first
           | (simp_all;done)
           | (simp_all;omega)
         ·refine ZG V V V (zO V)<|ZG V V V (xJ V)<|ZG V V V (zO V)<|zH 48 V (fun q26=>?_) (fun q26=>?_)
          ·refine ZG V V V (Y60x1 V) ?_;refine ZG V V V (zW 0 V V V U9 V)<|ZG V V V (xU V V U9)<|ZG V V V (zP V V)<|ZG V V V (zL V V)<|ZF V (zP V V)<|zU<|vR (ι:=Unit) () (.cons V<|.cons V<|.cons ?_<|.nil) (fun w h=>h);show some (Value.bool _)=some (Value.bool _);congr 2;rw[Jl]
           first
            | (simp_all;done)
            | (simp_all;omega)
          ·refine ZP V<|ZP V<|ZP V<|ZG V V V (zL V V)<|ZG V V V (zL V V)<|ZF V (zP V V)<|zU<|vR (ι:=Unit) () (.cons V<|.cons V<|.cons ?_<|.nil) (fun w h=>h);show some (Value.bool _)=some (Value.bool _);congr 2;rw[Jl]
           first
            | (simp_all;done)
            | (simp_all;omega)
        ·refine ZP V<|ZP V<|ZP V<|ZG V V V (zL V V)<|ZG V V V (zO V)<|ZG V V V (zO V)<|ZG V V V (xJ V)<|ZG V V V (zO V)<|zH 48 V (fun q26=>?_) (fun q26=>?_)
         ·refine ZG V V V (Y60x1 V) ?_;refine ZG V V V (zW 0 V V V U9 V)<|ZG V V V (xU V V U9)<|ZG V V V (zP V V)<|ZG V V V (zL V V)<|ZF V (zP V V)<|zU<|vR (ι:=Unit) () (.cons V<|.cons V<|.cons ?_<|.nil) (fun w h=>h);show some (Value.bool _)=some (Value.bool _);congr 2;rw[Jl]
          first
           | (simp_all;done)
           | (simp_all;omega)
         ·refine ZP V<|ZP V<|ZP V<|ZG V V V (zL V V)<|ZG V V V (zL V V)<|ZF V (zP V V)<|zU<|vR (ι:=Unit) () (.cons V<|.cons V<|.cons ?_<|.nil) (fun w h=>h);show some (Value.bool _)=some (Value.bool _);congr 2;rw[Jl]
          first
           | (simp_all;done)
           | (simp_all;omega)
       ·replace q16:=yP q16;refine ZP V<|ZP V<|yZ V V V<|yZ V V V<|yZ V V V<|ZP V<|ZP V<|yZ V V V<|yZ V V V<|yZ V V V<|yZ V V V<|yZ V V V<|yZ V V V<|yZ V V V<|ZP V<|ZF V (zL V V)<|zU<|vR (ι:=Unit) () (.cons V<|.cons V<|.cons ?_<|.nil) (fun w h=>h);show some (Value.bool _)=some (Value.bool _);congr 2;rw[Jl]
        first
         | (simp_all;done)
         | (simp_all;omega)
      ·replace q9:=Jp q9;refine ZP V<|ZP V<|ZP V<|ZP V<|ZP V<|ZF V (zL V V)<|Zm V V<|ZP V<|ZP V<|yZ V V V<|yZ V V V<|yZ V V V<|ZP V<|ZP V<|yZ V V V<|yZ V V V<|yZ V V V<|yZ V V V<|yZ V V V<|yZ V V V<|yZ V V V<|ZP V<|ZF V (zL V V)<|zU<|vR (ι:=Unit) () (.cons V<|.cons V<|.cons ?_<|.nil) (fun w h=>h);show some (Value.bool _)=some (Value.bool _);congr 2;rw[Jl]
       first
        | (simp_all;done)
        | (simp_all;omega)
     ·replace q4:=Jp q4;refine ZP V<|ZP V<|ZP V<|ZF V (zL V V)<|Zm V V<|ZP V<|ZP V<|ZP V<|ZP V<|ZP V<|ZF V (zL V V)<|Zm V V<|ZP V<|ZP V<|yZ V V V<|yZ V V V<|yZ V V V<|ZP V<|ZP V<|yZ V V V<|yZ V V V<|yZ V V V<|yZ V V V<|yZ V V V<|yZ V V V<|yZ V V V<|ZP V<|ZF V (zL V V)<|zU<|vR (ι:=Unit) () (.cons V<|.cons V<|.cons ?_<|.nil) (fun w h=>h);show some (Value.bool _)=some (Value.bool _);congr 2;rw[Jl]
      first
       | (simp_all;done)
       | (simp_all;omega)
    ·generalize hF:(decide (1≤k)&&decide (k≤8)&&decide (es.length=ne)&&(named&&yG s||!named&&decide (s=[])))=F54;refine wl_cut 20 (ι:=Unit) (fun _=>[(1,.pointer (some ⟨b1,0,none⟩)),(74,.bool (F54&&(decide (0<nb)||decide (b.length=0))&&(decide (1<nb)||decide (c.length=0))))]) (fun _=>Hp (fun _=>False) w_0 [(b1,bk 60 (stC k s A1 es.length c1 A2 b.length c2 A3 c.length c3))] [] (fun u=>(RdF F A1 x1 u∧ExsV F u es x1)∧wQ F u b A2 c2∧wQ F u c A3 c3)) ?_ (fun _=>?_)
     ·refine Zm V V<|zH 55 V (fun q33=>?_) (fun q33=>?_)
      ·refine ZG V V V (zO V)<|ZG V V V (wO V V)<|ZG V V V (zO V)<|zH 58 V (fun q36=>?_) (fun q36=>?_)
       ·replace q36:=Jo q36;refine ZP V<|ZP V<|ZP V<|ZP V<|ZG V V V (zP V V)<|ZF V (zP V V)<|Zm V V<|ZG V V V (zO V)<|ZG V V V (wO V V)<|ZG V V V (zO V)<|zH 68 V (fun q46=>?_) (fun q46=>?_)
        ·replace q46:=Jo q46;refine ZP V<|ZP V<|ZP V<|ZP V<|ZG V V V (zP V V)<|ZF V (zP V V)<|zU<|vR (ι:=Unit) () (.cons V<|.cons ?_<|.nil) (fun w h=>h);show some (Value.bool _)=some (Value.bool _);congr 2;rw[Jl]
         first
          | (simp_all;done)
          | (simp_all;omega)
        ·replace q46:=Jp q46;refine ZG V V V (Y60x4 V) ?_;refine ZG V V V (zW 0 V V V U58 V)<|ZG V V V (yM V U58)<|ZG V V V (yS V V)<|ZG V V V (zL V V)<|ZF V (zP V V)<|zU<|vR (ι:=Unit) () (.cons V<|.cons ?_<|.nil) (fun w h=>h);show some (Value.bool _)=some (Value.bool _);congr 2;rw[Jl]
         first
          | (simp_all;done)
          | (simp_all;omega)
       ·replace q36:=Jp q36;refine ZG V V V (Y60x3 V) ?_;refine ZG V V V (zW 0 V V V U58 V)<|ZG V V V (yM V U58)<|ZG V V V (yS V V)<|ZG V V V (zL V V)<|ZF V (zP V V)<|Zm V V<|zH 65 V (fun q43=>?_) (fun q43=>?_)
        ·replace q43:=Jw q43;refine ZG V V V (zO V)<|ZG V V V (wO V V)<|ZG V V V (zO V)<|zH 68 V (fun q46=>?_) (fun q46=>?_)
         ·replace q46:=Jo q46;refine ZP V<|ZP V<|ZP V<|ZP V<|ZG V V V (zP V V)<|ZF V (zP V V)<|zU<|vR (ι:=Unit) () (.cons V<|.cons ?_<|.nil) (fun w h=>h);show some (Value.bool _)=some (Value.bool _);congr 2;rw[Jl]
          first
           | (simp_all;done)
           | (simp_all;omega)
         ·replace q46:=Jp q46;refine ZG V V V (Y60x4 V) ?_;refine ZG V V V (zW 0 V V V U58 V)<|ZG V V V (yM V U58)<|ZG V V V (yS V V)<|ZG V V V (zL V V)<|ZF V (zP V V)<|zU<|vR (ι:=Unit) () (.cons V<|.cons ?_<|.nil) (fun w h=>h);show some (Value.bool _)=some (Value.bool _);congr 2;rw[Jl]
          first
           | (simp_all;done)
           | (simp_all;omega)
        ·replace q43:=yP q43;refine ZP V<|ZP V<|ZP V<|yZ V V V<|yZ V V V<|yZ V V V<|yZ V V V<|ZP V<|ZF V (zL V V)<|zU<|vR (ι:=Unit) () (.cons V<|.cons ?_<|.nil) (fun w h=>h);show some (Value.bool _)=some (Value.bool _);congr 2;rw[Jl]
         first
          | (simp_all;done)
          | (simp_all;omega)
      ·refine ZP V<|ZP V<|ZP V<|yZ V V V<|yZ V V V<|yZ V V V<|yZ V V V<|ZP V<|ZF V (zL V V)<|Zm V V<|ZP V<|ZP V<|ZP V<|yZ V V V<|yZ V V V<|yZ V V V<|yZ V V V<|ZP V<|ZF V (zL V V)<|zU<|vR (ι:=Unit) () (.cons V<|.cons ?_<|.nil) (fun w h=>h);show some (Value.bool _)=some (Value.bool _);congr 2;rw[Jl]
       first
        | (simp_all;done)
        | (simp_all;omega)
     ·generalize hG:(F54&&(decide (0<nb)||decide (b.length=0))&&(decide (1<nb)||decide (c.length=0)))=G74;refine Zm V V<|zH 75 V (fun q53=>?_) (fun q53=>?_)
      ·refine ZG V V V (Y60x2 V) ?_;refine ZG V V V (zW 0 V V V U55 V)<|yT (.some V V) V  (v:=.bool (es.any fun x=>!yJ x)) (by kernel_rfl) V (fun w hw=>rD es A1 c1 p1 x1 (pr_right2 es) w (HpG.x hw).1 trivial) ?_;refine ZG V V V (xJ V)<|ZF V (zP V V)<|Zm V V<|zH 81 V (fun q59=>?_) (fun q59=>?_)
       ·refine ZG V V V (Y60x3 V) ?_;refine ZG V V V (zW 0 V V V U58 V)<|yT (.some V V) V  (v:=.bool (rightSts b)) (by kernel_rfl) V (fun w hw=>qH b hb F A2 c2 w (HpG.x hw).2.1) ?_;refine ZF V (zP V V)<|Zm V V<|zH 86 V (fun q64=>?_) (fun q64=>?_)
        ·refine ZG V V V (Y60x4 V) ?_;refine ZG V V V (zW 0 V V V U58 V)<|yT (.some V V) V  (v:=.bool (rightSts c)) (by kernel_rfl) V (fun w hw=>qH c hc F A3 c3 w (HpG.x hw).2.2) ?_;refine ZF V (zP V V)<|Za V V<|ZT<|zK<|zI V V (fun w hw=>?_);refine⟨?_,(Jq hw).ext⟩;congr 2;rw[← sI];generalize (es.any fun x=>!yJ x)=z at *;rw[Jl]
         first
          | (simp_all;done)
          | (simp_all;omega)
        ·refine ZP V<|ZP V<|ZP V<|ZF V (zL V V)<|Za V V<|ZT<|zK<|zI V V (fun w hw=>?_);refine⟨?_,(Jq hw).ext⟩;congr 2;rw[← sI];generalize (es.any fun x=>!yJ x)=z at *;rw[Jl]
         first
          | (simp_all;done)
          | (simp_all;omega)
       ·refine ZP V<|ZP V<|ZP V<|ZF V (zL V V)<|Zm V V<|ZP V<|ZP V<|ZP V<|ZF V (zL V V)<|Za V V<|ZT<|zK<|zI V V (fun w hw=>?_);refine⟨?_,(Jq hw).ext⟩;congr 2;rw[← sI];generalize (es.any fun x=>!yJ x)=z at *;rw[Jl]
        first
         | (simp_all;done)
         | (simp_all;omega)
      ·refine ZP V<|ZP V<|ZP V<|ZP V<|ZF V (zL V V)<|Zm V V<|ZP V<|ZP V<|ZP V<|ZF V (zL V V)<|Zm V V<|ZP V<|ZP V<|ZP V<|ZF V (zL V V)<|Za V V<|ZT<|zK<|zI V V (fun w hw=>?_);refine⟨?_,(Jq hw).ext⟩;congr 2;rw[← sI];generalize (es.any fun x=>!yJ x)=z at *;rw[Jl]
       first
        | (simp_all;done)
        | (simp_all;omega)
end Go.Proofs.YtfpkpnkdnammnaaGreatDoor
