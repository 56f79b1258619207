import Derived.Test.YtfpkpnkdnammnaaGreatDoorSyX
namespace Go.Proofs.YtfpkpnkdnammnaaGreatDoor
open Go.RowKit
section
variable {ops:Array Oper}{Q:Exit→Act→World→Prop}{n:Nat}{m:List (Nat×Value)}{ty:TypeId}{G B:Nat→Prop}{w0:World}{L:List (Nat×Obj)}{R:List Rw}{X J:World→Prop}{σ:List Nat}{d:Nat}{pos:String}{af:Array Edge}{gd:Option (Nat×Bool)}
theorem wd_levels (hB:∀k,B k→k<w0.heap.size) (hJ:∀w w',J w→Ext w w'→J w') (hg:Gd ops m gd) (hd:Nat.blt d n=true) (h:∀g F,(∀k,F k→w0.heap.size≤k)→WD Tryz.prog ops J Q σ (fun j=>F j∨G j) n ((d,.map (some g))::m) (HpG (fun j=>F j∨G j) B w0 L R (fun u=>MapF F g levT u∧X u))) :
  WDo Tryz.prog ops J Q ⟨some d,.call { callee:=.value (.func 155),args:=#[],argTypes:=#[] },ty,pos,af,gd⟩ σ G n m (HpG G B w0 L R X) :=
 wd_callX (ι:=Nat) (C:=fun _=>True) (val:=fun g=>.map (some g)) (TT:=fun g F u=>MapF F g levT u) (args:=[]) (vs:=[]) hg hd (by kernel_rfl) rfl hB (fun _=>MapF.lies) hJ (fun w _=>(levels_any w).mono fun e w' ⟨g,e1,e2,e3⟩=>⟨g,trivial,e1,e2,e3⟩) fun g F _ hF=>h g F hF
end
theorem tM {k n:Nat}{s:Bs}{l:List Ex}{x:Ex}(h:x∈l):SizeOf.sizeOf x<SizeOf.sizeOf (Ex.mk k n s l):=by
 have:=List.sizeOf_lt_of_mem h;simp only[Ex.mk.sizeOf_spec];omega
def RE (x:Ex):Prop:=∀F A cap w,xT F w x A cap→Calls Tryz.prog 133 #[.agg (xL x A cap).toArray] w fun e w'=>e=.returned (.bool (yJ x))∧Ext w w'
theorem rightE1_any (x:Ex) (hx:RE x) (F:Nat→Prop) (A:Option Addr) (cap:Nat) (w_0:World) (h:xT F w_0 x A cap):Calls Tryz.prog 156 #[.agg (xL x A cap).toArray] w_0 fun e w'=>e=.returned (.bool (!yJ x))∧Ext w_0 w':=by
 refine yV (args:=[.agg (xL x A cap).toArray]) Tryz.func156 V 6 V (Jn V)<|Z1 0 V<|zD (H':=Hp (fun _=>False) w_0 [] [] (fun u=>xT F u x A cap)) (fun u hu=>?_) ?_
 ·subst hu;exact Hp.startT xT.lies h
 refine zY<|zX<|zC .none V (vY V V) (fun b1=>?_);refine Za V V<|ZX<|zX<|ZF V (yX 0 V V U57 V (by kernel_rfl)) ?_;refine yT .none V  (v:=.bool (yJ x)) (by kernel_rfl) V (fun w hw=>hx F A cap w (HpG.x hw)) ?_;refine ZF V (xJ V)<|Za V V<|ZT<|zK<|zI V V (fun w hw=>?_);exact⟨rfl,(Jq hw).ext⟩
theorem pr_right (l:List Ex) (h:∀x∈l,RE x):PrE (.func (.func 156) #[] #[]) l (fun x=>!yJ x) (fun _=>True):=⟨_,[],[],rfl,by kernel_rfl,fun _ _ _ _=>trivial,fun x hx F A cap w hk _=>rightE1_any x (h x hx) F A cap w hk⟩
theorem sI (l:List Ex):(!l.any fun x=>!yJ x)=rightExs l:=by
 rw[wK]
 induction l with
 | nil=>rfl
 | cons x l ih=>simp only[List.any_cons,List.all_cons,Bool.not_or,Bool.not_not,ih]
theorem wW {k len:Nat}{s:Bs}(h:k=1∨k=5):xK k s len=(decide (s=[])&&decide (len=0)):=by unfold xK;rw[Kp h]
theorem wZ {k len:Nat}{s:Bs}(h:k=2):xK k s len=(yG s&&decide (len=0)):=by subst h;rfl
theorem wX {k len:Nat}{s:Bs}(h:k=3):xK k s len=yG s:=by subst h;rfl
theorem xB {k len:Nat}{s:Bs}(h:k=4):xK k s len=(decide (s=[])&&decide (len=1)):=by subst h;rfl
theorem xC {k len:Nat}{s:Bs}(h:k=6):xK k s len=(decide (s∈tU)&&decide (len=1)):=by subst h;rfl
theorem xD {k len:Nat}{s:Bs}(h:k=7):xK k s len=((wA s).isSome&&decide (len=2)):=by subst h;rfl
theorem wV {k len:Nat}{s:Bs}(h:k≠1∧k≠5∧k≠2∧k≠3∧k≠4∧k≠6∧k≠7):xK k s len=false:=by
 obtain⟨h1,h5,h2,h3,h4,h6,h7⟩:=h;unfold xK;rw[Ko (by omega),Ko h2,Ko h3,Ko h4,Ko h6,Ko h7]
theorem rightEx_eq (k n:Nat) (s:Bs) (kids:List Ex):yJ (.mk k n s kids)=(xK k s kids.length&&(decide (k=1)||decide (n=0))&&rightExs kids):=by simp only[yJ]
theorem mem3 (w0:World) {G B:Nat→Prop}{L:List (Nat×Obj)}{R:List Rw}{X:World→Prop}{w:World}{b T:Nat}(h:HpG G B w0 ((b,bk T (xX tU))::L) R X w):RdF (fun _=>True) (some ⟨b,0,none⟩) (xX tU) w:=HpG.rdF (j:=0) h rfl trivial
set_option maxHeartbeats 2000000 in
set_option maxRecDepth 100000 in
theorem rightE_step (k n:Nat) (s:Bs) (kids:List Ex) (IH:∀x∈kids,RE x):RE (.mk k n s kids):=by
 intro F A cap w_0 h;obtain⟨hle,kc,hk1,hk2⟩:=h;dsimp only[Ex.kids] at hk2 hle;rw[rightEx_eq];refine yV (args:=[.agg (exC k n s A kids.length cap).toArray]) Tryz.func133 V 92 V (Jn V)<|Z1 0 V<|zD (H':=Hp (fun _=>False) w_0 [] [] (fun u=>RdF F A kc u∧ExsV F u kids kc)) (fun u hu=>?_) ?_
 ·subst hu;exact Hp.startT (T:=fun F u=>RdF F A kc u∧ExsV F u kids kc) ⟨fun hk ⟨a,b⟩=>⟨RdF.lies.foot hk a,ExsV.lies.foot hk b⟩,fun ⟨a,b⟩=>⟨RdF.lies.lt a,ExsV.lies.lt b⟩,fun hF ⟨a,b⟩=>⟨RdF.lies.mono hF a,ExsV.lies.mono hF b⟩⟩ ⟨hk1,hk2⟩
 refine zY<|zX<|zC .none V (vY V V) (fun b1=>?_);refine Za V V<|ZX<|zX<|Za V V<|ZT<|xA (ι:=Unit) (fun _=>[(1,.pointer (some ⟨b1,0,none⟩)),(3,.bool false),(5,.bool (wA s).isSome)]) (fun _=>Hp (fun _=>False) w_0 [(b1,bk 57 (exC k n s A kids.length cap))] [] (fun u=>RdF F A kc u∧ExsV F u kids kc)) ?_ (fun _=>?_)
 ·refine wc_drawA 3 [1,2,0] (Blk b1 _) (by kernel_rfl) (by kernel_rfl) Blk.stab (fun w h=>HpG.blk h (k:=0) V) (fun n0 hn0=>?_);refine Zd V V V (Y57x2 V) ?_;refine Zd V V V (uH V V U9 V)<|xF V<|wd_levels (fun _ h=>h.elim) (fun w w' h hx=>Blk.onE h hx) .none V  (fun gl FL hFL=>?_);refine wd_endA<|yN (k:=5) [3] (by kernel_rfl) (by simp) ⟨⟨_,rfl,?_⟩,trivial⟩
  ·refine ZF V (yf_lookupS V V (fun w h=>(HpG.x h).1.2.2) Tryz.underlying185 Tryz.underlying9 zero_int) ?_;refine zU<|yW<|yN (k:=4) [4] (by kernel_rfl) (by simp) ⟨⟨_,rfl,?_⟩,trivial⟩
   ·refine Zm V V<|zU<|yW<|yN (k:=3) [5,6] (by kernel_rfl) (by simp) ⟨⟨_,rfl,?_⟩,⟨_,rfl,?_⟩,trivial⟩
    ·refine ZF V (xN V V)<|zU<|yW<|yN (k:=2) [6,7] (by kernel_rfl) (by simp) ⟨⟨_,rfl,?_⟩,⟨_,rfl,?_⟩,trivial⟩
     ·refine ZF V (xN V V)<|zU<|yW<|yN (k:=1) [7] (by kernel_rfl) (by simp) ⟨⟨_,rfl,?_⟩,trivial⟩
      ·refine Za V V<|zU<|yW<|yN (k:=0) [8] (by kernel_rfl) (by simp) ⟨⟨_,rfl,?_⟩,trivial⟩
       ·refine Za V V<|zU<|yW<|qU (by kernel_rfl) ?_;refine zA (ι:=Unit) () (O3 V V V) (fun w h=>Hp.weakX h fun u hu=>hu.2)
     ·refine Za V V<|zU<|yW<|yN (k:=1) [6] (by kernel_rfl) (by simp) ⟨⟨_,rfl,?_⟩,trivial⟩
      ·refine ZF V (xN V V)<|zU<|yW<|yN (k:=0) [8] (by kernel_rfl) (by simp) ⟨⟨_,rfl,?_⟩,trivial⟩
       ·refine Za V V<|zU<|yW<|qU (by kernel_rfl) ?_;refine zA (ι:=Unit) () (O3 V V V) (fun w h=>Hp.weakX h fun u hu=>hu.2)
    ·refine ZF V (xN V V)<|zU<|yW<|yN (k:=2) [5] (by kernel_rfl) (by simp) ⟨⟨_,rfl,?_⟩,trivial⟩
     ·refine ZF V (xN V V)<|zU<|yW<|yN (k:=1) [7] (by kernel_rfl) (by simp) ⟨⟨_,rfl,?_⟩,trivial⟩
      ·refine Za V V<|zU<|yW<|yN (k:=0) [8] (by kernel_rfl) (by simp) ⟨⟨_,rfl,?_⟩,trivial⟩
       ·refine Za V V<|zU<|yW<|qU (by kernel_rfl) ?_;refine zA (ι:=Unit) () (O3 V V V) (fun w h=>Hp.weakX h fun u hu=>hu.2)
 ·refine xA (ι:={b:Bool // b=xK k s kids.length}) (fun b=>[(1,.pointer (some ⟨b1,0,none⟩)),(3,.bool b.1)]) (fun _=>Hp (fun _=>False) w_0 [(b1,bk 57 (exC k n s A kids.length cap))] [] (fun u=>RdF F A kc u∧ExsV F u kids kc)) ?_ (fun b=>?_)
  ·refine zY<|zX<|ZF V (Y57x0 V) ?_;refine ZF V (zW 0 V V V U3 V)<|ZT<|yY<|zY<|zY<|Z4r 1 3 5 14 V V V V<|ZF V (yS V V)<|Za V V<|ZT<|zT V (fun h15=>?_) (fun h15=>?_)
   ·replace h15:=Jw h15
    first
     | (omega)
     | (
      refine zG<|zQ<|zT V (fun h15=>?_) (fun h15=>?_)
      ·replace h15:=Jw h15
       first
        | (omega)
        | (
         refine Z5r 1 3 5 14 15 V V V V V<|ZF V (Y57x2 V) ?_;refine ZF V (zW 0 V V V U9 V)<|ZF V (xU V V U9)<|Zm V V<|zH 21 V (fun hg=>?_) (fun hg=>?_)
         ·refine ZG V V V (Y57x3 V) ?_;refine ZG V V V (zW 0 V V V U55 V)<|ZG V V V (yM V U55)<|ZG V V V (yS V V)<|ZF V (zP V V)<|Za V V<|zU<|zM ?_
          refine zA (ι:={b:Bool // b=xK k s kids.length}) ⟨xK k s kids.length,rfl⟩ (.cons V<|.cons (by
           show some (Value.bool _)=some (Value.bool _);congr 2
           first
            | (rw[wW (by omega),Jl];simp_all<;>omega)
            | (rw[wZ (by omega),Jl];simp_all<;>omega)
            | (rw[wX (by omega)];done)
            | (rw[xB (by omega),Jl];simp_all<;>omega)
            | (rw[xC (by omega),Jl];simp_all<;>omega)
            | (rw[xD (by omega),Jl];simp_all<;>omega)
            | (rw[wV (by omega)];done))<|.nil) (fun w h=>Hp.drop h (by first|exact Jr _|exact Js _ _) (Jr _))
         ·refine ZP V<|ZP V<|ZP V<|ZP V<|ZF V (zL V V)<|Za V V<|zU<|zM ?_
          refine zA (ι:={b:Bool // b=xK k s kids.length}) ⟨xK k s kids.length,rfl⟩ (.cons V<|.cons (by
           show some (Value.bool _)=some (Value.bool _);congr 2
           first
            | (rw[wW (by omega),Jl];simp_all<;>omega)
            | (rw[wZ (by omega),Jl];simp_all<;>omega)
            | (rw[wX (by omega)];done)
            | (rw[xB (by omega),Jl];simp_all<;>omega)
            | (rw[xC (by omega),Jl];simp_all<;>omega)
            | (rw[xD (by omega),Jl];simp_all<;>omega)
            | (rw[wV (by omega)];done))<|.nil) (fun w h=>Hp.drop h (by first|exact Jr _|exact Js _ _) (Jr _)))
      ·replace h15:=yP h15
       first
        | (omega)
        | (
         refine zY<|Z5r 1 3 5 14 15 V V V V V<|ZF V (yS V V)<|Za V V<|ZT<|zT V (fun h27=>?_) (fun h27=>?_)
         ·replace h27:=Jw h27;refine Z6r 1 3 5 14 15 27 V V V V V V<|ZF V (Y57x2 V) ?_
          first|refine ZF rfl (zW 0 rfl rfl rfl U9 rfl) ?_|refine ZF rfl (zW 1 rfl rfl rfl U9 rfl) ?_|refine ZF rfl (zW 2 rfl rfl rfl U9 rfl) ?_|refine ZF rfl (zW 3 rfl rfl rfl U9 rfl) ?_|refine ZF rfl (zW 4 rfl rfl rfl U9 rfl) ?_|refine ZF rfl (zW 5 rfl rfl rfl U9 rfl) ?_
          refine yT .none V  (v:=.bool (yG s)) (by kernel_rfl) V (fun w hw=>rY s w) ?_;refine Zm V V<|zH 32 V (fun hg=>?_) (fun hg=>?_)
          ·refine ZG V V V (Y57x3 V) ?_
           first|refine ZG rfl rfl rfl (zW 0 rfl rfl rfl U55 rfl) ?_|refine ZG rfl rfl rfl (zW 1 rfl rfl rfl U55 rfl) ?_|refine ZG rfl rfl rfl (zW 2 rfl rfl rfl U55 rfl) ?_|refine ZG rfl rfl rfl (zW 3 rfl rfl rfl U55 rfl) ?_|refine ZG rfl rfl rfl (zW 4 rfl rfl rfl U55 rfl) ?_|refine ZG rfl rfl rfl (zW 5 rfl rfl rfl U55 rfl) ?_
           refine ZG V V V (yM V U55)<|ZG V V V (yS V V)<|ZF V (zP V V)<|Za V V<|zU<|zM ?_
           refine zA (ι:={b:Bool // b=xK k s kids.length}) ⟨xK k s kids.length,rfl⟩ (.cons V<|.cons (by
            show some (Value.bool _)=some (Value.bool _);congr 2
            first
             | (rw[wW (by omega),Jl];simp_all<;>omega)
             | (rw[wZ (by omega),Jl];simp_all<;>omega)
             | (rw[wX (by omega)];done)
             | (rw[xB (by omega),Jl];simp_all<;>omega)
             | (rw[xC (by omega),Jl];simp_all<;>omega)
             | (rw[xD (by omega),Jl];simp_all<;>omega)
             | (rw[wV (by omega)];done))<|.nil) (fun w h=>Hp.drop h (by first|exact Jr _|exact Js _ _) (Jr _))
          ·refine ZP V<|ZP V<|ZP V<|ZP V<|ZF V (zL V V)<|Za V V<|zU<|zM ?_
           refine zA (ι:={b:Bool // b=xK k s kids.length}) ⟨xK k s kids.length,rfl⟩ (.cons V<|.cons (by
            show some (Value.bool _)=some (Value.bool _);congr 2
            first
             | (rw[wW (by omega),Jl];simp_all<;>omega)
             | (rw[wZ (by omega),Jl];simp_all<;>omega)
             | (rw[wX (by omega)];done)
             | (rw[xB (by omega),Jl];simp_all<;>omega)
             | (rw[xC (by omega),Jl];simp_all<;>omega)
             | (rw[xD (by omega),Jl];simp_all<;>omega)
             | (rw[wV (by omega)];done))<|.nil) (fun w h=>Hp.drop h (by first|exact Jr _|exact Js _ _) (Jr _))
         ·replace h27:=yP h27;refine zY<|Z6r 1 3 5 14 15 27 V V V V V V<|ZF V (yS V V)<|Za V V<|ZT<|zT V (fun h38=>?_) (fun h38=>?_)
          ·replace h38:=Jw h38;refine Z7r 1 3 5 14 15 27 38 V V V V V V V<|ZF V (Y57x2 V) ?_
           first|refine ZF rfl (zW 0 rfl rfl rfl U9 rfl) ?_|refine ZF rfl (zW 1 rfl rfl rfl U9 rfl) ?_|refine ZF rfl (zW 2 rfl rfl rfl U9 rfl) ?_|refine ZF rfl (zW 3 rfl rfl rfl U9 rfl) ?_|refine ZF rfl (zW 4 rfl rfl rfl U9 rfl) ?_|refine ZF rfl (zW 5 rfl rfl rfl U9 rfl) ?_
           refine yT .none V  (v:=.bool (yG s)) (by kernel_rfl) V (fun w hw=>rY s w) ?_;refine Za V V<|zU<|zM ?_
           refine zA (ι:={b:Bool // b=xK k s kids.length}) ⟨xK k s kids.length,rfl⟩ (.cons V<|.cons (by
            show some (Value.bool _)=some (Value.bool _);congr 2
            first
             | (rw[wW (by omega),Jl];simp_all<;>omega)
             | (rw[wZ (by omega),Jl];simp_all<;>omega)
             | (rw[wX (by omega)];done)
             | (rw[xB (by omega),Jl];simp_all<;>omega)
             | (rw[xC (by omega),Jl];simp_all<;>omega)
             | (rw[xD (by omega),Jl];simp_all<;>omega)
             | (rw[wV (by omega)];done))<|.nil) (fun w h=>Hp.drop h (by first|exact Jr _|exact Js _ _) (Jr _))
          ·replace h38:=yP h38;refine zY<|Z7r 1 3 5 14 15 27 38 V V V V V V V<|ZF V (yS V V)<|Za V V<|ZT<|zT V (fun h43=>?_) (fun h43=>?_)
           ·replace h43:=Jw h43;refine Z8r 1 3 5 14 15 27 38 43 V V V V V V V V<|ZF V (Y57x2 V) ?_
            first|refine ZF rfl (zW 0 rfl rfl rfl U9 rfl) ?_|refine ZF rfl (zW 1 rfl rfl rfl U9 rfl) ?_|refine ZF rfl (zW 2 rfl rfl rfl U9 rfl) ?_|refine ZF rfl (zW 3 rfl rfl rfl U9 rfl) ?_|refine ZF rfl (zW 4 rfl rfl rfl U9 rfl) ?_|refine ZF rfl (zW 5 rfl rfl rfl U9 rfl) ?_
            refine ZF V (xU V V U9)<|Zm V V<|zH 48 V (fun hg=>?_) (fun hg=>?_)
            ·refine ZG V V V (Y57x3 V) ?_
             first|refine ZG rfl rfl rfl (zW 0 rfl rfl rfl U55 rfl) ?_|refine ZG rfl rfl rfl (zW 1 rfl rfl rfl U55 rfl) ?_|refine ZG rfl rfl rfl (zW 2 rfl rfl rfl U55 rfl) ?_|refine ZG rfl rfl rfl (zW 3 rfl rfl rfl U55 rfl) ?_|refine ZG rfl rfl rfl (zW 4 rfl rfl rfl U55 rfl) ?_|refine ZG rfl rfl rfl (zW 5 rfl rfl rfl U55 rfl) ?_
             refine ZG V V V (yM V U55)<|ZG V V V (yS V V)<|ZF V (zP V V)<|Za V V<|zU<|zM ?_
             refine zA (ι:={b:Bool // b=xK k s kids.length}) ⟨xK k s kids.length,rfl⟩ (.cons V<|.cons (by
              show some (Value.bool _)=some (Value.bool _);congr 2
              first
               | (rw[wW (by omega),Jl];simp_all<;>omega)
               | (rw[wZ (by omega),Jl];simp_all<;>omega)
               | (rw[wX (by omega)];done)
               | (rw[xB (by omega),Jl];simp_all<;>omega)
               | (rw[xC (by omega),Jl];simp_all<;>omega)
               | (rw[xD (by omega),Jl];simp_all<;>omega)
               | (rw[wV (by omega)];done))<|.nil) (fun w h=>Hp.drop h (by first|exact Jr _|exact Js _ _) (Jr _))
            ·refine ZP V<|ZP V<|ZP V<|ZP V<|ZF V (zL V V)<|Za V V<|zU<|zM ?_
             refine zA (ι:={b:Bool // b=xK k s kids.length}) ⟨xK k s kids.length,rfl⟩ (.cons V<|.cons (by
              show some (Value.bool _)=some (Value.bool _);congr 2
              first
               | (rw[wW (by omega),Jl];simp_all<;>omega)
               | (rw[wZ (by omega),Jl];simp_all<;>omega)
               | (rw[wX (by omega)];done)
               | (rw[xB (by omega),Jl];simp_all<;>omega)
               | (rw[xC (by omega),Jl];simp_all<;>omega)
               | (rw[xD (by omega),Jl];simp_all<;>omega)
               | (rw[wV (by omega)];done))<|.nil) (fun w h=>Hp.drop h (by first|exact Jr _|exact Js _ _) (Jr _))
           ·replace h43:=yP h43;refine zY<|Z8r 1 3 5 14 15 27 38 43 V V V V V V V V<|ZF V (yS V V)<|Za V V<|ZT<|zT V (fun h54=>?_) (fun h54=>?_)
            ·replace h54:=Jw h54;refine Z9r 1 3 5 14 15 27 38 43 54 V V V V V V V V V<|zC .none V (wM (z:=Ja) V V V V U22 (by kernel_rfl) (by kernel_rfl) V V) (fun b56=>?_);refine ZF V (Y57x2 V) ?_
             first|refine ZF rfl (zW 0 rfl rfl rfl U9 rfl) ?_|refine ZF rfl (zW 1 rfl rfl rfl U9 rfl) ?_|refine ZF rfl (zW 2 rfl rfl rfl U9 rfl) ?_|refine ZF rfl (zW 3 rfl rfl rfl U9 rfl) ?_|refine ZF rfl (zW 4 rfl rfl rfl U9 rfl) ?_|refine ZF rfl (zW 5 rfl rfl rfl U9 rfl) ?_
             refine yT .none V  (v:=.bool (decide (s∈tU))) (by kernel_rfl) V (fun w hw=>tZ tU (by decide) s _ 3 w (mem3 w_0 hw)) ?_;refine Zm V V<|zH 60 V (fun hg=>?_) (fun hg=>?_)
             ·refine ZG V V V (Y57x3 V) ?_
              first|refine ZG rfl rfl rfl (zW 0 rfl rfl rfl U55 rfl) ?_|refine ZG rfl rfl rfl (zW 1 rfl rfl rfl U55 rfl) ?_|refine ZG rfl rfl rfl (zW 2 rfl rfl rfl U55 rfl) ?_|refine ZG rfl rfl rfl (zW 3 rfl rfl rfl U55 rfl) ?_|refine ZG rfl rfl rfl (zW 4 rfl rfl rfl U55 rfl) ?_|refine ZG rfl rfl rfl (zW 5 rfl rfl rfl U55 rfl) ?_
              refine ZG V V V (yM V U55)<|ZG V V V (yS V V)<|ZF V (zP V V)<|Za V V<|zU<|zM ?_
              refine zA (ι:={b:Bool // b=xK k s kids.length}) ⟨xK k s kids.length,rfl⟩ (.cons V<|.cons (by
               show some (Value.bool _)=some (Value.bool _);congr 2
               first
                | (rw[wW (by omega),Jl];simp_all<;>omega)
                | (rw[wZ (by omega),Jl];simp_all<;>omega)
                | (rw[wX (by omega)];done)
                | (rw[xB (by omega),Jl];simp_all<;>omega)
                | (rw[xC (by omega),Jl];simp_all<;>omega)
                | (rw[xD (by omega),Jl];simp_all<;>omega)
                | (rw[wV (by omega)];done))<|.nil) (fun w h=>Hp.drop h (by first|exact Jr _|exact Js _ _) (Jr _))
             ·refine ZP V<|ZP V<|ZP V<|ZP V<|ZF V (zL V V)<|Za V V<|zU<|zM ?_
              refine zA (ι:={b:Bool // b=xK k s kids.length}) ⟨xK k s kids.length,rfl⟩ (.cons V<|.cons (by
               show some (Value.bool _)=some (Value.bool _);congr 2
               first
                | (rw[wW (by omega),Jl];simp_all<;>omega)
                | (rw[wZ (by omega),Jl];simp_all<;>omega)
                | (rw[wX (by omega)];done)
                | (rw[xB (by omega),Jl];simp_all<;>omega)
                | (rw[xC (by omega),Jl];simp_all<;>omega)
                | (rw[xD (by omega),Jl];simp_all<;>omega)
                | (rw[wV (by omega)];done))<|.nil) (fun w h=>Hp.drop h (by first|exact Jr _|exact Js _ _) (Jr _))
            ·replace h54:=yP h54;refine zY<|Z9r 1 3 5 14 15 27 38 43 54 V V V V V V V V V<|ZF V (yS V V)<|Za V V<|ZT<|zT V (fun h66=>?_) (fun h66=>?_)
             ·replace h66:=Jw h66;refine Z10r 1 3 5 14 15 27 38 43 54 66 V V V V V V V V V V<|Zm V V<|Zm V V<|zH 69 V (fun hg=>?_) (fun hg=>?_)
              ·refine ZG V V V (Y57x3 V) ?_
               first|refine ZG rfl rfl rfl (zW 0 rfl rfl rfl U55 rfl) ?_|refine ZG rfl rfl rfl (zW 1 rfl rfl rfl U55 rfl) ?_|refine ZG rfl rfl rfl (zW 2 rfl rfl rfl U55 rfl) ?_|refine ZG rfl rfl rfl (zW 3 rfl rfl rfl U55 rfl) ?_|refine ZG rfl rfl rfl (zW 4 rfl rfl rfl U55 rfl) ?_|refine ZG rfl rfl rfl (zW 5 rfl rfl rfl U55 rfl) ?_
               refine ZG V V V (yM V U55)<|ZG V V V (yS V V)<|ZF V (zP V V)<|Za V V<|zU<|zM ?_
               refine zA (ι:={b:Bool // b=xK k s kids.length}) ⟨xK k s kids.length,rfl⟩ (.cons V<|.cons (by
                show some (Value.bool _)=some (Value.bool _);congr 2
                first
                 | (rw[wW (by omega),Jl];simp_all<;>omega)
                 | (rw[wZ (by omega),Jl];simp_all<;>omega)
                 | (rw[wX (by omega)];done)
                 | (rw[xB (by omega),Jl];simp_all<;>omega)
                 | (rw[xC (by omega),Jl];simp_all<;>omega)
                 | (rw[xD (by omega),Jl];simp_all<;>omega)
                 | (rw[wV (by omega)];done))<|.nil) (fun w h=>Hp.drop h (by first|exact Jr _|exact Js _ _) (Jr _))
              ·refine ZP V<|ZP V<|ZP V<|ZP V<|ZF V (zL V V)<|Za V V<|zU<|zM ?_
               refine zA (ι:={b:Bool // b=xK k s kids.length}) ⟨xK k s kids.length,rfl⟩ (.cons V<|.cons (by
                show some (Value.bool _)=some (Value.bool _);congr 2
                first
                 | (rw[wW (by omega),Jl];simp_all<;>omega)
                 | (rw[wZ (by omega),Jl];simp_all<;>omega)
                 | (rw[wX (by omega)];done)
                 | (rw[xB (by omega),Jl];simp_all<;>omega)
                 | (rw[xC (by omega),Jl];simp_all<;>omega)
                 | (rw[xD (by omega),Jl];simp_all<;>omega)
                 | (rw[wV (by omega)];done))<|.nil) (fun w h=>Hp.drop h (by first|exact Jr _|exact Js _ _) (Jr _))
             ·replace h66:=yP h66;refine zG<|zM ?_
              refine zA (ι:={b:Bool // b=xK k s kids.length}) ⟨xK k s kids.length,rfl⟩ (.cons V<|.cons (by
               show some (Value.bool _)=some (Value.bool _);congr 2
               first
                | (rw[wW (by omega),Jl];simp_all<;>omega)
                | (rw[wZ (by omega),Jl];simp_all<;>omega)
                | (rw[wX (by omega)];done)
                | (rw[xB (by omega),Jl];simp_all<;>omega)
                | (rw[xC (by omega),Jl];simp_all<;>omega)
                | (rw[xD (by omega),Jl];simp_all<;>omega)
                | (rw[wV (by omega)];done))<|.nil) (fun w h=>Hp.drop h (by first|exact Jr _|exact Js _ _) (Jr _))))
   ·replace h15:=yP h15
    first
     | (omega)
     | (
      refine Z5r 1 3 5 14 15 V V V V V<|ZF V (yS V V)<|Za V V<|ZT<|zT V (fun h15=>?_) (fun h15=>?_)
      ·replace h15:=Jw h15
       first
        | (omega)
        | (
         refine Z5r 1 3 5 14 15 V V V V V<|ZF V (Y57x2 V) ?_;refine ZF V (zW 0 V V V U9 V)<|ZF V (xU V V U9)<|Zm V V<|zH 21 V (fun hg=>?_) (fun hg=>?_)
         ·refine ZG V V V (Y57x3 V) ?_;refine ZG V V V (zW 0 V V V U55 V)<|ZG V V V (yM V U55)<|ZG V V V (yS V V)<|ZF V (zP V V)<|Za V V<|zU<|zM ?_
          refine zA (ι:={b:Bool // b=xK k s kids.length}) ⟨xK k s kids.length,rfl⟩ (.cons V<|.cons (by
           show some (Value.bool _)=some (Value.bool _);congr 2
           first
            | (rw[wW (by omega),Jl];simp_all<;>omega)
            | (rw[wZ (by omega),Jl];simp_all<;>omega)
            | (rw[wX (by omega)];done)
            | (rw[xB (by omega),Jl];simp_all<;>omega)
            | (rw[xC (by omega),Jl];simp_all<;>omega)
            | (rw[xD (by omega),Jl];simp_all<;>omega)
            | (rw[wV (by omega)];done))<|.nil) (fun w h=>Hp.drop h (by first|exact Jr _|exact Js _ _) (Jr _))
         ·refine ZP V<|ZP V<|ZP V<|ZP V<|ZF V (zL V V)<|Za V V<|zU<|zM ?_
          refine zA (ι:={b:Bool // b=xK k s kids.length}) ⟨xK k s kids.length,rfl⟩ (.cons V<|.cons (by
           show some (Value.bool _)=some (Value.bool _);congr 2
           first
            | (rw[wW (by omega),Jl];simp_all<;>omega)
            | (rw[wZ (by omega),Jl];simp_all<;>omega)
            | (rw[wX (by omega)];done)
            | (rw[xB (by omega),Jl];simp_all<;>omega)
            | (rw[xC (by omega),Jl];simp_all<;>omega)
            | (rw[xD (by omega),Jl];simp_all<;>omega)
            | (rw[wV (by omega)];done))<|.nil) (fun w h=>Hp.drop h (by first|exact Jr _|exact Js _ _) (Jr _)))
      ·replace h15:=yP h15
       first
        | (omega)
        | (
         refine zY<|Z5r 1 3 5 14 15 V V V V V<|ZF V (yS V V)<|Za V V<|ZT<|zT V (fun h27=>?_) (fun h27=>?_)
         ·replace h27:=Jw h27;refine Z6r 1 3 5 14 15 27 V V V V V V<|ZF V (Y57x2 V) ?_;refine ZF V (zW 0 V V V U9 V)<|yT .none V  (v:=.bool (yG s)) (by kernel_rfl) V (fun w hw=>rY s w) ?_;refine Zm V V<|zH 32 V (fun hg=>?_) (fun hg=>?_)
          ·refine ZG V V V (Y57x3 V) ?_;refine ZG V V V (zW 0 V V V U55 V)<|ZG V V V (yM V U55)<|ZG V V V (yS V V)<|ZF V (zP V V)<|Za V V<|zU<|zM ?_
           refine zA (ι:={b:Bool // b=xK k s kids.length}) ⟨xK k s kids.length,rfl⟩ (.cons V<|.cons (by
            show some (Value.bool _)=some (Value.bool _);congr 2
            first
             | (rw[wW (by omega),Jl];simp_all<;>omega)
             | (rw[wZ (by omega),Jl];simp_all<;>omega)
             | (rw[wX (by omega)];done)
             | (rw[xB (by omega),Jl];simp_all<;>omega)
             | (rw[xC (by omega),Jl];simp_all<;>omega)
             | (rw[xD (by omega),Jl];simp_all<;>omega)
             | (rw[wV (by omega)];done))<|.nil) (fun w h=>Hp.drop h (by first|exact Jr _|exact Js _ _) (Jr _))
          ·refine ZP V<|ZP V<|ZP V<|ZP V<|ZF V (zL V V)<|Za V V<|zU<|zM ?_
           refine zA (ι:={b:Bool // b=xK k s kids.length}) ⟨xK k s kids.length,rfl⟩ (.cons V<|.cons (by
            show some (Value.bool _)=some (Value.bool _);congr 2
            first
             | (rw[wW (by omega),Jl];simp_all<;>omega)
             | (rw[wZ (by omega),Jl];simp_all<;>omega)
             | (rw[wX (by omega)];done)
             | (rw[xB (by omega),Jl];simp_all<;>omega)
             | (rw[xC (by omega),Jl];simp_all<;>omega)
             | (rw[xD (by omega),Jl];simp_all<;>omega)
             | (rw[wV (by omega)];done))<|.nil) (fun w h=>Hp.drop h (by first|exact Jr _|exact Js _ _) (Jr _))
         ·replace h27:=yP h27;refine zY<|Z6r 1 3 5 14 15 27 V V V V V V<|ZF V (yS V V)<|Za V V<|ZT<|zT V (fun h38=>?_) (fun h38=>?_)
          ·replace h38:=Jw h38;refine Z7r 1 3 5 14 15 27 38 V V V V V V V<|ZF V (Y57x2 V) ?_;refine ZF V (zW 0 V V V U9 V)<|yT .none V  (v:=.bool (yG s)) (by kernel_rfl) V (fun w hw=>rY s w) ?_;refine Za V V<|zU<|zM ?_
           refine zA (ι:={b:Bool // b=xK k s kids.length}) ⟨xK k s kids.length,rfl⟩ (.cons V<|.cons (by
            show some (Value.bool _)=some (Value.bool _);congr 2
            first
             | (rw[wW (by omega),Jl];simp_all<;>omega)
             | (rw[wZ (by omega),Jl];simp_all<;>omega)
             | (rw[wX (by omega)];done)
             | (rw[xB (by omega),Jl];simp_all<;>omega)
             | (rw[xC (by omega),Jl];simp_all<;>omega)
             | (rw[xD (by omega),Jl];simp_all<;>omega)
             | (rw[wV (by omega)];done))<|.nil) (fun w h=>Hp.drop h (by first|exact Jr _|exact Js _ _) (Jr _))
          ·replace h38:=yP h38;refine zY<|Z7r 1 3 5 14 15 27 38 V V V V V V V<|ZF V (yS V V)<|Za V V<|ZT<|zT V (fun h43=>?_) (fun h43=>?_)
           ·replace h43:=Jw h43;refine Z8r 1 3 5 14 15 27 38 43 V V V V V V V V<|ZF V (Y57x2 V) ?_;refine ZF V (zW 0 V V V U9 V)<|ZF V (xU V V U9)<|Zm V V<|zH 48 V (fun hg=>?_) (fun hg=>?_)
            ·refine ZG V V V (Y57x3 V) ?_;refine ZG V V V (zW 0 V V V U55 V)<|ZG V V V (yM V U55)<|ZG V V V (yS V V)<|ZF V (zP V V)<|Za V V<|zU<|zM ?_
             refine zA (ι:={b:Bool // b=xK k s kids.length}) ⟨xK k s kids.length,rfl⟩ (.cons V<|.cons (by
              show some (Value.bool _)=some (Value.bool _);congr 2
              first
               | (rw[wW (by omega),Jl];simp_all<;>omega)
               | (rw[wZ (by omega),Jl];simp_all<;>omega)
               | (rw[wX (by omega)];done)
               | (rw[xB (by omega),Jl];simp_all<;>omega)
               | (rw[xC (by omega),Jl];simp_all<;>omega)
               | (rw[xD (by omega),Jl];simp_all<;>omega)
               | (rw[wV (by omega)];done))<|.nil) (fun w h=>Hp.drop h (by first|exact Jr _|exact Js _ _) (Jr _))
            ·refine ZP V<|ZP V<|ZP V<|ZP V<|ZF V (zL V V)<|Za V V<|zU<|zM ?_
             refine zA (ι:={b:Bool // b=xK k s kids.length}) ⟨xK k s kids.length,rfl⟩ (.cons V<|.cons (by
              show some (Value.bool _)=some (Value.bool _);congr 2
              first
               | (rw[wW (by omega),Jl];simp_all<;>omega)
               | (rw[wZ (by omega),Jl];simp_all<;>omega)
               | (rw[wX (by omega)];done)
               | (rw[xB (by omega),Jl];simp_all<;>omega)
               | (rw[xC (by omega),Jl];simp_all<;>omega)
               | (rw[xD (by omega),Jl];simp_all<;>omega)
               | (rw[wV (by omega)];done))<|.nil) (fun w h=>Hp.drop h (by first|exact Jr _|exact Js _ _) (Jr _))
           ·replace h43:=yP h43;refine zY<|Z8r 1 3 5 14 15 27 38 43 V V V V V V V V<|ZF V (yS V V)<|Za V V<|ZT<|zT V (fun h54=>?_) (fun h54=>?_)
            ·replace h54:=Jw h54;refine Z9r 1 3 5 14 15 27 38 43 54 V V V V V V V V V<|zC .none V (wM (z:=Ja) V V V V U22 (by kernel_rfl) (by kernel_rfl) V V) (fun b56=>?_);refine ZF V (Y57x2 V) ?_;refine ZF V (zW 1 V V V U9 V)<|yT .none V  (v:=.bool (decide (s∈tU))) (by kernel_rfl) V (fun w hw=>tZ tU (by decide) s _ 3 w (mem3 w_0 hw)) ?_;refine Zm V V<|zH 60 V (fun hg=>?_) (fun hg=>?_)
             ·refine ZG V V V (Y57x3 V) ?_;refine ZG V V V (zW 1 V V V U55 V)<|ZG V V V (yM V U55)<|ZG V V V (yS V V)<|ZF V (zP V V)<|Za V V<|zU<|zM ?_
              refine zA (ι:={b:Bool // b=xK k s kids.length}) ⟨xK k s kids.length,rfl⟩ (.cons V<|.cons (by
               show some (Value.bool _)=some (Value.bool _);congr 2
               first
                | (rw[wW (by omega),Jl];simp_all<;>omega)
                | (rw[wZ (by omega),Jl];simp_all<;>omega)
                | (rw[wX (by omega)];done)
                | (rw[xB (by omega),Jl];simp_all<;>omega)
                | (rw[xC (by omega),Jl];simp_all<;>omega)
                | (rw[xD (by omega),Jl];simp_all<;>omega)
                | (rw[wV (by omega)];done))<|.nil) (fun w h=>Hp.drop h (by first|exact Jr _|exact Js _ _) (Jr _))
             ·refine ZP V<|ZP V<|ZP V<|ZP V<|ZF V (zL V V)<|Za V V<|zU<|zM ?_
              refine zA (ι:={b:Bool // b=xK k s kids.length}) ⟨xK k s kids.length,rfl⟩ (.cons V<|.cons (by
               show some (Value.bool _)=some (Value.bool _);congr 2
               first
                | (rw[wW (by omega),Jl];simp_all<;>omega)
                | (rw[wZ (by omega),Jl];simp_all<;>omega)
                | (rw[wX (by omega)];done)
                | (rw[xB (by omega),Jl];simp_all<;>omega)
                | (rw[xC (by omega),Jl];simp_all<;>omega)
                | (rw[xD (by omega),Jl];simp_all<;>omega)
                | (rw[wV (by omega)];done))<|.nil) (fun w h=>Hp.drop h (by first|exact Jr _|exact Js _ _) (Jr _))
            ·replace h54:=yP h54;refine zY<|Z9r 1 3 5 14 15 27 38 43 54 V V V V V V V V V<|ZF V (yS V V)<|Za V V<|ZT<|zT V (fun h66=>?_) (fun h66=>?_)
             ·replace h66:=Jw h66;refine Z10r 1 3 5 14 15 27 38 43 54 66 V V V V V V V V V V<|Zm V V<|Zm V V<|zH 69 V (fun hg=>?_) (fun hg=>?_)
              ·refine ZG V V V (Y57x3 V) ?_;refine ZG V V V (zW 0 V V V U55 V)<|ZG V V V (yM V U55)<|ZG V V V (yS V V)<|ZF V (zP V V)<|Za V V<|zU<|zM ?_
               refine zA (ι:={b:Bool // b=xK k s kids.length}) ⟨xK k s kids.length,rfl⟩ (.cons V<|.cons (by
                show some (Value.bool _)=some (Value.bool _);congr 2
                first
                 | (rw[wW (by omega),Jl];simp_all<;>omega)
                 | (rw[wZ (by omega),Jl];simp_all<;>omega)
                 | (rw[wX (by omega)];done)
                 | (rw[xB (by omega),Jl];simp_all<;>omega)
                 | (rw[xC (by omega),Jl];simp_all<;>omega)
                 | (rw[xD (by omega),Jl];simp_all<;>omega)
                 | (rw[wV (by omega)];done))<|.nil) (fun w h=>Hp.drop h (by first|exact Jr _|exact Js _ _) (Jr _))
              ·refine ZP V<|ZP V<|ZP V<|ZP V<|ZF V (zL V V)<|Za V V<|zU<|zM ?_
               refine zA (ι:={b:Bool // b=xK k s kids.length}) ⟨xK k s kids.length,rfl⟩ (.cons V<|.cons (by
                show some (Value.bool _)=some (Value.bool _);congr 2
                first
                 | (rw[wW (by omega),Jl];simp_all<;>omega)
                 | (rw[wZ (by omega),Jl];simp_all<;>omega)
                 | (rw[wX (by omega)];done)
                 | (rw[xB (by omega),Jl];simp_all<;>omega)
                 | (rw[xC (by omega),Jl];simp_all<;>omega)
                 | (rw[xD (by omega),Jl];simp_all<;>omega)
                 | (rw[wV (by omega)];done))<|.nil) (fun w h=>Hp.drop h (by first|exact Jr _|exact Js _ _) (Jr _))
             ·replace h66:=yP h66;refine zG<|zM ?_
              refine zA (ι:={b:Bool // b=xK k s kids.length}) ⟨xK k s kids.length,rfl⟩ (.cons V<|.cons (by
               show some (Value.bool _)=some (Value.bool _);congr 2
               first
                | (rw[wW (by omega),Jl];simp_all<;>omega)
                | (rw[wZ (by omega),Jl];simp_all<;>omega)
                | (rw[wX (by omega)];done)
                | (rw[xB (by omega),Jl];simp_all<;>omega)
                | (rw[xC (by omega),Jl];simp_all<;>omega)
                | (rw[xD (by omega),Jl];simp_all<;>omega)
                | (rw[wV (by omega)];done))<|.nil) (fun w h=>Hp.drop h (by first|exact Jr _|exact Js _ _) (Jr _))))
  ·obtain⟨ok,hok⟩:=b;dsimp only;refine zY<|zX<|Zm V V<|Zm V V<|zH 76 V (fun g2=>?_) (fun g2=>?_)
   ·refine ZG V V V (Y57x0 V) ?_;refine ZG V V V (zW 0 V V V U3 V)<|ZG V V V (yS V V)<|ZG V V V (zO V)<|zH 80 V (fun g6=>?_) (fun g6=>?_)
    ·replace g6:=Jw g6;refine ZP V<|ZP V<|ZP V<|ZG V V V (zP V V)<|ZF V (zP V V)<|Zm V V<|ZG V V V (Y57x3 V) ?_;refine ZG V V V (zW 0 V V V U55 V)<|yT (.some V V) V  (v:=.bool (kids.any fun x=>!yJ x)) (by kernel_rfl) V (fun w hw=>rD kids A cap hle kc (pr_right kids IH) w (HpG.x hw) trivial) ?_;refine ZG V V V (xJ V)<|ZF V (zP V V)<|Za V V<|ZT<|zK<|zI V V (fun w hw=>?_);refine⟨?_,(Jq hw).ext⟩;congr 2;rw[← sI,← hok];generalize (kids.any fun x=>!yJ x)=z at *;rw[Jl]
     first
      | (simp_all;done)
      | (simp_all;omega)
    ·replace g6:=yP g6;refine ZG V V V (Y57x1 V) ?_;refine ZG V V V (zW 0 V V V U50 V)<|ZG V V V (yS V V)<|ZG V V V (zL V V)<|ZF V (zP V V)<|Zm V V<|zH 86 V (fun g12=>?_) (fun g12=>?_)
     ·replace g12:=Jw g12;refine ZG V V V (Y57x3 V) ?_;refine ZG V V V (zW 0 V V V U55 V)<|yT (.some V V) V  (v:=.bool (kids.any fun x=>!yJ x)) (by kernel_rfl) V (fun w hw=>rD kids A cap hle kc (pr_right kids IH) w (HpG.x hw) trivial) ?_;refine ZG V V V (xJ V)<|ZF V (zP V V)<|Za V V<|ZT<|zK<|zI V V (fun w hw=>?_);refine⟨?_,(Jq hw).ext⟩;congr 2;rw[← sI,← hok];generalize (kids.any fun x=>!yJ x)=z at *;rw[Jl]
      first
       | (simp_all;done)
       | (simp_all;omega)
     ·replace g12:=yP g12;refine ZP V<|ZP V<|ZP V<|ZP V<|ZF V (zL V V)<|Za V V<|ZT<|zK<|zI V V (fun w hw=>?_);refine⟨?_,(Jq hw).ext⟩;congr 2;rw[← sI,← hok];generalize (kids.any fun x=>!yJ x)=z at *;rw[Jl]
      first
       | (simp_all;done)
       | (simp_all;omega)
   ·refine ZP V<|ZP V<|ZP V<|ZP V<|yZ V V V<|yZ V V V<|yZ V V V<|ZP V<|ZF V (zL V V)<|Zm V V<|ZP V<|ZP V<|ZP V<|ZP V<|ZF V (zL V V)<|Za V V<|ZT<|zK<|zI V V (fun w hw=>?_);refine⟨?_,(Jq hw).ext⟩;congr 2;rw[← sI,← hok];generalize (kids.any fun x=>!yJ x)=z at *;rw[Jl]
    first
     | (simp_all;done)
     | (simp_all;omega)
theorem rightE_all:∀(N:Nat) (x:Ex),SizeOf.sizeOf x<N→RE x
 | 0,_,h=>absurd h (by omega)
 | N+1,.mk k n s kids,h=>rightE_step k n s kids fun x hx=>rightE_all N x (by have:=tM (k:=k) (n:=n) (s:=s) hx;omega)
theorem rightE_any (x:Ex):RE x:=rightE_all _ x (Nat.lt_succ_self _)
theorem pr_right2 (l:List Ex):PrE (.func (.func 132) #[] #[]) l (fun x=>!yJ x) (fun _=>True):=⟨_,[],[],rfl,by kernel_rfl,fun _ _ _ _=>trivial,fun x hx F A cap w_0 h _=>by
 show Calls Tryz.prog 132 #[.agg (xL x A cap).toArray] w_0 fun e w'=>e=.returned (.bool (!yJ x))∧Ext w_0 w';refine yV (args:=[.agg (xL x A cap).toArray]) Tryz.func132 V 6 V (Jn V)<|Z1 0 V<|zD (H':=Hp (fun _=>False) w_0 [] [] (fun u=>xT F u x A cap)) (fun u hu=>?_) ?_
 ·subst hu;exact Hp.startT xT.lies h
 refine zY<|zX<|zC .none V (vY V V) (fun b1=>?_);refine Za V V<|ZX<|zX<|ZF V (yX 0 V V U57 V (by kernel_rfl)) ?_;refine yT .none V  (v:=.bool (yJ x)) (by kernel_rfl) V (fun w hw=>rightE_any x F A cap w (HpG.x hw)) ?_;refine ZF V (xJ V)<|Za V V<|ZT<|zK<|zI V V (fun w hw=>?_);exact⟨rfl,(Jq hw).ext⟩
 ⟩
def RS (t:St):Prop:=∀F a w,stsK F w t a→Calls Tryz.prog 99 #[.agg (stOf t a).toArray] w fun e w'=>e=.returned (.bool (xH t))∧Ext w w'
theorem pr_rightS (l:List St) (h:∀x∈l,RS x):PrS (.func (.func 98) #[] #[]) l (fun x=>!xH x) (fun _=>True):=⟨_,[],[],rfl,by kernel_rfl,fun _ _ _ _=>trivial,fun x hx F a w_0 hk _=>by
 show Calls Tryz.prog 98 #[.agg (stOf x a).toArray] w_0 fun e w'=>e=.returned (.bool (!xH x))∧Ext w_0 w';refine yV (args:=[.agg (stOf x a).toArray]) Tryz.func98 V 6 V (Jn V)<|Z1 0 V<|zD (H':=Hp (fun _=>False) w_0 [] [] (fun u=>stsK F u x a)) (fun u hu=>?_) ?_
 ·subst hu;exact Hp.startT stsK.lies hk
 refine zY<|zX<|zC .none V (vY V V) (fun b1=>?_);refine Za V V<|ZX<|zX<|ZF V (yX 0 V V U60 V (by kernel_rfl)) ?_;refine yT .none V  (v:=.bool (xH x)) (by kernel_rfl) V (fun w hw=>h x hx F a w (HpG.x hw)) ?_;refine ZF V (xJ V)<|Za V V<|ZT<|zK<|zI V V (fun w hw=>?_);exact⟨rfl,(Jq hw).ext⟩
 ⟩
theorem any_notS (l:List St):(!l.any fun x=>!xH x)=rightSts l:=by
 rw[uQ]
 induction l with
 | nil=>rfl
 | cons x l ih=>simp only[List.any_cons,List.all_cons,Bool.not_or,Bool.not_not,ih]
theorem qH (l:List St) (h:∀x∈l,RS x) (F:Nat→Prop) (A:Option Addr) (cap:Nat) (w_0:World) (hk:wQ F w_0 l A cap):Calls Tryz.prog 57 #[.slice A l.length cap] w_0 fun e w'=>e=.returned (.bool (rightSts l))∧Ext w_0 w':=by
 obtain⟨hcp,cs,hk⟩:=hk;refine yV (args:=[.slice A l.length cap]) Tryz.func57 V 6 V (Jn V)<|Z1 0 V<|zD (H':=Hp (fun _=>False) w_0 [] [] (fun u=>RdF F A cs u∧StsV F u l cs)) (fun u hu=>?_) ?_
 ·subst hu;exact Hp.startT (T:=fun F u=>RdF F A cs u∧StsV F u l cs) ⟨fun hk ⟨a,b⟩=>⟨RdF.lies.foot hk a,StsV.lies.foot hk b⟩,fun ⟨a,b⟩=>⟨RdF.lies.lt a,StsV.lies.lt b⟩,fun hF ⟨a,b⟩=>⟨RdF.lies.mono hF a,StsV.lies.mono hF b⟩⟩ hk
 refine zY<|zX<|Za V V<|ZX<|zX<|Zm V V<|yT .none V  (v:=.bool (l.any fun x=>!xH x)) (by kernel_rfl) V (fun w hw=>containsS_any l A cap hcp cs (pr_rightS l h) w (HpG.x hw) trivial) ?_;refine ZF V (xJ V)<|Za V V<|ZT<|zK<|zI V V (fun w hw=>?_);exact⟨by rw[any_notS],(Jq hw).ext⟩
end Go.Proofs.YtfpkpnkdnammnaaGreatDoor
