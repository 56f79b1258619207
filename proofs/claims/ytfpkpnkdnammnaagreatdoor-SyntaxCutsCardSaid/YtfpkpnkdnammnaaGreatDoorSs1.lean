import Derived.Test.YtfpkpnkdnammnaaGreatDoorMgL
set_option maxRecDepth 100000
namespace Go.Proofs.YtfpkpnkdnammnaaGreatDoor
open Go.RowKit
theorem cell_in_s {w:World}{b o:Nat}{v:Value}(h:w.cell? ⟨b,o,none⟩=some v):b<w.heap.size:=by
 rcases Nat.lt_or_ge b w.heap.size with h1|h1
 ·exact h1
 ·unfold World.cell? at h;simp[Array.getElem?_eq_none h1] at h
theorem pX.ext {w w':World}(h:pX w) (hx:Ext w w'):pX w':=by
 obtain⟨t,p,h⟩:=h;refine⟨t,p,?_⟩;rw[Below.cell hx (p:=⟨2,0,none⟩) (cell_in_s h)];exact h
def bmain:Bs:=[109,97,105,110]
def src1:Bs:=[102,110,32,109,97,105,110,40,41,123,111,117,116,32,49,43,50,42,51,59,125]
def src2:Bs:=[102,110,32,109,97,105,110,40,41,32,123,32,111,117,116,32,52,50,57,52,57,54,55,50,57,54,59,32,125]
def src3:Bs:=[102,110,32,109,97,105,110,40,41,32,123,32,40,120,41,32,61,32,49,59,32,125]
def src4:Bs:=[102,110,32,109,97,105,110,40,41,32,123,32,120,32,61,32,49,59,32,118,97,114,32,120,32,61,32,50,59,32,125]
def out1:Bs:=[102,110,32,109,97,105,110,40,41,32,123,10,32,32,111,117,116,32,49,32,43,32,50,32,42,32,51,59,10,125,10]
def oZ (n:Nat):Ex:=.mk 1 n [] []
def prg1:List Fn:=[⟨bmain,[],[.mk 7 [] [.mk 7 0 [43] [oZ 1,.mk 7 0 [42] [oZ 2,oZ 3]]] [] []]⟩]
def prg4:List Fn:=[⟨bmain,[],[.mk 2 [120] [oZ 1] [] [],.mk 1 [120] [oZ 2] [] []]⟩]
theorem pf1:qT 40 src1=some (prg1,0,0):=by rfl
theorem pf2:qT 40 src2=some ([],16,24):=by rfl
theorem pf3:qT 40 src3=some ([],16,20):=by rfl
theorem pf4:qT 40 src4=some (prg4,0,0):=by rfl
theorem dd1 {n:Nat}(h:n<10):Lib.decDigits n=[UInt8.ofNat (48+n)]:=by rw[Lib.decDigits,dif_pos h]
theorem txt_num {n need:Nat}(h:n<10) (hn:need≤8):vD (oZ n) need=[UInt8.ofNat (48+n)]:=by
 rw[oZ,textE_eq,Ko (by show ¬8<need;omega)];exact dd1 h
theorem txt_a:vD (.mk 7 0 [42] [oZ 2,oZ 3]) 7=[50,32,42,32,51]:=by
 rw[textE_eq,Ko (by decide)];show vD (oZ 2) 7++[32]++[42]++[32]++vD (oZ 3) 8=_;rw[txt_num (by decide) (by decide),txt_num (by decide) (by decide)];rfl
theorem txt_b:vD (.mk 7 0 [43] [oZ 1,.mk 7 0 [42] [oZ 2,oZ 3]]) 0=[49,32,43,32,50,32,42,32,51]:=by
 rw[textE_eq,Ko (by decide)];show vD (oZ 1) 6++[32]++[43]++[32]++vD (.mk 7 0 [42] [oZ 2,oZ 3]) 7=_;rw[txt_num (by decide) (by decide),txt_a];rfl
theorem print1:xE prg1=out1:=by
 rw[show xE prg1=(prg1.map prF).flatten from Kp (by rfl)];show uJ 0 ([102,110,32]++bmain++[40]++Lib.join [] [44,32]++[41,32,123])++(uJ 1 ([111,117,116,32]++vD (.mk 7 0 [43] [oZ 1,.mk 7 0 [42] [oZ 2,oZ 3]]) 0++[59])++[])++uJ 0 [125]++[]=out1;rw[txt_b];rfl
theorem check4:checkP prg4=21:=by rfl
set_option maxHeartbeats 1000000 in
theorem sanity_any (w_0:World) (hv:pX w_0) (hT:TbN w_0):Calls Tryz.prog 15 #[] w_0 fun e w'=>e=.returned (.bool true)∧Ext w_0 w':=by
 refine yV (args:=[]) Tryz.func15 V 65 V (Jn V)<|wY (.nil)<|zD (H':=Hp (fun _=>False) w_0 [] [] (fun _=>True)) (fun u hu=>?_) ?_
 ·subst hu;exact Hp.start0
 refine zY<|zX<|Za V V<|ZX<|zX<|sU (ι:=Option Addr×Nat) (C:=fun _=>True) (val:=fun i=>.tuple #[.agg #[.slice i.1 1 i.2],.int .i64 0,.int .i64 0]) (TT:=fun i F u=>PgK F u prg1 i.1 i.2) .none V  (by kernel_rfl) V (fun _ h=>h.elim) (fun _=>PgK.lies) (fun w hw=>(qG src1 (by decide) 40 (by decide) _ pf1 w (hv.ext (Jq hw).ext)).mono fun e w' ⟨A,cap,e1,e2,e3⟩=>⟨(A,cap),trivial,e1,e2,e3⟩) (fun i F1 _ hF1=>?_);obtain⟨A1,c1⟩:=i;dsimp only;refine Zm V V<|ZF V (xN V V)<|ZF V (xN V V)<|ZF V (xN V V)<|zC .none V (yK (z:=Jb) (cs:=Jh) (by kernel_rfl) V) (fun b1=>?_);refine ZR 0 V V V V V (by kernel_rfl) ?_;refine Za V V<|Za V V<|ZX<|Z3r 0 1 3 V V V<|sU (ι:=Option Addr×Nat) (C:=fun _=>True) (val:=fun i=>.tuple #[.agg #[.slice i.1 0 i.2],.int .i64 16,.int .i64 24]) (TT:=fun i F u=>PgK F u [] i.1 i.2) .none V  (by kernel_rfl) V (fun _ h=>h.elim) (fun _=>PgK.lies) (fun w hw=>(qG src2 (by decide) 40 (by decide) _ pf2 w (hv.ext (Jq hw).ext)).mono fun e w' ⟨A,cap,e1,e2,e3⟩=>⟨(A,cap),trivial,e1,e2,e3⟩) (fun i F2 _ hF2=>?_);obtain⟨A2,c2⟩:=i;dsimp only;refine Zm V V<|ZF V (xN V V)<|ZF V (xN V V)<|ZF V (xN V V)<|zC .none V (yK (z:=Jb) (cs:=Jh) (by kernel_rfl) V) (fun b4=>?_);refine ZR 0 V V V V V (by kernel_rfl) ?_;refine Za V V<|Za V V<|ZX<|Z5r 0 1 3 5 6 V V V V V<|sU (ι:=Option Addr×Nat) (C:=fun _=>True) (val:=fun i=>.tuple #[.agg #[.slice i.1 0 i.2],.int .i64 16,.int .i64 20]) (TT:=fun i F u=>PgK F u [] i.1 i.2) .none V  (by kernel_rfl) V (fun _ h=>h.elim) (fun _=>PgK.lies) (fun w hw=>(qG src3 (by decide) 40 (by decide) _ pf3 w (hv.ext (Jq hw).ext)).mono fun e w' ⟨A,cap,e1,e2,e3⟩=>⟨(A,cap),trivial,e1,e2,e3⟩) (fun i F3 _ hF3=>?_);obtain⟨A3,c3⟩:=i;dsimp only;refine Zm V V<|ZF V (xN V V)<|ZF V (xN V V)<|ZF V (xN V V)<|zC .none V (yK (z:=Jb) (cs:=Jh) (by kernel_rfl) V) (fun b7=>?_);refine ZR 0 V V V V V (by kernel_rfl) ?_;refine Za V V<|Za V V<|ZX<|Z7r 0 1 3 5 6 8 9 V V V V V V V<|sU (ι:=Option Addr×Nat) (C:=fun _=>True) (val:=fun i=>.tuple #[.agg #[.slice i.1 1 i.2],.int .i64 0,.int .i64 0]) (TT:=fun i F u=>PgK F u prg4 i.1 i.2) .none V  (by kernel_rfl) V (fun _ h=>h.elim) (fun _=>PgK.lies) (fun w hw=>(qG src4 (by decide) 40 (by decide) _ pf4 w (hv.ext (Jq hw).ext)).mono fun e w' ⟨A,cap,e1,e2,e3⟩=>⟨(A,cap),trivial,e1,e2,e3⟩) (fun i F4 _ hF4=>?_);obtain⟨A4,c4⟩:=i;dsimp only;refine Zm V V<|ZF V (xN V V)<|ZF V (xN V V)<|ZF V (xN V V)<|zC .none V (yK (z:=Jb) (cs:=Jh) (by kernel_rfl) V) (fun b10=>?_);refine ZR 0 V V V V V (by kernel_rfl) ?_;refine Za V V<|Za V V<|ZX<|Z9r 0 1 3 5 6 8 9 10 12 V V V V V V V V V<|Zm V V ?_
 refine ZF V (yS V V)<|Zm V V<|zH 35 V (fun hb=>?_) (fun hb=>?_)
 ·replace hb:=Jw hb;refine ZG V V V (yX 3 V V U32 V (by kernel_rfl)) ?_
  refine yT (.some V V) V  (v:=.string ⟨out1.toArray⟩) (by kernel_rfl) V (fun w hw=>by
   have:=print_any prg1 F1 A1 c1 w (by decide) (by decide) (by rw[print1];decide) (hT.ext (Jq hw).ext) (HpG.x hw).2.2.2.1;rw[print1] at this
   exact this) ?_
  refine ZG V V V (xU V V U9)<|ZF V (zP V V)<|Zm V V<|zH 40 V (fun hb=>?_) (fun hb=>?_)
  ·refine ZG V V V (zO V)<|ZG V V V (yS V V)<|ZF V (zP V V)<|Zm V V<|zH 44 V (fun hb=>?_) (fun hb=>?_)
   ·replace hb:=Jw hb;refine ZG V V V (zO V)<|ZG V V V (yS V V)<|ZF V (zP V V)<|Zm V V<|zH 48 V (fun hb=>?_) (fun hb=>?_)
    ·replace hb:=Jw hb;refine ZG V V V (zO V)<|ZG V V V (yS V V)<|ZF V (zP V V)<|Zm V V<|zH 52 V (fun hb=>?_) (fun hb=>?_)
     ·replace hb:=Jw hb;refine ZG V V V (zO V)<|ZG V V V (yS V V)<|ZF V (zP V V)<|Zm V V<|zH 56 V (fun hb=>?_) (fun hb=>?_)
      ·replace hb:=Jw hb;refine ZG V V V (zO V)<|ZG V V V (yS V V)<|ZF V (zP V V)<|Zm V V<|zH 60 V (fun hb=>?_) (fun hb=>?_)
       ·replace hb:=Jw hb;refine ZG V V V (yX 0 V V U32 V (by kernel_rfl)) ?_
        refine yT (.some V V) V  (v:=.int .i64 21) (by kernel_rfl) V (fun w hw=>by
         have:=check_any prg4 F4 A4 c4 w (by decide) (HpG.x hw).1;rw[check4] at this
         exact this) ?_
        refine ZG V V V (yS V V)<|ZF V (zP V V)<|Za V V<|ZT<|zK<|zI V V (fun w hw=>?_);exact⟨rfl,(Jq hw).ext⟩
       ·replace hb:=yP hb;exact absurd hb (by decide)
      ·replace hb:=yP hb;exact absurd hb (by decide)
     ·replace hb:=yP hb;exact absurd hb (by decide)
    ·replace hb:=yP hb;exact absurd hb (by decide)
   ·replace hb:=yP hb;exact absurd hb (by decide)
  ·exact absurd hb (by decide)
 ·replace hb:=yP hb;exact absurd hb (by decide)
end Go.Proofs.YtfpkpnkdnammnaaGreatDoor
