import Derived.Test.YtfpkpnkdnammnaaGreatDoorMgI
import Derived.Test.YtfpkpnkdnammnaaGreatDoorLwZ
import Derived.Test.YtfpkpnkdnammnaaGreatDoorMgv
import Derived.Test.YtfpkpnkdnammnaaGreatDoorSs1
namespace Go.Proofs.YtfpkpnkdnammnaaGreatDoor
open Go.RowKit
theorem both_parse (l:Bs):∃f r,f≤100000000∧qJ f l=some r∧(16384<l.length→r=([],0,2))∧(l.length≤16384→runP (tkM l) ((rxF (tkM l) f).bin 0) f=some r):=by
 rcases Nat.lt_or_ge 16384 l.length with h|h
 ·exact⟨0,([],0,2),by omega,by unfold qJ;rw[Kq h],fun _=>rfl,fun h2=>by omega⟩
 ·obtain⟨f,r,h1,h2,h3⟩:=parse_agree l h;exact⟨f,r,h1,h2,fun h4=>by omega,fun _=>h3⟩
set_option maxRecDepth 100000 in
theorem agrees_any (l:Bs) (hl:l.length≤1000000000000) (w_0:World) (hv:qW w_0):Calls Tryz.prog 16 #[.string ⟨l.toArray⟩] w_0 fun e w'=>e=.returned (.bool true)∧Ext w_0 w':=by
 obtain⟨f,⟨fs,o,er⟩,hf,hp,hbig,hr⟩:=both_parse l;refine yW (args:=[.string ⟨l.toArray⟩]) Tryz.func16 V 34 V (Jo V)<|Z1 0 V<|zC (H':=Hp (fun _=>False) w_0 [] [] (fun _=>True)) (fun u hu=>?_) ?_
 ·subst hu;exact Hp.start0
 refine zY<|zX<|Za V V<|ZX<|zX<|Zm V V<|wl_callZ .none V  (by kernel_rfl) V (fun w hw=>(rE l hl f hf _ hp w (hv.ext (Jr hw).ext)).mono (fun e w' (h:∃A cap,_)=>show ∃i:Option Addr×Nat,e=.returned (.tuple #[.agg #[.slice i.1 fs.length i.2],.int .i64 o,.int .i64 er])∧Ext w w'∧PgK (fun _=>True) w' fs i.1 i.2 from let ⟨A,cap,e1,e2,e3⟩:=h;⟨(A,cap),e1,e2,PgK.lies.mono (fun _ _=>trivial) e3⟩)) (fun ⟨Ap,cp⟩ v1 hp1 hw1=>?_);refine Zm V V<|ZF V (xM V V)<|ZF V (xM V V)<|ZF V (xM V V)<|zA .none V (yN (z:=Jb) (cs:=Jh) (by kernel_rfl) V) (fun b3=>?_);refine ZR 0 V V V V V (by kernel_rfl) ?_;refine Za V V<|Za V V<|ZX<|Z5 0 2 3 4 5 V V V V V<|wc_freeze (fun v2 hw2=>?_);have hb3:=HpG.blk hw2 (k:=0) rfl;have hp2:=(HpG.x hw2).get PgK.lies hp1;refine zX<|Zm V V<|wl_callZ .none V  (by kernel_rfl) V (fun w hw=>(rparse_any l hl f hf _ hbig hr w).mono (fun e w' (h:∃A cap,_)=>show ∃i:Option Addr×Nat,e=.returned (.tuple #[.agg #[.slice i.1 fs.length i.2],.int .i64 o,.int .i64 er])∧Ext w w'∧PgK (fun _=>True) w' fs i.1 i.2 from let ⟨A,cap,e1,e2,e3⟩:=h;⟨(A,cap),e1,e2,PgK.lies.mono (fun _ _=>trivial) e3⟩)) (fun ⟨Aq,cq⟩ v3 hq3 hw3=>?_);refine Zm V V<|ZF V (xM V V)<|ZF V (xM V V)<|ZF V (xM V V)<|zA .none V (yN (z:=Jb) (cs:=Jh) (by kernel_rfl) V) (fun b6=>?_);refine ZR 0 V V V V V (by kernel_rfl) ?_;refine Za V V<|Za V V<|ZX<|Z8 0 2 3 4 5 6 7 8 V V V V V V V V<|wc_freeze (fun v4 hw4=>?_);have hb6:=HpG.blk hw4 (k:=0) rfl;replace hb3:=(HpG.x hw4).blk ((HpG.x hw3).blk hb3);have hp4:=(HpG.x hw4).get PgK.lies ((HpG.x hw3).get PgK.lies hp2);have hq4:=(HpG.x hw4).get PgK.lies hq3;refine zX<|Zm V V<|Zm V V<|ZF V (yU V V)<|Zm V V<|zG 24 V (fun g4=>?_) (fun g4=>?_)
 ·replace g4:=Jx g4;refine ZG V V V (zR V)<|ZG V V V (zR V)<|ZG V V V (yU V V)<|ZF V (zP V V)<|Zm V V<|zG 29 V (fun g8=>?_) (fun g8=>?_)
  ·replace g8:=Jx g8;refine ZG V V V (YF.anti (sZ V U32 V (by kernel_rfl)) (fun u h=>(HpG.x h).blk hb3)) ?_;refine ZG V V V (YF.anti (sZ V U32 V (by kernel_rfl)) (fun u h=>(HpG.x h).blk hb6)) ?_;refine yS (.some V V) V  (v:=.bool true) (by kernel_rfl) V (fun w hw=>(equal_any fs fs _ Ap Aq cp cq w ((HpG.x hw).get PgK.lies hp4) ((HpG.x hw).get PgK.lies hq4)).mono fun _ _ ⟨e1,e2⟩=>⟨by rw[e1,sG rfl],e2⟩) ?_;refine ZF V (zP V V)<|Za V V<|ZT<|zK<|zI V V (fun w hw=>?_);exact⟨rfl,(Jr hw).ext⟩
  ·replace g8:=yM g8;exact absurd V g8
 ·replace g4:=yM g4;exact absurd V g4
end Go.Proofs.YtfpkpnkdnammnaaGreatDoor
namespace Go.Proofs.YtfpkpnkdnammnaaGreatDoor
open Go.RowKit
theorem min_take (x:Bs) (n:Nat):x.take (Int.toNat (if (n:Int)<(x.length:Int) then (n:Int) else (x.length:Int)))=x.take n:=by
 split
 ·rfl
 ·rename_i h;rw[show Int.toNat ((x.length:Nat):Int)=x.length from rfl,Ki,List.take_of_length_le (by omega)]
end Go.Proofs.YtfpkpnkdnammnaaGreatDoor
