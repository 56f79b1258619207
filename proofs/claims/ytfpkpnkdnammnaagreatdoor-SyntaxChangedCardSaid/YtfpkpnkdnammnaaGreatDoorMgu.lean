import Derived.Test.YtfpkpnkdnammnaaGreatDoorMgt
import Derived.Test.YtfpkpnkdnammnaaGreatDoorMgH
import Derived.Test.YtfpkpnkdnammnaaGreatDoorTreB
import Derived.Test.YtfpkpnkdnammnaaGreatDoorSxN
import Derived.Test.YtfpkpnkdnammnaaGreatDoorSyJ
import Derived.Test.YtfpkpnkdnammnaaGreatDoorMgO
import Derived.Test.YtfpkpnkdnammnaaGreatDoorMgS
set_option maxRecDepth 100000
namespace Go.Proofs.YtfpkpnkdnammnaaGreatDoor
open Go.RowKit
structure PE.Or (E:PE):Prop where
 kind:(E.tk E.m).kind=0∨(E.tk E.m).kind=4
 le:E.m+1≤E.c
 sm:E.m≤1000000000
 num:∀j,4294967296≤(E.tk j).value→(E.tk j).kind=1
 mem:∀j,(E.tk j).text=sR→(E.tk j).kind=3
abbrev rC (E:PE) (s:PS):List Value:=[.slice (some ⟨E.g,0,none⟩) (E.m+1) E.c,.int .i64 s.at_,.int .i64 s.off,.int .i64 s.err]
abbrev rO (E:PE) (s:PS):Obj:=bk 119 (rC E s)
def RkX (E:PE) (w:World):Prop:=∀j,j≤E.m→∀i v,(uA (E.tk j))[i]? = some v→w.cell? ⟨E.g,5*j+i,none⟩=some v
theorem RkX.lt {E:PE}{w:World}(h:RkX E w):E.g<w.heap.size:=cell_lt (h 0 (Km _) 0 _ rfl)
theorem RkX.foot {E:PE}{w w':World}(h:RkX E w) (hk:w'.heap[E.g]? = w.heap[E.g]?):RkX E w':=fun j hj i v hv=>by
 rw[← h j hj i v hv];exact World.cell?_of_block hk
theorem RkX.ne {E:PE}{w:World}(h:RkX E w) {bp:Nat}{s:PS}(hb:w.heap[bp]? = some (rO E s)):E.g≠bp:=fun e=>by
 have h1:=h 0 (Km _) 0 _ rfl;rw[e,cell_of_row w bp _ _ _ _ hb] at h1;simp at h1
theorem RkX.keep {E:PE}{w w':World}(h:RkX E w) {bp:Nat}{s:PS}(hb:w.heap[bp]? = some (rO E s)) (hK:Keep (fun j=>j=bp) w w'):RkX E w':=h.foot (hK.block _ h.lt (h.ne hb))
theorem rkRow {E:PE}{w:World}(h:RkX E w) {s:PS}(hs:s.at_≤E.m) {o:Nat}(ho:o=5*s.at_):w.rangeAt E.g o (uA (E.tk s.at_)):=fun j v hv=>by subst ho;exact h _ hs j v hv
theorem rkAt {E:PE}{w:World}(h:RkX E w) {s:PS}(hs:s.at_≤E.m) (i:Nat) {o:Nat}{v:Value}(hv:(uA (E.tk s.at_))[i]? = some v) (ho:o=5*s.at_+i):w.cell? ⟨E.g,o,none⟩=some v:=by subst ho;exact h _ hs i v hv
theorem Hp.startR {E:PE}{w:World}{bp:Nat}{s:PS}(hb:w.heap[bp]? = some (rO E s)) (hX:RkX E w):Hp (fun k=>k=bp) w [(bp,rO E s)] [] (RkX E) w :=
 Hp.startB hb ⟨fun k=>k=E.g,fun k hk=>by subst hk;exact⟨hX.lt,hX.ne hb⟩,fun u hu=>hX.foot (hu _ rfl)⟩
theorem isP_cs {tk:Nat→Tok}{x:Bs}{s:PS}:isP tk x s=(decide (s.err=0)&&decide ((tk s.at_).kind=3)&&decide ((tk s.at_).text=x)):=rfl
theorem ris_any (E:PE) (x:Bs) (s:PS) (hs:s.at_≤E.m) (bp:Nat) (w_0:World) (hb:w_0.heap[bp]? = some (rO E s)) (hX:RkX E w_0):Calls Tryz.prog 113 #[.pointer (some ⟨bp,0,none⟩),.string ⟨x.toArray⟩] w_0 fun e w'=>e=.returned (.bool (isP E.tk x s))∧Ext w_0 w':=by
 refine yW (args:=[.pointer (some ⟨bp,0,none⟩),.string ⟨x.toArray⟩]) Tryz.func113 V 32 V (Jo V)<|Z2 0 1 V V<|zC (H':=Hp (fun _=>False) w_0 [] [] (fun u=>Blk bp (rO E s) u∧RkX E u)) (fun u hu=>?_) ?_
 ·subst hu;exact Hp.start ⟨fun k=>k=bp∨k=E.g,fun k hk=>by rcases hk with rfl|rfl;exact⟨(Jw.1 hb).1,id⟩;exact⟨hX.lt,id⟩,fun u hu=>⟨(hu _ (.inl rfl)).trans hb,hX.foot (hu _ (.inr rfl))⟩⟩
 refine zY<|zX<|Za V V<|ZX<|xV 11 [0,1,2,3,4,5,6,7,8,9,10] _ (by kernel_rfl) (by kernel_rfl) Ky (fun _ h=>h) (fun n0 hn0=>?_);refine Zd V V V (zR V)<|Zd V V V (yV V)<|Zd V V V (Y119x0 V) ?_;refine Zd V V V (yP (v:=.slice (some ⟨E.g,0,none⟩) (E.m+1) E.c) V U27 V (fun w h=>by rw[cell_of_row w bp _ _ _ _ (HpG.x h).1];rfl)) ?_;refine Zd V V V (zR V)<|Zd V V V (yV V)<|Zd V V V (Y119x1 V) ?_;refine Zd V V V (yP (v:=.int .i64 s.at_) V U3 V (fun w h=>by rw[cell_of_row w bp _ _ _ _ (HpG.x h).1];rfl)) ?_;refine Zd rfl rfl rfl (zM (es:=5) rfl rfl U27 (by kernel_rfl) rfl (by first|decide|omega|(simp;done)|(simp;omega)) rfl) ?_;refine Zd V V V (yH (cs:=uA (E.tk s.at_)) V U52 V (by kernel_rfl) (fun w h=>rkRow (HpG.x h).2 hs (by omega))) ?_;refine xZ V<|wB ?_ .none V (fun k hk=>Jy hk hn0) (yN (z:=.agg #[.int .i64 0,.string ⟨#[]⟩,.int .u32 0,.bool false,.int .i64 0]) (cs:=Ji) (by kernel_rfl) V) (fun b5 hb5=>?_)
 ·rfl
 refine xQ ?_;simp only[Ka,Kf];refine ZR 0 V V V V V (by kernel_rfl) ?_;refine ZX<|Z4r 0 1 4 5 V V V V<|Zm V V<|Zn V V<|ZF V (Y119x3 V) ?_;refine ZF V (yP (v:=.int .i64 s.err) V U41 V (fun w h=>by rw[cell_of_row w bp _ _ _ _ (HpG.x h).1];rfl)) ?_;refine ZF V (yU V V)<|Zm V V<|zG 21 V (fun h6=>?_) (fun h6=>?_)
 ·replace h6:=Jx h6;refine ZG V V V (Y52x0 V) ?_;refine ZG V V V (zW 0 V V V U3 V)<|ZG V V V (yU V V)<|ZF V (zP V V)<|Zm V V<|zG 26 V (fun h11=>?_) (fun h11=>?_)
  ·replace h11:=Jx h11;refine ZG V V V (Y52x1 V) ?_;refine ZG V V V (zW 0 V V V U9 V)<|ZG V V V (zR V)<|ZG V V V (yD V V U9)<|ZF V (zP V V)<|Za V V<|ZT<|zK<|zI V V (fun w hw=>?_);exact⟨by congr 2;rw[isP_cs,Jm];simp_all;try omega,(Jr hw).ext⟩
  ·replace h11:=yM h11;refine ZP V<|ZP V<|ZP V<|ZP V<|ZF V (zL V V)<|Za V V<|ZT<|zK<|zI V V (fun w hw=>?_);exact⟨by congr 2;rw[isP_cs,Jm];simp_all;try omega,(Jr hw).ext⟩
 ·replace h6:=yM h6;refine ZP V<|ZP V<|ZP V<|ZF V (zL V V)<|Zm V V<|ZP V<|ZP V<|ZP V<|ZP V<|ZF V (zL V V)<|Za V V<|ZT<|zK<|zI V V (fun w hw=>?_);exact⟨by congr 2;rw[isP_cs,Jm];simp_all;try omega,(Jr hw).ext⟩
theorem rtake_any (E:PE) (hE:E.Or) (x:Bs) (s:PS) (hs:s.at_≤E.m) (bp:Nat) (w_0:World) (hb:w_0.heap[bp]? = some (rO E s)) (hX:RkX E w_0):Calls Tryz.prog 71 #[.pointer (some ⟨bp,0,none⟩),.string ⟨x.toArray⟩] w_0 fun e w'=>e=.returned (.bool (isP E.tk x s))∧Keep (fun j=>j=bp) w_0 w'∧w'.heap[bp]? = some (rO E (bif isP E.tk x s then adv s else s)):=by
 have hsm:=hE.sm;refine yW (args:=[.pointer (some ⟨bp,0,none⟩),.string ⟨x.toArray⟩]) Tryz.func71 V 18 V (Jo V)<|Z2 0 1 V V<|zC (H':=Hp (fun k=>k=bp) w_0 [(bp,rO E s)] [] (RkX E)) (fun u hu=>?_) ?_
 ·subst hu;exact Hp.startR hb hX
 refine zY<|zX<|Za V V<|ZX<|zX<|Zm V V<|Zm V V<|yS .none V  (v:=.bool (isP E.tk x s)) (by kernel_rfl) V (fun w hw=>ris_any E x s hs bp w (hw.own _ (Jz ..)) (HpG.x hw)) ?_;refine Za V V<|ZX<|zY<|Z4r 0 1 4 5 V V V V<|Zm V V<|ZT<|zQ V (fun h9=>?_) (fun h9=>?_)
 ·refine zX<|Zm V V<|Zn V V<|ZF V (Y119x1 V) ?_;refine ZF V (zW 0 V V V U3 V)<|ZF V (yJ V V (i64_in _ (by omega) (by omega))) ?_;refine Zn V V<|ZF V (Y119x1 V) ?_;refine ZS 0 V V V V V (by kernel_rfl) ?_;refine ZX<|Z5r 0 1 4 5 9 V V V V V<|Zm V V<|Za V V<|ZT<|zK<|zI V V (fun w hw=>?_);exact⟨rfl,Jr hw,by rw[h9];exact HpG.own hw _ (Jz ..)⟩
 ·refine zH<|zO<|zY<|zX<|Zm V V<|Za V V<|ZT<|zK<|zI V V (fun w hw=>?_);exact⟨rfl,Jr hw,by rw[show isP E.tk x s=false by simpa using h9];exact HpG.own hw _ (Jz ..)⟩
theorem rfailP_no {tk:Nat→Tok}{s:PS}(h:s.err≠0):uS tk s=s:=by unfold uS;rw[Kp h]
theorem rfailP_yes {tk:Nat→Tok}{s:PS}(h:s.err=0):uS tk s=⟨s.at_,if (tk s.at_).kind=1∧4294967296≤(tk s.at_).value then 24 else 20,(tk s.at_).at_⟩:=by unfold uS;rw[Kq h]
theorem rfail_any (E:PE) (hE:E.Or) (s:PS) (hs:s.at_≤E.m) (bp:Nat) (w_0:World) (hb:w_0.heap[bp]? = some (rO E s)) (hX:RkX E w_0):Calls Tryz.prog 112 #[.pointer (some ⟨bp,0,none⟩)] w_0 fun e w'=>e=.returned (.tuple #[])∧Keep (fun j=>j=bp) w_0 w'∧w'.heap[bp]? = some (rO E (uS E.tk s)):=by
 refine yW (args:=[.pointer (some ⟨bp,0,none⟩)]) Tryz.func112 V 31 V (Jo V)<|Z1 0 V<|zC (H':=Hp (fun k=>k=bp) w_0 [(bp,rO E s)] [] (RkX E)) (fun u hu=>?_) ?_
 ·subst hu;exact Hp.startR hb hX
 refine zY<|zY<|zX<|Zm V V<|Zn V V<|ZF V (Y119x3 V) ?_;refine ZF V (zW 0 V V V U41 V)<|ZF V (wA V V)<|ZT<|zQ V (fun h7=>?_) (fun h7=>?_)
 ·replace h7:=wK h7;refine zK<|zV<|wq_ret0 V (fun w hw=>?_);exact⟨rfl,Jr hw,by rw[rfailP_no (by omega)];exact HpG.own hw _ (Jz ..)⟩
 ·replace h7:=vR h7;refine zH<|zO<|zY<|Z2 0 7 V V<|xV 11 [0,1,2,3,4,5,6,7,8,9,10] _ (by kernel_rfl) (by kernel_rfl) Ky (fun _ h=>h) (fun n0 hn0=>?_);refine Zd V V V (zR V)<|Zd V V V (yV V)<|Zd V V V (Y119x0 V) ?_;refine Zd V V V (zW 0 V V V U27 V)<|Zd V V V (zR V)<|Zd V V V (yV V)<|Zd V V V (Y119x1 V) ?_;refine Zd rfl rfl rfl (zW 0 rfl rfl rfl U3 rfl)<|Zd rfl rfl rfl (zM (es:=5) rfl rfl U27 (by kernel_rfl) rfl (by first|decide|omega|(simp;done)|(simp;omega)) rfl) ?_;refine Zd V V V (yH (cs:=uA (E.tk s.at_)) V U52 V (by kernel_rfl) (fun w h=>rkRow (HpG.x h) hs (by omega))) ?_;refine xZ V<|wB ?_ .none V (fun k hk=>Jy hk hn0) (yN (z:=.agg #[.int .i64 0,.string ⟨#[]⟩,.int .u32 0,.bool false,.int .i64 0]) (cs:=Ji) (by kernel_rfl) V) (fun b2 hb2=>?_)
  ·rfl
  refine xQ ?_;simp only[Ka,Kf];refine ZR 0 V V V V V (by kernel_rfl) ?_;refine ZX<|Z3r 0 2 7 V V V<|Zm V V<|Zn V V<|ZF V (Y119x3 V) ?_;refine ZS 1 V V V V V (by kernel_rfl) ?_;refine ZX<|zY<|Z3r 0 2 7 V V V<|ZF V (zZ (off:=3) (sz:=0) V U52 (by kernel_rfl) V) ?_;refine ZF V (zW 0 V V V U4 V)<|ZT<|zQ V (fun h22=>?_) (fun h22=>?_)
  ·refine Z4r 0 2 7 22 V V V V<|Zm V V<|Zn V V<|ZF V (Y119x3 V) ?_;refine ZS 1 V V V V V (by kernel_rfl) ?_;refine ZT<|Z4r 0 2 7 22 V V V V<|Zm V V<|ZF V (zZ (off:=4) (sz:=0) V U52 (by kernel_rfl) V) ?_;refine ZF V (zW 0 V V V U3 V)<|Zn V V<|ZF V (zZ (off:=2) (sz:=0) V Tryz.underlying119 (by kernel_rfl) V) ?_;refine ZS 1 V V V V V (by kernel_rfl) ?_;refine zU<|xG V (fun w hw=>?_)
   first
    | exact⟨rfl,Jr hw,by rw[rfailP_yes (by omega),Kq ⟨hE.num _ (Jp h22),Jp h22⟩];exact HpG.blkL (j:=1) hw rfl⟩
    | exact⟨rfl,Jr hw,by rw[rfailP_yes (by omega),Kp (fun h=>absurd h.2 (Jq h22))];exact HpG.blkL (j:=1) hw rfl⟩
  ·refine zH<|zO<|Z4r 0 2 7 22 V V V V<|Zm V V<|ZF V (zZ (off:=4) (sz:=0) V U52 (by kernel_rfl) V) ?_;refine ZF V (zW 0 V V V U3 V)<|Zn V V<|ZF V (zZ (off:=2) (sz:=0) V Tryz.underlying119 (by kernel_rfl) V) ?_;refine ZS 1 V V V V V (by kernel_rfl) ?_;refine zU<|xG V (fun w hw=>?_)
   first
    | exact⟨rfl,Jr hw,by rw[rfailP_yes (by omega),Kq ⟨hE.num _ (Jp h22),Jp h22⟩];exact HpG.blkL (j:=1) hw rfl⟩
    | exact⟨rfl,Jr hw,by rw[rfailP_yes (by omega),Kp (fun h=>absurd h.2 (Jq h22))];exact HpG.blkL (j:=1) hw rfl⟩
section
variable {ops:Array Oper}{Q:Exit→Act→World→Prop}{n:Nat}{m:List (Nat×Value)}{ty:TypeId}{G B:Nat→Prop}{w0:World}{L:List (Nat×Obj)}{R:List Rw}{X:World→Prop}{rest:List Oper}{d:Nat}{pos:String}{af:Array Edge}{gd:Option (Nat×Bool)}{args:List Operand}{ats:Array TypeId}
theorem wl_rfail (E:PE) (hE:E.Or) (s:PS) (hs:s.at_≤E.m) (bp:Nat) (hX:∀w,X w→RkX E w) (k:Nat) (hg:Gd ops m gd) (hd:Nat.blt d n=true) (ha:evl m args=some [.pointer (some ⟨bp,0,none⟩)]) (hk:L[k]? = some (bp,rO E s)) (h:WL Tryz.prog ops Q rest n ((d,.tuple #[])::m) (HpG G B w0 (L.set k (bp,rO E (uS E.tk s))) R X)) :
  WL Tryz.prog ops Q (⟨some d,.call { callee:=.value (.func 112),args:=args.toArray,argTypes:=ats },ty,pos,af,gd⟩::rest) n m (HpG G B w0 L R X) :=
 wO (ι:=Unit) (C:=fun _=>True) (val:=fun _=>.tuple #[]) (ob':=fun _=>rO E (uS E.tk s)) hg hd k (by kernel_rfl) ha hk (fun w h1 hw=>(rfail_any E hE s hs bp w h1 (hX w hw.x)).mono fun e w' ⟨e1,e2,e3⟩=>⟨(),trivial,e1,e2,e3⟩) fun _ _=>h
theorem sD (E:PE) (hE:E.Or) (s:PS) (hs:s.at_≤E.m) (x:Bs) (bp:Nat) (hX:∀w,X w→RkX E w) (k:Nat) (hg:Gd ops m gd) (hd:Nat.blt d n=true) (ha:evl m args=some [.pointer (some ⟨bp,0,none⟩),.string ⟨x.toArray⟩]) (hk:L[k]? = some (bp,rO E s)) (h:WL Tryz.prog ops Q rest n ((d,.bool (isP E.tk x s))::m) (HpG G B w0 (L.set k (bp,rO E (bif isP E.tk x s then adv s else s))) R X)) :
  WL Tryz.prog ops Q (⟨some d,.call { callee:=.value (.func 71),args:=args.toArray,argTypes:=ats },ty,pos,af,gd⟩::rest) n m (HpG G B w0 L R X) :=
 wO (ι:=Unit) (C:=fun _=>True) (val:=fun _=>.bool (isP E.tk x s)) (ob':=fun _=>rO E (bif isP E.tk x s then adv s else s)) hg hd k (by kernel_rfl) ha hk (fun w h1 hw=>(rtake_any E hE x s hs bp w h1 (hX w hw.x)).mono fun e w' ⟨e1,e2,e3⟩=>⟨(),trivial,e1,e2,e3⟩) fun _ _=>h
theorem wl_ris (E:PE) (s:PS) (hs:s.at_≤E.m) (x:Bs) (bp:Nat) (hX:∀w,X w→RkX E w) (k:Nat) (hg:Gd ops m gd) (hd:Nat.blt d n=true) (ha:evl m args=some [.pointer (some ⟨bp,0,none⟩),.string ⟨x.toArray⟩]) (hk:L[k]? = some (bp,rO E s)) (h:WL Tryz.prog ops Q rest n ((d,.bool (isP E.tk x s))::m) (HpG G B w0 L R X)) :
  WL Tryz.prog ops Q (⟨some d,.call { callee:=.value (.func 113),args:=args.toArray,argTypes:=ats },ty,pos,af,gd⟩::rest) n m (HpG G B w0 L R X) :=
 yS hg hd (by kernel_rfl) ha (fun w hw=>ris_any E x s hs bp w (hw.own _ (Jv hk)) (hX w hw.x)) h
end
theorem rneed_any (E:PE) (hE:E.Or) (x:Bs) (s:PS) (hs:s.at_≤E.m) (bp:Nat) (w_0:World) (hb:w_0.heap[bp]? = some (rO E s)) (hX:RkX E w_0):Calls Tryz.prog 69 #[.pointer (some ⟨bp,0,none⟩),.string ⟨x.toArray⟩] w_0 fun e w'=>e=.returned (.tuple #[])∧Keep (fun j=>j=bp) w_0 w'∧w'.heap[bp]? = some (rO E (xL E.tk x s)):=by
 refine yW (args:=[.pointer (some ⟨bp,0,none⟩),.string ⟨x.toArray⟩]) Tryz.func69 V 12 V (Jo V)<|Z2 0 1 V V<|zC (H':=Hp (fun k=>k=bp) w_0 [(bp,rO E s)] [] (RkX E)) (fun u hu=>?_) ?_
 ·subst hu;exact Hp.startR hb hX
 refine zY<|zX<|Zm V V<|Zm V V<|sD E hE s hs x bp (fun _ h=>h) 0 .none V  V V ?_;refine Za V V<|ZX<|Z3r 0 1 4 V V V<|Zm V V<|ZF V (xK V)<|ZT<|zQ V (fun h9=>?_) (fun h9=>?_)
 ·have h9:isP E.tk x s=false:=by simpa using h9
  rw[h9];refine Z4r 0 1 4 9 V V V V<|Zm V V<|wl_rfail E hE s hs bp (fun _ h=>h) 0 .none V  V V ?_;refine zU<|xG V (fun w hw=>?_);exact⟨rfl,Jr hw,by rw[xL,h9];exact HpG.own hw _ (Jz ..)⟩
 ·have h9:isP E.tk x s=true:=by simpa using h9
  rw[h9];refine zH<|xG V (fun w hw=>?_);exact⟨rfl,Jr hw,by rw[xL,h9];exact HpG.own hw _ (Jz ..)⟩
theorem rnameP_no {tk:Nat→Tok}{s:PS}(h:¬(s.err=0∧(tk s.at_).kind=2)):xO tk s=([],uS tk s):=by unfold xO;rw[Kp h]
theorem rnameP_yes {tk:Nat→Tok}{s:PS}(h:s.err=0∧(tk s.at_).kind=2):xO tk s=((tk s.at_).text,adv s):=by unfold xO;rw[Kq h]
theorem rname_any (E:PE) (hE:E.Or) (s:PS) (hs:s.at_≤E.m) (bp:Nat) (w_0:World) (hb:w_0.heap[bp]? = some (rO E s)) (hX:RkX E w_0):Calls Tryz.prog 70 #[.pointer (some ⟨bp,0,none⟩)] w_0 fun e w'=>e=.returned (.string ⟨(xO E.tk s).1.toArray⟩)∧Keep (fun j=>j=bp) w_0 w'∧w'.heap[bp]? = some (rO E (xO E.tk s).2):=by
 have hsm:=hE.sm;refine yW (args:=[.pointer (some ⟨bp,0,none⟩)]) Tryz.func70 V 35 V (Jo V)<|Z1 0 V<|zC (H':=Hp (fun k=>k=bp) w_0 [(bp,rO E s)] [] (RkX E)) (fun u hu=>?_) ?_
 ·subst hu;exact Hp.startR hb hX
 refine zY<|zX<|Za V V<|ZX<|xV 11 [0,1,2,3,4,5,6,7,8,9,10] _ (by kernel_rfl) (by kernel_rfl) Ky (fun _ h=>h) (fun n0 hn0=>?_);refine Zd V V V (zR V)<|Zd V V V (yV V)<|Zd V V V (Y119x0 V) ?_;refine Zd V V V (zW 0 V V V U27 V)<|Zd V V V (zR V)<|Zd V V V (yV V)<|Zd V V V (Y119x1 V) ?_;refine Zd rfl rfl rfl (zW 0 rfl rfl rfl U3 rfl)<|Zd rfl rfl rfl (zM (es:=5) rfl rfl U27 (by kernel_rfl) rfl (by first|decide|omega|(simp;done)|(simp;omega)) rfl) ?_;refine Zd V V V (yH (cs:=uA (E.tk s.at_)) V U52 V (by kernel_rfl) (fun w h=>rkRow (HpG.x h) hs (by omega))) ?_;refine xZ V<|wB ?_ .none V (fun k hk=>Jy hk hn0) (yN (z:=.agg #[.int .i64 0,.string ⟨#[]⟩,.int .u32 0,.bool false,.int .i64 0]) (cs:=Ji) (by kernel_rfl) V) (fun b3 hb3=>?_)
 ·rfl
 refine xQ ?_;simp only[Ka,Kf];refine ZR 0 V V V V V (by kernel_rfl) ?_;refine ZX<|zY<|Z3r 0 2 3 V V V<|Zm V V<|Zn V V<|ZF V (Y119x3 V) ?_;refine ZF V (zW 1 V V V U41 V)<|ZF V (wA V V)<|Zm V V<|zG 19 V (fun h6=>?_) (fun h6=>?_)
 ·replace h6:=wK h6;refine ZP V<|ZP V<|ZP V<|ZF V (zP V V)<|ZT<|wM V<|zY<|Z4r 0 2 3 23 V V V V<|Zm V V<|wl_rfail E hE s hs bp (fun _ h=>h) 1 .none V  V V ?_;refine ZX<|Z4r 0 2 3 23 V V V V<|Za V V<|ZT<|zK<|zV<|zI V V (fun w hw=>?_);exact⟨by rw[rnameP_no (fun h=>by omega)],Jr hw,by rw[rnameP_no (fun h=>by omega)];exact HpG.blkL (j:=1) hw rfl⟩
 ·replace h6:=vR h6;refine ZG V V V (Y52x0 V) ?_;refine ZG V V V (zW 0 V V V U3 V)<|ZG V V V (wA V V)<|ZF V (zL V V)<|ZT<|zQ V (fun h23=>?_) (fun h23=>?_)
  ·replace h23:=wK h23;refine zY<|Z4r 0 2 3 23 V V V V<|Zm V V<|wl_rfail E hE s hs bp (fun _ h=>h) 1 .none V  V V ?_;refine ZX<|Z4r 0 2 3 23 V V V V<|Za V V<|ZT<|zK<|zV<|zI V V (fun w hw=>?_);exact⟨by rw[rnameP_no (fun h=>by omega)],Jr hw,by rw[rnameP_no (fun h=>by omega)];exact HpG.blkL (j:=1) hw rfl⟩
  ·replace h23:=vR h23;refine zH<|zO<|zY<|Z4r 0 2 3 23 V V V V<|Zm V V<|Zn V V<|ZF V (Y119x1 V) ?_;refine ZF V (zW 1 V V V U3 V)<|ZF V (yJ V V (i64_in _ (by omega) (by omega))) ?_;refine Zn V V<|ZF V (Y119x1 V) ?_;refine ZS 1 V V V V V (by kernel_rfl) ?_;refine ZX<|Z4r 0 2 3 23 V V V V<|ZF V (Y52x1 V) ?_;refine ZF V (zW 0 V V V U9 V)<|Za V V<|ZT<|zK<|zI V V (fun w hw=>?_);exact⟨by rw[rnameP_yes ⟨by omega,by omega⟩],Jr hw,by rw[rnameP_yes ⟨by omega,by omega⟩];exact HpG.blkL (j:=1) hw rfl⟩
section
variable {ops:Array Oper}{Q:Exit→Act→World→Prop}{n:Nat}{m:List (Nat×Value)}{ty:TypeId}{G B:Nat→Prop}{w0:World}{L:List (Nat×Obj)}{R:List Rw}{X:World→Prop}{rest:List Oper}{d:Nat}{pos:String}{af:Array Edge}{gd:Option (Nat×Bool)}{args:List Operand}{ats:Array TypeId}
theorem vA (E:PE) (hE:E.Or) (s:PS) (hs:s.at_≤E.m) (x:Bs) (bp:Nat) (hX:∀w,X w→RkX E w) (k:Nat) (hg:Gd ops m gd) (hd:Nat.blt d n=true) (ha:evl m args=some [.pointer (some ⟨bp,0,none⟩),.string ⟨x.toArray⟩]) (hk:L[k]? = some (bp,rO E s)) (h:WL Tryz.prog ops Q rest n ((d,.tuple #[])::m) (HpG G B w0 (L.set k (bp,rO E (xL E.tk x s))) R X)) :
  WL Tryz.prog ops Q (⟨some d,.call { callee:=.value (.func 69),args:=args.toArray,argTypes:=ats },ty,pos,af,gd⟩::rest) n m (HpG G B w0 L R X) :=
 wO (ι:=Unit) (C:=fun _=>True) (val:=fun _=>.tuple #[]) (ob':=fun _=>rO E (xL E.tk x s)) hg hd k (by kernel_rfl) ha hk (fun w h1 hw=>(rneed_any E hE x s hs bp w h1 (hX w hw.x)).mono fun e w' ⟨e1,e2,e3⟩=>⟨(),trivial,e1,e2,e3⟩) fun _ _=>h
theorem wl_rname (E:PE) (hE:E.Or) (s:PS) (hs:s.at_≤E.m) (bp:Nat) (hX:∀w,X w→RkX E w) (k:Nat) (hg:Gd ops m gd) (hd:Nat.blt d n=true) (ha:evl m args=some [.pointer (some ⟨bp,0,none⟩)]) (hk:L[k]? = some (bp,rO E s)) (h:WL Tryz.prog ops Q rest n ((d,.string ⟨(xO E.tk s).1.toArray⟩)::m) (HpG G B w0 (L.set k (bp,rO E (xO E.tk s).2)) R X)) :
  WL Tryz.prog ops Q (⟨some d,.call { callee:=.value (.func 70),args:=args.toArray,argTypes:=ats },ty,pos,af,gd⟩::rest) n m (HpG G B w0 L R X) :=
 wO (ι:=Unit) (C:=fun _=>True) (val:=fun _=>.string ⟨(xO E.tk s).1.toArray⟩) (ob':=fun _=>rO E (xO E.tk s).2) hg hd k (by kernel_rfl) ha hk (fun w h1 hw=>(rname_any E hE s hs bp w h1 (hX w hw.x)).mono fun e w' ⟨e1,e2,e3⟩=>⟨(),trivial,e1,e2,e3⟩) fun _ _=>h
end
end Go.Proofs.YtfpkpnkdnammnaaGreatDoor
namespace Go.Proofs.YtfpkpnkdnammnaaGreatDoor
open Go.RowKit
def RxPost (E:PE) (bp:Nat) (w:World) (x:Ex) (s':PS) (e:Ending) (w':World):Prop:=∃A cap,e=.returned (.agg (xN x A cap).toArray)∧Keep (fun j=>j=bp) w w'∧w'.heap[bp]? = some (rO E s')∧xY (fun k=>w.heap.size≤k) w' x A cap
structure ROk (E:PE) (f:Nat):Prop where
 prim:∀s x s',(rxF E.tk f).prim s=some (x,s')→s.at_≤E.m→∀bp w,w.heap[bp]? = some (rO E s)→RkX E w→Calls Tryz.prog 168 #[.pointer (some ⟨bp,0,none⟩)] w (RxPost E bp w x s')
 un:∀s x s',(rxF E.tk f).un s=some (x,s')→s.at_≤E.m→∀bp w,w.heap[bp]? = some (rO E s)→RkX E w→Calls Tryz.prog 158 #[.pointer (some ⟨bp,0,none⟩)] w (RxPost E bp w x s')
 bin:∀n s x s',n≤8→(rxF E.tk f).bin n s=some (x,s')→s.at_≤E.m→∀bp w,w.heap[bp]? = some (rO E s)→RkX E w→Calls Tryz.prog 138 #[.pointer (some ⟨bp,0,none⟩),.int .i64 n] w (RxPost E bp w x s')
section
variable {ops:Array Oper}{Q:Exit→Act→World→Prop}{n:Nat}{m:List (Nat×Value)}{ty:TypeId}{G B:Nat→Prop}{w0:World}{L:List (Nat×Obj)}{R:List Rw}{X:World→Prop}{rest:List Oper}{d:Nat}{pos:String}{af:Array Edge}{gd:Option (Nat×Bool)}{f:FuncId}{args:List Operand}{ats:Array TypeId}{vs:List Value}
theorem wl_rx (E:PE) (s:PS) (x:Ex) (s':PS) (bp:Nat) (k:Nat) (hB:∀k,B k→k<w0.heap.size) (hX:∀w,X w→RkX E w) (hC:∀w,w.heap[bp]? = some (rO E s)→RkX E w→Calls Tryz.prog f vs.toArray w (RxPost E bp w x s')) (hg:Gd ops m gd) (hd:Nat.blt d n=true) (hf:goes Tryz.prog f=true) (ha:evl m args=some vs) (hk:L[k]? = some (bp,rO E s))
  (h:∀A cap F,(∀k,F k→w0.heap.size≤k)→WL Tryz.prog ops Q rest n ((d,.agg (xN x A cap).toArray)::m) (Hp B w0 (L.set k (bp,rO E s')) R (fun u=>xY F u x A cap∧X u))) :
  WL Tryz.prog ops Q (⟨some d,.call { callee:=.value (.func f),args:=args.toArray,argTypes:=ats },ty,pos,af,gd⟩::rest) n m (Hp B w0 L R X) :=
 tI (ι:=Option Addr×Nat) (C:=fun _=>True) (val:=fun i=>.agg (xN x i.1 i.2).toArray) (obi:=fun _=>rO E s') (TT:=fun i F u=>xY F u x i.1 i.2) hg hd k hf ha hk hB (fun _=>xY.lies)
  (fun w h1 hw=>(hC w h1 (hX w (HpG.x hw))).mono fun e w' ⟨A,cap,e1,e2,e3,e4⟩=>⟨(A,cap),trivial,e1,e2,e3,e4⟩) fun i F _ hF=>h i.1 i.2 F hF
theorem wd_rx {J:World→Prop}{σ:List Nat}(E:PE) (s:PS) (x:Ex) (s':PS) (bp:Nat) (k:Nat) (hB:∀k,B k→k<w0.heap.size) (hX:∀w,X w→RkX E w) (hJ:∀w w',HpG G B w0 L R X w→J w→Keep (fun j=>j=bp) w w'→J w') (hC:∀w,w.heap[bp]? = some (rO E s)→RkX E w→Calls Tryz.prog f vs.toArray w (RxPost E bp w x s')) (hg:Gd ops m gd) (hd:Nat.blt d n=true) (hf:goes Tryz.prog f=true) (ha:evl m args=some vs) (hk:L[k]? = some (bp,rO E s))
  (h:∀A cap F,(∀k,F k→w0.heap.size≤k)→WD Tryz.prog ops J Q σ (fun j=>F j∨G j) n ((d,.agg (xN x A cap).toArray)::m) (HpG (fun j=>F j∨G j) B w0 (L.set k (bp,rO E s')) R (fun u=>xY F u x A cap∧X u))) :
  WDo Tryz.prog ops J Q ⟨some d,.call { callee:=.value (.func f),args:=args.toArray,argTypes:=ats },ty,pos,af,gd⟩ σ G n m (HpG G B w0 L R X) :=
 wd_callT (ι:=Option Addr×Nat) (C:=fun _=>True) (val:=fun i=>.agg (xN x i.1 i.2).toArray) (obi:=fun _=>rO E s') (TT:=fun i F u=>xY F u x i.1 i.2) hg hd k hf ha hk hB (fun _=>xY.lies) hJ
  (fun w h1 hw=>(hC w h1 (hX w hw.x)).mono fun e w' ⟨A,cap,e1,e2,e3,e4⟩=>⟨(A,cap),trivial,e1,e2,e3,e4⟩) fun i F _ hF=>h i.1 i.2 F hF
end
theorem rbp_lt {E:PE}{s:PS}{bp:Nat}{w:World}(hb:w.heap[bp]? = some (rO E s)):∀k,k=bp→k<w.heap.size:=fun k hk=>by subst hk;exact (Jw.1 hb).1
structure RlJ where
 k:Nat
 acc:List Ex
 s:PS
 A:Option Addr
 cap:Nat
 xs:List Value
 F:Nat→Prop
 done:Bool
structure RlOk (E:PE) (f:Nat) (l:List Ex) (s':PS) (n0:Nat) (j:RlJ):Prop where
 run:(j.done=true∧j.acc=l∧j.s=s')∨(j.done=false∧(rxF E.tk j.k).list j.acc j.s=some (l,s'))
 k:j.acc.length+j.k≤f
 at_:j.s.at_≤E.m
 cap:j.acc.length≤j.cap
 F:∀k,j.F k→n0≤k
theorem rlistS_err {tk:Nat→Tok}{r:EF}{l:List Ex}{s:PS}{p:List Ex×PS}(h:vF tk r l s=some p) (he:s.err≠0):p=(l,s):=by
 unfold vF at h;rw[Kq he] at h;cases h;rfl
theorem rlistS_go {tk:Nat→Tok}{r:EF}{l:List Ex}{s:PS}{p:List Ex×PS}(h:vF tk r l s=some p) (he:s.err=0):∃x s1,r.bin 0 s=some (x,s1)∧(bif isP tk [41] s1 then some (l++[x],adv s1) else r.list (l++[x]) (xL tk [44] s1))=some p:=by
 unfold vF at h;rw[Kp (by omega)] at h;obtain⟨x,s1,h1,h2⟩:=yO h;exact⟨x,s1,h1,h2⟩
theorem rlist_any {E:PE}(hE:E.Or) {f:Nat}(IH:ROk E f) (hf:f≤100000000) (s:PS) (l:List Ex) (s':PS) (hr:(isP E.tk [41] s=true∧l=[]∧s'=adv s)∨(isP E.tk [41] s=false∧(rxF E.tk f).list [] s=some (l,s'))) (hs:s.at_≤E.m) (bp:Nat) (w_0:World) (hb:w_0.heap[bp]? = some (rO E s)) (hX:RkX E w_0) :
  Calls Tryz.prog 178 #[.pointer (some ⟨bp,0,none⟩)] w_0 fun e w'=>∃A cap,e=.returned (.slice A l.length cap)∧Keep (fun j=>j=bp) w_0 w'∧w'.heap[bp]? = some (rO E s')∧xY (fun k=>w_0.heap.size≤k) w' (.mk 3 0 [] l) A cap:=by
 have hB:=rbp_lt hb;refine yW (args:=[.pointer (some ⟨bp,0,none⟩)]) Tryz.func178 V 28 V (Jo V)<|Z1 0 V<|zC (H':=Hp (fun k=>k=bp) w_0 [(bp,rO E s)] [⟨.slice none 0 0,57,4,0,[]⟩] (RkX E)) (fun u hu=>?_) ?_
 ·subst hu;exact Hp.nil (Hp.startR hb hX) _ _
 refine zY<|zX<|Za V V<|ZX<|zX<|Za V V<|ZX<|zX<|Zm V V<|sD E hE s hs [41] bp (fun _ h=>h) 0 .none V  V V ?_;refine Za V V<|ZX<|yY<|xW (ι:={j:RlJ // RlOk E f l s' w_0.heap.size j}) (fun j=>[(0,.pointer (some ⟨bp,0,none⟩)),(3,.slice j.1.A j.1.acc.length j.1.cap),(4,.bool j.1.done)]) (fun j=>Hp (fun k=>k=bp) w_0 [(bp,rO E j.1.s)] [⟨.slice j.1.A j.1.acc.length j.1.cap,57,4,j.1.acc.length,j.1.xs⟩] (fun u=>ExsV j.1.F u j.1.acc j.1.xs∧RkX E u)) (fun j=>j.1.k) ⟨⟨f,[],bif isP E.tk [41] s then adv s else s,none,0,[],fun _=>False,isP E.tk [41] s⟩,⟨?_,by simp,?_,Kn _,fun _ h=>h.elim⟩⟩ ?_ ?_ (fun j=>?_)
 ·rcases hr with ⟨h1,rfl,rfl⟩|⟨h1,h2⟩
  ·left;refine⟨h1,rfl,?_⟩;dsimp only;rw[h1];rfl
  ·right;refine⟨h1,?_⟩;dsimp only;rw[h1];exact h2
 ·dsimp only
  cases h1:isP E.tk [41] s with
  | true=>exact yA hE.kind hs h1
  | false=>exact hs
 ·exact .cons V<|.cons V<|.cons V<|.nil
 ·exact fun w h=>Hp.weakX h fun u hu=>⟨.nil,hu⟩
 obtain⟨⟨k,acc,s,A,cap,xs,F,done⟩,⟨hrun,hk,hs,hcap,hF⟩⟩:=j;dsimp only at hrun hk hs hcap hF ⊢;refine zY<|zY<|zX<|Zm V V<|ZF V (xK V)<|Zm V V<|zG 9 V (fun h3=>?_) (fun h3=>?_)
 ·have hdn:done=false:=by simpa using h3
  have hrun:(rxF E.tk k).list acc s=some (l,s'):=by
   rcases hrun with ⟨h1,_⟩|⟨_,h2⟩
   ·rw[hdn] at h1;cases h1
   ·exact h2
  cases k with
  | zero=>cases hrun
  | succ k=>?_
  have hrun:vF E.tk (rxF E.tk k) acc s=some (l,s'):=hrun;refine ZG V V V (zR V)<|ZG V V V (yV V)<|ZG V V V (Y119x3 V) ?_;refine ZG V V V (zW 0 V V V U41 V)<|ZG V V V (yU V V)<|ZF V (zP V V)<|ZT<|zQ V (fun h15=>?_) (fun h15=>?_)
  ·replace h15:=Jx h15;skip;have he:s.err=0:=by omega
   obtain⟨x,s1,hx1,hx2⟩:=rlistS_go hrun he;have hs1:=(rxF_g hE.kind k).bin 0 s hs x s1 hx1;have hxf:=(rxF_le (f:=k) (g:=f) (by omega)).bin 0 s _ hx1;refine zH<|zO<|yY<|zY<|Z4r 0 3 4 15 V V V V<|Zm V V<|Zm V V<|wl_rx E s x s1 bp 0 hB (fun _ h=>h.2) (fun w h1 h2=>IH.bin 0 s x s1 (by omega) hxf hs bp w h1 h2) .none V  (by kernel_rfl) V V (fun A2 cap2 F2 hF2=>?_);refine zA .none V (xU (z:=.agg #[.int .i64 0,.int .u32 0,.string ⟨#[]⟩,.slice none 0 0]) V V U55 (by kernel_rfl) (by kernel_rfl) V V) (fun b19=>?_);refine vS (z:=.agg #[.int .i64 0,.int .u32 0,.string ⟨#[]⟩,.slice none 0 0]) (bytes:=56) 0 0 .none V V V V V U55 (by kernel_rfl) V V V V V (by omega) (by omega) (fun a20 c20 h20=>?_);refine Za V V<|ZX<|Z4r 0 3 4 15 V V V V<|Zm V V<|sD E hE s1 hs1.2.1 [41] bp (fun _ h=>h.2.2) 1 .none V  V V ?_;refine Za V V<|ZX<|Z4r 0 3 4 15 V V V V<|Zm V V<|ZF V (xK V)<|ZT<|zQ V (fun h24=>?_) (fun h24=>?_)
   ·have h24:isP E.tk [41] s1=false:=by simpa using h24
    rw[h24] at hx2 ⊢;refine Z5r 0 3 4 15 24 V V V V V<|Zm V V<|vA E hE s1 hs1.2.1 [44] bp (fun _ h=>h.2.2) 1 .none V  V V ?_;refine zU<|zJ<|yF (ι:={j:RlJ // RlOk E f l s' w_0.heap.size j}) ⟨⟨k,acc++[x],xL E.tk [44] s1,some ⟨a20,0,none⟩,c20,xs++xN x A2 cap2,fun k=>F k∨F2 k,false⟩,⟨.inr ⟨rfl,hx2⟩,by rw[Jj];simp;omega,?_,by rw[Jj];exact h20,fun k hk=>hk.elim (hF k) (hF2 k)⟩⟩ (by show k<k+1;omega) (.cons V<|.cons (by dsimp only;rw[Jj];rfl)<|.cons V<|.nil) (fun w h=>?_)
    ·exact (vT hE.kind [44] hs1.2.1).1
    dsimp only;rw[Jj];exact Hp.weakX (Hp.drop h (Jt _ _) (Js _)) fun u hu=>⟨ExsV.append (ExsV.lies.mono (fun _ h=>.inl h) hu.2.1) (ExsV.lies.mono (fun _ h=>.inr h) hu.1.one),hu.2.2⟩
   ·have h24:isP E.tk [41] s1=true:=by simpa using h24
    rw[h24] at hx2 ⊢;cases hx2;refine zH<|zJ<|yF (ι:={j:RlJ // RlOk E f (acc++[x]) (adv s1) w_0.heap.size j}) ⟨⟨k,acc++[x],adv s1,some ⟨a20,0,none⟩,c20,xs++xN x A2 cap2,fun k=>F k∨F2 k,true⟩,⟨.inl ⟨rfl,rfl,rfl⟩,by rw[Jj];simp;omega,?_,by rw[Jj];exact h20,fun k hk=>hk.elim (hF k) (hF2 k)⟩⟩ (by show k<k+1;omega) (.cons V<|.cons (by dsimp only;rw[Jj];rfl)<|.cons V<|.nil) (fun w h=>?_)
    ·exact yA hE.kind hs1.2.1 h24
    dsimp only;rw[Jj];exact Hp.weakX (Hp.drop h (Jt _ _) (Js _)) fun u hu=>⟨ExsV.append (ExsV.lies.mono (fun _ h=>.inl h) hu.2.1) (ExsV.lies.mono (fun _ h=>.inr h) hu.1.one),hu.2.2⟩
  ·replace h15:=yM h15;skip;have he:s.err≠0:=by omega
   obtain⟨rfl,rfl⟩:l=acc∧s'=s:=by have:=rlistS_err hrun he;cases this;exact⟨rfl,rfl⟩
   refine yB<|zN<|zN<|yC<|zO<|zY<|Z4r 0 3 4 15 V V V V<|Zm V V<|Za V V<|ZT<|zK<|zI V V (fun w hw=>?_);exact⟨A,cap,rfl,Jr hw,HpG.blkL (j:=0) hw rfl,HpG.rowCp (j:=0) hw rfl,_,HpG.rowF (j:=0) hw rfl,ExsV.lies.mono hF (HpG.x hw).1⟩
 ·have hdn:done=true:=by simpa using h3
  obtain⟨rfl,rfl⟩:acc=l∧s=s':=by
   rcases hrun with ⟨_,h1,h2⟩|⟨h1,_⟩
   ·exact⟨h1,h2⟩
   ·rw[hdn] at h1;cases h1
  refine ZP V<|ZP V<|ZP V<|ZP V<|ZP V<|ZF V (zL V V)<|ZT<|wC V<|yB<|zN<|zN<|yC<|zO<|zY<|Z4r 0 3 4 15 V V V V<|Zm V V<|Za V V<|ZT<|zK<|zI V V (fun w hw=>?_);exact⟨A,cap,rfl,Jr hw,HpG.blkL (j:=0) hw rfl,HpG.rowCp (j:=0) hw rfl,_,HpG.rowF (j:=0) hw rfl,ExsV.lies.mono hF (HpG.x hw).1⟩
end Go.Proofs.YtfpkpnkdnammnaaGreatDoor
namespace Go.Proofs.YtfpkpnkdnammnaaGreatDoor
open Go.RowKit
theorem rprim_call {tk:Nat→Tok}{f:Nat}{s:PS}{nm:Bs}{p:Ex×PS}(h:(bif isP tk [41] s then some (Ex.mk 3 0 nm [],adv s) else andThen ((rxF tk f).list [] s) fun l s'=>some (.mk 3 0 nm l,s'))=some p) :
  ∃l s',p=(.mk 3 0 nm l,s')∧((isP tk [41] s=true∧l=[]∧s'=adv s)∨(isP tk [41] s=false∧(rxF tk f).list [] s=some (l,s'))):=by
 cases hi:isP tk [41] s with
 | true=>rw[hi] at h;cases h;exact⟨[],_,rfl,.inl ⟨rfl,rfl,rfl⟩⟩
 | false =>
  rw[hi] at h;obtain⟨l,s1,h1,h2⟩:=yO h;cases h2;exact⟨l,_,rfl,.inr ⟨rfl,h1⟩⟩
theorem rM {tk:Nat→Tok}{x:Bs}{s:PS}(he:s.err=0) (hk:(tk s.at_).kind=3):decide ((tk s.at_).text=x)=isP tk x s:=by rw[isP_cs,Kv he,Kv hk];rfl
theorem isP_no {tk:Nat→Tok}{x:Bs}{s:PS}(hk:(tk s.at_).kind≠3):false=isP tk x s:=by rw[isP_cs,Kw hk];simp
section
variable {ops:Array Oper}{Q:Exit→Act→World→Prop}{n:Nat}{m:List (Nat×Value)}{ty:TypeId}{G B:Nat→Prop}{w0:World}{L:List (Nat×Obj)}{R:List Rw}{X:World→Prop}{rest:List Oper}{d:Nat}{pos:String}{af:Array Edge}{gd:Option (Nat×Bool)}{f:FuncId}{args:List Operand}{ats:Array TypeId}{vs:List Value}
theorem wd_rl {J:World→Prop}{σ:List Nat}(E:PE) (s:PS) (l:List Ex) (s':PS) (bp:Nat) (k:Nat) (hB:∀k,B k→k<w0.heap.size) (hX:∀w,X w→RkX E w) (hJ:∀w w',HpG G B w0 L R X w→J w→Keep (fun j=>j=bp) w w'→J w') (hC:∀w,w.heap[bp]? = some (rO E s)→RkX E w→Calls Tryz.prog f vs.toArray w fun e w'=>∃A cap,e=.returned (.slice A l.length cap)∧Keep (fun j=>j=bp) w w'∧w'.heap[bp]? = some (rO E s')∧xY (fun k=>w.heap.size≤k) w' (.mk 3 0 [] l) A cap) (hg:Gd ops m gd) (hd:Nat.blt d n=true) (hf:goes Tryz.prog f=true) (ha:evl m args=some vs) (hk:L[k]? = some (bp,rO E s))
  (h:∀A cap F,(∀k,F k→w0.heap.size≤k)→WD Tryz.prog ops J Q σ (fun j=>F j∨G j) n ((d,.slice A l.length cap)::m) (HpG (fun j=>F j∨G j) B w0 (L.set k (bp,rO E s')) R (fun u=>xY F u (.mk 3 0 [] l) A cap∧X u))) :
  WDo Tryz.prog ops J Q ⟨some d,.call { callee:=.value (.func f),args:=args.toArray,argTypes:=ats },ty,pos,af,gd⟩ σ G n m (HpG G B w0 L R X) :=
 wd_callT (ι:=Option Addr×Nat) (C:=fun _=>True) (val:=fun i=>.slice i.1 l.length i.2) (obi:=fun _=>rO E s') (TT:=fun i F u=>xY F u (.mk 3 0 [] l) i.1 i.2) hg hd k hf ha hk hB (fun _=>xY.lies) hJ
  (fun w h1 hw=>(hC w h1 (hX w hw.x)).mono fun e w' ⟨A,cap,e1,e2,e3,e4⟩=>⟨(A,cap),trivial,e1,e2,e3,e4⟩) fun i F _ hF=>h i.1 i.2 F hF
end
abbrev rtO (t:Tok):Obj:=bk 52 (uA t)
theorem rprimary_any {E:PE}(hE:E.Or) {f:Nat}(IH:ROk E f) (hf:f≤100000000) (s:PS) (x:Ex) (s':PS) (hr:vQ E.tk (rxF E.tk f) s=some (x,s')) (hs:s.at_≤E.m) (bp:Nat) (w_0:World) (hb:w_0.heap[bp]? = some (rO E s)) (hX:RkX E w_0):Calls Tryz.prog 168 #[.pointer (some ⟨bp,0,none⟩)] w_0 (RxPost E bp w_0 x s'):=by
 have hsm:=hE.sm;have hB:=rbp_lt hb;refine yW (args:=[.pointer (some ⟨bp,0,none⟩)]) Tryz.func168 V 130 V (Jo V)<|Z1 0 V<|zC (H':=Hp (fun k=>k=bp) w_0 [(bp,rO E s)] [] (RkX E)) (fun u hu=>?_) ?_
 ·subst hu;exact Hp.startR hb hX
 refine zY<|zX<|zA .none V (yN (z:=.agg #[.int .i64 0,.int .u32 0,.string ⟨#[]⟩,.slice none 0 0]) (cs:=Je) (by kernel_rfl) V) (fun b2=>?_);refine ZX<|xV 11 [0,1,2,3,4,5,6,7,8,9,10] _ (by kernel_rfl) (by kernel_rfl) Ky (fun _ h=>h) (fun n0 hn0=>?_);refine Zd V V V (zR V)<|Zd V V V (yV V)<|Zd V V V (Y119x0 V) ?_;refine Zd V V V (zW 1 V V V U27 V)<|Zd V V V (zR V)<|Zd V V V (yV V)<|Zd V V V (Y119x1 V) ?_;refine Zd rfl rfl rfl (zW 1 rfl rfl rfl U3 rfl)<|Zd rfl rfl rfl (zM (es:=5) rfl rfl U27 (by kernel_rfl) rfl (by first|decide|omega|(simp;done)|(simp;omega)) rfl) ?_;refine Zd V V V (yH (cs:=uA (E.tk s.at_)) V U52 V (by kernel_rfl) (fun w h=>rkRow (HpG.x h) hs (by omega))) ?_;refine xZ V<|wB ?_ .none V (fun k hk=>Jy hk hn0) (yN (z:=.agg #[.int .i64 0,.string ⟨#[]⟩,.int .u32 0,.bool false,.int .i64 0]) (cs:=Ji) (by kernel_rfl) V) (fun b3 hb3=>?_)
 ·rfl
 refine xQ ?_;simp only[Ka,Kf];refine ZR 0 V V V V V (by kernel_rfl) ?_;refine ZX<|zY<|Z3r 0 2 3 V V V<|Zm V V<|Zn V V<|ZF V (Y119x3 V) ?_;refine ZF V (zW 2 V V V U41 V)<|ZF V (wA V V)<|ZT<|zQ V (fun h21=>?_) (fun h21=>?_)
 ·replace h21:=wK h21;have he:s.err≠0:=by omega
  cases primS_err hr he;refine zY<|Z4r 0 2 3 21 V V V V<|ZF V (yR [.int .i64 0,.int .u32 0,.string ⟨#[]⟩,.slice none 0 0] [(0,1),(1,1),(2,1),(3,1)] V (by kernel_rfl) (by kernel_rfl) V) ?_;refine ZR 1 V V V V V (by kernel_rfl) ?_;refine ZT<|zK<|zV<|yK V V 1 V U57 V (by kernel_rfl) (fun w hw=>?_);exact⟨none,0,rfl,Jr hw,HpG.blkL (j:=2) hw rfl,wD,[],RdF.nil,.nil⟩
 ·replace h21:=vR h21;have he:s.err=0:=by omega
  refine zH<|zO<|zY<|yY<|xH (ι:={x:Bool // x=true↔(E.tk s.at_).kind=1∧(E.tk s.at_).value<4294967296}) (fun x=>[(0,.pointer (some ⟨bp,0,none⟩)),(2,.pointer (some ⟨b2,0,none⟩)),(3,.pointer (some ⟨b3,0,none⟩)),(23,.bool x.1)]) (fun _=>Hp (fun k=>k=bp) w_0 [(b3,rtO (E.tk s.at_)),(b2,bk 57 (exC 0 0 [] none 0 0)),(bp,rO E s)] [] (RkX E)) ?_ (fun x=>?_)
  ·refine Z4r 0 2 3 21 V V V V<|ZF V (Y52x0 V) ?_;refine ZF V (zW 0 V V V U3 V)<|ZF V (yU V V)<|Zm V V<|zG 27 V (fun h44=>?_) (fun h44=>?_)
   ·replace h44:=Jx h44;refine ZG V V V (zZ (off:=3) (sz:=0) V U52 (by kernel_rfl) V) ?_;refine ZG V V V (zW 0 V V V U4 V)<|ZG V V V (xK V)<|ZF V (zP V V)<|Za V V<|zU<|zF (ι:={x:Bool // x=true↔(E.tk s.at_).kind=1∧(E.tk s.at_).value<4294967296}) ⟨!decide (4294967296≤(E.tk s.at_).value),by simp;omega⟩ (O4 V V V V) (fun w h=>h)
   ·replace h44:=yM h44;refine ZP V<|ZP V<|ZP V<|ZF V (zL V V)<|Za V V<|zU<|zF (ι:={x:Bool // x=true↔(E.tk s.at_).kind=1∧(E.tk s.at_).value<4294967296}) ⟨false,by simp;omega⟩ (O4 V V V V) (fun w h=>h)
  ·obtain⟨xb,hxb⟩:=x;dsimp only;refine zQ V (fun h23=>?_) (fun h23=>?_)
   ·obtain⟨hk1,hv⟩:=hxb.1 h23;cases primS_num hr he ⟨hk1,hv⟩;have ha:=tX hE.kind hs (by omega) (by omega);refine zY<|zX<|Zm V V<|Zn V V<|ZF V (Y119x1 V) ?_;refine ZF V (zW 2 V V V U3 V)<|ZF V (yJ V V (i64_in _ (by omega) (by omega))) ?_;refine Zn V V<|ZF V (Y119x1 V) ?_;refine ZS 2 V V V V V (by kernel_rfl) ?_;refine ZX<|Z4r 0 2 3 23 V V V V<|ZF V (zZ (off:=2) (sz:=0) V U52 (by kernel_rfl) V) ?_;refine ZF V (zW (v:=.int .u32 (E.tk s.at_).value) 0 V V (congrArg (fun v=>some (Value.int .u32 ((v:Nat):Int))) (Nat.mod_eq_of_lt hv)) U50 V) ?_;refine ZF V (yR [.int .i64 0,.int .u32 0,.string ⟨#[]⟩,.slice none 0 0] [(0,1),(1,1),(2,1),(3,1)] V (by kernel_rfl) (by kernel_rfl) V) ?_;refine ZR 1 V V V V V (by kernel_rfl) ?_;refine ZT<|zK<|zT<|zV<|yK V V 1 V U57 V (by kernel_rfl) (fun w hw=>?_);exact⟨none,0,rfl,Jr hw,HpG.blkL (j:=2) hw rfl,wD,[],RdF.nil,.nil⟩
   ·have hnn:¬((E.tk s.at_).kind=1∧(E.tk s.at_).value<4294967296):=fun h=>by rw[hxb.2 h] at h23;cases h23
    refine zY<|zX<|ZF V (Y52x0 V) ?_;refine ZF V (zW 0 V V V U3 V)<|ZF V (yU V V)<|Za V V<|ZT<|zQ V (fun h42=>?_) (fun h42=>?_)
    ·replace h42:=Jx h42;skip;have hk2:(E.tk s.at_).kind=2:=by omega
     have hr:=primS_name hr he hk2;have ha:=tX hE.kind hs (by omega) (by omega);refine zY<|Z5r 0 2 3 23 42 V V V V V<|Zm V V<|Zn V V<|ZF V (Y119x1 V) ?_;refine ZF V (zW 2 V V V U3 V)<|ZF V (yJ V V (i64_in _ (by omega) (by omega))) ?_;refine Zn V V<|ZF V (Y119x1 V) ?_;refine ZS 2 V V V V V (by kernel_rfl) ?_;refine ZX<|Z5r 0 2 3 23 42 V V V V V<|Zm V V<|sD E hE (adv s) ha [40] bp (fun _ h=>h) 2 .none V  V V ?_;refine Za V V<|ZX<|zY<|Z6r 0 2 3 4 23 42 V V V V V V<|Zm V V<|ZT<|zQ V (fun h55=>?_) (fun h55=>?_)
     ·have ha2:=yA hE.kind ha h55;rw[h55] at hr ⊢;obtain⟨l,s2,he2,hr2⟩:=rprim_call hr;cases he2;refine zY<|xV 4 [0,1,2,3] (Blk b3 (rtO (E.tk s.at_))) (by kernel_rfl) (by kernel_rfl) Blk.stab (fun w h=>HpG.blk h (k:=0) V) (fun n0 hn0=>?_);refine Zd V V V (Y52x1 V) ?_;refine Zd V V V (wF V V U9 V)<|Zd V V V (zR V)<|xZ V<|wd_rl E (adv (adv s)) l s' bp 2 hB (fun _ h=>h) (fun u u' h1 h2 hK=>h2.keep hK (HpG.ne h1 (i:=0) (j:=2) V V V)) (fun u h1 h2=>rlist_any hE IH hf (adv (adv s)) l s' hr2 ha2 bp u h1 h2) .none V  (by kernel_rfl) V V (fun A cap F hF=>?_);refine xQ ?_;simp only[Ka,Kf];refine ZF V (yR [.int .i64 0,.int .u32 0,.string ⟨#[]⟩,.slice none 0 0] [(0,1),(1,1),(2,1),(3,1)] V (by kernel_rfl) (by kernel_rfl) V) ?_;refine ZR 1 V V V V V (by kernel_rfl) ?_;refine ZT<|zK<|zV<|zT<|zV<|yK V V 1 V U57 V (by kernel_rfl) (fun w hw=>?_);exact⟨A,cap,rfl,Jr hw,HpG.blkL (j:=2) hw rfl,xY.lies.mono hF (HpG.x hw).1⟩
     ·rw[h55] at hr ⊢;cases hr;refine zH<|zO<|zY<|zX<|ZF V (Y52x1 V) ?_;refine ZF V (zW 0 V V V U9 V)<|ZF V (yR [.int .i64 0,.int .u32 0,.string ⟨#[]⟩,.slice none 0 0] [(0,1),(1,1),(2,1),(3,1)] V (by kernel_rfl) (by kernel_rfl) V) ?_;refine ZR 1 V V V V V (by kernel_rfl) ?_;refine ZT<|zK<|zT<|zV<|yK V V 1 V U57 V (by kernel_rfl) (fun w hw=>?_);exact⟨none,0,rfl,Jr hw,HpG.blkL (j:=2) hw rfl,wD,[],RdF.nil,.nil⟩
    ·replace h42:=yM h42;skip;have hk2:(E.tk s.at_).kind≠2:=by omega
     have hr:=primS_rest hr he hnn hk2;refine xH (ι:={x:Bool // x=isP E.tk sR s}) (fun x=>[(0,.pointer (some ⟨bp,0,none⟩)),(2,.pointer (some ⟨b2,0,none⟩)),(3,.pointer (some ⟨b3,0,none⟩)),(64,.bool x.1)]) (fun _=>Hp (fun k=>k=bp) w_0 [(b3,rtO (E.tk s.at_)),(b2,bk 57 (exC 0 0 [] none 0 0)),(bp,rO E s)] [] (RkX E)) ?_ (fun x=>?_)
     ·refine Z5r 0 2 3 23 42 V V V V V<|ZF V (Y52x0 V) ?_;refine ZF V (zW 0 V V V U3 V)<|ZF V (yU V V)<|Zm V V<|zG 68 V (fun hb=>?_) (fun hb=>?_)
      ·replace hb:=Jx hb;refine ZG V V V (Y52x1 V) ?_;refine ZG V V V (zW 0 V V V U9 V)<|ZG V V V (yD V V U9)<|ZF V (zP V V)<|Za V V<|zU<|zF (ι:={x:Bool // x=isP E.tk sR s}) ⟨decide ((E.tk s.at_).text=sR),rM he (by omega)⟩ (O4 V V V V) (fun w h=>h)
      ·replace hb:=yM hb;refine ZP V<|ZP V<|ZP V<|ZF V (zL V V)<|Za V V<|zU<|zF (ι:={x:Bool // x=isP E.tk sR s}) ⟨false,isP_no (by omega)⟩ (O4 V V V V) (fun w h=>h)
     ·obtain⟨xb,rfl⟩:=x;dsimp only;refine zQ V (fun h64=>?_) (fun h64=>?_)
      ·have ha:=yA hE.kind hs h64;have hn:=vT hE.kind [91] ha;rw[h64] at hr;obtain⟨e,s1,hx1,hx2⟩:=yO hr;cases hx2;have hs1:=(rxF_g hE.kind f).bin 0 _ hn.1 e s1 hx1;refine zY<|zX<|Zm V V<|Zn V V<|ZF V (Y119x1 V) ?_;refine ZF V (zW 2 V V V U3 V)<|ZF V (yJ V V (i64_in _ (by omega) (by omega))) ?_;refine Zn V V<|ZF V (Y119x1 V) ?_;refine ZS 2 V V V V V (by kernel_rfl) ?_;refine ZX<|Z4r 0 2 3 64 V V V V<|Zm V V<|vA E hE (adv s) ha [91] bp (fun _ h=>h) 2 .none V  V V ?_;refine ZX<|Z4r 0 2 3 64 V V V V<|Zm V V<|wl_rx E _ e s1 bp 2 hB (fun _ h=>h) (fun w h1 h2=>IH.bin 0 _ e s1 (by omega) hx1 hn.1 bp w h1 h2) .none V  (by kernel_rfl) V V (fun A cap F hF=>?_);refine zA .none V (yN (z:=.agg #[.int .i64 0,.int .u32 0,.string ⟨#[]⟩,.slice none 0 0]) (cs:=Je) (by kernel_rfl) V) (fun b5=>?_);refine ZR 0 V V V V V (by kernel_rfl) ?_;refine ZX<|Z5r 0 2 3 5 64 V V V V V<|Zm V V<|vA E hE s1 hs1.2.1 [93] bp (fun _ h=>h.2) 3 .none V  V V ?_;refine ZX<|Z5r 0 2 3 5 64 V V V V V<|ZF V (yX 0 V V U57 V (by kernel_rfl)) ?_;refine zA .none V (xU (z:=.agg #[.int .i64 0,.int .u32 0,.string ⟨#[]⟩,.slice none 0 0]) V V U55 (by kernel_rfl) (by kernel_rfl) V V) (fun b87=>?_);refine ZF V (yR [.int .i64 0,.int .u32 0,.string ⟨#[]⟩,.slice none 0 0] [(0,1),(1,1),(2,1),(3,1)] V (by kernel_rfl) (by kernel_rfl) V) ?_;refine ZR 3 V V V V V (by kernel_rfl) ?_;refine ZT<|zK<|zT<|zV<|yK V V 3 V U57 V (by kernel_rfl) (fun w hw=>?_);exact⟨some ⟨b87,0,none⟩,1,rfl,Jr hw,HpG.blkL (j:=4) hw rfl,sW,_,HpG.rdF (j:=0) hw V (HpG.fresh (j:=0) (i:=4) hw V V V),ExsV.lies.mono hF (HpG.x hw).1.one⟩
      ·rw[h64] at hr;refine xH (ι:={x:Bool // x=isP E.tk kIn s}) (fun x=>[(0,.pointer (some ⟨bp,0,none⟩)),(2,.pointer (some ⟨b2,0,none⟩)),(3,.pointer (some ⟨b3,0,none⟩)),(89,.bool x.1)]) (fun _=>Hp (fun k=>k=bp) w_0 [(b3,rtO (E.tk s.at_)),(b2,bk 57 (exC 0 0 [] none 0 0)),(bp,rO E s)] [] (RkX E)) ?_ (fun x=>?_)
       ·refine zX<|ZF V (Y52x0 V) ?_;refine ZF V (zW 0 V V V U3 V)<|ZF V (yU V V)<|Zm V V<|zG 93 V (fun hb=>?_) (fun hb=>?_)
        ·replace hb:=Jx hb;refine ZG V V V (Y52x1 V) ?_;refine ZG V V V (zW 0 V V V U9 V)<|ZG V V V (yD V V U9)<|ZF V (zP V V)<|Za V V<|zU<|zF (ι:={x:Bool // x=isP E.tk kIn s}) ⟨decide ((E.tk s.at_).text=kIn),rM he (by omega)⟩ (O4 V V V V) (fun w h=>h)
        ·replace hb:=yM hb;refine ZP V<|ZP V<|ZP V<|ZF V (zL V V)<|Za V V<|zU<|zF (ι:={x:Bool // x=isP E.tk kIn s}) ⟨false,isP_no (by omega)⟩ (O4 V V V V) (fun w h=>h)
       ·obtain⟨xb,rfl⟩:=x;dsimp only;refine zQ V (fun h89=>?_) (fun h89=>?_)
        ·have ha:=yA hE.kind hs h89;rw[h89] at hr;cases hr;refine zY<|zX<|Zm V V<|Zn V V<|ZF V (Y119x1 V) ?_;refine ZF V (zW 2 V V V U3 V)<|ZF V (yJ V V (i64_in _ (by omega) (by omega))) ?_;refine Zn V V<|ZF V (Y119x1 V) ?_;refine ZS 2 V V V V V (by kernel_rfl) ?_;refine ZX<|Z4r 0 2 3 89 V V V V<|ZF V (yR [.int .i64 0,.int .u32 0,.string ⟨#[]⟩,.slice none 0 0] [(0,1),(1,1),(2,1),(3,1)] V (by kernel_rfl) (by kernel_rfl) V) ?_;refine ZR 1 V V V V V (by kernel_rfl) ?_;refine ZT<|zK<|zT<|zV<|yK V V 1 V U57 V (by kernel_rfl) (fun w hw=>?_);exact⟨none,0,rfl,Jr hw,HpG.blkL (j:=2) hw rfl,wD,[],RdF.nil,.nil⟩
        ·rw[h89] at hr;refine xH (ι:={x:Bool // x=isP E.tk [40] s}) (fun x=>[(0,.pointer (some ⟨bp,0,none⟩)),(2,.pointer (some ⟨b2,0,none⟩)),(3,.pointer (some ⟨b3,0,none⟩)),(106,.bool x.1)]) (fun _=>Hp (fun k=>k=bp) w_0 [(b3,rtO (E.tk s.at_)),(b2,bk 57 (exC 0 0 [] none 0 0)),(bp,rO E s)] [] (RkX E)) ?_ (fun x=>?_)
         ·refine zX<|ZF V (Y52x0 V) ?_;refine ZF V (zW 0 V V V U3 V)<|ZF V (yU V V)<|Zm V V<|zG 110 V (fun hb=>?_) (fun hb=>?_)
          ·replace hb:=Jx hb;refine ZG V V V (Y52x1 V) ?_;refine ZG V V V (zW 0 V V V U9 V)<|ZG V V V (yD V V U9)<|ZF V (zP V V)<|Za V V<|zU<|zF (ι:={x:Bool // x=isP E.tk [40] s}) ⟨decide ((E.tk s.at_).text=[40]),rM he (by omega)⟩ (O4 V V V V) (fun w h=>h)
          ·replace hb:=yM hb;refine ZP V<|ZP V<|ZP V<|ZF V (zL V V)<|Za V V<|zU<|zF (ι:={x:Bool // x=isP E.tk [40] s}) ⟨false,isP_no (by omega)⟩ (O4 V V V V) (fun w h=>h)
         ·obtain⟨xb,rfl⟩:=x;dsimp only;refine zQ V (fun h106=>?_) (fun h106=>?_)
          ·have ha:=yA hE.kind hs h106;rw[h106] at hr;obtain⟨e,s1,hx1,hx2⟩:=yO hr;cases hx2;have hs1:=(rxF_g hE.kind f).bin 0 _ ha x s1 hx1;refine zY<|zX<|Zm V V<|Zn V V<|ZF V (Y119x1 V) ?_;refine ZF V (zW 2 V V V U3 V)<|ZF V (yJ V V (i64_in _ (by omega) (by omega))) ?_;refine Zn V V<|ZF V (Y119x1 V) ?_;refine ZS 2 V V V V V (by kernel_rfl) ?_;refine ZX<|Z4r 0 2 3 106 V V V V<|Zm V V<|wl_rx E _ x s1 bp 2 hB (fun _ h=>h) (fun w h1 h2=>IH.bin 0 _ x s1 (by omega) hx1 ha bp w h1 h2) .none V  (by kernel_rfl) V V (fun A cap F hF=>?_);refine zA .none V (yN (z:=.agg #[.int .i64 0,.int .u32 0,.string ⟨#[]⟩,.slice none 0 0]) (cs:=Je) (by kernel_rfl) V) (fun b6=>?_);refine ZR 0 V V V V V (by kernel_rfl) ?_;refine ZX<|Z5r 0 2 3 6 106 V V V V V<|Zm V V<|vA E hE s1 hs1.2.1 [41] bp (fun _ h=>h.2) 3 .none V  V V ?_;refine ZX<|Z5r 0 2 3 6 106 V V V V V<|ZF V (yX 0 V V U57 V (by kernel_rfl)) ?_;refine ZR 2 V V V V V (by kernel_rfl) ?_;refine ZT<|zK<|zT<|zV<|yK V V 2 V U57 V (by kernel_rfl) (fun w hw=>?_);exact⟨A,cap,rfl,Jr hw,HpG.blkL (j:=3) hw rfl,xY.lies.mono hF (HpG.x hw).1⟩
          ·rw[h106] at hr;cases hr;refine zH<|zJ<|zO<|zY<|zX<|Zm V V<|wl_rfail E hE s hs bp (fun _ h=>h) 2 .none V  V V ?_;refine ZX<|Z4r 0 2 3 106 V V V V<|ZF V (yR [.int .i64 0,.int .u32 0,.string ⟨#[]⟩,.slice none 0 0] [(0,1),(1,1),(2,1),(3,1)] V (by kernel_rfl) (by kernel_rfl) V) ?_;refine ZR 1 V V V V V (by kernel_rfl) ?_;refine ZT<|zK<|yK V V 1 V U57 V (by kernel_rfl) (fun w hw=>?_);exact⟨none,0,rfl,Jr hw,HpG.blkL (j:=2) hw rfl,wD,[],RdF.nil,.nil⟩
end Go.Proofs.YtfpkpnkdnammnaaGreatDoor
namespace Go.Proofs.YtfpkpnkdnammnaaGreatDoor
open Go.RowKit
theorem runS_hit {tk:Nat→Tok}{r:EF}{s:PS}{p:Ex×PS}(h:(isP tk [45] s||isP tk [126] s||isP tk [33] s)=true) (hr:unS tk r s=some p):(s.err=0∧(tk s.at_).kind=3)∧∃e s1,r.un (adv s)=some (e,s1)∧p=(.mk 6 0 (tk s.at_).text [e],s1):=by
 unfold unS at hr
 have key:∀y,(tk s.at_).text=y→andThen (r.un (adv s)) (fun e s=>some (Ex.mk 6 0 y [e],s))=some p→∃e s1,r.un (adv s)=some (e,s1)∧p=(.mk 6 0 (tk s.at_).text [e],s1):=fun y hy hq=>by
  obtain⟨e,s1,h1,h2⟩:=yO hq;cases h2;exact⟨e,s1,h1,by rw[hy]⟩
 cases h1:isP tk [45] s with
 | true=>rw[h1] at hr;have hk:=isP_kind h1;exact⟨⟨hk.1,hk.2.1⟩,key _ hk.2.2 hr⟩
 | false =>
  rw[h1] at hr h
  cases h2:isP tk [126] s with
  | true=>rw[h2] at hr;have hk:=isP_kind h2;exact⟨⟨hk.1,hk.2.1⟩,key _ hk.2.2 hr⟩
  | false =>
   rw[h2] at hr h;have h3:isP tk [33] s=true:=by simpa using h
   rw[h3] at hr;have hk:=isP_kind h3;exact⟨⟨hk.1,hk.2.1⟩,key _ hk.2.2 hr⟩
theorem runS_miss {tk:Nat→Tok}{r:EF}{s:PS}{p:Ex×PS}(h:(isP tk [45] s||isP tk [126] s||isP tk [33] s)=false) (hr:unS tk r s=some p):r.prim s=some p:=by
 unfold unS at hr;simp only[Bool.or_eq_false_iff] at h;rw[h.1.1,h.1.2,h.2] at hr;exact hr
theorem runary_any {E:PE}(hE:E.Or) {f:Nat}(IH:ROk E f) (s:PS) (x:Ex) (s':PS) (hr:unS E.tk (rxF E.tk f) s=some (x,s')) (hs:s.at_≤E.m) (bp:Nat) (w_0:World) (hb:w_0.heap[bp]? = some (rO E s)) (hX:RkX E w_0):Calls Tryz.prog 158 #[.pointer (some ⟨bp,0,none⟩)] w_0 (RxPost E bp w_0 x s'):=by
 have hsm:=hE.sm;have hB:=rbp_lt hb;refine yW (args:=[.pointer (some ⟨bp,0,none⟩)]) Tryz.func158 V 54 V (Jo V)<|Z1 0 V<|zC (H':=Hp (fun k=>k=bp) w_0 [(bp,rO E s)] [] (RkX E)) (fun u hu=>?_) ?_
 ·subst hu;exact Hp.startR hb hX
 refine zY<|zX<|zA .none V (yN (z:=.agg #[.int .i64 0,.int .u32 0,.string ⟨#[]⟩,.slice none 0 0]) (cs:=Je) (by kernel_rfl) V) (fun b2=>?_);refine ZX<|xV 11 [0,1,2,3,4,5,6,7,8,9,10] _ (by kernel_rfl) (by kernel_rfl) Ky (fun _ h=>h) (fun n0 hn0=>?_);refine Zd V V V (zR V)<|Zd V V V (yV V)<|Zd V V V (Y119x0 V) ?_;refine Zd V V V (zW 1 V V V U27 V)<|Zd V V V (zR V)<|Zd V V V (yV V)<|Zd V V V (Y119x1 V) ?_;refine Zd rfl rfl rfl (zW 1 rfl rfl rfl U3 rfl)<|Zd rfl rfl rfl (zM (es:=5) rfl rfl U27 (by kernel_rfl) rfl (by first|decide|omega|(simp;done)|(simp;omega)) rfl) ?_;refine Zd V V V (yH (cs:=uA (E.tk s.at_)) V U52 V (by kernel_rfl) (fun w h=>rkRow (HpG.x h) hs (by omega))) ?_;refine xZ V<|wB ?_ .none V (fun k hk=>Jy hk hn0) (yN (z:=.agg #[.int .i64 0,.string ⟨#[]⟩,.int .u32 0,.bool false,.int .i64 0]) (cs:=Ji) (by kernel_rfl) V) (fun b3 hb3=>?_)
 ·rfl
 refine xQ ?_;simp only[Ka,Kf];refine ZR 0 V V V V V (by kernel_rfl) ?_;refine ZX<|xH (ι:={x:Bool // x=(isP E.tk [45] s||isP E.tk [126] s||isP E.tk [33] s)}) (fun x=>[(0,.pointer (some ⟨bp,0,none⟩)),(2,.pointer (some ⟨b2,0,none⟩)),(3,.pointer (some ⟨b3,0,none⟩)),(38,.bool x.1)]) (fun _=>Hp (fun k=>k=bp) w_0 [(b3,rtO (E.tk s.at_)),(b2,bk 57 (exC 0 0 [] none 0 0)),(bp,rO E s)] [] (RkX E)) ?_ (fun x=>?_)
 ·refine Z3r 0 2 3 V V V<|Zm V V<|Zn V V<|ZF V (Y119x3 V) ?_;refine ZF V (zW 2 V V V U41 V)<|ZF V (yU V V)<|Zm V V<|zG 19 V (fun g6=>?_) (fun g6=>?_)
  ·replace g6:=Jx g6;refine ZG V V V (Y52x0 V) ?_;refine ZG V V V (zW 0 V V V U3 V)<|ZG V V V (yU V V)<|ZF V (zP V V)<|Zm V V<|zG 24 V (fun g11=>?_) (fun g11=>?_)
   ·replace g11:=Jx g11;refine ZG V V V (Y52x1 V) ?_;refine ZG V V V (zW 0 V V V U9 V)<|ZG V V V (yD V V U9)<|ZG V V V (zR V)<|zG 28 V (fun g15=>?_) (fun g15=>?_)
    ·refine ZP rfl<|ZP rfl<|ZP rfl<|ZG rfl rfl rfl (zP rfl rfl)<|ZG rfl rfl rfl (zR rfl)<|ZP rfl<|ZP rfl<|ZP rfl<|ZG rfl rfl rfl (zP rfl rfl)<|ZF rfl (zP rfl rfl)<|zU<|zF (ι:={x:Bool // x=(isP E.tk [45] s||isP E.tk [126] s||isP E.tk [33] s)}) ⟨true,by rw[← rM (x:=[45]) (by omega) (by omega),g15];rfl⟩ (O4 rfl rfl rfl rfl) (fun w h=>h)
    ·refine ZG V V V (Y52x1 V) ?_;refine ZG V V V (zW 0 V V V U9 V)<|ZG V V V (yD V V U9)<|ZG V V V (zL V V)<|ZG V V V (zR V)<|zG 33 V (fun g20=>?_) (fun g20=>?_)
     ·refine ZP rfl<|ZP rfl<|ZP rfl<|ZG rfl rfl rfl (zP rfl rfl)<|ZF rfl (zP rfl rfl)<|zU<|zF (ι:={x:Bool // x=(isP E.tk [45] s||isP E.tk [126] s||isP E.tk [33] s)}) ⟨true,by rw[← rM (x:=[126]) (by omega) (by omega),g20];simp⟩ (O4 rfl rfl rfl rfl) (fun w h=>h)
     ·refine ZG V V V (Y52x1 V) ?_;refine ZG rfl rfl rfl (zW 0 rfl rfl rfl U9 rfl)<|ZG rfl rfl rfl (yD rfl rfl U9)<|ZG rfl rfl rfl (zL rfl rfl)<|ZF rfl (zP rfl rfl)<|zU<|zF (ι:={x:Bool // x=(isP E.tk [45] s||isP E.tk [126] s||isP E.tk [33] s)}) ⟨decide ((E.tk s.at_).text=[33]),by rw[← rM (x:=[45]) (by omega) (by omega),← rM (x:=[126]) (by omega) (by omega),← rM (x:=[33]) (by omega) (by omega),g15,g20];rfl⟩ (O4 rfl rfl rfl rfl) (fun w h=>h)
   ·replace g11:=yM g11;refine ZP rfl<|ZP rfl<|ZP rfl<|ZP rfl<|yZ rfl rfl rfl<|yZ rfl rfl rfl<|yZ rfl rfl rfl<|ZP rfl<|ZP rfl<|yZ rfl rfl rfl<|yZ rfl rfl rfl<|yZ rfl rfl rfl<|ZP rfl<|ZF rfl (zL rfl rfl)<|zU<|zF (ι:={x:Bool // x=(isP E.tk [45] s||isP E.tk [126] s||isP E.tk [33] s)}) ⟨false,by rw[← isP_no (x:=[45]) (by omega),← isP_no (x:=[126]) (by omega),← isP_no (x:=[33]) (by omega)];rfl⟩ (O4 rfl rfl rfl rfl) (fun w h=>h)
  ·replace g6:=yM g6;refine ZP rfl<|ZP rfl<|ZP rfl<|ZF rfl (zL rfl rfl)<|Zm rfl rfl<|ZP rfl<|ZP rfl<|ZP rfl<|ZP rfl<|yZ rfl rfl rfl<|yZ rfl rfl rfl<|yZ rfl rfl rfl<|ZP rfl<|ZP rfl<|yZ rfl rfl rfl<|yZ rfl rfl rfl<|yZ rfl rfl rfl<|ZP rfl<|ZF rfl (zL rfl rfl)<|zU<|zF (ι:={x:Bool // x=(isP E.tk [45] s||isP E.tk [126] s||isP E.tk [33] s)}) ⟨false,by simp[isP_cs,show s.err≠0 by omega]⟩ (O4 rfl rfl rfl rfl) (fun w h=>h)
 ·obtain⟨xb,hxb⟩:=x;dsimp only;refine zQ V (fun h38=>?_) (fun h38=>?_)
  ·obtain⟨⟨he,hk3⟩,e,s1,hx1,hx2⟩:=runS_hit (hxb.symm.trans h38) hr;cases hx2;have ha:=tX hE.kind hs (by omega) (by omega);refine zY<|zX<|Zm V V<|Zn V V<|ZF V (Y119x1 V) ?_;refine ZF V (zW 2 V V V U3 V)<|ZF V (yJ V V (i64_in _ (by omega) (by omega))) ?_;refine Zn V V<|ZF V (Y119x1 V) ?_;refine ZS 2 V V V V V (by kernel_rfl) ?_;refine ZX<|Z4 0 2 3 38 V V V V<|xV 6 [0,1,2,3,4,5] (Blk b3 (rtO (E.tk s.at_))) (by kernel_rfl) (by kernel_rfl) Blk.stab (fun w h=>HpG.blk h (k:=0) V) (fun n0 hn0=>?_);refine Zd V V V (Y52x1 V) ?_;refine Zd V V V (wF V V U9 V)<|Zd V V V (zR V)<|xZ V<|wd_rx E (adv s) e s' bp 2 hB (fun _ h=>h) (fun u u' h1 h2 hK=>h2.keep hK (HpG.ne h1 (i:=0) (j:=2) V V V)) (fun u h1 h2=>IH.un (adv s) e s' hx1 ha bp u h1 h2) .none V  (by kernel_rfl) V V (fun A cap F hF=>?_);refine xZ V<|wB ?_ .none V (fun k hk=>.inr (Jy hk hn0)) (xU (z:=.agg #[.int .i64 0,.int .u32 0,.string ⟨#[]⟩,.slice none 0 0]) V V U55 (by kernel_rfl) (by kernel_rfl) V V) (fun b50 hb50=>?_)
   ·rfl
   refine xZ V<|wQ V .none V (yR [.int .i64 0,.int .u32 0,.string ⟨#[]⟩,.slice none 0 0] [(0,1),(1,1),(2,1),(3,1)] V (by kernel_rfl) (by kernel_rfl) V) ?_;refine xQ ?_;simp only[Ka,Kf];refine ZR 2 V V V V V (by kernel_rfl) ?_;refine ZT<|zK<|zV<|yK V V 2 V U57 V (by kernel_rfl) (fun w hw=>?_);exact⟨some ⟨b50,0,none⟩,1,rfl,Jr hw,HpG.blkL (j:=3) hw rfl,sW,_,HpG.rdF (j:=0) hw V (HpG.fresh (j:=0) (i:=3) hw V V V),ExsV.lies.mono hF (HpG.x hw).1.one⟩
  ·have hr:=runS_miss (hxb.symm.trans (by simpa using h38)) hr;refine zH<|zO<|zY<|zX<|Zm V V<|wl_rx E s x s' bp 2 hB (fun _ h=>h) (fun w h1 h2=>IH.prim s x s' hr hs bp w h1 h2) .none V  (by kernel_rfl) V V (fun A cap F hF=>?_);refine ZR 1 V V V V V (by kernel_rfl) ?_;refine ZT<|zK<|yK V V 1 V U57 V (by kernel_rfl) (fun w hw=>?_);exact⟨A,cap,rfl,Jr hw,HpG.blkL (j:=2) hw rfl,xY.lies.mono hF (HpG.x hw).1⟩
theorem lev_iff {s:Bs}{n:Nat}{y:List Bs}(hy:rQ[n]? = some y):vE s=some n↔s∈y:=by
 refine⟨fun h=>?_,lev_at hy⟩
 by_cases hs:∃(j:Nat) (x:List Bs),rQ[j]? = some x∧s∈x
 ·obtain⟨j,x,hj,hx⟩:=hs;have:=lev_at hj hx;rw[h] at this;cases this;rw[hy] at hj;cases hj;exact hx
 ·rw[lev_none (fun j x hj hx=>hs ⟨j,x,hj,hx⟩)] at h;cases h
theorem rloop_end {tk:Nat→Tok}{r:EF}{n:Nat}{e:Ex}{s:PS}{p:Ex×PS}(h:llpS tk r n e s=some p) (hc:¬(s.err=0∧(tk s.at_).kind=3∧vE (tk s.at_).text=some n)):p=(e,s):=by
 unfold llpS at h;rw[Kp hc] at h;cases h;rfl
theorem rloop_go {tk:Nat→Tok}{r:EF}{n:Nat}{e:Ex}{s:PS}{p:Ex×PS}(h:llpS tk r n e s=some p) (hc:s.err=0∧(tk s.at_).kind=3∧vE (tk s.at_).text=some n):∃x s1,r.bin (n+1) (adv s)=some (x,s1)∧r.loop n (.mk 7 0 (tk s.at_).text [e,x]) s1=some p:=by
 unfold llpS at h;rw[Kq hc] at h;obtain⟨x,s1,h1,h2⟩:=yO h;exact⟨x,s1,h1,h2⟩
structure LvJ where
 k:Nat
 e:Ex
 s:PS
 A:Option Addr
 cap:Nat
 F:Nat→Prop
structure LvOk (E:PE) (f n:Nat) (x:Ex) (s':PS) (n0:Nat) (j:LvJ):Prop where
 run:(rxF E.tk j.k).loop n j.e j.s=some (x,s')
 k:j.k≤f
 at_:j.s.at_≤E.m
 F:∀k,j.F k→n0≤k
theorem rlevel_any {E:PE}(hE:E.Or) {f:Nat}(IH:ROk E f) (n:Nat) (hn:n≤8) (s:PS) (x:Ex) (s':PS) (hr:levS (rxF E.tk f) n s=some (x,s')) (hs:s.at_≤E.m) (bp:Nat) (w_0:World) (hb:w_0.heap[bp]? = some (rO E s)) (hX:RkX E w_0):Calls Tryz.prog 138 #[.pointer (some ⟨bp,0,none⟩),.int .i64 n] w_0 (RxPost E bp w_0 x s'):=by
 have hsm:=hE.sm;have hB:=rbp_lt hb;refine yW (args:=[.pointer (some ⟨bp,0,none⟩),.int .i64 n]) Tryz.func138 V 66 V (Jo V)<|Z2 0 1 V V<|zC (H':=Hp (fun k=>k=bp) w_0 [(bp,rO E s)] [] (RkX E)) (fun u hu=>?_) ?_
 ·subst hu;exact Hp.startR hb hX
 refine zY<|zX<|zA .none V (yN (z:=.agg #[.int .i64 0,.int .u32 0,.string ⟨#[]⟩,.slice none 0 0]) (cs:=Je) (by kernel_rfl) V) (fun b4=>?_);refine ZX<|zX<|uB (ι:=Nat×{av:List (Option Addr) // av.length=8}) (C:=fun _=>True) (val:=fun A=>.slice (some ⟨A.1,0,none⟩) 8 8) (TT:=fun A F u=>RdF F (some ⟨A.1,0,none⟩) (levC A.2.1) u∧LevV A.2.1 F u) .none V  (by kernel_rfl) V hB (fun _=>⟨fun hk ⟨a,b⟩=>⟨RdF.lies.foot hk a,LevV.lies.foot hk b⟩,fun ⟨a,b⟩=>⟨RdF.lies.lt a,LevV.lies.lt b⟩,fun hF ⟨a,b⟩=>⟨RdF.lies.mono hF a,LevV.lies.mono hF b⟩⟩) (fun w hw=>(rlevels_any w).mono fun e w' ⟨A,av,h1,e1,e2,e3,e4⟩=>⟨(A,⟨av,h1⟩),trivial,e1,e2,e3,e4⟩) (fun A FL _ hFL=>?_);obtain⟨AL,av,has⟩:=A;dsimp only;refine Za V V<|ZX<|zY<|Z4r 0 1 4 5 V V V V<|Zm V V<|Zm V V<|ZF V (yL V U178)<|ZF V (yU V V)<|ZT<|zQ V (fun h13=>?_) (fun h13=>?_)
 ·replace h13:=Jx h13;skip;have hr8:(rxF E.tk f).un s=some (x,s'):=by unfold levS at hr;rw[Kq (by omega)] at hr;exact hr
  refine zY<|Z5r 0 1 4 5 13 V V V V V<|Zm V V<|wl_rx E s x s' bp 1 hB (fun _ h=>h.2) (fun w h1 h2=>IH.un s x s' hr8 hs bp w h1 h2) .none V  (by kernel_rfl) V V (fun A cap F hF=>?_);refine ZR 0 V V V V V (by kernel_rfl) ?_;refine ZT<|zK<|zV<|yK V V 0 V U57 V (by kernel_rfl) (fun w hw=>?_);exact⟨A,cap,rfl,Jr hw,HpG.blkL (j:=1) hw rfl,xY.lies.mono hF (HpG.x hw).1⟩
 ·replace h13:=yM h13;skip;have hn8:n<8:=by omega
  have hr0:andThen ((rxF E.tk f).bin (n+1) s) (fun e s=>(rxF E.tk f).loop n e s)=some (x,s'):=by unfold levS at hr;rw[Kp (by omega)] at hr;exact hr
  obtain⟨e0,s0,hu0,hl0⟩:=yO hr0;have hs0:=(rxF_g hE.kind f).bin (n+1) s hs e0 s0 hu0;obtain⟨yl,hyl⟩:∃yl,rQ[n]? = some yl:=⟨rQ[n]'hn8,Ju hn8⟩;obtain⟨al,hal,hcl⟩:=levC_at has hyl;have hxl:yl.length≤9223372036854775807:=(show ∀x∈rQ,x.length≤9223372036854775807 by decide) yl (Jv hyl);refine zH<|zO<|zY<|Z5r 0 1 4 5 13 V V V V V<|Zm V V<|Zm V V<|ZF V (yJ V V (show IntKind.i64.wrap ((n:Int)+1)=((n+1:Nat):Int) from by rw[i64_in _ (by omega) (by omega)];simp)) ?_;refine wl_rx E s e0 s0 bp 1 hB (fun _ h=>h.2) (fun w h1 h2=>IH.bin (n+1) s e0 s0 (by omega) hu0 hs bp w h1 h2) .none V  (by kernel_rfl) V V (fun A0 cap0 F0 hF0=>?_);refine zA .none V (yN (z:=.agg #[.int .i64 0,.int .u32 0,.string ⟨#[]⟩,.slice none 0 0]) (cs:=Je) (by kernel_rfl) V) (fun b6=>?_);refine ZR 0 V V V V V (by kernel_rfl) ?_;refine ZX<|yY<|xW (ι:={j:LvJ // LvOk E f n x s' w_0.heap.size j}) (fun _=>[(0,.pointer (some ⟨bp,0,none⟩)),(1,.int .i64 n),(4,.pointer (some ⟨b4,0,none⟩)),(5,.slice (some ⟨AL,0,none⟩) 8 8),(6,.pointer (some ⟨b6,0,none⟩))]) (fun j=>Hp (fun k=>k=bp) w_0 [(b6,bk 57 (xN j.1.e j.1.A j.1.cap)),(b4,bk 57 (exC 0 0 [] none 0 0)),(bp,rO E j.1.s)] [] (fun u=>xY j.1.F u j.1.e j.1.A j.1.cap∧(RdF FL (some ⟨AL,0,none⟩) (levC av) u∧LevV av FL u)∧RkX E u)) (fun j=>j.1.k) ⟨⟨f,e0,s0,A0,cap0,F0⟩,⟨hl0,Kn _,hs0.2.1,hF0⟩⟩ ?_ ?_ (fun j=>?_)
  ·exact .cons V<|.cons V<|.cons V<|.cons V<|.cons V<|.nil
  ·exact fun w h=>h
  obtain⟨⟨k,e,s,A,cap,F⟩,⟨hrun,hk,hs,hF⟩⟩:=j;dsimp only at hrun hk hs hF ⊢
  cases k with
  | zero=>cases hrun
  | succ k=>?_
  have hrun:llpS E.tk (rxF E.tk k) n e s=some (x,s'):=hrun;refine zY<|zY<|zX<|Zm V V<|Zn V V<|ZF V (Y119x3 V) ?_;refine ZF V (zW 2 V V V U41 V)<|ZF V (yU V V)<|ZT<|zQ V (fun h24=>?_) (fun h24=>?_)
  ·replace h24:=Jx h24;skip;have he:s.err=0:=by omega
   refine zH<|zO<|yY<|zY<|Z6 0 1 4 5 6 24 V V V V V V<|xV 11 [0,1,2,3,4,5,6,7,8,9,10] _ (by kernel_rfl) (by kernel_rfl) Ky (fun _ h=>h) (fun n0 hn0=>?_);refine Zd V V V (zR V)<|Zd V V V (yV V)<|Zd V V V (Y119x0 V) ?_;refine Zd V V V (zW 2 V V V U27 V)<|Zd V V V (zR V)<|Zd V V V (yV V)<|Zd V V V (Y119x1 V) ?_;refine Zd rfl rfl rfl (zW 2 rfl rfl rfl U3 rfl)<|Zd rfl rfl rfl (zM (es:=5) rfl rfl U27 (by kernel_rfl) rfl (by first|decide|omega|(simp;done)|(simp;omega)) rfl) ?_;refine Zd V V V (yH (cs:=uA (E.tk s.at_)) V U52 V (by kernel_rfl) (fun w h=>rkRow (HpG.x h).2.2 hs (by omega))) ?_;refine xZ V<|wB ?_ .none V (fun k hk=>Jy hk hn0) (yN (z:=.agg #[.int .i64 0,.string ⟨#[]⟩,.int .u32 0,.bool false,.int .i64 0]) (cs:=Ji) (by kernel_rfl) V) (fun b7 hb7=>?_)
   ·rfl
   refine xQ ?_;simp only[Ka,Kf];refine ZR 0 V V V V V (by kernel_rfl) ?_;refine ZX<|Z7 0 1 4 5 6 7 24 V V V V V V V<|xV 7 [0,1,2,3,4,5,6] _ (by kernel_rfl) (by kernel_rfl) Ky (fun _ h=>h) (fun n0 hn0=>?_);refine Zd V V V (Y52x1 V) ?_;refine Zd rfl rfl rfl (zW 0 rfl rfl rfl U9 rfl)<|Zd rfl rfl rfl (zR rfl)<|Zd rfl rfl rfl (zR rfl)<|Zd rfl rfl rfl (zM (es:=1) rfl rfl U178 (by kernel_rfl) rfl (by first|decide|omega|(simp;done)|(simp;omega)) rfl) ?_;refine Zd V V V (yP (v:=.slice al yl.length yl.length) V U22 V (fun w h=>RdF.part (HpG.x h).2.1.1 (Jn.1 hcl).1 (by omega) hcl)) ?_;refine xZ V<|uZ .none V  (v:=.bool (decide ((E.tk s.at_).text∈yl))) (by kernel_rfl) V (fun _ _ hj hx=>HpG.onE hj hx) (fun w hw=>among_any yl hxl _ _ _ w ((HpG.x hw).2.1.2 n yl al hyl hal)) ?_;refine xQ ?_;simp only[Ka,Kf];refine Za V V<|ZX<|xH (ι:={x:Bool // x=true↔¬((E.tk s.at_).kind=3∧vE (E.tk s.at_).text=some n)}) (fun x=>[(0,.pointer (some ⟨bp,0,none⟩)),(1,.int .i64 n),(4,.pointer (some ⟨b4,0,none⟩)),(5,.slice (some ⟨AL,0,none⟩) 8 8),(6,.pointer (some ⟨b6,0,none⟩)),(7,.pointer (some ⟨b7,0,none⟩)),(48,.bool x.1)]) (fun _=>Hp (fun k=>k=bp) w_0 [(b7,rtO (E.tk s.at_)),(b6,bk 57 (xN e A cap)),(b4,bk 57 (exC 0 0 [] none 0 0)),(bp,rO E s)] [] (fun u=>xY F u e A cap∧(RdF FL (some ⟨AL,0,none⟩) (levC av) u∧LevV av FL u)∧RkX E u)) ?_ (fun x=>?_)
   ·refine Z8r 0 1 4 5 6 7 8 24 V V V V V V V V<|ZF V (Y52x0 V) ?_;refine ZF V (zW 0 V V V U3 V)<|ZF V (wA V V)<|Zm V V<|zG 45 V (fun g84=>?_) (fun g84=>?_)
    ·replace g84:=wK g84;refine ZP V<|ZP V<|ZF V (zP V V)<|zU<|zF (ι:={x:Bool // x=true↔¬((E.tk s.at_).kind=3∧vE (E.tk s.at_).text=some n)}) ⟨true,⟨fun _ h=>by omega,fun _=>rfl⟩⟩ (O7 V V V V V V V) (fun w h=>h)
    ·replace g84:=vR g84;refine ZG V V V (zR V)<|ZG V V V (xK V)<|ZF V (zL V V)<|zU<|zF (ι:={x:Bool // x=true↔¬((E.tk s.at_).kind=3∧vE (E.tk s.at_).text=some n)}) ⟨!decide ((E.tk s.at_).text∈yl),by rw[lev_iff hyl];simp[show (E.tk s.at_).kind=3 by omega]⟩ (O7 V V V V V V V) (fun w h=>h)
   ·obtain⟨xb,hxb⟩:=x;dsimp only;refine zQ V (fun h48=>?_) (fun h48=>?_)
    ·cases rloop_end hrun (fun h=>hxb.1 h48 h.2);refine yB<|zN<|wq_far V<|zN<|yC<|zO<|zY<|zX<|ZF V (yX 1 V V U57 V (by kernel_rfl)) ?_;refine ZR 2 V V V V V (by kernel_rfl) ?_;refine ZT<|zK<|yK V V 2 V U57 V (by kernel_rfl) (fun w hw=>?_);exact⟨A,cap,rfl,Jr hw,HpG.blkL (j:=3) hw rfl,xY.lies.mono hF (HpG.x hw).1⟩
    ·have hc:(E.tk s.at_).kind=3∧vE (E.tk s.at_).text=some n:=Classical.byContradiction fun h=>by rw[hxb.2 h] at h48;cases h48
     obtain⟨y,s1,hy1,hy2⟩:=rloop_go hrun ⟨he,hc⟩;have ha:=tX hE.kind hs (by omega) (by omega);have hyf:=(rxF_le (f:=k) (g:=f) (by omega)).bin (n+1) _ _ hy1;have hs1:=(rxF_g hE.kind k).bin (n+1) _ ha y s1 hy1;refine zH<|zO<|zY<|zX<|Zm V V<|Zn V V<|ZF V (Y119x1 V) ?_;refine ZF V (zW 3 V V V U3 V)<|ZF V (yJ V V (i64_in _ (by omega) (by omega))) ?_;refine Zn V V<|ZF V (Y119x1 V) ?_;refine ZS 3 V V V V V (by kernel_rfl) ?_;refine ZT<|Z7 0 1 4 5 6 7 48 V V V V V V V<|xV 9 [0,1,2,3,4,5,6,7,8] (J2 b7 b6 (rtO (E.tk s.at_)) (bk 57 (xN e A cap))) (by kernel_rfl) (by kernel_rfl) J2.stab (fun _ h=>⟨HpG.blk h (k:=0) rfl,HpG.blk h (k:=1) rfl⟩) (fun n0 hn0=>?_);refine Zd V V V (Y52x1 V) ?_;refine Zd V V V (YF.anti (wF V V U9 V) (fun _ h=>h.1)) ?_;refine Zd V V V (YF.anti (sZ V U57 V (by kernel_rfl)) (fun _ h=>h.2)) ?_;refine Zd V V V (zR V)<|Zd V V V (zR V)<|Zd V V V (yJ V V (show IntKind.i64.wrap ((n:Int)+1)=((n+1:Nat):Int) from by rw[i64_in _ (by omega) (by omega)];simp)) ?_;refine xZ V<|wd_rx E (adv s) y s1 bp 3 hB (fun _ h=>h.2.2) (fun w w' h1 h2 hK=>⟨h2.1.keep hK (HpG.ne h1 (i:=0) (j:=3) V V V),h2.2.keep hK (HpG.ne h1 (i:=1) (j:=3) V V V)⟩) (fun w h1 h2=>IH.bin (n+1) _ y s1 (by omega) hyf ha bp w h1 h2) .none V  (by kernel_rfl) V V (fun A2 cap2 F2 hF2=>?_);refine xZ V<|wB ?_ .none V (fun k hk=>.inr (Jy hk hn0)) (nf_bs2 (z:=.agg #[.int .i64 0,.int .u32 0,.string ⟨#[]⟩,.slice none 0 0]) V V V V U55 (by kernel_rfl) (by kernel_rfl) V V V) (fun b63 hb63=>?_)
     ·rfl
     refine xZ V<|wQ V .none V (yR [.int .i64 0,.int .u32 0,.string ⟨#[]⟩,.slice none 0 0] [(0,1),(1,1),(2,1),(3,1)] V (by kernel_rfl) (by kernel_rfl) V) ?_;refine xQ ?_;simp only[Ka,Kf];refine ZR 2 V V V V V (by kernel_rfl) ?_;refine zU<|zJ<|yF (ι:={j:LvJ // LvOk E f n x s' w_0.heap.size j}) ⟨⟨k,.mk 7 0 (E.tk s.at_).text [e,y],s1,some ⟨b63,0,none⟩,2,fun k=>F k∨F2 k∨(k=b63∧w_0.heap.size≤k)⟩,⟨hy2,by show k≤f;omega,hs1.2.1,fun k hk=>by rcases hk with h|h|h;exact hF k h;exact hF2 k h;exact h.2⟩⟩ (by show k<k+1;omega) (O5 rfl rfl rfl rfl rfl) (fun w h=>?_);have hfr:=HpG.fresh (j:=0) (i:=4) h rfl rfl rfl;refine Hp.weakX (Hp.drop (Hp.toX h (HpG.ne h (i:=0) (j:=4) V V V)) (Jt _ _) (Js _)) fun u ⟨hu1,hu2,hu3,hu4⟩=>⟨⟨cp22,_,Blk.rdF hu1 (.inr (.inr ⟨rfl,hfr⟩)),?_⟩,hu4⟩;exact ExsV.append (ExsV.lies.mono (fun _ h=>.inl h) hu3.one) (ExsV.lies.mono (fun _ h=>.inr (.inl h)) hu2.one)
  ·replace h24:=yM h24;skip;cases rloop_end hrun (fun h=>by omega);refine yB<|zN<|zN<|yC<|zO<|zY<|Z6r 0 1 4 5 6 24 V V V V V V<|ZF V (yX 0 V V U57 V (by kernel_rfl)) ?_;refine ZR 1 V V V V V (by kernel_rfl) ?_;refine ZT<|zK<|yK V V 1 V U57 V (by kernel_rfl) (fun w hw=>?_);exact⟨A,cap,rfl,Jr hw,HpG.blkL (j:=2) hw rfl,xY.lies.mono hF (HpG.x hw).1⟩
theorem rx_step' {E:PE}(hE:E.Or) {f:Nat}(hf:f≤100000000) (IH:ROk E f):ROk E (f+1) :=
 ⟨fun s x s' hr hs bp w hb hX=>rprimary_any hE IH hf s x s' hr hs bp w hb hX,fun s x s' hr hs bp w hb hX=>runary_any hE IH s x s' hr hs bp w hb hX,fun n s x s' hn hr hs bp w hb hX=>rlevel_any hE IH n hn s x s' hr hs bp w hb hX⟩
theorem rx_all {E:PE}(hE:E.Or):∀f,f≤100000000→ROk E f
 | 0,_=>⟨fun _ _ _ h=>(by cases h),fun _ _ _ h=>(by cases h),fun _ _ _ _ _ h=>(by cases h)⟩
 | f+1,h=>rx_step' hE (by omega) (rx_all hE f (by omega))
end Go.Proofs.YtfpkpnkdnammnaaGreatDoor
