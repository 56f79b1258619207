import Derived.Test.YtfpkpnkdnammnaaGreatDoorMgg
import Derived.Test.YtfpkpnkdnammnaaGreatDoorMgA
import Derived.Test.YtfpkpnkdnammnaaGreatDoorMapS
import Derived.Test.YtfpkpnkdnammnaaGreatDoorTreB
set_option maxRecDepth 100000
namespace Go.Proofs.YtfpkpnkdnammnaaGreatDoor
open Go.RowKit
structure PE where
 tk:Nat→Tok
 g:Nat
 c:Nat
 m:Nat
structure PE.Ok (E:PE):Prop where
 kind:(E.tk E.m).kind=0∨(E.tk E.m).kind=4
 le:E.m+1≤E.c
abbrev psV (E:PE) (s:PS):Value:=.slice (some ⟨E.g,4*s.at_,none⟩) (E.m+1-s.at_) (E.c-s.at_)
abbrev psC (E:PE) (s:PS):List Value:=[psV E s,.int .i64 s.err,.int .i64 s.off]
abbrev pO (E:PE) (s:PS):Obj:=bk 90 (psC E s)
def TkX (E:PE) (w:World):Prop:=∀j,j≤E.m→∀i v,(tokC (E.tk j))[i]? = some v→w.cell? ⟨E.g,4*j+i,none⟩=some v
theorem cell_lt {w:World}{a:Addr}{v:Value}(h:w.cell? a=some v):a.block<w.heap.size:=by
 unfold World.cell? at h;rcases Nat.lt_or_ge a.block w.heap.size with h1|h1
 ·exact h1
 ·simp[Array.getElem?_eq_none h1] at h
theorem TkX.lt {E:PE}{w:World}(h:TkX E w):E.g<w.heap.size:=cell_lt (h 0 (Kl _) 0 _ rfl)
theorem TkX.foot {E:PE}{w w':World}(h:TkX E w) (hk:w'.heap[E.g]? = w.heap[E.g]?):TkX E w':=fun j hj i v hv=>by
 rw[← h j hj i v hv];exact World.cell?_of_block hk
theorem TkX.ne {E:PE}{w:World}(h:TkX E w) {bp:Nat}{s:PS}(hb:w.heap[bp]? = some (pO E s)):E.g≠bp:=fun e=>by
 have h1:=h 0 (Kl _) 0 _ rfl;rw[e,cell_of_row w bp _ _ _ _ hb] at h1;simp at h1
theorem TkX.keep {E:PE}{w w':World}(h:TkX E w) {bp:Nat}{s:PS}(hb:w.heap[bp]? = some (pO E s)) (hK:Keep (fun j=>j=bp) w w'):TkX E w':=h.foot (hK.block _ h.lt (h.ne hb))
theorem tkAt {E:PE}{w:World}(h:TkX E w) {s:PS}(hs:s.at_≤E.m) (i:Nat) {o:Nat}{v:Value}(hv:(tokC (E.tk s.at_))[i]? = some v) (ho:o=4*s.at_+i):w.cell? ⟨E.g,o,none⟩=some v:=by subst ho;exact h _ hs i v hv
theorem Hp.startP {E:PE}{w:World}{bp:Nat}{s:PS}(hb:w.heap[bp]? = some (pO E s)) (hX:TkX E w):Hp (fun k=>k=bp) w [(bp,pO E s)] [] (TkX E) w :=
 Hp.startB hb ⟨fun k=>k=E.g,fun k hk=>by subst hk;exact⟨hX.lt,hX.ne hb⟩,fun u hu=>hX.foot (hu _ rfl)⟩
section
variable {P:Program}{n:Nat}{m:List (Nat×Value)}{ty:TypeId}{H:World→Prop}
theorem yf_adv {E:PE}(hE:E.Ok) {s:PS}(ha:(adv s).at_≤E.m) {x lo:Operand}{t e:TypeId}(hx:ev m x=some (psV E s)) (hlo:ev m lo=some (.int .i64 1)) (ht:P.underlying t=some (.slice e)) (hs':(P.info? e).map (·.size)=some 4):YF P (.slice t x (some lo) none none) ty n m H (psV E (adv s)):=by
 have ha':s.at_+1≤E.m:=ha;have h:=yf_sliceLo (P:=P) (ty:=ty) (n:=n) (H:=H) (i:=1) hx hlo ht hs' rfl (by omega)
 have e:subA (some ⟨E.g,4*s.at_,none⟩) (E.c-s.at_) 1 4=some ⟨E.g,4*(adv s).at_,none⟩:=by
  have:=hE.le;unfold subA;rw[Ko (by omega)];simp only[Option.map_some,Addr.add_mid];rfl
 rw[e,Nat.sub_sub,Nat.sub_sub] at h;exact h
end
theorem ok_any (E:PE) (s:PS) (bp:Nat) (w_0:World) (hb:w_0.heap[bp]? = some (pO E s)):Calls Tryz.prog 49 #[.pointer (some ⟨bp,0,none⟩)] w_0 fun e w'=>e=.returned (.bool (decide (s.err=0)))∧Ext w_0 w':=by
 refine yV (args:=[.pointer (some ⟨bp,0,none⟩)]) Tryz.func49 V 8 V (Jn V)<|Z1 0 V<|zD (H':=Hp (fun _=>False) w_0 [] [] (Blk bp (pO E s))) (fun u hu=>?_) ?_
 ·subst hu;exact Hp.start ⟨fun k=>k=bp,fun k hk=>by subst hk;exact⟨(Jv.1 hb).1,id⟩,fun u hu=>(hu _ V).trans hb⟩
 refine zY<|zX<|Za V V<|ZX<|zX<|Zm V V<|Zn V V<|ZF V (Y90x1 V) ?_;refine ZF V (yO (v:=.int .i64 s.err) V U41 V (fun w h=>by rw[cell_of_row w bp _ _ _ _ (HpG.x h)];rfl)) ?_;refine ZF V (yS V V)<|Za V V<|ZT<|zK<|zI V V (fun w hw=>?_);exact⟨by congr 2;rw[Jl];simp,(Jq hw).ext⟩
section
variable {ops:Array Oper}{Q:Exit→Act→World→Prop}{n:Nat}{m:List (Nat×Value)}{ty:TypeId}{G B:Nat→Prop}{w0:World}{L:List (Nat×Obj)}{R:List Rw}{X:World→Prop}{rest:List Oper}{d:Nat}{pos:String}{af:Array Edge}{gd:Option (Nat×Bool)}{args:List Operand}{ats:Array TypeId}
theorem wl_ok (E:PE) (s:PS) (bp:Nat) (k:Nat) (hg:Gd ops m gd) (hd:Nat.blt d n=true) (ha:evl m args=some [.pointer (some ⟨bp,0,none⟩)]) (hk:L[k]? = some (bp,pO E s)) (h:WL Tryz.prog ops Q rest n ((d,.bool (decide (s.err=0)))::m) (HpG G B w0 L R X)) :
  WL Tryz.prog ops Q (⟨some d,.call { callee:=.value (.func 49),args:=args.toArray,argTypes:=ats },ty,pos,af,gd⟩::rest) n m (HpG G B w0 L R X) :=
 yT hg hd (by kernel_rfl) ha (fun w hw=>ok_any E s bp w (hw.own _ (Ju hk))) h
end
theorem isP_eq {E:PE}{x:Bs}{s:PS}:isP E.tk x s=(decide (s.err=0)&&decide ((E.tk s.at_).kind=3)&&decide ((E.tk s.at_).text=x)):=rfl
theorem is_any (E:PE) (x:Bs) (s:PS) (hs:s.at_≤E.m) (bp:Nat) (w_0:World) (hb:w_0.heap[bp]? = some (pO E s)) (hX:TkX E w_0):Calls Tryz.prog 151 #[.pointer (some ⟨bp,0,none⟩),.string ⟨x.toArray⟩] w_0 fun e w'=>e=.returned (.bool (isP E.tk x s))∧Ext w_0 w':=by
 refine yV (args:=[.pointer (some ⟨bp,0,none⟩),.string ⟨x.toArray⟩]) Tryz.func151 V 28 V (Jn V)<|Z2 0 1 V V<|zD (H':=Hp (fun _=>False) w_0 [] [] (fun u=>Blk bp (pO E s) u∧TkX E u)) (fun u hu=>?_) ?_
 ·subst hu;exact Hp.start ⟨fun k=>k=bp∨k=E.g,fun k hk=>by rcases hk with rfl|rfl;exact⟨(Jv.1 hb).1,id⟩;exact⟨hX.lt,id⟩,fun u hu=>⟨(hu _ (.inl rfl)).trans hb,hX.foot (hu _ (.inr rfl))⟩⟩
 refine zY<|zX<|Za V V<|ZX<|zX<|Zm V V<|yT .none V  (v:=.bool (decide (s.err=0))) (by kernel_rfl) V (fun w hw=>ok_any E s bp w (HpG.x hw).1) ?_;refine Zm V V<|zH 7 V (fun h3=>?_) (fun h3=>?_)
 ·refine ZG V V V (zO V)<|ZG V V V (yR V)<|ZG V V V (Y90x0 V) ?_;refine ZG V V V (yO (v:=psV E s) V U87 V (fun w h=>by rw[cell_of_row w bp _ _ _ _ (HpG.x h).1];rfl)) ?_;refine ZG rfl rfl rfl (zJ (j:=0) (es:=4) rfl rfl U87 (by kernel_rfl) rfl (by first|decide|omega|(simp;done)|(simp;omega)) rfl) ?_;refine ZG V V V (Y92x0 V) ?_;refine ZG V V V (yO (v:=.int .i64 (E.tk s.at_).kind) V U3 V (fun w h=>tkAt (HpG.x h).2 hs 0 V (by omega))) ?_;refine ZG V V V (yS V V)<|ZF V (zP V V)<|Zm V V<|zH 17 V (fun h13=>?_) (fun h13=>?_)
  ·replace h13:=Jw h13;refine ZG V V V (zO V)<|ZG V V V (yR V)<|ZG V V V (Y90x0 V) ?_;refine ZG V V V (yO (v:=psV E s) V U87 V (fun w h=>by rw[cell_of_row w bp _ _ _ _ (HpG.x h).1];rfl)) ?_;refine ZG rfl rfl rfl (zJ (j:=0) (es:=4) rfl rfl U87 (by kernel_rfl) rfl (by first|decide|omega|(simp;done)|(simp;omega)) rfl) ?_;refine ZG V V V (Y92x2 V) ?_;refine ZG V V V (yO (v:=.string ⟨(E.tk s.at_).text.toArray⟩) V U9 V (fun w h=>tkAt (HpG.x h).2 hs 2 V (by omega))) ?_;refine ZG V V V (zO V)<|ZG V V V (xU V V U9)<|ZF V (zP V V)<|Za V V<|ZT<|zK<|zI V V (fun w hw=>?_);exact⟨by congr 2;rw[isP_eq,Jl];simp_all;try omega,(Jq hw).ext⟩
  ·replace h13:=yP h13;refine ZP V<|ZP V<|ZP V<|ZP V<|ZP V<|ZP V<|ZP V<|ZP V<|ZP V<|ZF V (zL V V)<|Za V V<|ZT<|zK<|zI V V (fun w hw=>?_);exact⟨by congr 2;rw[isP_eq,Jl];simp_all;try omega,(Jq hw).ext⟩
 ·refine ZP V<|ZP V<|ZP V<|ZP V<|ZP V<|ZP V<|ZP V<|ZP V<|ZF V (zL V V)<|Zm V V<|ZP V<|ZP V<|ZP V<|ZP V<|ZP V<|ZP V<|ZP V<|ZP V<|ZP V<|ZF V (zL V V)<|Za V V<|ZT<|zK<|zI V V (fun w hw=>?_);exact⟨by congr 2;rw[isP_eq,Jl];simp_all;try omega,(Jq hw).ext⟩
theorem take_any (E:PE) (hE:E.Ok) (x:Bs) (s:PS) (hs:s.at_≤E.m) (bp:Nat) (w_0:World) (hb:w_0.heap[bp]? = some (pO E s)) (hX:TkX E w_0):Calls Tryz.prog 126 #[.pointer (some ⟨bp,0,none⟩),.string ⟨x.toArray⟩] w_0 fun e w'=>e=.returned (.bool (isP E.tk x s))∧Keep (fun j=>j=bp) w_0 w'∧w'.heap[bp]? = some (pO E (bif isP E.tk x s then adv s else s)):=by
 refine yV (args:=[.pointer (some ⟨bp,0,none⟩),.string ⟨x.toArray⟩]) Tryz.func126 V 17 V (Jn V)<|Z2 0 1 V V<|zD (H':=Hp (fun k=>k=bp) w_0 [(bp,pO E s)] [] (TkX E)) (fun u hu=>?_) ?_
 ·subst hu;exact Hp.startP hb hX
 refine zY<|zX<|Za V V<|ZX<|zY<|zX<|Zm V V<|Zm V V<|yT .none V  (v:=.bool (isP E.tk x s)) (by kernel_rfl) V (fun w hw=>is_any E x s hs bp w (hw.own _ (Jy ..)) (HpG.x hw)) ?_;refine ZF V (xJ V)<|ZT<|zT V (fun h8=>?_) (fun h8=>?_)
 ·have h8:isP E.tk x s=false:=by simpa using h8
  refine zY<|Z4r 0 1 4 8 V V V V<|Za V V<|ZT<|zK<|zV<|zI V V (fun w hw=>?_);exact⟨by rw[h8],Jq hw,by rw[h8];exact HpG.own hw _ (Jy ..)⟩
 ·have h8:isP E.tk x s=true:=by simpa using h8
  have ha:=yE hE.kind hs h8;refine zG<|zQ<|zY<|Z4r 0 1 4 8 V V V V<|Zm V V<|Zm V V<|Zn V V<|ZF V (Y90x0 V) ?_;refine ZF V (zW 0 V V V U87 V)<|ZF V (yf_adv hE ha V V Tryz.underlying87 (by kernel_rfl)) ?_;refine Zn V V<|ZF V (Y90x0 V) ?_;refine ZS 0 V V V V V (by kernel_rfl) ?_;refine ZX<|Z4r 0 1 4 8 V V V V<|Za V V<|ZT<|zK<|zI V V (fun w hw=>?_);exact⟨by rw[h8],Jq hw,by rw[h8];exact HpG.own hw _ (Jy ..)⟩
end Go.Proofs.YtfpkpnkdnammnaaGreatDoor
namespace Go.Proofs.YtfpkpnkdnammnaaGreatDoor
open Go.RowKit
theorem failP_no {tk:Nat→Tok}{s:PS}(h:s.err≠0):tE tk s=s:=by unfold tE;rw[Ko h]
theorem failP_yes {tk:Nat→Tok}{s:PS}(h:s.err=0):tE tk s=⟨s.at_,if (tk s.at_).kind=1∧4294967296≤(tk s.at_).value then 24 else 20,(tk s.at_).at_⟩:=by unfold tE;rw[Kp h]
theorem fail_any (E:PE) (s:PS) (hs:s.at_≤E.m) (bp:Nat) (w_0:World) (hb:w_0.heap[bp]? = some (pO E s)) (hX:TkX E w_0):Calls Tryz.prog 127 #[.pointer (some ⟨bp,0,none⟩)] w_0 fun e w'=>e=.returned (.tuple #[])∧Keep (fun j=>j=bp) w_0 w'∧w'.heap[bp]? = some (pO E (tE E.tk s)):=by
 refine yV (args:=[.pointer (some ⟨bp,0,none⟩)]) Tryz.func127 V 41 V (Jn V)<|Z1 0 V<|zD (H':=Hp (fun k=>k=bp) w_0 [(bp,pO E s)] [] (TkX E)) (fun u hu=>?_) ?_
 ·subst hu;exact Hp.startP hb hX
 refine zY<|zY<|zX<|Zm V V<|Zn V V<|ZF V (Y90x1 V) ?_;refine ZF V (zW 0 V V V U41 V)<|ZF V (sW V V)<|ZT<|zT V (fun h6=>?_) (fun h6=>?_)
 ·replace h6:=tQ h6;refine zK<|zV<|wq_ret0 V (fun w hw=>?_);exact⟨rfl,Jq hw,by rw[failP_no (by omega)];exact HpG.own hw _ (Jy ..)⟩
 ·replace h6:=rO h6;refine zG<|zQ<|zY<|Z2r 0 6 V V<|Zm V V<|Zm V V<|Zm V V<|Zn V V<|ZF V (Y90x0 V) ?_;refine ZF rfl (zW 0 rfl rfl rfl U87 rfl)<|ZF rfl (zJ (j:=0) (es:=4) rfl rfl U87 (by kernel_rfl) rfl (by first|decide|omega|(simp;done)|(simp;omega)) rfl) ?_;refine ZF V (zZ (off:=1) (sz:=0) V U92 (by kernel_rfl) V) ?_;refine ZF V (yO (v:=.int .i64 (E.tk s.at_).at_) V U3 V (fun w h=>tkAt (HpG.x h) hs 1 V (by omega))) ?_;refine Zn V V<|ZF V (Y90x1 V) ?_;refine ZS 0 V V V V V (by kernel_rfl) ?_;refine Zn V V<|ZF V (zZ (off:=2) (sz:=0) V Tryz.underlying90 (by kernel_rfl) V) ?_;refine ZS 0 V V V V V (by kernel_rfl) ?_;refine ZX<|Z2r 0 6 V V<|Zm V V<|Zn V V<|ZF V (Y90x0 V) ?_;refine ZF rfl (zW 0 rfl rfl rfl U87 rfl)<|ZF rfl (zJ (j:=0) (es:=4) rfl rfl U87 (by kernel_rfl) rfl (by first|decide|omega|(simp;done)|(simp;omega)) rfl) ?_;refine ZF V (Y92x0 V) ?_;refine ZF V (yO (v:=.int .i64 (E.tk s.at_).kind) V U3 V (fun w h=>tkAt (HpG.x h) hs 0 V (by omega))) ?_;refine ZF V (yS V V)<|Zm V V<|zH 28 V (fun h29=>?_) (fun h29=>?_)
  ·replace h29:=Jw h29;refine ZG V V V (zO V)<|ZG V V V (yR V)<|ZG V V V (Y90x0 V) ?_;refine ZG rfl rfl rfl (zW 0 rfl rfl rfl U87 rfl)<|ZG rfl rfl rfl (zJ (j:=0) (es:=4) rfl rfl U87 (by kernel_rfl) rfl (by first|decide|omega|(simp;done)|(simp;omega)) rfl) ?_;refine ZG V V V (Y92x3 V) ?_;refine ZG V V V (yO (v:=.int .u64 (E.tk s.at_).value) V U53 V (fun w h=>tkAt (HpG.x h) hs 3 V (by omega))) ?_;refine ZG V V V (tO V V)<|ZF V (zP V V)<|ZT<|zT V (fun h37=>?_) (fun h37=>?_)
   ·replace h37:=Jo h37;refine Z3r 0 6 37 V V V<|Zm V V<|Zn V V<|ZF V (Y90x1 V) ?_;refine ZS 0 V V V V V (by kernel_rfl) ?_;refine zU<|xI V (fun w hw=>?_);exact⟨rfl,Jq hw,by rw[failP_yes (by omega)];first|(rw[Kp ⟨by omega,by omega⟩];exact HpG.own hw _ (Jy ..))|(rw[Ko (by omega)];exact HpG.own hw _ (Jy ..))⟩
   ·replace h37:=Jp h37;refine zG<|xI V (fun w hw=>?_);exact⟨rfl,Jq hw,by rw[failP_yes (by omega)];first|(rw[Kp ⟨by omega,by omega⟩];exact HpG.own hw _ (Jy ..))|(rw[Ko (by omega)];exact HpG.own hw _ (Jy ..))⟩
  ·replace h29:=yP h29;refine ZP V<|ZP V<|ZP V<|ZP V<|ZP V<|ZP V<|ZP V<|ZP V<|ZF V (zL V V)<|ZT<|vU V<|zG<|xI V (fun w hw=>?_);exact⟨rfl,Jq hw,by rw[failP_yes (by omega)];first|(rw[Kp ⟨by omega,by omega⟩];exact HpG.own hw _ (Jy ..))|(rw[Ko (by omega)];exact HpG.own hw _ (Jy ..))⟩
section
variable {ops:Array Oper}{Q:Exit→Act→World→Prop}{n:Nat}{m:List (Nat×Value)}{ty:TypeId}{G B:Nat→Prop}{w0:World}{L:List (Nat×Obj)}{R:List Rw}{X:World→Prop}{rest:List Oper}{d:Nat}{pos:String}{af:Array Edge}{gd:Option (Nat×Bool)}{args:List Operand}{ats:Array TypeId}
theorem wl_fail (E:PE) (s:PS) (hs:s.at_≤E.m) (bp:Nat) (hX:∀w,X w→TkX E w) (k:Nat) (hg:Gd ops m gd) (hd:Nat.blt d n=true) (ha:evl m args=some [.pointer (some ⟨bp,0,none⟩)]) (hk:L[k]? = some (bp,pO E s)) (h:WL Tryz.prog ops Q rest n ((d,.tuple #[])::m) (HpG G B w0 (L.set k (bp,pO E (tE E.tk s))) R X)) :
  WL Tryz.prog ops Q (⟨some d,.call { callee:=.value (.func 127),args:=args.toArray,argTypes:=ats },ty,pos,af,gd⟩::rest) n m (HpG G B w0 L R X) :=
 vV (ι:=Unit) (C:=fun _=>True) (val:=fun _=>.tuple #[]) (ob':=fun _=>pO E (tE E.tk s)) hg hd k (by kernel_rfl) ha hk (fun w h1 hw=>(fail_any E s hs bp w h1 (hX w hw.x)).mono fun e w' ⟨e1,e2,e3⟩=>⟨(),trivial,e1,e2,e3⟩) fun _ _=>h
theorem vX (E:PE) (hE:E.Ok) (s:PS) (hs:s.at_≤E.m) (x:Bs) (bp:Nat) (hX:∀w,X w→TkX E w) (k:Nat) (hg:Gd ops m gd) (hd:Nat.blt d n=true) (ha:evl m args=some [.pointer (some ⟨bp,0,none⟩),.string ⟨x.toArray⟩]) (hk:L[k]? = some (bp,pO E s)) (h:WL Tryz.prog ops Q rest n ((d,.bool (isP E.tk x s))::m) (HpG G B w0 (L.set k (bp,pO E (bif isP E.tk x s then adv s else s))) R X)) :
  WL Tryz.prog ops Q (⟨some d,.call { callee:=.value (.func 126),args:=args.toArray,argTypes:=ats },ty,pos,af,gd⟩::rest) n m (HpG G B w0 L R X) :=
 vV (ι:=Unit) (C:=fun _=>True) (val:=fun _=>.bool (isP E.tk x s)) (ob':=fun _=>pO E (bif isP E.tk x s then adv s else s)) hg hd k (by kernel_rfl) ha hk (fun w h1 hw=>(take_any E hE x s hs bp w h1 (hX w hw.x)).mono fun e w' ⟨e1,e2,e3⟩=>⟨(),trivial,e1,e2,e3⟩) fun _ _=>h
end
theorem need_any (E:PE) (hE:E.Ok) (x:Bs) (s:PS) (hs:s.at_≤E.m) (bp:Nat) (w_0:World) (hb:w_0.heap[bp]? = some (pO E s)) (hX:TkX E w_0):Calls Tryz.prog 84 #[.pointer (some ⟨bp,0,none⟩),.string ⟨x.toArray⟩] w_0 fun e w'=>e=.returned (.tuple #[])∧Keep (fun j=>j=bp) w_0 w'∧w'.heap[bp]? = some (pO E (yA E.tk x s)):=by
 refine yV (args:=[.pointer (some ⟨bp,0,none⟩),.string ⟨x.toArray⟩]) Tryz.func84 V 10 V (Jn V)<|Z2 0 1 V V<|zD (H':=Hp (fun k=>k=bp) w_0 [(bp,pO E s)] [] (TkX E)) (fun u hu=>?_) ?_
 ·subst hu;exact Hp.startP hb hX
 refine zY<|zX<|Zm V V<|Zm V V<|vX E hE s hs x bp (fun _ h=>h) 0 .none V  V V ?_;refine ZF V (xJ V)<|ZT<|zT V (fun h7=>?_) (fun h7=>?_)
 ·have h7:isP E.tk x s=false:=by simpa using h7
  rw[h7];refine Z3r 0 1 7 V V V<|Zm V V<|wl_fail E s hs bp (fun _ h=>h) 0 .none V  V V ?_;refine zU<|xI V (fun w hw=>?_);exact⟨rfl,Jq hw,by rw[yA,h7];exact HpG.own hw _ (Jy ..)⟩
 ·have h7:isP E.tk x s=true:=by simpa using h7
  rw[h7];refine zG<|xI V (fun w hw=>?_);exact⟨rfl,Jq hw,by rw[yA,h7];exact HpG.own hw _ (Jy ..)⟩
theorem nameP_no {tk:Nat→Tok}{s:PS}(h:¬(s.err=0∧(tk s.at_).kind=2)):xM tk s=([],tE tk s):=by unfold xM;rw[Ko h]
theorem nameP_yes {tk:Nat→Tok}{s:PS}(h:s.err=0∧(tk s.at_).kind=2):xM tk s=((tk s.at_).text,adv s):=by unfold xM;rw[Kp h]
theorem name_any (E:PE) (hE:E.Ok) (s:PS) (hs:s.at_≤E.m) (bp:Nat) (w_0:World) (hb:w_0.heap[bp]? = some (pO E s)) (hX:TkX E w_0):Calls Tryz.prog 85 #[.pointer (some ⟨bp,0,none⟩)] w_0 fun e w'=>e=.returned (.string ⟨(xM E.tk s).1.toArray⟩)∧Keep (fun j=>j=bp) w_0 w'∧w'.heap[bp]? = some (pO E (xM E.tk s).2):=by
 refine yV (args:=[.pointer (some ⟨bp,0,none⟩)]) Tryz.func85 V 35 V (Jn V)<|Z1 0 V<|zD (H':=Hp (fun k=>k=bp) w_0 [(bp,pO E s)] [] (TkX E)) (fun u hu=>?_) ?_
 ·subst hu;exact Hp.startP hb hX
 refine zY<|zX<|Za V V<|ZX<|zY<|zX<|Zm V V<|wl_ok E s bp 0 .none V  V V<|ZF V (xJ V)<|Zm V V<|zH 7 V (fun h4=>?_) (fun h4=>?_)
 ·refine ZP V<|ZP V<|ZP V<|ZP V<|ZP V<|ZP V<|ZP V<|ZP V<|ZF V (zP V V)<|ZT<|uT V<|zY<|Z3r 0 2 16 V V V<|Zm V V<|wl_fail E s hs bp (fun _ h=>h) 0 .none V  V V ?_;refine ZX<|Z3r 0 2 16 V V V<|Za V V<|ZT<|zK<|zV<|zI V V (fun w hw=>?_);exact⟨by rw[nameP_no (fun h=>by simp_all)],Jq hw,by rw[nameP_no (fun h=>by simp_all)];exact HpG.own hw _ (Jy ..)⟩
 ·refine ZG V V V (zO V)<|ZG V V V (yR V)<|ZG V V V (Y90x0 V) ?_;refine ZG rfl rfl rfl (zW 0 rfl rfl rfl U87 rfl)<|ZG rfl rfl rfl (zJ (j:=0) (es:=4) rfl rfl U87 (by kernel_rfl) rfl (by first|decide|omega|(simp;done)|(simp;omega)) rfl) ?_;refine ZG V V V (Y92x0 V) ?_;refine ZG V V V (yO (v:=.int .i64 (E.tk s.at_).kind) V U3 V (fun w h=>tkAt (HpG.x h) hs 0 V (by omega))) ?_;refine ZG V V V (sW V V)<|ZF V (zL V V)<|ZT<|zT V (fun h16=>?_) (fun h16=>?_)
  ·replace h16:=tQ h16;refine zY<|Z3r 0 2 16 V V V<|Zm V V<|wl_fail E s hs bp (fun _ h=>h) 0 .none V  V V ?_;refine ZX<|Z3r 0 2 16 V V V<|Za V V<|ZT<|zK<|zV<|zI V V (fun w hw=>?_);exact⟨by rw[nameP_no (fun h=>by simp_all)],Jq hw,by rw[nameP_no (fun h=>by simp_all)];exact HpG.own hw _ (Jy ..)⟩
  ·replace h16:=rO h16;have h16:(E.tk s.at_).kind=2:=by omega
   have h4:s.err=0:=by simpa using h4
   have ha:=sC hE.kind hs (by omega) (by omega);refine zG<|zQ<|zY<|Z3r 0 2 16 V V V<|Zm V V<|Zn V V<|ZF V (Y90x0 V) ?_;refine ZF rfl (zW 0 rfl rfl rfl U87 rfl)<|ZF rfl (zJ (j:=0) (es:=4) rfl rfl U87 (by kernel_rfl) rfl (by first|decide|omega|(simp;done)|(simp;omega)) rfl) ?_;refine ZF V (Y92x2 V) ?_;refine ZF V (yO (v:=.string ⟨(E.tk s.at_).text.toArray⟩) V U9 V (fun w h=>tkAt (HpG.x h) hs 2 V (by omega))) ?_;refine Za V V<|ZX<|Z4r 0 2 3 16 V V V V<|Zm V V<|Zm V V<|Zn V V<|ZF V (Y90x0 V) ?_;refine ZF V (zW 0 V V V U87 V)<|ZF V (yf_adv hE ha V V Tryz.underlying87 (by kernel_rfl)) ?_;refine Zn V V<|ZF V (Y90x0 V) ?_;refine ZS 0 V V V V V (by kernel_rfl) ?_;refine ZX<|Z4r 0 2 3 16 V V V V<|Zm V V<|Za V V<|ZT<|zK<|zI V V (fun w hw=>?_);exact⟨by rw[nameP_yes ⟨h4,h16⟩],Jq hw,by rw[nameP_yes ⟨h4,h16⟩];exact HpG.own hw _ (Jy ..)⟩
section
variable {ops:Array Oper}{Q:Exit→Act→World→Prop}{n:Nat}{m:List (Nat×Value)}{ty:TypeId}{G B:Nat→Prop}{w0:World}{L:List (Nat×Obj)}{R:List Rw}{X:World→Prop}{rest:List Oper}{d:Nat}{pos:String}{af:Array Edge}{gd:Option (Nat×Bool)}{args:List Operand}{ats:Array TypeId}
theorem vP (E:PE) (hE:E.Ok) (s:PS) (hs:s.at_≤E.m) (x:Bs) (bp:Nat) (hX:∀w,X w→TkX E w) (k:Nat) (hg:Gd ops m gd) (hd:Nat.blt d n=true) (ha:evl m args=some [.pointer (some ⟨bp,0,none⟩),.string ⟨x.toArray⟩]) (hk:L[k]? = some (bp,pO E s)) (h:WL Tryz.prog ops Q rest n ((d,.tuple #[])::m) (HpG G B w0 (L.set k (bp,pO E (yA E.tk x s))) R X)) :
  WL Tryz.prog ops Q (⟨some d,.call { callee:=.value (.func 84),args:=args.toArray,argTypes:=ats },ty,pos,af,gd⟩::rest) n m (HpG G B w0 L R X) :=
 vV (ι:=Unit) (C:=fun _=>True) (val:=fun _=>.tuple #[]) (ob':=fun _=>pO E (yA E.tk x s)) hg hd k (by kernel_rfl) ha hk (fun w h1 hw=>(need_any E hE x s hs bp w h1 (hX w hw.x)).mono fun e w' ⟨e1,e2,e3⟩=>⟨(),trivial,e1,e2,e3⟩) fun _ _=>h
theorem wl_name (E:PE) (hE:E.Ok) (s:PS) (hs:s.at_≤E.m) (bp:Nat) (hX:∀w,X w→TkX E w) (k:Nat) (hg:Gd ops m gd) (hd:Nat.blt d n=true) (ha:evl m args=some [.pointer (some ⟨bp,0,none⟩)]) (hk:L[k]? = some (bp,pO E s)) (h:WL Tryz.prog ops Q rest n ((d,.string ⟨(xM E.tk s).1.toArray⟩)::m) (HpG G B w0 (L.set k (bp,pO E (xM E.tk s).2)) R X)) :
  WL Tryz.prog ops Q (⟨some d,.call { callee:=.value (.func 85),args:=args.toArray,argTypes:=ats },ty,pos,af,gd⟩::rest) n m (HpG G B w0 L R X) :=
 vV (ι:=Unit) (C:=fun _=>True) (val:=fun _=>.string ⟨(xM E.tk s).1.toArray⟩) (ob':=fun _=>pO E (xM E.tk s).2) hg hd k (by kernel_rfl) ha hk (fun w h1 hw=>(name_any E hE s hs bp w h1 (hX w hw.x)).mono fun e w' ⟨e1,e2,e3⟩=>⟨(),trivial,e1,e2,e3⟩) fun _ _=>h
end
end Go.Proofs.YtfpkpnkdnammnaaGreatDoor
namespace Go.Proofs.YtfpkpnkdnammnaaGreatDoor
open Go.RowKit
theorem MapF.lies {g:Nat}{tab:List (Bs×Nat)}:Lies fun F=>MapF F g tab:=by
 refine⟨fun {F w w'} hk ⟨h0,hl,h⟩=>⟨h0,?_,(hk _ h0).trans h⟩,fun {F w} ⟨h0,hl,h⟩=>⟨⟨h0,hl⟩,hl,h⟩,fun {F F' w} hF ⟨h0,hl,h⟩=>⟨hF _ h0,hl,h⟩⟩;have:=(hk _ h0).trans h;exact (Jv.1 this).1
theorem levels_any (w_0:World):Calls Tryz.prog 155 #[] w_0 fun e w'=>∃g,e=.returned (.map (some g))∧Ext w_0 w'∧MapF (fun k=>w_0.heap.size≤k) g levT w':=by
 refine yV (args:=[]) Tryz.func155 V 3 V (Jn V)<|wY (.nil)<|zD (H':=Hp (fun _=>False) w_0 [] [] (fun _=>True)) (fun u hu=>?_) ?_
 ·subst hu;exact Hp.start0
 refine zY<|zX<|Za V V<|ZX<|zX<|zC .none V (nf_makeMapS) (fun b1=>?_);refine xG .none (wC (v:=0) 0 V V V V U185 U9 (by decide)) (fun _=>?_);refine xG .none (wC (v:=1) 0 V V V V U185 U9 (by decide)) (fun _=>?_);refine xG .none (wC (v:=2) 0 V V V V U185 U9 (by decide)) (fun _=>?_);refine xG .none (wC (v:=3) 0 V V V V U185 U9 (by decide)) (fun _=>?_);refine xG .none (wC (v:=3) 0 V V V V U185 U9 (by decide)) (fun _=>?_);refine xG .none (wC (v:=4) 0 V V V V U185 U9 (by decide)) (fun _=>?_);refine xG .none (wC (v:=4) 0 V V V V U185 U9 (by decide)) (fun _=>?_);refine xG .none (wC (v:=4) 0 V V V V U185 U9 (by decide)) (fun _=>?_);refine xG .none (wC (v:=4) 0 V V V V U185 U9 (by decide)) (fun _=>?_);refine xG .none (wC (v:=5) 0 V V V V U185 U9 (by decide)) (fun _=>?_);refine xG .none (wC (v:=5) 0 V V V V U185 U9 (by decide)) (fun _=>?_);refine xG .none (wC (v:=6) 0 V V V V U185 U9 (by decide)) (fun _=>?_);refine xG .none (wC (v:=6) 0 V V V V U185 U9 (by decide)) (fun _=>?_);refine xG .none (wC (v:=7) 0 V V V V U185 U9 (by decide)) (fun _=>?_);refine xG .none (wC (v:=7) 0 V V V V U185 U9 (by decide)) (fun _=>?_);refine xG .none (wC (v:=7) 0 V V V V U185 U9 (by decide)) (fun _=>?_);refine Zm V V<|Za V V<|ZT<|zK<|zI V V (fun w hw=>?_);simp only[List.set_cons_zero,List.nil_append,List.cons_append] at hw;exact⟨_,rfl,(Jq hw).ext,HpG.mineL hw (j:=0) V id,HpG.lt hw _ (Jy ..),HpG.own hw _ (Jy ..)⟩
section
variable {ops:Array Oper}{Q:Exit→Act→World→Prop}{n:Nat}{m:List (Nat×Value)}{ty:TypeId}{G B:Nat→Prop}{w0:World}{L:List (Nat×Obj)}{R:List Rw}{X:World→Prop}{rest:List Oper}{d:Nat}{pos:String}{af:Array Edge}{gd:Option (Nat×Bool)}{args:List Operand}{ats:Array TypeId}
theorem wl_levels (hB:∀k,B k→k<w0.heap.size) (hg:Gd ops m gd) (hd:Nat.blt d n=true) (h:∀g F,(∀k,F k→w0.heap.size≤k)→WL Tryz.prog ops Q rest n ((d,.map (some g))::m) (Hp B w0 L R (fun u=>MapF F g levT u∧X u))) :
  WL Tryz.prog ops Q (⟨some d,.call { callee:=.value (.func 155),args:=#[],argTypes:=#[] },ty,pos,af,gd⟩::rest) n m (Hp B w0 L R X) :=
 sU (ι:=Nat) (C:=fun _=>True) (val:=fun g=>.map (some g)) (TT:=fun g F u=>MapF F g levT u) (args:=[]) (vs:=[]) hg hd (by kernel_rfl) rfl hB (fun _=>MapF.lies) (fun w _=>(levels_any w).mono fun e w' ⟨g,e1,e2,e3⟩=>⟨g,trivial,e1,e2,e3⟩) fun g F _ hF=>h g F hF
end
end Go.Proofs.YtfpkpnkdnammnaaGreatDoor
namespace Go.Proofs.YtfpkpnkdnammnaaGreatDoor
open Go.RowKit
def pJ (E:PE) (bp:Nat) (w:World) (x:Ex) (s':PS) (e:Ending) (w':World):Prop:=∃A cap,e=.returned (.agg (xL x A cap).toArray)∧(x.kind=4→cap=x.kids.length)∧Keep (fun j=>j=bp) w w'∧w'.heap[bp]? = some (pO E s')∧xT (fun k=>w.heap.size≤k) w' x A cap
structure EOk (E:PE) (f:Nat):Prop where
 prim:∀s x s',(exF E.tk f).prim s=some (x,s')→s.at_≤E.m→∀bp w,w.heap[bp]? = some (pO E s)→TkX E w→Calls Tryz.prog 185 #[.pointer (some ⟨bp,0,none⟩)] w (pJ E bp w x s')
 un:∀s x s',(exF E.tk f).un s=some (x,s')→s.at_≤E.m→∀bp w,w.heap[bp]? = some (pO E s)→TkX E w→Calls Tryz.prog 177 #[.pointer (some ⟨bp,0,none⟩)] w (pJ E bp w x s')
 bin:∀n s x s',n≤8→(exF E.tk f).bin n s=some (x,s')→s.at_≤E.m→∀bp w,w.heap[bp]? = some (pO E s)→TkX E w→Calls Tryz.prog 167 #[.pointer (some ⟨bp,0,none⟩),.int .i64 n] w (pJ E bp w x s')
section
variable {ops:Array Oper}{Q:Exit→Act→World→Prop}{n:Nat}{m:List (Nat×Value)}{ty:TypeId}{G B:Nat→Prop}{w0:World}{L:List (Nat×Obj)}{R:List Rw}{X:World→Prop}{rest:List Oper}{d:Nat}{pos:String}{af:Array Edge}{gd:Option (Nat×Bool)}{f:FuncId}{args:List Operand}{ats:Array TypeId}{vs:List Value}
theorem wl_ex (E:PE) (s:PS) (x:Ex) (s':PS) (bp:Nat) (k:Nat) (hB:∀k,B k→k<w0.heap.size) (hX:∀w,X w→TkX E w) (hC:∀w,w.heap[bp]? = some (pO E s)→TkX E w→Calls Tryz.prog f vs.toArray w (pJ E bp w x s')) (hg:Gd ops m gd) (hd:Nat.blt d n=true) (hf:goes Tryz.prog f=true) (ha:evl m args=some vs) (hk:L[k]? = some (bp,pO E s))
  (h:∀A cap F,(∀k,F k→w0.heap.size≤k)→(x.kind=4→cap=x.kids.length)→WL Tryz.prog ops Q rest n ((d,.agg (xL x A cap).toArray)::m) (Hp B w0 (L.set k (bp,pO E s')) R (fun u=>xT F u x A cap∧X u))) :
  WL Tryz.prog ops Q (⟨some d,.call { callee:=.value (.func f),args:=args.toArray,argTypes:=ats },ty,pos,af,gd⟩::rest) n m (Hp B w0 L R X) :=
 pH (ι:=Option Addr×Nat) (C:=fun i=>x.kind=4→i.2=x.kids.length) (val:=fun i=>.agg (xL x i.1 i.2).toArray) (obi:=fun _=>pO E s') (TT:=fun i F u=>xT F u x i.1 i.2) hg hd k hf ha hk hB (fun _=>xT.lies)
  (fun w h1 hw=>(hC w h1 (hX w (HpG.x hw))).mono fun e w' ⟨A,cap,e1,e0,e2,e3,e4⟩=>⟨(A,cap),e0,e1,e2,e3,e4⟩) fun i F hc hF=>h i.1 i.2 F hF hc
theorem wd_ex {J:World→Prop}{σ:List Nat}(E:PE) (s:PS) (x:Ex) (s':PS) (bp:Nat) (k:Nat) (hB:∀k,B k→k<w0.heap.size) (hX:∀w,X w→TkX E w) (hJ:∀w w',HpG G B w0 L R X w→J w→Keep (fun j=>j=bp) w w'→J w') (hC:∀w,w.heap[bp]? = some (pO E s)→TkX E w→Calls Tryz.prog f vs.toArray w (pJ E bp w x s')) (hg:Gd ops m gd) (hd:Nat.blt d n=true) (hf:goes Tryz.prog f=true) (ha:evl m args=some vs) (hk:L[k]? = some (bp,pO E s))
  (h:∀A cap F,(∀k,F k→w0.heap.size≤k)→(x.kind=4→cap=x.kids.length)→WD Tryz.prog ops J Q σ (fun j=>F j∨G j) n ((d,.agg (xL x A cap).toArray)::m) (HpG (fun j=>F j∨G j) B w0 (L.set k (bp,pO E s')) R (fun u=>xT F u x A cap∧X u))) :
  WDo Tryz.prog ops J Q ⟨some d,.call { callee:=.value (.func f),args:=args.toArray,argTypes:=ats },ty,pos,af,gd⟩ σ G n m (HpG G B w0 L R X) :=
 wd_callT (ι:=Option Addr×Nat) (C:=fun i=>x.kind=4→i.2=x.kids.length) (val:=fun i=>.agg (xL x i.1 i.2).toArray) (obi:=fun _=>pO E s') (TT:=fun i F u=>xT F u x i.1 i.2) hg hd k hf ha hk hB (fun _=>xT.lies) hJ
  (fun w h1 hw=>(hC w h1 (hX w hw.x)).mono fun e w' ⟨A,cap,e1,e0,e2,e3,e4⟩=>⟨(A,cap),e0,e1,e2,e3,e4⟩) fun i F hc hF=>h i.1 i.2 F hF hc
end
theorem uX {E:PE}{s:PS}{bp:Nat}{w:World}(hb:w.heap[bp]? = some (pO E s)):∀k,k=bp→k<w.heap.size:=fun k hk=>by subst hk;exact (Jv.1 hb).1
theorem rQ {E:PE}{f:Nat}(IH:EOk E f) (s:PS) (x:Ex) (s':PS) (hr:(exF E.tk f).bin 0 s=some (x,s')) (hs:s.at_≤E.m) (bp:Nat) (w_0:World) (hb:w_0.heap[bp]? = some (pO E s)) (hX:TkX E w_0):Calls Tryz.prog 153 #[.pointer (some ⟨bp,0,none⟩)] w_0 (pJ E bp w_0 x s'):=by
 refine yV (args:=[.pointer (some ⟨bp,0,none⟩)]) Tryz.func153 V 5 V (Jn V)<|Z1 0 V<|zD (H':=Hp (fun k=>k=bp) w_0 [(bp,pO E s)] [] (TkX E)) (fun u hu=>?_) ?_
 ·subst hu;exact Hp.startP hb hX
 refine zY<|zX<|zC .none V (yK (z:=.agg #[.int .i64 0,.int .u32 0,.string ⟨#[]⟩,.slice none 0 0]) (cs:=Je) (by kernel_rfl) V) (fun b2=>?_);refine ZX<|zX<|Zm V V<|wl_ex E s x s' bp 1 (uX hb) (fun _ h=>h) (fun w h1 h2=>IH.bin 0 s x s' (by omega) hr hs bp w h1 h2) .none V  (by kernel_rfl) V V (fun A cap F hF hc=>?_);refine ZR 0 V V V V V (by kernel_rfl) ?_;refine ZT<|zK<|yF V V 0 V U57 V (by kernel_rfl) (fun w hw=>?_);exact⟨A,cap,rfl,hc,Jq hw,HpG.blkL (j:=1) hw rfl,xT.lies.mono hF (HpG.x hw).1⟩
def uL:List Bs:=[[45],[126],[33]]
theorem unS_hit {tk:Nat→Tok}{r:EF}{s:PS}{p:Ex×PS}{k:Nat}{o:Bs}(hk:uL[k]? = some o) (hp:∀j q,j<k→uL[j]? = some q→isP tk q s=false) (h:isP tk o s=true) (hr:unS tk r s=some p):∃e s1,r.un (adv s)=some (e,s1)∧p=(.mk 6 0 o [e],s1):=by
 unfold unS at hr
 have key:∀y,andThen (r.un (adv s)) (fun e s=>some (Ex.mk 6 0 y [e],s))=some p→∃e s1,r.un (adv s)=some (e,s1)∧p=(.mk 6 0 y [e],s1):=fun y hy=>by
  obtain⟨e,s1,h1,h2⟩:=yL hy;cases h2;exact⟨e,s1,h1,rfl⟩
 match k,hk with
 | 0,hk=>cases hk;rw[h] at hr;exact key _ hr
 | 1,hk=>cases hk;rw[hp 0 _ (by omega) rfl,h] at hr;exact key _ hr
 | 2,hk=>cases hk;rw[hp 0 _ (by omega) rfl,hp 1 _ (by omega) rfl,h] at hr;exact key _ hr
 | k+3,hk=>simp[uL] at hk
theorem unS_miss {tk:Nat→Tok}{r:EF}{s:PS}{p:Ex×PS}(hp:∀j q,j<3→uL[j]? = some q→isP tk q s=false) (hr:unS tk r s=some p):r.prim s=some p:=by
 unfold unS at hr;rw[hp 0 _ (by omega) rfl,hp 1 _ (by omega) rfl,hp 2 _ (by omega) rfl] at hr;exact hr
structure UnI (tk:Nat→Tok) (s:PS) (k:Nat):Prop where
 le:k≤3
 no:∀j q,j<k→uL[j]? = some q→isP tk q s=false
theorem unary_any {E:PE}(hE:E.Ok) {f:Nat}(IH:EOk E f) (s:PS) (x:Ex) (s':PS) (hr:unS E.tk (exF E.tk f) s=some (x,s')) (hs:s.at_≤E.m) (bp:Nat) (w_0:World) (hb:w_0.heap[bp]? = some (pO E s)) (hX:TkX E w_0):Calls Tryz.prog 177 #[.pointer (some ⟨bp,0,none⟩)] w_0 (pJ E bp w_0 x s'):=by
 refine yV (args:=[.pointer (some ⟨bp,0,none⟩)]) Tryz.func177 V 22 V (Jn V)<|Z1 0 V<|zD (H':=Hp (fun k=>k=bp) w_0 [(bp,pO E s)] [] (TkX E)) (fun u hu=>?_) ?_
 ·subst hu;exact Hp.startP hb hX
 refine zY<|zX<|zC .none V (yK (z:=.agg #[.int .i64 0,.int .u32 0,.string ⟨#[]⟩,.slice none 0 0]) (cs:=Je) (by kernel_rfl) V) (fun b2=>?_);refine ZX<|zY<|zX<|zC .none V (wM (z:=Ja) V V V V U22 (by kernel_rfl) (by kernel_rfl) V V) (fun b5=>?_);refine ZF V (yM V U22)<|Zm V V<|ZT<|yY<|xV (ι:={k:Nat // UnI E.tk s k}) (fun k=>[(0,.pointer (some ⟨bp,0,none⟩)),(2,.pointer (some ⟨b2,0,none⟩)),(5,.slice (some ⟨b5,0,none⟩) 3 3),(6,.int .i64 3),(7,.int .i64 k.1)]) (fun _=>Hp (fun k=>k=bp) w_0 [(b5,bk 9 (xX uL)),(b2,bk 57 (exC 0 0 [] none 0 0)),(bp,pO E s)] [] (TkX E)) (fun k=>3-k.1) ⟨0,Kl _,fun _ _ h=>absurd h (by omega)⟩ ?_ ?_ (fun k=>?_)
 ·exact .cons V<|.cons V<|.cons V<|.cons V<|.cons V<|.nil
 ·exact fun w h=>h
 obtain⟨k,hk,hno⟩:=k;dsimp only;refine zY<|zX<|ZF V (xS V V)<|ZX<|zT V (fun hc=>?_) (fun hc=>?_)
 ·replace hc:=Jo hc;obtain⟨o,ho⟩:∃o,uL[k]? = some o:=⟨uL[k]'(by show k<3;omega),Jt _⟩;refine zG<|zQ<|zY<|yY<|zY<|zX<|ZF rfl (zJ (es:=1) rfl rfl U22 (by kernel_rfl) rfl (by first|decide|omega|(simp;done)|(simp;omega)) rfl) ?_;refine ZF V (zW (v:=.string ⟨o.toArray⟩) 0 V V (by rw[Kk,Nat.mul_one];exact rU ho) U9 V) ?_;refine Za V V<|ZX<|Z7r 0 2 4 5 6 7 8 V V V V V V V<|Zm V V<|Zm V V<|vX E hE s hs o bp (fun _ h=>h) 2 .none V  V V ?_;refine ZT<|zT V (fun h13=>?_) (fun h13=>?_)
  ·rw[h13];obtain⟨e,s1,hu1,hu2⟩:=unS_hit ho hno h13 hr;cases hu2;have ha:=yE hE.kind hs h13;refine zY<|Z8r 0 2 4 5 6 7 8 13 V V V V V V V V<|Zm V V<|Zm V V<|wl_ex E (adv s) e s' bp 2 (uX hb) (fun _ h=>h) (fun w h1 h2=>IH.un (adv s) e s' hu1 ha bp w h1 h2) .none V  (by kernel_rfl) V V (fun A cap F hF hc=>?_);refine zC .none V (xR (z:=.agg #[.int .i64 0,.int .u32 0,.string ⟨#[]⟩,.slice none 0 0]) V V U55 (by kernel_rfl) (by kernel_rfl) V V) (fun b17=>?_);refine ZF V (yQ [.int .i64 0,.int .u32 0,.string ⟨#[]⟩,.slice none 0 0] [(0,1),(1,1),(2,1),(3,1)] V (by kernel_rfl) (by kernel_rfl) V) ?_;refine ZR 2 V V V V V (by kernel_rfl) ?_;refine ZT<|zK<|zR<|zV<|zV<|zR<|zV<|yF V V 2 V U57 V (by kernel_rfl) (fun w hw=>?_);exact⟨some ⟨b17,0,none⟩,1,rfl,(fun _=>rfl),Jq hw,HpG.blkL (j:=3) hw rfl,pK,_,HpG.rdF (j:=0) hw V (HpG.fresh (j:=0) (i:=3) hw V V V),ExsV.lies.mono hF (HpG.x hw).1.one⟩
  ·rw[h13];refine zG<|zM<|zQ<|Z8r 0 2 4 5 6 7 8 13 V V V V V V V V<|ZF V (yI V V (i64_in _ (by omega) (by omega))) ?_;refine Zm V V<|zU<|yC (ι:={k:Nat // UnI E.tk s k}) ⟨k+1,by omega,fun j q hj hq=>?_⟩ (by show 3-(k+1)<3-k;omega) (O5 V V V V V) (fun w h=>h);rcases Nat.lt_or_ge j k with h1|h1
   ·exact hno j q h1 hq
   ·have:j=k:=by omega
    subst this;rw[ho] at hq;cases hq;exact h13
 ·replace hc:=Jp hc;have hk3:k=3:=by omega
  refine xY<|zN<|zN<|xZ<|zQ<|zY<|zX<|Zm V V<|wl_ex E s x s' bp 2 (uX hb) (fun _ h=>h) (fun w h1 h2=>IH.prim s x s' (unS_miss (fun j q hj hq=>hno j q (by omega) hq) hr) hs bp w h1 h2) .none V  (by kernel_rfl) V V (fun A cap F hF hc=>?_);refine ZR 1 V V V V V (by kernel_rfl) ?_;refine ZT<|zK<|yF V V 1 V U57 V (by kernel_rfl) (fun w hw=>?_);exact⟨A,cap,rfl,hc,Jq hw,HpG.blkL (j:=2) hw rfl,xT.lies.mono hF (HpG.x hw).1⟩
end Go.Proofs.YtfpkpnkdnammnaaGreatDoor
