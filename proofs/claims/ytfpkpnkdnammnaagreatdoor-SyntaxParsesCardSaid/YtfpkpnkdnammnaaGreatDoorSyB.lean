/- Lists of strings searched; symbols; the next token; the tokens of a source. -/
import Derived.Test.YtfpkpnkdnammnaaGreatDoorSyA
import Derived.Test.YtfpkpnkdnammnaaGreatDoorSyT
import Derived.Test.YtfpkpnkdnammnaaGreatDoorSyShelf
import Derived.WideLaws
namespace Go.Proofs.YtfpkpnkdnammnaaGreatDoor
open Go.RowKit
section
variable {P:Program}{n:Nat}{m:List (Nat×Value)}{ty:TypeId}{H:World→Prop}
def isE:Value→Bool
 | .nilIface=>false
 | _=>true
theorem yf_neqNil {x:Operand}{t t':TypeId}{v:Value}(hx:ev m x=some v) (hv:v=.nilIface∨∃u p,v=.iface u p) (ht:P.underlying t=some (.interface (P.methodsAt t))):YF P (.binOp .neq t x (.const .nilIface) t') ty n m H (.bool (isE v)):=fun a w d pos af g hs hw=>by
 have e0:a.eval (.const .nilIface)=.nilIface:=rfl;rcases hv with rfl|⟨u,p,rfl⟩
 ·have:=run_neq_nil_nil (P:=P) w t ht;have e:eqGuard .neq t x (.const .nilIface) .nilIface .nilIface=pure ():=by cases x<;>rfl
  simp[Yl,execOp,hs.ev hx,e0,this,isE,e]
 ·have:=run_neq_held_nil (P:=P) w t u p ht;simp[Yl,execOp,hs.ev hx,e0,this,isE,eqGuard_at_iface]
end
theorem uS {l:List Bs}{i:Nat}{s:Bs}(h:l[i]? = some s):(xG l)[i]? = some (.string ⟨s.toArray⟩):=by simp[xG,h]
/-- The place of a string in a list. -/
structure IxI (l:List Bs) (s:Bs) (k:Nat):Prop where
 le:k≤l.length
 no:∀j x,j<k→l[j]? = some x→x≠s
def idxS:List Bs→Bs→Int
 | [],_=>-1
 | x::r,s=>if x=s then 0 else if idxS r s<0 then -1 else idxS r s+1
theorem idx_at {l:List Bs}{s:Bs}{k:Nat}(h:IxI l s k) (hk:l[k]? = some s):idxS l s=k:=by
 induction k generalizing l with
 | zero =>
  cases l with
  | nil=>cases hk
  | cons x l=>cases hk;simp[idxS]
 | succ k ih =>
  cases l with
  | nil=>cases hk
  | cons x l =>
   have h0:=h.no 0 x (by omega) rfl;have:=ih (l:=l) ⟨by have:=h.le;simp at this;exact this,fun j y hj hy=>h.no (j+1) y (by omega) hy⟩ hk;unfold idxS;rw[if_neg h0,this,if_neg (by omega)];simp
theorem idx_none {l:List Bs}{s:Bs}(h:IxI l s l.length):idxS l s=-1:=by
 induction l with
 | nil=>rfl
 | cons x l ih =>
  have h0:=h.no 0 x (by simp) rfl;have:=ih ⟨Nat.le_refl _,fun j y hj hy=>h.no (j+1) y (by simpa using hj) hy⟩;unfold idxS;rw[if_neg h0,this];rfl
set_option maxRecDepth 100000 in
theorem index_any (l:List Bs) (hl:l.length≤9223372036854775807) (s:Bs) (A:Option Addr) (cap:Nat) {F:Nat→Prop}(w_0:World) (h:RdF F A (xG l) w_0):Calls Tryz.prog 129 #[.slice A l.length cap,.string ⟨s.toArray⟩] w_0 fun e w'=>e=.returned (.int .i64 (idxS l s))∧Ext w_0 w':=by
 have hA:0<l.length→∃b off,A=some ⟨b,off,none⟩:=fun h0=>by
  obtain⟨b,off,e,_⟩:=h (by simpa using h0);exact⟨b,off,e⟩
 refine zC (args:=[.slice A l.length cap,.string ⟨s.toArray⟩]) Tryz.func129 V 19 V (Nat.le_of_ble_eq_true V)<|Z2 0 1 V V<|zI (H':=Hp (fun _=>False) w_0 [] [] (RdF F A (xG l))) (fun u hu=>?_) ?_
 ·subst hu;exact Hp.startT RdF.lies h
 refine zY<|zX<|Za V V<|ZX<|zY<|zX<|Zm V V<|ZF V (yL V U22)<|Zm V V<|ZT<|zB<|xW (ι:={k:Nat // IxI l s k}) (fun k=>[(0,.slice A l.length cap),(1,.string ⟨s.toArray⟩),(7,.int .i64 l.length),(8,.int .i64 k.1)]) (fun _=>Hp (fun _=>False) w_0 [] [] (RdF F A (xG l))) (fun k=>l.length-k.1) ⟨0,Nat.zero_le _,fun _ _ h=>absurd h (by omega)⟩ ?_ ?_ (fun k=>?_)
 ·exact .cons V<|.cons V<|.cons V<|.cons V<|.nil
 ·exact fun w h=>h
 obtain⟨k,hk,hno⟩:=k;dsimp only;refine zY<|zX<|ZF V (xM V V)<|ZX<|zQ V (fun hc=>?_) (fun hc=>?_)
 ·replace hc:=of_decide_eq_true hc;obtain⟨b,off,rfl⟩:=hA (by omega);have hkl:k<l.length:=by omega
  obtain⟨x,hx⟩:∃x,l[k]? = some x:=⟨l[k],List.getElem?_eq_getElem hkl⟩;refine zJ<|zR<|zY<|zB<|zY<|zX<|Zm V V<|Za V V<|ZX<|Z6r 0 1 5 7 8 9 V V V V V V<|Zm V V<|Zm V V<|Zm V V ?_;(refine ZF rfl (zL (es:=1) rfl rfl U22 (by kernel_rfl) rfl ?_ rfl) ?_;(· first|decide|omega|(simp;done)|(simp;omega));skip);refine ZF V (yP (v:=.string ⟨x.toArray⟩) V U9 V (fun w h=>RdF.part (HpG.x h) (by simpa using hkl) (by omega) (uS hx))) ?_;refine ZF V (yI V V U9)<|ZT<|zQ V (fun he=>?_) (fun he=>?_)
  ·have he:=of_decide_eq_true he;subst he;refine zY<|Z7r 0 1 5 7 8 9 16 V V V V V V V<|Zm V V<|Za V V<|ZT<|zO<|zS<|zV<|zV<|zS<|zV<|zK V V (fun w hw=>?_);exact⟨by rw[idx_at ⟨hk,hno⟩ hx],(HpG.keep hw).ext⟩
  ·have he:=of_decide_eq_false he;refine zJ<|zG<|zR<|Z7r 0 1 5 7 8 9 16 V V V V V V V ?_;(refine ZF rfl (yG rfl rfl (i64_in _ ?_ ?_)) ?_;(· omega);(· omega);skip);refine Zm V V<|zN<|yH (ι:={k:Nat // IxI l s k}) ⟨k+1,by omega,fun j y hj hy=>?_⟩ (by show l.length-(k+1)<l.length-k;omega) (O4 V V V V) (fun w h=>h);rcases Nat.lt_or_ge j k with h1|h1
   ·exact hno j y h1 hy
   ·have:j=k:=by omega
    subst this;rw[hx] at hy;cases hy;exact fun e=>he e.symm
 ·replace hc:=of_decide_eq_false hc;have hke:k=l.length:=by omega
  refine yC<|zP<|zP<|yD<|zR<|zY<|zX<|Za V V<|ZT<|zO<|zK V V (fun w hw=>?_);exact⟨by rw[idx_none ⟨Nat.le_refl _,fun j y hj hy=>hno j y (by rw[hke];exact hj) hy⟩],(HpG.keep hw).ext⟩
theorem idx_ge (l:List Bs) (s:Bs):decide (0≤idxS l s)=decide (s∈l):=by
 rw[decide_eq_decide]
 induction l with
 | nil=>simp[idxS]
 | cons x l ih =>
  unfold idxS
  by_cases h:x=s
  ·simp[h]
  ·rw[if_neg h,List.mem_cons]
   split
   ·rename_i h1
    constructor
    ·intro h2;omega
    ·rintro (h2|h2)
     ·exact absurd h2.symm h
     ·have:=ih.2 h2;omega
   ·rename_i h1
    constructor
    ·intro _;exact .inr (ih.1 (by omega))
    ·intro _;omega
theorem vI (l:List Bs) (hl:l.length≤9223372036854775807) (s:Bs) (A:Option Addr) (cap:Nat) {F:Nat→Prop}(w_0:World) (h:RdF F A (xG l) w_0):Calls Tryz.prog 92 #[.slice A l.length cap,.string ⟨s.toArray⟩] w_0 fun e w'=>e=.returned (.bool (decide (s∈l)))∧Ext w_0 w':=by
 refine zC (args:=[.slice A l.length cap,.string ⟨s.toArray⟩]) Tryz.func92 V 9 V (Nat.le_of_ble_eq_true V)<|Z2 0 1 V V<|zI (H':=Hp (fun _=>False) w_0 [] [] (RdF F A (xG l))) (fun u hu=>?_) ?_
 ·subst hu;exact Hp.startT RdF.lies h
 refine zY<|zX<|Za V V<|ZX<|zX<|Zm V V<|Zm V V<|yS .none V  (v:=.int .i64 (idxS l s)) (by kernel_rfl) V (fun w hw=>index_any l hl s A cap w (HpG.x hw)) ?_;refine ZF V (uK V V)<|Za V V<|ZT<|zO<|zK V V (fun w hw=>?_);exact⟨by rw[idx_ge],(HpG.keep hw).ext⟩
theorem keywords_any (w_0:World):Calls Tryz.prog 93 #[] w_0 fun e w'=>∃A:Option Addr,e=.returned (.slice A uZ.length 9)∧Ext w_0 w'∧RdF (fun k=>w_0.heap.size≤k) A (xG uZ) w':=by
 refine zC (args:=[]) Tryz.func93 V 2 V (Nat.le_of_ble_eq_true V)<|xL (.nil)<|zI (H':=Hp (fun _=>False) w_0 [] [] (fun _=>True)) (fun u hu=>?_) ?_
 ·subst hu;exact Hp.start0
 refine zY<|zX<|Za V V<|ZX<|zX<|zA .none V (sJ (z:=.string ⟨#[]⟩) V V V V U22 (by kernel_rfl) (by kernel_rfl) V V) (fun b1=>?_);refine Za V V<|ZT<|zO<|zK V V (fun w hw=>?_);exact⟨_,rfl,(HpG.keep hw).ext,HpG.rdF (j:=0) hw V (HpG.mineL hw (j:=0) V id)⟩
/-! ### Symbols -/
theorem ib_low (l:Bs) (c:UInt8):-1≤Lib.indexByte l c:=by
 induction l with
 | nil=>simp[Lib.indexByte]
 | cons y l ih =>
  unfold Lib.indexByte
  split
  ·omega
  ·split
   ·omega
   ·omega
theorem ib_mem (l:Bs) (c:UInt8):decide (0≤Lib.indexByte l c)=decide (c∈l):=by
 rw[decide_eq_decide]
 induction l with
 | nil=>simp[Lib.indexByte]
 | cons x l ih =>
  have h2:=ib_low l c;unfold Lib.indexByte
  by_cases h:x=c
  ·simp[h]
  ·have hb:(x==c)=false:=by simp[h]
   rw[hb];simp only[Bool.false_eq_true,if_false,List.mem_cons]
   split
   ·rename_i h1;have h1:=eq_of_beq h1
    constructor
    ·intro h2;omega
    ·rintro (h2|h2)
     ·exact absurd h2.symm h
     ·have:=ih.2 h2;omega
   ·rename_i h1;have h1:Lib.indexByte l c≠-1:=fun e=>h1 (by rw[e];rfl)
    constructor
    ·intro _;exact .inr (ih.1 (by omega))
    ·intro _;omega
set_option maxRecDepth 100000 in
theorem symbol_any (c:UInt8) (r:Bs) (hl:(c::r).length≤4294967296) (w_0:World):Calls Tryz.prog 125 #[.string ⟨(c::r).toArray⟩] w_0 fun e w'=>e=.returned (.int .i64 (uJ (c::r)))∧Ext w_0 w':=by
 have h1n:¬(1:Int)<((c::r).length:Nat)→(c::r).take 2∉twoL:=fun h=>by
  cases r with
  | nil=>simp[twoL]
  | cons d r=>exact absurd h (by simp;omega)
 refine zC (args:=[.string ⟨(c::r).toArray⟩]) Tryz.func125 V 16 V (Nat.le_of_ble_eq_true V)<|Z1 0 V<|zI (H':=Hp (fun _=>False) w_0 [] [] (fun _=>True)) (fun u hu=>?_) ?_
 ·subst hu;exact Hp.start0
 refine zY<|zX<|Za V V<|ZX<|zY<|zX<|Zm V V<|ZF V (wN V U9)<|ZF V (wD V V)<|Zm V V<|zH 6 V (fun h2=>?_) (fun h2=>?_)
 ·replace h2:=of_decide_eq_true h2;refine zA (.some V V) V (sJ (z:=.string ⟨#[]⟩) V V V V U22 (by kernel_rfl) (by kernel_rfl) V V) (fun b7=>?_);refine ZG V V V (zU V) ?_;(refine ZG rfl rfl rfl (tP rfl rfl U9 ?_ ?_ rfl) ?_;(· first|(simp;done)|omega);(· first|(simp;done)|omega);skip);refine yS (.some V V) V  (v:=.bool (decide ((c::r).take 2∈twoL))) (by kernel_rfl) V (fun w hw=>vI twoL (by decide) _ _ _ w (HpG.rdF (j:=0) (F:=fun _=>True) hw V trivial)) ?_;refine ZF V (zT V V)<|ZT<|zQ V (fun h11=>?_) (fun h11=>?_)
  ·refine zY<|Z3r 0 2 11 V V V<|Za V V<|ZT<|zO<|zV<|zK V V (fun w hw=>?_);exact⟨by rw[uJ,if_pos (of_decide_eq_true h11)];rfl,(HpG.keep hw).ext⟩
  ·refine zJ<|zR<|zY<|zY<|Z3r 0 2 11 V V V<|Zm V V<|ZF V (vO V V U9 V V)<|yS .none V  (v:=.int .i64 (Lib.indexByte oneL c)) (by kernel_rfl) V (fun w hw=>(Tryz.strings_IndexByte ⟨oneL.toArray⟩ c.toNat w).mono fun e w' ⟨e1,e2⟩=>⟨by rw[e1];simp,e2▸Ext.refl w⟩) ?_;refine ZF V (uK V V)<|ZT<|zQ V (fun h15=>?_) (fun h15=>?_)
   ·replace h15:=of_decide_eq_true h15;have hm:c∈oneL:=of_decide_eq_true ((ib_mem oneL c).symm.trans (decide_eq_true h15));refine zY<|Z4r 0 2 11 15 V V V V<|Za V V<|ZT<|zO<|zV<|zK V V (fun w hw=>?_);exact⟨by rw[uJ,if_neg (of_decide_eq_false h11)];rw[if_pos hm];rfl,(HpG.keep hw).ext⟩
   ·replace h15:=of_decide_eq_false h15;have hm:c∉oneL:=of_decide_eq_false ((ib_mem oneL c).symm.trans (decide_eq_false h15));refine zJ<|zR<|zY<|Z4r 0 2 11 15 V V V V<|Za V V<|ZT<|zO<|zK V V (fun w hw=>?_);exact⟨by rw[uJ,if_neg (of_decide_eq_false h11)];rw[if_neg hm];rfl,(HpG.keep hw).ext⟩
 ·replace h2:=of_decide_eq_false h2;refine ZP V<|ZP V<|ZP V<|ZP V<|ZF V (zM V V)<|ZT<|wC V<|zJ<|zR<|zY<|zY<|Z3r 0 2 11 V V V<|Zm V V<|ZF V (vO V V U9 V V)<|yS .none V  (v:=.int .i64 (Lib.indexByte oneL c)) (by kernel_rfl) V (fun w hw=>(Tryz.strings_IndexByte ⟨oneL.toArray⟩ c.toNat w).mono fun e w' ⟨e1,e2⟩=>⟨by rw[e1];simp,e2▸Ext.refl w⟩) ?_;refine ZF V (uK V V)<|ZT<|zQ V (fun h15=>?_) (fun h15=>?_)
  ·replace h15:=of_decide_eq_true h15;have hm:c∈oneL:=of_decide_eq_true ((ib_mem oneL c).symm.trans (decide_eq_true h15));refine zY<|Z4r 0 2 11 15 V V V V<|Za V V<|ZT<|zO<|zV<|zK V V (fun w hw=>?_);exact⟨by rw[uJ,if_neg (h1n h2)];rw[if_pos hm];rfl,(HpG.keep hw).ext⟩
  ·replace h15:=of_decide_eq_false h15;have hm:c∉oneL:=of_decide_eq_false ((ib_mem oneL c).symm.trans (decide_eq_false h15));refine zJ<|zR<|zY<|Z4r 0 2 11 15 V V V V<|Za V V<|ZT<|zO<|zK V V (fun w hw=>?_);exact⟨by rw[uJ,if_neg (h1n h2)];rw[if_neg hm];rfl,(HpG.keep hw).ext⟩
end Go.Proofs.YtfpkpnkdnammnaaGreatDoor
