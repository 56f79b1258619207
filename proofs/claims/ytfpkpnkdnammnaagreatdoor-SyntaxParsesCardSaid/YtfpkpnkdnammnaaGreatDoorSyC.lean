/- Names; the next token; the tokens of a source. -/
import Derived.Test.YtfpkpnkdnammnaaGreatDoorSyB
import Derived.Test.YtfpkpnkdnammnaaGreatDoorTreB
namespace Go.Proofs.YtfpkpnkdnammnaaGreatDoor
open Go.RowKit
section
variable {P:Program}{ops:Array Oper}{Q:Exit→Act→World→Prop}{n:Nat}{m:List (Nat×Value)}{ty:TypeId}{G B:Nat→Prop}{w0:World}{L:List (Nat×Obj)}{R:List Rw}{X:World→Prop}{rest:List Oper}{d:Nat}{pos:String}{af:Array Edge}{gd:Option (Nat×Bool)}
end
/-- The variable strconv.ErrRange holds an error. -/
def sW (w:World):Prop:=∃t p,w.cell? ⟨2,0,none⟩=some (.iface t p)
theorem sW.lies:Lies fun F w=>F 2∧2<w.heap.size∧sW w:=by
 refine⟨fun {F w w'} hk ⟨h0,hl,t,p,h⟩=>⟨h0,?_,t,p,?_⟩,fun {F w} ⟨h0,hl,h⟩=>⟨⟨h0,hl⟩,hl,h⟩,fun {F F' w} hF ⟨h0,hl,h⟩=>⟨hF _ h0,hl,h⟩⟩
 ·have:=hk 2 h0;rw[Array.getElem?_eq_getElem hl] at this;exact (Array.getElem?_eq_some_iff.1 this).1
 ·rw[← h];exact World.cell?_of_block (hk 2 h0)
theorem sW.lt {w:World}(h:sW w):2<w.heap.size:=by
 obtain⟨t,p,h⟩:=h;unfold World.cell? at h;rcases Nat.lt_or_ge 2 w.heap.size with h1|h1
 ·exact h1
 ·simp[Array.getElem?_eq_none h1] at h
theorem take_span (q:Nat→Bool) (l:Bs):l.take (spanL (fun c=>q c.toNat) l)=l.takeWhile (fun c=>q c.toNat):=by
 unfold spanL
 induction l with
 | nil=>rfl
 | cons x l ih =>
  cases hx:q x.toNat
  ·simp[List.takeWhile,hx]
  ·simp[List.takeWhile,hx,ih]
/-! ### Numbers -/
def dec (v:Nat) (l:Bs):Nat:=l.foldl (fun v c=>10*v+(c.toNat-48)) v
theorem dec_ge (l:Bs):∀v,v≤dec v l:=by
 induction l with
 | nil=>intro v;exact Nat.le_refl _
 | cons c l ih=>intro v;exact Nat.le_trans (by omega) (ih (10*v+(c.toNat-48)))
theorem parseU_dec:∀(l:Bs) (v:Nat),v≤4294967295→(∀c∈l,uX c=true)→Lib.parseUintM 4294967295 v l=if dec v l<4294967296 then .ok (dec v l) else .range
 | [],v,hv,_=>by
  unfold Lib.parseUintM dec;rw[if_pos (by show v<4294967296;omega)];rfl
 | c::l,v,hv,h=>by
  have hc:=h c (List.mem_cons_self ..);have hc':48≤c.toNat∧c.toNat≤57:=by simpa [uX,uY] using hc
  unfold Lib.parseUintM;rw[if_pos hc',if_neg (by omega)];have e:dec v (c::l)=dec (v*10+(c.toNat-48)) l:=by show dec (10*v+(c.toNat-48)) l=_;rw[Nat.mul_comm]
  rw[e]
  split
  ·rename_i h1;rw[if_neg];have:=dec_ge l (v*10+(c.toNat-48));omega
  ·rename_i h1;exact parseU_dec l _ (by omega) fun x hx=>h x (List.mem_cons_of_mem _ hx)
def PuC (l:Bs) (i:Nat×Value):Prop:=(tY l<4294967296∧i=(tY l,.nilIface))∨(4294967296≤tY l∧i.1=4294967295∧∃t p,i.2=.iface t p)
theorem parse_any (l:Bs) (h0:l≠[]) (hd:∀c∈l,uX c=true) (hl:l.length≤4294967296) (w:World) (hv:sW w):Calls Tryz.prog 123 #[.string ⟨l.toArray⟩,.int .i64 10,.int .i64 32] w fun e w'=>∃i,PuC l i∧e=.returned (.tuple #[.int .u64 i.1,i.2])∧Ext w w':=by
 have hp:Lib.parseUintB 32 l=if tY l<4294967296 then .ok (tY l) else .range:=by
  unfold Lib.parseUintB;rw[if_neg h0];exact parseU_dec l 0 (by omega) hd
 by_cases h:tY l<4294967296
 ·rw[if_pos h] at hp
  refine (Tryz.strconv_ParseUint_10_at32_ok ⟨l.toArray⟩ (by simp[ByteArray.size];omega) (tY l) (by simpa using hp) w).mono fun e w' ⟨e1,e2⟩=>⟨(tY l,.nilIface),.inl ⟨h,rfl⟩,e1,?_⟩
  rcases e2 with rfl|rfl
  ·exact Ext.refl _
  ·exact⟨rfl,rfl,rfl,by rw[Lib.bytesWorld_size];omega,fun k hk=>Lib.bytesWorld_at_old _ _ _ k (by omega)⟩
 ·rw[if_neg h] at hp;obtain⟨t,p,hv⟩:=hv
  refine (Tryz.strconv_ParseUint_10_at32_range ⟨l.toArray⟩ (by simp[ByteArray.size];omega) (by simpa using hp) _ w hv (.inr ⟨t,p,rfl⟩)).mono fun e w' ⟨N,e1,_,_,e2⟩=>⟨(4294967295,_),.inr ⟨by omega,rfl,_,_,rfl⟩,e1,e2⟩
/-! ### Names -/
theorem span_alli (p:UInt8→Bool) (l:Bs):((spanL p l:Int)==(l.length:Int))=l.all p:=by
 rw[Bool.eq_iff_iff,beq_iff_eq,List.all_eq_true]
 induction l with
 | nil=>simp[spanL]
 | cons x l ih =>
  cases hx:p x
  ·simp[spanL,List.takeWhile,hx];try omega
  ·simp only[spanL] at ih;simp[spanL,List.takeWhile,hx,← ih]
   try omega
theorem name_eq (c:UInt8) (r:Bs):xK (c::r)=(Nat.ble (c::r).length 12&&!decide ((c::r)∈uZ)&&letB c&&(c::r).all tK):=rfl
theorem name_no {c:UInt8}{r:Bs}(h:12<(c::r).length∨(c::r)∈uZ∨letB c=false):xK (c::r)=false:=by
 rw[name_eq];rcases h with h|h|h
 ·have:Nat.ble (c::r).length 12=false:=by rw[← Bool.not_eq_true,Nat.ble_eq];omega
  rw[this];rfl
 ·rw[decide_eq_true h];simp
 ·rw[h];simp
theorem name_yes {c:UInt8}{r:Bs}(h1:(c::r).length≤12) (h2:(c::r)∉uZ) (h3:letB c=true):xK (c::r)=(c::r).all tK:=by
 have h4:Nat.ble (c::r).length 12=true:=by rw[Nat.ble_eq];exact h1
 rw[name_eq,h4,decide_eq_false h2,h3];rfl
set_option maxRecDepth 100000 in
theorem uF (s:Bs) (w_0:World):Calls Tryz.prog 56 #[.string ⟨s.toArray⟩] w_0 fun e w'=>e=.returned (.bool (xK s))∧Ext w_0 w':=by
 have hat:s≠[]→∃c r,s=c::r:=fun h=>by cases s with|nil=>exact absurd rfl h|cons c r=>exact⟨c,r,rfl⟩
 refine zC (args:=[.string ⟨s.toArray⟩]) Tryz.func56 V 27 V (Nat.le_of_ble_eq_true V)<|Z1 0 V<|zI (H':=Hp (fun _=>False) w_0 [] [] (fun _=>True)) (fun u hu=>?_) ?_
 ·subst hu;exact Hp.start0
 refine zY<|zX<|Za V V<|ZX<|zY<|zX<|Zm V V<|ZF V (yI (b:=[]) V V Tryz.underlying9)<|Zm V V<|zH 5 V (fun h3=>?_) (fun h3=>?_)
 ·refine ZP V<|ZP V<|ZP V<|ZF V (zT V V)<|Zm V V<|ZP V<|ZP V<|ZP V<|ZF V (zT V V)<|Zm V V<|ZP V<|ZP V<|ZP V<|ZP V<|ZP V<|ZF V (zT V V)<|ZT<|vK V<|zY<|Z3r 0 2 21 V V V<|Za V V<|ZT<|zO<|zV<|zK V V (fun w hw=>?_);exact⟨by rw[of_decide_eq_true h3];rfl,(HpG.keep hw).ext⟩
 ·obtain⟨c,r,rfl⟩:=hat (of_decide_eq_false h3);refine ZG V V V (zU V)<|ZG V V V (wN V U9)<|ZG V V V (wD V V)<|ZF V (zM V V)<|Zm V V<|zH 10 V (fun h8=>?_) (fun h8=>?_)
  ·replace h8:=of_decide_eq_true h8;refine ZP V<|ZP V<|ZP V<|ZF V (zT V V)<|Zm V V<|ZP V<|ZP V<|ZP V<|ZP V<|ZP V<|ZF V (zT V V)<|ZT<|vK V<|zY<|Z3r 0 2 21 V V V<|Za V V<|ZT<|zO<|zV<|zK V V (fun w hw=>?_);exact⟨by rw[name_no (.inl (by omega))],(HpG.keep hw).ext⟩
  ·replace h8:=of_decide_eq_false h8;refine uP (ι:=Option Addr) (C:=fun _=>True) (val:=fun A=>.slice A uZ.length 9) (TT:=fun A F u=>RdF F A (xG uZ) u) (.some V V) V  (by kernel_rfl) V (fun _ h=>h.elim) (fun _=>RdF.lies) (fun w hw=>(keywords_any w).mono fun e w' ⟨A,e1,e2,e3⟩=>⟨A,trivial,e1,e2,e3⟩) (fun A F _ hF=>?_);refine ZG V V V (zU V)<|yS (.some V V) V  (v:=.bool (decide ((c::r)∈uZ))) (by kernel_rfl) V (fun w hw=>vI uZ (by decide) _ _ _ w (HpG.x hw).1) ?_;refine ZF V (zM V V)<|Zm V V<|zH 15 V (fun h13=>?_) (fun h13=>?_)
   ·refine ZP V<|ZP V<|ZP V<|ZP V<|ZP V<|ZF V (zT V V)<|ZT<|vK V<|zY<|Z3r 0 2 21 V V V<|Za V V<|ZT<|zO<|zV<|zK V V (fun w hw=>?_);exact⟨by rw[name_no (.inr (.inl (of_decide_eq_true h13)))],(HpG.keep hw).ext⟩
   ·refine ZG V V V (zU V)<|ZG V V V (vO V V U9 V V) ?_
    refine ZG V V V (yf_conv V (by kernel_rfl) Tryz.underlying21 (i32_in _ (by have:=c.toNat_lt;omega) (by have:=c.toNat_lt;omega))) ?_
    refine yS (.some V V) V  (v:=.bool (rX c.toNat)) (by kernel_rfl) V (fun w hw=>letter_any _ w) ?_;refine ZG V V V (xP V)<|ZF V (zM V V)<|ZT<|zQ V (fun h21=>?_) (fun h21=>?_)
    ·refine zY<|Z3r 0 2 21 V V V<|Za V V<|ZT<|zO<|zV<|zK V V (fun w hw=>?_);exact⟨by rw[name_no (.inr (.inr (by simpa [letB] using h21)))],(HpG.keep hw).ext⟩
    ·refine zJ<|zR<|zY<|Z3r 0 2 21 V V V<|Zm V V<|yS .none V  (v:=.int .i64 (spanL tK (c::r))) (by kernel_rfl) V (fun w hw=>span_any _ tF wordd_fn (fun x hx=>by simp[tF,rX,uY];omega) (c::r) w) ?_;refine Zm V V<|ZF V (wN V U9)<|ZF V (yU V V)<|Za V V<|ZT<|zO<|zK V V (fun w hw=>?_);exact⟨by rw[name_yes (by omega) (of_decide_eq_false h13) (by simpa [letB] using h21),span_alli],(HpG.keep hw).ext⟩
/-! ### The next token -/
abbrev tokC (t:Tok):List Value:=[.int .i64 t.kind,.int .i64 t.at_,.string ⟨t.text.toArray⟩,.int .u64 t.value]
def toksC (l:List Tok):List Value:=l.flatMap tokC
theorem toksC_one (l:List Tok) (t:Tok):toksC (l++[t])=toksC l++tokC t:=by simp[toksC]
theorem toksC_at {l:List Tok}{i:Nat}(h:i<l.length) {j:Nat}{v:Value}(hv:(tokC (uO l i))[j]? = some v):(toksC l)[4*i+j]? = some v:=by
 induction l generalizing i with
 | nil=>simp at h
 | cons t l ih =>
  have e:toksC (t::l)=tokC t++toksC l:=rfl
  cases i with
  | zero =>
   rw[e,Nat.mul_zero,Nat.zero_add];exact (List.getElem?_append_left (List.getElem?_eq_some_iff.1 hv).1).trans hv
  | succ i =>
   rw[e,List.getElem?_append_right (by simp;omega)];have:4*(i+1)+j-(tokC t).length=4*i+j:=by simp;omega
   rw[this];exact ih (by simpa using h) hv
theorem next_num {c:UInt8}{r:Bs}(h:uY c.toNat=true):xD (c::r)=⟨1,0,(c::r).takeWhile uX,min (tY ((c::r).takeWhile uX)) 4294967296⟩:=by
 have h':uX c=true:=h;unfold xD;dsimp only;rw[if_pos h']
theorem next_wor {c:UInt8}{r:Bs}(h1:¬uY c.toNat=true) (h:rX c.toNat=true):xD (c::r)=⟨if 12<((c::r).takeWhile tK).length then 4 else if (c::r).takeWhile tK∈uZ then 3 else 2,0,(c::r).takeWhile tK,0⟩:=by
 have h':letB c=true:=h;have h1':¬uX c=true:=h1;unfold xD;dsimp only;rw[if_neg h1',if_pos h']
theorem next_sym {c:UInt8}{r:Bs}(h1:¬uY c.toNat=true) (h:¬rX c.toNat=true):xD (c::r)=if uJ (c::r)=0 then ⟨4,0,(c::r).take 1,0⟩ else ⟨3,0,(c::r).take (uJ (c::r)),0⟩:=by
 have h':¬letB c=true:=h;have h1':¬uX c=true:=h1;unfold xD;dsimp only;rw[if_neg h1',if_neg h']
set_option maxRecDepth 100000 in
theorem next_any (c:UInt8) (r:Bs) (hl:(c::r).length≤4294967296) (w_0:World) (hv:sW w_0):Calls Tryz.prog 83 #[.string ⟨(c::r).toArray⟩] w_0 fun e w'=>e=.returned (.agg (tokC (xD (c::r))).toArray)∧Ext w_0 w':=by
 have hld:=vJ uX (c::r);have hlw:=vJ tK (c::r);refine zC (args:=[.string ⟨(c::r).toArray⟩]) Tryz.func83 V 61 V (Nat.le_of_ble_eq_true V)<|Z1 0 V<|zI (H':=Hp (fun _=>False) w_0 [] [] sW) (fun u hu=>?_) ?_
 ·subst hu;exact Hp.weakX (Hp.startT sW.lies (F:=fun _=>True) ⟨trivial,hv.lt,hv⟩) fun u h=>h.2.2
 refine zY<|zX<|zA .none V (yR (z:=.agg #[.int .i64 0,.int .i64 0,.string ⟨#[]⟩,.int .u64 0]) (cs:=[.int .i64 0,.int .i64 0,.string ⟨#[]⟩,.int .u64 0]) (by kernel_rfl) V) (fun b2=>?_);refine ZX<|zX<|Zm V V<|ZF V (vO V V U9 V V) ?_
 refine ZF V (yf_conv V (by kernel_rfl) Tryz.underlying21 (i32_in _ (by have:=c.toNat_lt;omega) (by have:=c.toNat_lt;omega))) ?_
 refine Za V V<|ZX<|zB<|zY<|Z3r 0 2 3 V V V<|Zm V V<|yS .none V  (v:=.bool (uY c.toNat)) (by kernel_rfl) V (fun w hw=>digit_any _ w) ?_;refine Za V V<|ZT<|zQ V (fun h12=>?_) (fun h12=>?_)
 ·refine zY<|Z4r 0 2 3 12 V V V V<|Zm V V<|Zm V V<|yS .none V  (v:=.int .i64 (spanL uX (c::r))) (by kernel_rfl) V (fun w hw=>span_any _ uY digit_fn (fun x hx=>by simp[uY];omega) (c::r) w) ?_;(refine ZF rfl (tP rfl rfl U9 ?_ ?_ (show (c::r).take (Int.toNat ((spanL uX (c::r):Nat):Int))=(c::r).takeWhile uX from take_span uY (c::r))) ?_;(· have:=sD uX (c::r);omega);(· have:=sD uX (c::r);omega);skip);refine ZF V (yV [.int .i64 0,.int .i64 0,.string ⟨#[]⟩,.int .u64 0] [(0,1),(1,1),(2,1),(3,1)] V (by kernel_rfl) (by kernel_rfl) V) ?_;refine zA .none V (yR (z:=.agg #[.int .i64 0,.int .i64 0,.string ⟨#[]⟩,.int .u64 0]) (cs:=[.int .i64 0,.int .i64 0,.string ⟨#[]⟩,.int .u64 0]) (by kernel_rfl) V) (fun b4=>?_);refine ZR 0 V V V V V (by kernel_rfl) ?_;refine ZX<|Z5r 0 2 3 4 12 V V V V V<|ZF V (Y92x2 V) ?_;refine ZF V (zW 0 V V V U9 V)<|wl_pureE (ι:=Nat×Value) (C:=PuC ((c::r).takeWhile uX)) (val:=fun i=>.tuple #[.int .u64 i.1,i.2]) .none V  (by kernel_rfl) V (fun w hw=>parse_any _ (List.ne_nil_of_length_pos (sM uX c r h12)) (fun x hx=>List.all_eq_true.1 (List.all_takeWhile (l:=c::r) (p:=uX)) x hx) (by omega) w (HpG.x hw)) (fun i hi=>?_)
  have hi2:i.2=.nilIface∨∃u p,i.2=.iface u p:=by
   rcases hi with ⟨_,rfl⟩|⟨_,_,h⟩
   ·exact .inl rfl
   ·exact .inr h
  refine Zm V V<|ZF V (yE V V)<|ZF V (yE V V)<|Za V V<|Za V V<|ZX<|zY<|Z7r 0 2 3 4 5 6 12 V V V V V V V<|Zm V V<|ZF V (yf_neqNil V hi2 (by kernel_rfl)) ?_;refine ZT<|zQ V (fun h27=>?_) (fun h27=>?_)
  ·have hbig:4294967296≤tY ((c::r).takeWhile uX):=by
    rcases hi with ⟨_,rfl⟩|⟨h,_⟩
    ·cases h27
    ·exact h
   refine Z8r 0 2 3 4 5 6 12 27 V V V V V V V V<|Za V V<|ZX<|zX<|Zm V V<|ZF V (Y92x3 V) ?_;refine ZS 0 V V V V V (by kernel_rfl) ?_;refine ZX<|Z8r 0 2 3 4 5 6 12 27 V V V V V V V V<|ZF V (zF 0 V V U92 V (by kernel_rfl)) ?_;refine ZR 1 V V V V V (by kernel_rfl) ?_;refine ZT<|zO<|zS<|zV<|yQ V V 1 V U92 V (by kernel_rfl) (fun w hw=>?_);exact⟨by rw[next_num h12,Nat.min_eq_right hbig];rfl,(HpG.keep hw).ext⟩
  ·have hsm:tY ((c::r).takeWhile uX)<4294967296∧i.1=tY ((c::r).takeWhile uX):=by
    rcases hi with ⟨h,rfl⟩|⟨_,_,u,p,h⟩
    ·exact⟨h,rfl⟩
    ·rw[h] at h27;cases h27
   refine zJ<|zR<|zY<|Z8r 0 2 3 4 5 6 12 27 V V V V V V V V<|Zm V V<|ZF V (Y92x3 V) ?_;refine ZS 0 V V V V V (by kernel_rfl) ?_;refine ZX<|Z8r 0 2 3 4 5 6 12 27 V V V V V V V V<|ZF V (zF 0 V V U92 V (by kernel_rfl)) ?_;refine ZR 1 V V V V V (by kernel_rfl) ?_;refine ZT<|zO<|zS<|zV<|yQ V V 1 V U92 V (by kernel_rfl) (fun w hw=>?_);exact⟨by rw[next_num h12,Nat.min_eq_left (Nat.le_of_lt hsm.1),← hsm.2];rfl,(HpG.keep hw).ext⟩
 ·refine zY<|Z4r 0 2 3 12 V V V V<|Zm V V<|yS .none V  (v:=.bool (rX c.toNat)) (by kernel_rfl) V (fun w hw=>letter_any _ w) ?_;refine Za V V<|ZT<|zQ V (fun h31=>?_) (fun h31=>?_)
  ·refine zY<|Z5r 0 2 3 12 31 V V V V V<|Zm V V<|Zm V V<|yS .none V  (v:=.int .i64 (spanL tK (c::r))) (by kernel_rfl) V (fun w hw=>span_any _ tF wordc_fn (fun x hx=>by simp[tF,rX,uY];omega) (c::r) w) ?_;(refine ZF rfl (tP rfl rfl U9 ?_ ?_ (show (c::r).take (Int.toNat ((spanL tK (c::r):Nat):Int))=(c::r).takeWhile tK from take_span tF (c::r))) ?_;(· have:=sD tK (c::r);omega);(· have:=sD tK (c::r);omega);skip);refine ZF V (yV [.int .i64 0,.int .i64 0,.string ⟨#[]⟩,.int .u64 0] [(0,1),(1,1),(2,1),(3,1)] V (by kernel_rfl) (by kernel_rfl) V) ?_;refine zA .none V (yR (z:=.agg #[.int .i64 0,.int .i64 0,.string ⟨#[]⟩,.int .u64 0]) (cs:=[.int .i64 0,.int .i64 0,.string ⟨#[]⟩,.int .u64 0]) (by kernel_rfl) V) (fun b7=>?_);refine ZR 0 V V V V V (by kernel_rfl) ?_;refine ZX<|zY<|Z6 0 2 3 7 12 31 V V V V V V<|xX 3 [1,2,0] (Blk b7 _) (by kernel_rfl) (by kernel_rfl) Blk.stab (fun w h=>HpG.blk h (k:=0) V) (fun n0 hn0=>?_);refine Zd V V V (Y92x2 V) ?_;refine Zd V V V (wY V V U9 V)<|yY V<|wd_callX (ι:=Option Addr) (C:=fun _=>True) (val:=fun A=>.slice A uZ.length 9) (TT:=fun A F u=>RdF F A (xG uZ) u) .none V  (by kernel_rfl) V (fun _ h=>h.elim) (fun _=>RdF.lies) (fun w w' h hx=>Blk.onE h hx) (fun w hw=>(keywords_any w).mono fun e w' ⟨A,e1,e2,e3⟩=>⟨A,trivial,e1,e2,e3⟩) (fun A F _ hF=>?_);refine xS ?_;simp only[List.drop_succ_cons,List.drop_zero];refine yS .none V  (v:=.bool (decide ((c::r).takeWhile tK∈uZ))) (by kernel_rfl) V (fun w hw=>vI uZ (by decide) _ _ _ w (HpG.x hw).1) ?_;refine ZT<|zQ V (fun h42=>?_) (fun h42=>?_)
   ·refine Z7r 0 2 3 7 12 31 42 V V V V V V V<|ZF V (Y92x0 V) ?_;refine ZS 0 V V V V V (by kernel_rfl) ?_;refine ZX<|zY<|Z7r 0 2 3 7 12 31 42 V V V V V V V<|ZF V (Y92x2 V) ?_;refine ZF V (zW 0 V V V U9 V)<|ZF V (wN V U9)<|ZF V (wD V V)<|ZT<|zQ V (fun h47=>?_) (fun h47=>?_)
    ·replace h47:=of_decide_eq_true h47;refine Z8r 0 2 3 7 12 31 42 47 V V V V V V V V<|ZF V (Y92x0 V) ?_;refine ZS 0 V V V V V (by kernel_rfl) ?_;refine ZX<|Z8r 0 2 3 7 12 31 42 47 V V V V V V V V<|ZF V (zF 0 V V U92 V (by kernel_rfl)) ?_;refine ZR 1 V V V V V (by kernel_rfl) ?_;refine ZT<|zO<|zS<|zV<|yQ V V 1 V U92 V (by kernel_rfl) (fun w hw=>?_);exact⟨by rw[next_wor (by simp[h12]) h31,if_pos (by omega)];rfl,(HpG.keep hw).ext⟩
    ·replace h47:=of_decide_eq_false h47;refine zJ<|zR<|zY<|Z8r 0 2 3 7 12 31 42 47 V V V V V V V V<|ZF V (zF 0 V V U92 V (by kernel_rfl)) ?_;refine ZR 1 V V V V V (by kernel_rfl) ?_;refine ZT<|zO<|zS<|zV<|yQ V V 1 V U92 V (by kernel_rfl) (fun w hw=>?_);exact⟨by rw[next_wor (by simp[h12]) h31,if_neg (by omega),if_pos (of_decide_eq_true h42)];rfl,(HpG.keep hw).ext⟩
   ·refine zJ<|zR<|zY<|zY<|Z7r 0 2 3 7 12 31 42 V V V V V V V<|ZF V (Y92x2 V) ?_;refine ZF V (zW 0 V V V U9 V)<|ZF V (wN V U9)<|ZF V (wD V V)<|ZT<|zQ V (fun h47=>?_) (fun h47=>?_)
    ·replace h47:=of_decide_eq_true h47;refine Z8r 0 2 3 7 12 31 42 47 V V V V V V V V<|ZF V (Y92x0 V) ?_;refine ZS 0 V V V V V (by kernel_rfl) ?_;refine ZX<|Z8r 0 2 3 7 12 31 42 47 V V V V V V V V<|ZF V (zF 0 V V U92 V (by kernel_rfl)) ?_;refine ZR 1 V V V V V (by kernel_rfl) ?_;refine ZT<|zO<|zS<|zV<|yQ V V 1 V U92 V (by kernel_rfl) (fun w hw=>?_);exact⟨by rw[next_wor (by simp[h12]) h31,if_pos (by omega)];rfl,(HpG.keep hw).ext⟩
    ·replace h47:=of_decide_eq_false h47;refine zJ<|zR<|zY<|Z8r 0 2 3 7 12 31 42 47 V V V V V V V V<|ZF V (zF 0 V V U92 V (by kernel_rfl)) ?_;refine ZR 1 V V V V V (by kernel_rfl) ?_;refine ZT<|zO<|zS<|zV<|yQ V V 1 V U92 V (by kernel_rfl) (fun w hw=>?_);exact⟨by rw[next_wor (by simp[h12]) h31,if_neg (by omega),if_neg (of_decide_eq_false h42)];rfl,(HpG.keep hw).ext⟩
  ·refine zJ<|zG<|zR<|zY<|zY<|Z5r 0 2 3 12 31 V V V V V<|Zm V V<|yS .none V  (v:=.int .i64 (uJ (c::r))) (by kernel_rfl) V (fun w hw=>symbol_any c r hl w) ?_;refine Za V V<|ZX<|Z6r 0 2 3 8 12 31 V V V V V V<|Zm V V<|ZF V (wD V V)<|ZT<|zQ V (fun h53=>?_) (fun h53=>?_)
   ·replace h53:=of_decide_eq_true h53;refine zY<|Z7r 0 2 3 8 12 31 53 V V V V V V V<|Zm V V<|Zm V V ?_;(refine ZF rfl (tP rfl rfl U9 ?_ ?_ rfl) ?_;(· have:=symL_le c r;omega);(· have:=symL_le c r;omega);skip);refine ZF V (yV [.int .i64 0,.int .i64 0,.string ⟨#[]⟩,.int .u64 0] [(0,1),(1,1),(2,1),(3,1)] V (by kernel_rfl) (by kernel_rfl) V) ?_;refine ZR 0 V V V V V (by kernel_rfl) ?_;refine ZT<|zO<|zV<|yQ V V 0 V U92 V (by kernel_rfl) (fun w hw=>?_);exact⟨by rw[next_sym (by simp[h12]) (by simp[h31]),if_neg (by omega)];rfl,(HpG.keep hw).ext⟩
   ·replace h53:=of_decide_eq_false h53;refine zJ<|zR<|zY<|Z7r 0 2 3 8 12 31 53 V V V V V V V<|Zm V V ?_;(refine ZF rfl (tP rfl rfl U9 ?_ ?_ rfl) ?_;(· first|decide|(simp;omega));(· first|decide|(simp;omega));skip);refine ZF V (yV [.int .i64 0,.int .i64 0,.string ⟨#[]⟩,.int .u64 0] [(0,1),(1,1),(2,1),(3,1)] V (by kernel_rfl) (by kernel_rfl) V) ?_;refine ZR 0 V V V V V (by kernel_rfl) ?_;refine ZT<|zO<|yQ V V 0 V U92 V (by kernel_rfl) (fun w hw=>?_);exact⟨by rw[next_sym (by simp[h12]) (by simp[h31]),if_pos (by omega)];rfl,(HpG.keep hw).ext⟩
/-! ### Tokens -/
/-- What the loop has read. -/
structure TkI (l:Bs) (i:Nat) (out:List Tok):Prop where
 le:i≤l.length
 n:out.length≤i
 e:uW l=out++tokD i (l.drop i)
set_option maxRecDepth 100000 in
theorem tokens_any (l:Bs) (hl:l.length≤1000000) (w_0:World) (hv:sW w_0):Calls Tryz.prog 48 #[.string ⟨l.toArray⟩] w_0 fun e w'=>∃g cap,e=.returned (.slice (some ⟨g,0,none⟩) (uW l).length cap)∧(uW l).length≤cap∧Ext w_0 w'∧RdF (fun k=>w_0.heap.size≤k) (some ⟨g,0,none⟩) (toksC (uW l)) w':=by
 refine zC (args:=[.string ⟨l.toArray⟩]) Tryz.func48 V 36 V (Nat.le_of_ble_eq_true V)<|Z1 0 V<|zI (H':=Hp (fun _=>False) w_0 [] [] sW) (fun u hu=>?_) ?_
 ·subst hu;exact Hp.weakX (Hp.startT sW.lies (F:=fun _=>True) ⟨trivial,hv.lt,hv⟩) fun u h=>h.2.2
 refine zY<|zX<|Za V V<|ZX<|zX<|Za V V<|ZX<|zX<|Za V V<|ZT<|zB<|xW (ι:={j:(Nat×List Tok)×(Option Addr×Nat) // TkI l j.1.1 j.1.2∧j.1.2.length≤j.2.2}) (fun j=>[(0,.string ⟨l.toArray⟩),(3,.slice j.1.2.1 j.1.1.2.length j.1.2.2),(4,.int .i64 j.1.1.1)]) (fun j=>Hp (fun _=>False) w_0 [] [⟨.slice j.1.2.1 j.1.1.2.length j.1.2.2,92,4,j.1.1.2.length,toksC j.1.1.2⟩] sW) (fun j=>l.length-j.1.1.1) ⟨((0,[]),(none,0)),⟨Nat.zero_le _,Nat.le_refl _,rfl⟩,Nat.le_refl _⟩ ?_ ?_ (fun j=>?_)
 ·exact .cons V<|.cons V<|.cons V<|.nil
 ·exact fun w h=>Hp.nil h _ _
 obtain⟨⟨⟨i,out⟩,⟨A,cap⟩⟩,⟨hi,hn,he⟩,hcap⟩:=j;dsimp only at hi hn he hcap ⊢;have hsp:=sD wE (l.drop i);rw[List.length_drop] at hsp;refine zB<|zY<|zX<|Zm V V<|Zm V V<|Zm V V ?_;(refine ZF rfl (yf_strLo rfl rfl U9 ?_ ?_ (show l.drop (Int.toNat (i:Int))=l.drop i from rfl)) ?_;(· omega);(· omega);skip);refine yS .none V  (v:=.int .i64 (spanL wE (l.drop i))) (by kernel_rfl) V (fun w hw=>span_any _ sG blank_fn (fun x hx=>by simp[sG];omega) (l.drop i) w) ?_;refine ZF V (yG V V (show IntKind.i64.wrap ((i:Int)+((spanL wE (l.drop i):Nat):Int))=((i+spanL wE (l.drop i):Nat):Int) from by rw[i64_in _ (by omega) (by omega)];simp)) ?_;refine Za V V<|ZX<|zY<|Z3r 0 3 4 V V V<|Zm V V<|Zm V V<|ZF V (wN V U9)<|ZF V (yU V V)<|ZT<|zQ V (fun h15=>?_) (fun h15=>?_)
 ·replace h15:=eq_of_beq h15;have hend:(l.drop i).drop (spanL wE (l.drop i))=[]:=by rw[List.drop_drop];exact List.drop_eq_nil_of_le (by omega)
  have hfin:uW l=out++[⟨0,i+spanL wE (l.drop i),[],0⟩]:=by rw[he,tokD_end hend]
  refine zY<|Z4r 0 3 4 15 V V V V<|Zm V V<|Zm V V<|ZF V (yV [.int .i64 0,.int .i64 0,.string ⟨#[]⟩,.int .u64 0] [(0,1),(1,1),(2,1),(3,1)] V (by kernel_rfl) (by kernel_rfl) V) ?_;refine zA .none V (xO (z:=.agg #[.int .i64 0,.int .i64 0,.string ⟨#[]⟩,.int .u64 0]) V V U87 (by kernel_rfl) (by kernel_rfl) V V) (fun b19=>?_);(refine wR (z:=.agg #[.int .i64 0,.int .i64 0,.string ⟨#[]⟩,.int .u64 0]) (bytes:=40) 0 0 .none rfl rfl rfl rfl rfl U87 (by kernel_rfl) rfl rfl rfl rfl rfl ?_ ?_ (fun a20 c20 h20=>?_);(· omega);(· omega);skip);refine Za V V<|ZT<|zO<|zV<|zS<|zV<|zS<|zK V V (fun w hw=>?_);exact⟨a20,c20,by rw[hfin,List.length_append];rfl,by rw[hfin,List.length_append];exact h20,(HpG.keep hw).ext,by rw[hfin,toksC_one];exact HpG.rowF (j:=0) hw rfl⟩
 ·replace h15:=yO h15
  obtain⟨c,r,hcr⟩:∃c r,(l.drop i).drop (spanL wE (l.drop i))=c::r:=by
   cases hq:(l.drop i).drop (spanL wE (l.drop i)) with
   | nil=>rw[List.drop_drop] at hq;have:=List.drop_eq_nil_iff.1 hq;omega
   | cons c r=>exact⟨c,r,rfl⟩
  have hcr2:l.drop (i+spanL wE (l.drop i))=c::r:=by rw[← hcr,List.drop_drop]
  have hlen:(c::r).length+(i+spanL wE (l.drop i))=l.length:=by rw[← hcr2,List.length_drop];omega
  have hnl:=tC c r;refine zJ<|zR<|zY<|Z4r 0 3 4 15 V V V V<|Zm V V<|Zm V V ?_;(refine ZF rfl (yf_strLo rfl rfl U9 ?_ ?_ (show l.drop (Int.toNat ((i+spanL wE (l.drop i):Nat):Int))=c::r from hcr2)) ?_;(· omega);(· omega);skip);refine yS .none V  (v:=.agg (tokC (xD (c::r))).toArray) (by kernel_rfl) V (fun w hw=>next_any c r (by omega) w (HpG.x hw)) ?_;refine zA .none V (yR (z:=.agg #[.int .i64 0,.int .i64 0,.string ⟨#[]⟩,.int .u64 0]) (cs:=[.int .i64 0,.int .i64 0,.string ⟨#[]⟩,.int .u64 0]) (by kernel_rfl) V) (fun b5=>?_);refine ZR 0 V V V V V (by kernel_rfl) ?_;refine ZX<|Z5r 0 3 4 5 15 V V V V V<|Zm V V<|ZF V (zZ (off:=1) (sz:=0) V U92 (by kernel_rfl) V) ?_;refine ZS 0 V V V V V (by kernel_rfl) ?_;refine ZX<|Z5r 0 3 4 5 15 V V V V V<|Zm V V<|ZF V (zF 0 V V U92 V (by kernel_rfl)) ?_;refine zA .none V (xO (z:=.agg #[.int .i64 0,.int .i64 0,.string ⟨#[]⟩,.int .u64 0]) V V U87 (by kernel_rfl) (by kernel_rfl) V V) (fun b29=>?_);(refine wR (z:=.agg #[.int .i64 0,.int .i64 0,.string ⟨#[]⟩,.int .u64 0]) (bytes:=40) 0 0 .none rfl rfl rfl rfl rfl U87 (by kernel_rfl) rfl rfl rfl rfl rfl ?_ ?_ (fun a30 c30 h30=>?_);(· omega);(· omega);skip);refine Za V V<|ZT<|Z5r 0 3 4 5 15 V V V V V<|Zm V V<|ZF V (Y92x2 V) ?_;refine ZF V (zW 1 V V V U9 V)<|ZF V (wN V U9)<|ZF V (yG V V (show IntKind.i64.wrap (((i+spanL wE (l.drop i):Nat):Int)+(((xD (c::r)).text.length:Nat):Int))=((i+spanL wE (l.drop i)+(xD (c::r)).text.length:Nat):Int) from by rw[i64_in _ (by omega) (by omega)];simp)) ?_;refine Za V V<|zN<|zG<|yH (ι:={j:(Nat×List Tok)×(Option Addr×Nat) // TkI l j.1.1 j.1.2∧j.1.2.length≤j.2.2}) ⟨((i+spanL wE (l.drop i)+(xD (c::r)).text.length,out++[⟨(xD (c::r)).kind,i+spanL wE (l.drop i),(xD (c::r)).text,(xD (c::r)).value⟩]),(some ⟨a30,0,none⟩,c30)),⟨?_,?_,?_⟩,?_⟩ ?_ ?_ (fun w h=>?_)
  ·show i+spanL wE (l.drop i)+(xD (c::r)).text.length≤l.length;omega
  ·rw[List.length_append];show out.length+1≤i+spanL wE (l.drop i)+(xD (c::r)).text.length;omega
  ·rw[he,tD hcr,List.append_assoc];show out++_=out++(_::tokD _ (l.drop (i+spanL wE (l.drop i)+(xD (c::r)).text.length)));rw[← List.drop_drop,← List.drop_drop,hcr]
  ·rw[List.length_append];exact h30
  ·show l.length-(i+spanL wE (l.drop i)+(xD (c::r)).text.length)<l.length-i;omega
  ·exact .cons V<|.cons (by dsimp only;rw[List.length_append];rfl)<|.cons V<|.nil
  ·dsimp only;rw[List.length_append,toksC_one];exact Hp.drop h (List.nil_sublist _) (List.Sublist.refl _)
end Go.Proofs.YtfpkpnkdnammnaaGreatDoor
