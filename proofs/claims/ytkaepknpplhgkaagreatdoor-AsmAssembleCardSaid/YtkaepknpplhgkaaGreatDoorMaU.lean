import Derived.Test.YtkaepknpplhgkaaGreatDoorProg
import Derived.Test.YtkaepknpplhgkaaGreatDoorMaT
import Derived.Lib.SliceRun
import Derived.Laws.Concat
import Derived.Laws.Strings
import Derived.Laws.Strings2
import Derived.Laws.IdiomStrings
import Derived.Lib.ItoaNum
import Derived.Lib.OthersKept
import Derived.Laws.Slices
import Derived.Recover
namespace Go.Proofs.YtkaepknpplhgkaaGreatDoor
open Go.RowKit
section
variable {P:Program}{ops:Array Oper}{Q:Exit→Act→World→Prop}{n:Fr}{m:List (Nat×Value)}{ty:TypeId}{H J:World→Prop}{G B:Nat→Prop}{w0 w w':World}{L:List (Nat×Obj)}{R:List Rw}{X:World→Prop}{σ:List Nat}
theorem uY {id:Nat}{l:List Oper}(k:Nat) (σ:List Nat) (J:World→Prop) (hm:P.follows .mixedOrders=true) (hB:okT l.toArray k σ=true) (hJ:tY J) (hj:∀w,Hp B w0 L R X w→J w)
  (h:∀n0,w0.heap.size≤n0→WD P l.toArray J (fun _ a w=>wpList P l.toArray Q (l.drop k) a w) σ (fun j=>j<n0) n m (HpG (fun j=>j<n0) B w0 L R X)):WC P (.region id l.toArray true) Q n m (Hp B w0 L R X):=fun a w hs hw =>
 region_ST (J:=J) hm hB (fun k=>k<w.heap.size) (HpG (fun k=>k<w.heap.size) B w0 L R X) HpG.stab hJ (HpG.drew hw.inn) (hj _ (Hp.drew hw)) (fun _ h=>h) (h w.heap.size (HpG.size hw) a hs)
theorem uE {G':Nat→Prop}{tail:List Oper}(h:WL P ops Q tail n m (Hp B w0 L R X)):WD P ops J (fun _ a w=>wpList P ops Q tail a w) [] G' n m (HpG G B w0 L R X):=fun a hs w hw _=>h a w hs hw.hp
theorem wd_weak {H':World→Prop}(hH:∀w,H w→H' w) (h:WD P ops J Q σ G n m H'):WD P ops J Q σ G n m H:=fun a hs=>nW hH (h a hs)
theorem wd_newH {op:Op}{d:Nat}{pos:String}{af:Array Edge}{g:Option (Nat×Bool)}{ob:Obj}{f:Nat→Value}(hk:kd ⟨some d,op,ty,pos,af,g⟩=.new) (hg:Gd ops m g) (hd:Nat.blt d n=true) (hG:∀k,k<w0.heap.size→G k)
  (hn:NF P op ty n m ob f) (h:∀b,¬G b→WD P ops J Q σ (fun k=>k=b∨G k) n ((d,f b)::m) (HpG (fun k=>k=b∨G k) B w0 ((b,ob)::L) R X)):WDo P ops J Q ⟨some d,op,ty,pos,af,g⟩ σ G n m (HpG G B w0 L R X) :=
 wd_new hk hg hd hn fun b hb=>wd_weak (fun _ ⟨h1,h2⟩=>h1.join h2 hb (Nat.le_of_not_lt fun hlt=>hb (hG b hlt))) (h b hb)
def Blk (b:Nat) (o:Obj) (w:World):Prop:=w.heap[b]? = some o
theorem Blk.stab {b:Nat}{o:Obj}:tY (Blk b o):=fun w _ h=>(Below.heap_alloc w _ b (Array.getElem?_eq_some_iff.1 h).1).trans h
theorem Blk.keep {b:Nat}{o:Obj}{K:Nat→Prop}(h:Blk b o w) (hk:Keep K w w') (hb:¬K b):Blk b o w':=(hk.block b (Array.getElem?_eq_some_iff.1 h).1 hb).trans h
theorem HpG.blk (h:HpG G B w0 L R X w) {k g:Nat}{o:Obj}(hk:L[k]? = some (g,o)):Blk g o w:=h.own _ (List.mem_of_getElem? hk)
theorem HpG.ne (h:HpG G B w0 L R X w) {i j g g':Nat}{o o':Obj}(hi:L[i]? = some (g,o)) (hj:L[j]? = some (g',o')) (hij:Nat.beq i j=false):g≠g':=fun e=>by
 subst e;have hnd:(L.map (·.1)).Nodup:=(List.nodup_append.1 h.nd).1;have:=nodup_idx hnd (x:=g) (i:=i) (j:=j) (by rw[List.getElem?_map,hi];rfl) (by rw[List.getElem?_map,hj];rfl);subst this;simp at hij
section
variable {ι:Type}{C:ι→Prop}{d:Nat}{pos:String}{af:Array Edge}{gd:Option (Nat×Bool)}{f:FuncId}{args:List Operand}{ats:Array TypeId}{vs:List Value}{g:Nat}{ob:Obj}
theorem wd_pureE {val:ι→Value}(hg:Gd ops m gd) (hd:Nat.blt d n=true) (hf:goes P f=true) (ha:evl m args=some vs)
  (hJ:∀w w',J w→Ext w w'→J w')
  (hC:∀w,HpG G B w0 L R X w→Calls P f vs.toArray w fun e w'=>∃i,C i∧e=.returned (val i)∧Ext w w')
  (h:∀i,C i→WD P ops J Q σ G n ((d,val i)::m) (HpG G B w0 L R X)):WDo P ops J Q ⟨some d,.call { callee:=.value (.func f),args:=args.toArray,argTypes:=ats },ty,pos,af,gd⟩ σ G n m (HpG G B w0 L R X) :=
 wd_chain (ι:={i // C i}) (val:=fun i=>val i.1) (H':=fun _=>HpG G B w0 L R X) rfl (fun _ _ e=>by cases e) hg hd (fun _=>HpG.stab)
  (fun _ w _ _ _ _ hs hw hj=>(ch_call hs hf ha ((hC w hw).mono fun _ _ ⟨i,c,e1,e2⟩=>⟨_,e1,⟨⟨i,c⟩,rfl,e2⟩⟩)).mono
   (R:=fun v w'=>∃i:{i // C i},v=val i.1∧Ext w w') fun v w' ⟨i,e1,e2⟩ =>
    ⟨Keep.of_ext e2,hJ w w' hj e2,i,e1,hw.onE e2⟩) fun i=>h i.1 i.2
theorem wd_pure {v:Value}(hg:Gd ops m gd) (hd:Nat.blt d n=true) (hf:goes P f=true) (ha:evl m args=some vs)
  (hJ:∀w w',J w→Ext w w'→J w')
  (hC:∀w,HpG G B w0 L R X w→Calls P f vs.toArray w fun e w'=>e=.returned v∧Ext w w')
  (h:WD P ops J Q σ G n ((d,v)::m) (HpG G B w0 L R X)):WDo P ops J Q ⟨some d,.call { callee:=.value (.func f),args:=args.toArray,argTypes:=ats },ty,pos,af,gd⟩ σ G n m (HpG G B w0 L R X) :=
 wd_pureE (ι:=Unit) (C:=fun _=>True) (val:=fun _=>v) hg hd hf ha hJ (fun w hw=>(hC w hw).mono fun _ _ ⟨e1,e2⟩=>⟨(),trivial,e1,e2⟩) fun _ _=>h
end
end
end Go.Proofs.YtkaepknpplhgkaaGreatDoor
namespace Go.Proofs.YtkaepknpplhgkaaGreatDoor
open Go.RowKit
section
variable {P:Program}{ops:Array Oper}{Q:Exit→Act→World→Prop}{n:Fr}{m:List (Nat×Value)}{ty:TypeId}{H J:World→Prop}{G B:Nat→Prop}{w0 w w':World}{L:List (Nat×Obj)}{R:List Rw}{X:World→Prop}
theorem wT {l:List Oper}{H':World→Prop}(hH:∀w,H w→H' w) (h:WL P ops Q l n m H'):WL P ops Q l n m H:=fun a w hs hw=>h a w hs (hH w hw)
theorem Hp.toRow {g E size k:Nat}{cs:List Value}(h:Hp B w0 ((g,bk E cs)::L) R X w) (hg:w0.heap.size≤g) (hl:cs.length=k*size) (hm:k≤maxLen):Hp B w0 L (⟨.slice (some ⟨g,0,none⟩) k k,E,size,k,cs⟩::R) X w:=by
 have hperm:(uR L (⟨.slice (some ⟨g,0,none⟩) k k,E,size,k,cs⟩::R)).Perm (uR ((g,bk E cs)::L) R):=by
  unfold uR;rw[List.filterMap_cons];exact List.perm_middle
 obtain⟨F,hF,hX⟩:=HpG.foot h;refine⟨HpG.keep h,fun p hp=>HpG.own h p (List.mem_cons_of_mem _ hp),fun p hp=>HpG.mine h p (List.mem_cons_of_mem _ hp),fun r hr=>?_,hperm.nodup_iff.2 (HpG.nd h),fun _ _=>trivial,F,fun j hj=>⟨(hF j hj).1,(hF j hj).2.1,fun hx=>(hF j hj).2.2.1 (hperm.mem_iff.1 hx),trivial⟩,hX⟩;rcases List.mem_cons.1 hr with rfl|hr
 ·refine⟨by simpa using hl,.inr ⟨g,k,cs.toArray,rfl,hg,HpG.own h _ (List.mem_cons_self ..),Nat.le_refl _,hm,by simpa using hl,?_⟩⟩;show cs.take (k*size)=cs;rw[← hl];exact List.take_length
 ·exact HpG.rows h r hr
theorem HpG.old (h:HpG G (fun _=>False) w0 L R X w) {k g:Nat}{o:Obj}(hk:L[k]? = some (g,o)):w0.heap.size≤g:=(h.mine _ (List.mem_of_getElem? hk)).resolve_right id
end
end Go.Proofs.YtkaepknpplhgkaaGreatDoor
namespace Go.Proofs.YtkaepknpplhgkaaGreatDoor
open Go.RowKit
section
variable {P:Program}{ops:Array Oper}{Q:Exit→Act→World→Prop}{n:Fr}{m:List (Nat×Value)}{ty:TypeId}{H J:World→Prop}{G B:Nat→Prop}{w0 w w':World}{L:List (Nat×Obj)}{R:List Rw}{X:World→Prop}
theorem HpG.rowAt (h:HpG G B w0 L R X w) {k:Nat}{r:Rw}(hk:R[k]? = some r):w.ownsRow w0.heap.size r.E r.size r.v r.n r.xs:=h.rows _ (List.mem_of_getElem? hk)
def sV (A:Option Addr) (cap l size:Nat):Option Addr:=if cap=l then A else A.map (·.add (l*size))
theorem yf_sliceHi {x hi:Operand}{t e:TypeId}{k:IntKind}{A:Option Addr}{len cap i size:Nat}{j:Int}(hx:ev m x=some (.slice A len cap)) (hh:ev m hi=some (.int k j)) (ht:P.underlying t=some (.slice e)) (hs':(P.info? e).map (·.size)=some size) (hj:j=i) (hi':i≤cap) :
  YF P (.slice t x none (some hi) none) ty n m H (.slice A i cap):=fun _ w d pos af gd hs hw=>by
 subst hj
 have hsl:(Instr.slice t (.slice A len cap) none (some (.int k (i:Int))) none).run P w=.ok (.slice A i cap) w:=by
  have hb:¬(cap<i):=by omega
  cases A with
  | none=>simp[Instr.slice,run_underlying ht,Instr.sliceBounds,Instr.sliceBound,asIntOf,hi',uJ hs']
  | some a=>simp[Instr.slice,run_underlying ht,Instr.sliceBounds,Instr.sliceBound,asIntOf,hi',uJ hs',Addr.add]
 simp[Yl,execOp,hs.ev hx,hs.ev hh,Instr.sliceAt,run_underlying ht,hsl]
theorem qF {x lo:Operand}{t e:TypeId}{k:IntKind}{A:Option Addr}{len cap i size:Nat}{j:Int}(hx:ev m x=some (.slice A len cap)) (hh:ev m lo=some (.int k j)) (ht:P.underlying t=some (.slice e)) (hs':(P.info? e).map (·.size)=some size) (hj:j=i) (hi':i≤len) :
  YF P (.slice t x (some lo) none none) ty n m H (.slice (sV A cap i size) (len-i) (cap-i)):=fun _ w d pos af gd hs hw=>by
 subst hj
 have hsl:(Instr.slice t (.slice A len cap) (some (.int k (i:Int))) none none).run P w=.ok (.slice (sV A cap i size) (len-i) (cap-i)) w:=by
  simp[Instr.slice,run_underlying ht,Instr.sliceBounds,Instr.sliceBound,asIntOf,hi',uJ hs',sV]
 simp[Yl,execOp,hs.ev hx,hs.ev hh,Instr.sliceAt,run_underlying ht,hsl]
theorem HpG.rowBlock (h:HpG G B w0 L R X w) {k g len cap E size:Nat}{xs:List Value}(hk:R[k]? = some ⟨.slice (some ⟨g,0,none⟩) len cap,E,size,len,xs⟩):∃rest,w.heap[g]? = some (bk E (xs++rest)):=by
 obtain⟨f1,hr⟩:=h.rowAt hk;rcases hr with ⟨hv,_⟩|⟨g',c,cur,hv,h1,h2,h3,h4,h5,h6⟩
 ·cases hv
 ·injection hv with a1 a2 a3;injection a1 with a1;injection a1 with a1 _ _;subst a1;dsimp only at h2 h6;refine⟨cur.toList.drop (len*size),?_⟩;rw[h2,← h6];simp
end
end Go.Proofs.YtkaepknpplhgkaaGreatDoor
namespace Go.Proofs.YtkaepknpplhgkaaGreatDoor
open Go.RowKit
section
variable {P:Program}{n:Fr}{m:List (Nat×Value)}{ty:TypeId}{H J J':World→Prop}
theorem zE {ops:Array Oper}{Q:Exit→Act→World→Prop}{rest:List Oper}{op:Op}{d:Nat}{pos:String}{af:Array Edge}{j t:Nat}{want:Bool}(ht:(ops[j]?).bind (·.dst)=some t) (hv:look m t=some undef) (hd:Nat.blt d n=true) (h:WL P ops Q rest n ((d,undef)::m) H) :
  WL P ops Q (⟨some d,op,ty,pos,af,some (j,want)⟩::rest) n m H:=fun a w hs hw=>by
 have hg:Region.wanted (⟨some d,op,ty,pos,af,some (j,want)⟩:Oper) (yielded ops a.tmps)=false:=by
  have e:yielded ops a.tmps j=none:=by simp[yielded,ht,hs.get t _ hv,undef]
  simp[Region.wanted,e]
 unfold wpList;rw[if_neg (by rw[hg];exact Bool.false_ne_true)];exact h _ w (hs.put hd) hw
def J2 (b c:Nat) (o p:Obj) (w:World):Prop:=Blk b o w∧Blk c p w
theorem J2.stab {b c:Nat}{o p:Obj}:tY (J2 b c o p):=fun w ob ⟨h1,h2⟩=>⟨Blk.stab w ob h1,Blk.stab w ob h2⟩
theorem Blk.onE {b:Nat}{o:Obj}{w w':World}(h:Blk b o w) (hx:Ext w w'):Blk b o w':=h.keep (K:=fun _=>False) (Keep.of_ext hx) id
theorem J2.ext {b c:Nat}{o p:Obj}:∀w w',J2 b c o p w→Ext w w'→J2 b c o p w':=fun _ _ ⟨h1,h2⟩ hx=>⟨h1.onE hx,h2.onE hx⟩
theorem yf_eqlAgg {x y:Operand}{t t':TypeId}{xs ys:Array Value}{r:Bool}(hx:ev m x=some (.agg xs)) (hy:ev m y=some (.agg ys)) (hm:P.eqGuardType P.depth t=false) (h:∀w,(Op.equalIn 10000 t (.agg xs) (.agg ys)).run P w=.ok r w):YF P (.binOp .eql t x y t') ty n m H (.bool r):=fun _ w d pos af g hs hw=>by
 have:=run_eql_struct (P:=P) w t xs ys;rw[h w] at this;simp only[Result.andThen] at this;simp[Yl,execOp,hs.ev hx,hs.ev hy,run_eqGuard_agg (P:=P) w .eql t x y xs ys hm,this]
end
end Go.Proofs.YtkaepknpplhgkaaGreatDoor
namespace Go.Proofs.YtkaepknpplhgkaaGreatDoor
open Go.RowKit
attribute [local simp] Result.andThen
section
variable {P:Program}{n:Fr}{m:List (Nat×Value)}{ty:TypeId}{H:World→Prop}{G B:Nat→Prop}{w0 w w':World}{L:List (Nat×Obj)}{R:List Rw}{X:World→Prop}
end
end Go.Proofs.YtkaepknpplhgkaaGreatDoor
namespace Go.Proofs.YtkaepknpplhgkaaGreatDoor
open Go.RowKit
section
variable {P:Program}{n:Fr}{m:List (Nat×Value)}{ty:TypeId}{G B:Nat→Prop}{w0:World}{L:List (Nat×Obj)}{R:List Rw}{X:World→Prop}
theorem yB {H:World→Prop}{x y:Operand}{t t':TypeId}{a b:List UInt8}(hx:ev m x=some (.string ⟨a.toArray⟩)) (hy:ev m y=some (.string ⟨b.toArray⟩)) (hl:a.length+b.length≤9223372036854775807):YF P (.binOp .add t x y t') ty n m H (.string ⟨(a++b).toArray⟩):=fun _ w d pos af g hs hw=>by
 have:=run_string_add_sum (P:=P) w ⟨a.toArray⟩ ⟨b.toArray⟩ (by simpa [ByteArray.size] using hl);rw[ByteArray.mk_append_mk] at this;simp[Yl,execOp,hs.ev hx,hs.ev hy,binOp,eqGuard_add,this]
theorem yZ {H:World→Prop}{x y:Operand}{t t':TypeId}{a b:List UInt8}(hx:ev m x=some (.string ⟨a.toArray⟩)) (hy:ev m y=some (.string ⟨b.toArray⟩)) (_ht:P.underlying t=some .string):YF P (.binOp .eql t x y t') ty n m H (.bool (decide (a=b))):=fun _ w d pos af g hs hw=>by
 have e:decide (a=b)=(((⟨a.toArray⟩:ByteArray).toList)==((⟨b.toArray⟩:ByteArray).toList)):=by
  rw[ByteArray.toList_eq,ByteArray.toList_eq,Bool.eq_iff_iff];simp
 rw[e];simp[Yl,execOp,hs.ev hx,hs.ev hy,binOp,eqGuard_at_string,Op.stringOp]
theorem rE {H:World→Prop}{x lo hi:Operand}{t:TypeId}{k k':IntKind}{i j:Int}{l c:List UInt8}(hx:ev m x=some (.string ⟨l.toArray⟩)) (hlo:ev m lo=some (.int k i)) (hhi:ev m hi=some (.int k' j)) (ht:P.underlying t=some .string) (h0:0≤i) (h1:i≤j) (h2:j≤l.length) (hc:(l.drop i.toNat).take (j.toNat-i.toNat)=c):YF P (.slice t x (some lo) (some hi) none) ty n m H (.string ⟨c.toArray⟩):=fun _ w d pos af g hs hw=>by
 have:=run_slice_string (P:=P) w t ⟨l.toArray⟩ k k' i j ht h0 h1 (by simpa [ByteArray.size] using h2);rw[ByteArray.extract_mk,hc] at this;simp[Yl,execOp,hs.ev hx,hs.ev hlo,hs.ev hhi,Instr.sliceAt,run_underlying ht,this]
theorem sO {x:Operand}{src dst e:TypeId}{g o len cap T:Nat}{cs:List Value}(k:Nat) (l:List UInt8) (hx:ev m x=some (.slice (some ⟨g,o,none⟩) len cap)) (hk:L[k]? = some (g,bk T cs)) (hs':P.underlying src=some (.slice e)) (he:P.underlying e=some (.int .u8)) (hd:P.underlying dst=some .string) (hl:l.length=len) (hc:∀j (hj:j<l.length),cs[o+j]? = some (.int .u8 (l[j].toNat:Int))) :
  YF P (.convert src dst x) ty n m (HpG G B w0 L R X) (.string ⟨l.toArray⟩):=fun _ w d pos af gd hs hw=>by
 subst hl
 have:=run_convert_bytes_back (P:=P) w src dst e ⟨g,o,none⟩ cap l hs' he hd (fun j hj=>by
  have e:(⟨g,o,none⟩:Addr).add j=⟨g,o+j,none⟩:=by unfold Addr.add;split<;>simp_all
  rw[e];exact hw.cell hk (hc j hj))
 simp[Yl,execOp,hs.ev hx,this]
theorem rO {t:TypeId}:NF P (.makeMap t none) ty n m (.map #[] 0) (fun g=>.map (some g)):=fun a w d pos af g hs=>by
 simp[execOp,run_makeMap]
end
theorem dec_len {u k:Nat}(h:u<10 ^ k) (hk:1≤k):(Lib.decDigits u).length≤k:=by
 induction k generalizing u with
 | zero=>omega
 | succ k ih =>
  rw[Lib.decDigits]
  split
  ·simp
  ·rename_i h10;rw[List.length_append,List.length_singleton];rcases Nat.eq_zero_or_pos k with rfl|hk0
   ·simp at h;omega
   ·have:=ih (u:=u/10) (by rw[Nat.pow_succ] at h;omega) hk0;omega
end Go.Proofs.YtkaepknpplhgkaaGreatDoor
namespace Go.Proofs.YtkaepknpplhgkaaGreatDoor
open Go.RowKit
section
variable {P:Program}{ops:Array Oper}{Q:Exit→Act→World→Prop}{n:Fr}{m:List (Nat×Value)}{ty:TypeId}{G B:Nat→Prop}{w0:World}{L:List (Nat×Obj)}{R:List Rw}{X:World→Prop}{rest:List Oper}{d:Nat}{pos:String}{af:Array Edge}{gd:Option (Nat×Bool)}
theorem wX {H:World→Prop}{fn:Fn}{first captured:List Operand}{us vs:List Value}(h1:evl m first=some us) (h2:evl m captured=some vs):YF P (.makeFunc fn first.toArray captured.toArray) ty n m H (.func fn us.toArray vs.toArray):=fun _ w d pos af gd hs hw=>by
 have e1:=oX hs h1;have e2:=oX hs h2;simp[Yl,execOp,Instr.makeFunc,e1,e2]
theorem ch_callV {a:Act}{x:Operand}{f:FuncId}{args:List Operand}{ats:Array TypeId}{us vs cs:List Value}{w:World}{d:Option Tmp}{Rr:Value→World→Prop}(hs:Sat n m a) (hf:goes P f=true) (hx:ev m x=some (.func (.func f) us.toArray cs.toArray)) (ha:evl m args=some vs)
  (hC:Calls P f (us++vs++cs).toArray w fun e w'=>∃v,e=.returned v∧Rr v w'):Ch P ⟨d,.call { callee:=.value x,args:=args.toArray,argTypes:=ats },ty,pos,af,gd⟩ a w Rr:=by
 have hrun:(execOp a.eval ⟨d,.call { callee:=.value x,args:=args.toArray,argTypes:=ats },ty,pos,af,gd⟩).run P w=.ok (.enter f (us++vs++cs).toArray) w:=by
  have:=oX hs ha;simp[execOp,resolve,hs.ev hx,Deferred.ofValue,invoke,this,qO hf]
 unfold Ch;rw[hrun];exact hC
theorem pN {ι:Type}{x:Operand}{f:FuncId}{args:List Operand}{ats:Array TypeId}{us vs cs:List Value}{H:World→Prop}{val:ι→Value}{H':ι→World→Prop}(hf:goes P f=true) (hx:ev m x=some (.func (.func f) us.toArray cs.toArray)) (ha:evl m args=some vs)
  (hC:∀w,H w→Calls P f (us++vs++cs).toArray w fun e w'=>∃v,e=.returned v∧∃i,v=val i∧H' i w'):CF P (.call { callee:=.value x,args:=args.toArray,argTypes:=ats }) ty n m H val H':=fun _ w _ _ _ _ hs hw=>ch_callV hs hf hx ha (hC w hw)
def FnOk (P:Program) (fv:Value) (arg:Nat→Value) (q:Nat→Bool):Prop:=∃f,fv=.func (.func f) #[] #[]∧goes P f=true∧∀r:Nat,r≤2147483647→∀w,Calls P f #[arg r] w fun e w'=>e=.returned (.bool (q r))∧Ext w w'
theorem wl_callQ {x y:Operand}{ats:Array TypeId}{fv:Value}{arg:Nat→Value}{q:Nat→Bool}{r:Nat}(hg:Gd ops m gd) (hd:Nat.blt d n=true) (hq:FnOk P fv arg q) (hx:ev m x=some fv) (hy:ev m y=some (arg r)) (hr:r≤2147483647)
  (h:WL P ops Q rest n ((d,.bool (q r))::m) (HpG G B w0 L R X)):WL P ops Q (⟨some d,.call { callee:=.value x,args:=#[y],argTypes:=ats },ty,pos,af,gd⟩::rest) n m (HpG G B w0 L R X):=by
 obtain⟨f,rfl,hf,hC⟩:=hq;refine xY (ι:=Unit) (val:=fun _=>.bool (q r)) (H':=fun _=>HpG G B w0 L R X) hg hd (pN (us:=[]) (cs:=[]) (args:=[y]) (vs:=[arg r]) hf hx (by simp[evl,hy]) fun w hw=>?_) fun _=>h;exact (hC r hr w).mono fun e w' ⟨e1,e2⟩=>⟨_,e1,(),rfl,hw.onE e2⟩
theorem yf_strHi {H:World→Prop}{x hi:Operand}{t:TypeId}{k':IntKind}{j:Int}{l c:List UInt8}(hx:ev m x=some (.string ⟨l.toArray⟩)) (hhi:ev m hi=some (.int k' j)) (ht:P.underlying t=some .string) (h0:0≤j) (h2:j≤l.length) (hc:l.take j.toNat=c):YF P (.slice t x none (some hi) none) ty n m H (.string ⟨c.toArray⟩):=fun _ w d pos af g hs hw=>by
 have:=run_slice_string_h (P:=P) w t ⟨l.toArray⟩ ht k' j h0 (by simpa [ByteArray.size] using h2);rw[ByteArray.extract_mk,show (l.drop 0).take (j.toNat-0)=c by simpa using hc] at this;simp[Yl,execOp,hs.ev hx,hs.ev hhi,Instr.sliceAt,run_underlying ht,this]
theorem rD {H:World→Prop}{x lo:Operand}{t:TypeId}{k':IntKind}{j:Int}{l c:List UInt8}(hx:ev m x=some (.string ⟨l.toArray⟩)) (hlo:ev m lo=some (.int k' j)) (ht:P.underlying t=some .string) (h0:0≤j) (h2:j≤l.length) (hc:l.drop j.toNat=c):YF P (.slice t x (some lo) none none) ty n m H (.string ⟨c.toArray⟩):=fun _ w d pos af g hs hw=>by
 have:=run_slice_string_l (P:=P) w t ⟨l.toArray⟩ ht k' j h0 (by simpa [ByteArray.size] using h2);rw[ByteArray.extract_mk,show (l.drop j.toNat).take ((⟨l.toArray⟩:ByteArray).size-j.toNat)=c by rw[← hc];exact List.take_of_length_le (by simp[ByteArray.size])] at this;simp[Yl,execOp,hs.ev hx,hs.ev hlo,Instr.sliceAt,run_underlying ht,this]
theorem xX {H:World→Prop}{x y:Operand}{t:TypeId}{k:IntKind}{i:Int}{j:Nat}{l:List UInt8}{c:UInt8}(hx:ev m x=some (.string ⟨l.toArray⟩)) (hy:ev m y=some (.int k i)) (ht:P.underlying t=some .string) (hi:i=j) (hj:l[j]? = some c):YF P (.index t x y) ty n m H (.int .u8 c.toNat):=fun a w d pos af gd hs hw=>by
 obtain⟨h1,h2⟩:=List.getElem?_eq_some_iff.1 hj;have hb:j<(⟨l.toArray⟩:ByteArray).size:=by simpa [ByteArray.size] using h1
 have:=yf_indexStr (H:=H) (P:=P) (ty:=ty) (n:=n) hx hy ht hi hb a w d pos af gd hs hw
 have e:(⟨l.toArray⟩:ByteArray)[j]'hb=c:=by
  show l.toArray[j]=c
  simpa using h2
 rw[e] at this;exact this
theorem wZ {H:World→Prop}{x:Operand}{t:TypeId}{l:List UInt8}(hx:ev m x=some (.string ⟨l.toArray⟩)) (ht:P.underlying t=some .string):YF P (.call { callee:=.builtin .len,args:=#[x],argTypes:=#[t] }) ty n m H (.int .i64 l.length):=by
 have:=yf_lenStr (P:=P) (ty:=ty) (n:=n) (H:=H) hx ht
 simpa [ByteArray.size] using this
theorem uL {H:World→Prop}{x y:Operand}{t t':TypeId}{a b:List UInt8}(hx:ev m x=some (.string ⟨a.toArray⟩)) (hy:ev m y=some (.string ⟨b.toArray⟩)) (_ht:P.underlying t=some .string):YF P (.binOp .neq t x y t') ty n m H (.bool (!decide (a=b))):=fun _ w d pos af g hs hw=>by
 have e:decide (a=b)=(((⟨a.toArray⟩:ByteArray).toList)==((⟨b.toArray⟩:ByteArray).toList)):=by
  rw[ByteArray.toList_eq,ByteArray.toList_eq,Bool.eq_iff_iff];simp
 rw[e];simp[Yl,execOp,hs.ev hx,hs.ev hy,binOp,eqGuard_at_string,Op.stringOp]
theorem fill_list:∀(vs:List (Nat×Value)) (k:Nat) (pre mid:List Value),pre.length=k→mid.length=vs.length→vs.map (·.1)=(List.range vs.length).map (·+k)→(∀p∈vs,p.2.oneCell'=true)→Instr.fill (fun i=>some (i*1,1)) (pre++mid).toArray vs=some (pre++vs.map (·.2)).toArray
 | [],k,pre,mid,h1,h2,_,_=>by
  have:mid=[]:=List.eq_nil_of_length_eq_zero (by simpa using h2);subst this;rfl
 | (i,v)::vs,k,pre,mid,h1,h2,h3,h4=>by
  cases mid with
  | nil=>simp at h2
  | cons u mid =>
   rw[List.length_cons,List.range_succ_eq_map,List.map_cons,List.map_cons,List.cons.injEq] at h3;obtain⟨e1,e2⟩:=h3;have hi:i=k:=by simpa using e1
   subst hi;have hv:v.cells=[v].toArray:=by have:=h4 (i,v) (List.mem_cons_self ..);cases v<;>first|rfl|cases this
   have:=nJ (size:=1) (off:=i) (place:=fun i=>some (i*1,1)) (i:=i) (v:=v) (vs:=[v]) (pre:=pre) (mid:=[u]) (post:=mid) (by simp) hv rfl h1 rfl vs;have e3:pre++[u]++mid=pre++u::mid:=by simp
   rw[e3] at this;rw[this];have ih:=fill_list vs (i+1) (pre++[v]) mid (by simp[h1]) (by simpa using h2) (by rw[e2,List.map_map];apply List.map_congr_left;intro j _;simp;omega) (fun p hp=>h4 p (List.mem_cons_of_mem _ hp));rw[ih];simp
theorem tX {t e:TypeId}{parts:List (Nat×Operand)}{vs:List (Nat×Value)}{len:Nat}{z:Value}(hp:evs m parts=some vs) (hl:len=vs.length) (hi:vs.map (·.1)=List.range vs.length) (h1:vs.all (fun p=>p.2.oneCell')=true) (ht:P.underlying t=some (.slice e)) (hz:(P.info? e).bind (·.zero)=some z) (hs':(P.info? e).map (·.size)=some 1) (h0:Nat.blt 0 len=true) (h2:Nat.ble len 16777216=true) :
  NF P (.buildSlice t len parts.toArray) ty n m (bk e (vs.map (·.2))) (fun g=>.slice (some ⟨g,0,none⟩) len len):=fun a w d pos af gd hs=>by
 subst hl;have h0':0<vs.length:=by simpa [Nat.blt_eq] using h0
 have h2':=Nat.le_of_ble_eq_true h2
 have h3:=run_bs (P:=P) (parts:=vs.toArray) (len:=vs.length) ht hz hs' (by omega) (by omega) (cs:=vs.map (·.2)) (fun mid hm=>by
  have:=fill_list vs 0 [] mid rfl (by simpa using hm) (by simpa using hi) (fun p hp=>List.all_eq_true.1 h1 p hp)
  simpa using this) w
 have e2:=evs_map hs hp;simp only[execOp,List.map_toArray];rw[show parts.map (fun x=>match x with|(i,x)=>(i,a.eval x))=vs from e2];simp[h3]
end
end Go.Proofs.YtkaepknpplhgkaaGreatDoor
namespace Go.Proofs.YtkaepknpplhgkaaGreatDoor
open Go.RowKit
section
variable {P:Program}{ops:Array Oper}{Q:Exit→Act→World→Prop}{J:World→Prop}
def QA (P:Program) (ops:Array Oper) (Q:Exit→Act→World→Prop) (k:Nat) (listed:Array Bool):Exit→Act→World→Prop:=fun e a w=>match e with
 | .normal=>wpAny P .any ops Q k listed a w
 | e=>Q e a w
section
variable {k:Nat}{n:Fr}{listed:Array Bool}{m:List (Nat×Value)}{H:World→Prop}
theorem QA.wp {o:Oper}{a:Act}{w:World}{K:Act→World→Prop}(hK:∀a w,K a w→wpAny P .any ops Q k listed a w) (h:o.wp P a w K (QA P ops Q k listed)):o.wp P a w (wpAny P .any ops Q k listed) Q:=by
 unfold Oper.wp at *;generalize (execOp a.eval o).run P w=r at *
 cases r with
 | ok x w' =>
  cases x
  case value v=>exact hK _ _ h
  case skip=>exact hK _ _ h
  case defer d=>exact hK _ _ h
  case enter f args =>
   refine Calls.mono h fun e w'' he=>?_;cases e
   ·exact hK _ _ he
   ·exact he
   ·exact he
  case row r args=>exact Rows.mono h fun v w'' hv=>hK _ _ hv
  all_goals exact h.elim
 | halt x w' =>
  cases x
  all_goals first|exact h|exact h.elim
variable {G B:Nat→Prop}{w0:World}{L:List (Nat×Obj)}{R:List Rw}{X:World→Prop}
end
theorem wq_to {n:Fr}{m m':List (Nat×Value)}{H H':World→Prop}{e:Exit}(h:WQ Q e n m' H') (hp:Pr m m') (hH:∀w,H w→H' w):WQ Q e n m H:=fun a w hs hw=>h a w (hs.weak hp) (hH w hw)
end
end Go.Proofs.YtkaepknpplhgkaaGreatDoor
namespace Go.Proofs.YtkaepknpplhgkaaGreatDoor
open Go.RowKit
section
variable {P:Program}{ops:Array Oper}{Q:Exit→Act→World→Prop}{n:Fr}{m:List (Nat×Value)}{H:World→Prop}
def QL (Q:Exit→Act→World→Prop) (K:Act→World→Prop):Exit→Act→World→Prop:=fun e a w=>match e with
 | .normal=>K a w
 | e=>Q e a w
theorem QL.wp {o:Oper}{a:Act}{w:World}{K K':Act→World→Prop}{N:Act→World→Prop}(hK:∀a w,K a w→K' a w) (h:o.wp P a w K (QL Q N)):o.wp P a w K' Q:=by
 unfold Oper.wp at *;generalize (execOp a.eval o).run P w=r at *
 cases r with
 | ok x w' =>
  cases x
  case value v=>exact hK _ _ h
  case skip=>exact hK _ _ h
  case defer d=>exact hK _ _ h
  case enter f args =>
   refine Calls.mono h fun e w'' he=>?_;cases e
   ·exact hK _ _ he
   ·exact he
   ·exact he
  case row r args=>exact Rows.mono h fun v w'' hv=>hK _ _ hv
  all_goals exact h.elim
 | halt x w' =>
  cases x
  all_goals first|exact h|exact h.elim
end
end Go.Proofs.YtkaepknpplhgkaaGreatDoor
namespace Go.Proofs.YtkaepknpplhgkaaGreatDoor
open Go.RowKit
variable {P:Program}{ops:Array Oper}{Q:Exit→Act→World→Prop}{n:Fr}{m:List (Nat×Value)}{ty:TypeId}{H:World→Prop}{rest:List Oper}
abbrev pan (v:Value):List PanicEntry:=[{ v:=v,recovered:=false }]
theorem zO {K:Act→World→Prop}{ch:List PanicEntry}(h:WQ Q (.panic ch) n m H):WQ (Exit.then K Q) (.panic ch) n m H:=h
theorem yX {i:Nat}{ch:List PanicEntry}(h:WQ Q (.panic ch) n m H):WQ (Exit.inBlock i Q) (.panic ch) n m H:=h
theorem xZ {fn:Func}{R:Ending→World→Prop}{ch:List PanicEntry}(h:∀w,H w→R (.panicked ch) w) (hz:n.D=[]:=by rfl):WQ (bodyPost P fn R) (.panic ch) n m H:=fun _ w hs hw=>⟨hs.dfr.trans hz,h w hw⟩
theorem oE {o:Option Nat}{f:FuncId}{args:List Operand}{ats:Array TypeId}{vs:List Value}{ch:List PanicEntry}{H':World→Prop}{pos:String}{af:Array Edge}{g:Option (Nat×Bool)}(hg:Gd ops m g) (hf:goes P f=true) (ha:evl m args=some vs)
  (hC:∀w,H w→Calls P f vs.toArray w fun e w'=>e=.panicked ch∧H' w') (h:WQ Q (.panic ch) n m H'):WL P ops Q (⟨o,.call { callee:=.value (.func f),args:=args.toArray,argTypes:=ats },ty,pos,af,g⟩::rest) n m H:=fun a w hs hw=>by
 unfold wpList;rw[if_pos (hg.wanted hs)];refine .inl ?_
 have hrun:(execOp a.eval ⟨o,.call { callee:=.value (.func f),args:=args.toArray,argTypes:=ats },ty,pos,af,g⟩).run P w=.ok (.enter f vs.toArray) w:=by
  have:=oX hs ha;simp[execOp,resolve,Act.eval,Deferred.ofValue,invoke,this,qO hf]
 unfold Oper.wp;rw[hrun];exact (hC w hw).mono fun e w' ⟨he,hH⟩=>by subst he;exact h a w' hs hH
theorem wl_callVP {o:Option Nat}{x:Operand}{f:FuncId}{args:List Operand}{ats:Array TypeId}{us vs cs:List Value}{ch:List PanicEntry}{H':World→Prop}{pos:String}{af:Array Edge}{g:Option (Nat×Bool)}(hg:Gd ops m g) (hf:goes P f=true) (hx:ev m x=some (.func (.func f) us.toArray cs.toArray)) (ha:evl m args=some vs)
  (hC:∀w,H w→Calls P f (us++vs++cs).toArray w fun e w'=>e=.panicked ch∧H' w') (h:WQ Q (.panic ch) n m H'):WL P ops Q (⟨o,.call { callee:=.value x,args:=args.toArray,argTypes:=ats },ty,pos,af,g⟩::rest) n m H:=fun a w hs hw=>by
 unfold wpList;rw[if_pos (hg.wanted hs)];refine .inl ?_
 have hrun:(execOp a.eval ⟨o,.call { callee:=.value x,args:=args.toArray,argTypes:=ats },ty,pos,af,g⟩).run P w=.ok (.enter f (us++vs++cs).toArray) w:=by
  have h1:=oX hs ha;have h2:=hs.ev hx;simp[execOp,resolve,h2,Deferred.ofValue,invoke,h1,qO hf]
 unfold Oper.wp;rw[hrun];exact (hC w hw).mono fun e w' ⟨he,hH⟩=>by subst he;exact h a w' hs hH
theorem wL {o:Option Nat}{x:Operand}{t:TypeId}{u:Value}{pos:String}{af:Array Edge}{g:Option (Nat×Bool)}(hg:Gd ops m g) (hx:ev m x=some (.iface t u)) (h:WQ Q (.panic (pan (.iface t u))) n m H):WL P ops Q (⟨o,.panic x,ty,pos,af,g⟩::rest) n m H:=fun a w hs hw=>by
 unfold wpList;rw[if_pos (hg.wanted hs)];refine .inl ?_
 have hrun:(execOp a.eval ⟨o,.panic x,ty,pos,af,g⟩).run P w=.halt (.panic (.iface t u)) w:=by
  have:=hs.ev hx;simp only[execOp,this];rfl
 unfold Oper.wp;rw[hrun];exact h a w hs hw
theorem xA {x:Operand}{t:TypeId}{k:IntKind}{v:Value}(hx:ev m x=some v) (ht:P.underlying t=some (.int k)):YF P (.makeInterface t x) ty n m H (.iface t v):=fun _ w d pos af g hs hw=>by
 simp[Yl,execOp,hs.ev hx,Instr.makeInterface,run_underlying ht]
abbrev dfr (f:FuncId) (cap:List Value):Deferred:={ target:=.fn (.func f) cap.toArray,args:=#[] }
theorem wl_defer {f:FuncId}{t:Nat}{cap:List Value}{ats:Array TypeId}{pos:String}{af:Array Edge}{g:Option (Nat×Bool)}(hg:Gd ops m g) (ht:look m t=some (.func (.func f) #[] cap.toArray)) (h:WL P ops Q rest ⟨n.s,dfr f cap::n.D⟩ m H):WL P ops Q (⟨none,.defer { callee:=.value (.tmp t),args:=#[],argTypes:=ats },ty,pos,af,g⟩::rest) n m H:=fun a w hs hw=>by
 unfold wpList;rw[if_pos (hg.wanted hs)];refine .inl ?_
 have hrun:(execOp a.eval ⟨none,.defer { callee:=.value (.tmp t),args:=#[],argTypes:=ats },ty,pos,af,g⟩).run P w=.ok (.defer (dfr f cap)) w:=by
  have:a.eval (.tmp t)=.func (.func f) #[] cap.toArray:=hs.ev ht;simp[execOp,resolve,this,Deferred.ofValue]
 unfold Oper.wp;rw[hrun];exact h _ w ⟨hs.size,by show dfr f cap::a.defers=_;rw[hs.dfr],hs.get⟩ hw
theorem calls_wcD {f:FuncId}{fn:Func}{c:Code}{args:List Value}{w:World}{R:Ending→World→Prop}(hf:P.funcs[f]? = some fn) (hb:fn.body=some c) (n:Fr) (hn:fn.ntmps=n.s) (ha:args.length≤n.s)
  (h:WC P c (bodyPostD P fn R) n (args.zipIdx.map fun p=>(p.2,p.1)) (fun u=>u=w)) (hz:n.D=[]:=by rfl):Calls P f args.toArray w R:=by
 refine calls_of_wp_defers hf hb (h _ w ⟨?_,hz.symm,fun i v hv=>?_⟩ rfl)
 ·rw[hn];simp;omega
 ·have key:∀(l:List Value) (k:Nat),look ((l.zipIdx k).map fun p=>(p.2,p.1)) i=some v→k≤i∧l[i-k]? = some v:=by
   intro l
   induction l with
   | nil=>intro k h;cases h
   | cons x l ih =>
    intro k h;simp only[List.zipIdx_cons,List.map_cons] at h
    by_cases hk:k=i
    ·subst hk;rw[qM] at h;cases h;simp
    ·rw[vB hk] at h;obtain⟨h1,h2⟩:=ih (k+1) h;refine⟨by omega,?_⟩;rw[show i-k=(i-(k+1))+1 by omega];simpa using h2
  obtain⟨_,h2⟩:=key args 0 hv;rw[Nat.sub_zero] at h2;show (args.toArray++Array.replicate _ undef)[i]? = some v;rw[Array.getElem?_append_left (by simpa using (List.getElem?_eq_some_iff.1 h2).1)]
  simpa using h2
end Go.Proofs.YtkaepknpplhgkaaGreatDoor
namespace Go.Proofs.YtkaepknpplhgkaaGreatDoor
open Go.RowKit
abbrev Bs:=List UInt8
def spanL (p:UInt8→Bool) (s:Bs):Nat:=(s.takeWhile p).length
def RdF (F:Nat→Prop) (A:Option Addr) (cs:List Value) (w:World):Prop:=0<cs.length→∃b off,A=some ⟨b,off,none⟩∧F b∧b<w.heap.size∧∀i,i<cs.length→w.cell? ⟨b,off+i,none⟩=some (cs.getD i undef)
structure Lies (T:(Nat→Prop)→World→Prop):Prop where
 foot:∀{F:Nat→Prop} {w w':World},(∀k,F k→w'.heap[k]? = w.heap[k]?)→T F w→T F w'
 lt:∀{F:Nat→Prop} {w:World},T F w→T (fun k=>F k∧k<w.heap.size) w
 mono:∀{F F':Nat→Prop} {w:World},(∀k,F k→F' k)→T F w→T F' w
theorem RdF.lies {A:Option Addr}{cs:List Value}:Lies fun F=>RdF F A cs:=by
 refine⟨fun {F w w'} hk h h0=>?_,fun {F w} h h0=>?_,fun {F F' w} hF h h0=>?_⟩<;>obtain⟨b,off,e,h1,h2,hc⟩:=h h0
 ·refine⟨b,off,e,h1,?_,fun i hi=>?_⟩
  ·have:=hk b h1;rw[Array.getElem?_eq_getElem h2] at this;exact (Array.getElem?_eq_some_iff.1 this).1
  ·rw[← hc i hi];exact World.cell?_of_block (hk b h1)
 ·exact⟨b,off,e,⟨h1,h2⟩,h2,hc⟩
 ·exact⟨b,off,e,hF b h1,h2,hc⟩
theorem RdF.nil {F:Nat→Prop}{A:Option Addr}{w:World}:RdF F A [] w:=fun h=>absurd h (by simp)
theorem RdF.part {F:Nat→Prop}{b off o i:Nat}{cs:List Value}{w:World}(h:RdF F (some ⟨b,off,none⟩) cs w) (hi:i<cs.length) (ho:o=off+i) {v:Value}(hv:cs[i]? = some v):w.cell? ⟨b,o,none⟩=some v:=by
 obtain⟨b',off',e,_,_,hc⟩:=h (by omega);cases e;subst ho;rw[hc i hi,List.getD_eq_getElem?_getD,hv];rfl
def Cp (n cap:Nat):Prop:=n≤cap∧cap≤maxLen
theorem cp00:Cp 0 0:=⟨Nat.le_refl _,by unfold maxLen;omega⟩
theorem cp11:Cp 1 1:=⟨Nat.le_refl _,by unfold maxLen;omega⟩
theorem Cp.lt {n cap:Nat}(h:Cp n cap):n≤9223372036854775807:=by have:=h.1;have:=h.2;unfold maxLen at *;omega
def Same (F:Nat→Prop) (w0:World):World→Prop:=fun u=>∀k,F k→k<w0.heap.size→u.heap[k]? = w0.heap[k]?
theorem Same.get {F:Nat→Prop}{w0 w:World}{T:(Nat→Prop)→World→Prop}(hs:Same F w0 w) (hT:Lies T) (h:T F w0):T F w :=
 hT.mono (fun _ h=>h.1) (hT.foot (F:=fun k=>F k∧k<w0.heap.size) (fun k hk=>hs k hk.1 hk.2) (hT.lt h))
theorem Hp.freeze {w0 v:World}{L:List (Nat×Obj)}{R:List Rw}{X:World→Prop}(h:Hp (fun _=>False) w0 L R X v):Hp (fun _=>False) w0 [] [] (Same (fun _=>True) v) v :=
 ⟨h.keep,(fun _ h=>by cases h),(fun _ h=>by cases h),(fun _ h=>by cases h),List.nodup_nil,fun _ _=>trivial,fun k=>k<v.heap.size,fun k hk=>⟨hk,id,(fun h=>by cases h),trivial⟩,fun u hu k _ hk=>hu k hk⟩
theorem Same.blk {v u:World}{b:Nat}{o:Obj}(h:Same (fun _=>True) v u) (hb:Blk b o v):Blk b o u:=by
 unfold Blk at hb ⊢;rw[h b trivial (Array.getElem?_eq_some_iff.1 hb).1];exact hb
theorem Same.refl (v:World):Same (fun _=>True) v v:=fun _ _ _=>rfl
section
variable {P:Program}{ops:Array Oper}{Q:Exit→Act→World→Prop}{n:Fr}{m:List (Nat×Value)}{ty:TypeId}{w0:World}{L:List (Nat×Obj)}{R:List Rw}{X:World→Prop}{rest:List Oper}{d:Nat}{pos:String}{af:Array Edge}{gd:Option (Nat×Bool)}{f:FuncId}{args:List Operand}{ats:Array TypeId}{vs:List Value}
end
theorem spanL_step {q:Nat→Bool}{l:Bs}{p:Nat}{c:UInt8}(hc:l[p]? = some c) (hp:∀j d,j<p→l[j]? = some d→q d.toNat=true) (hq:q c.toNat=false):spanL (fun c=>q c.toNat) l=p:=by
 induction p generalizing l with
 | zero =>
  cases l with
  | nil=>cases hc
  | cons x l=>cases hc;simp[spanL,List.takeWhile,hq]
 | succ p ih =>
  cases l with
  | nil=>cases hc
  | cons x l =>
   have h0:=hp 0 x (by omega) rfl;have:=ih (l:=l) hc (fun j d hj hd=>hp (j+1) d (by omega) hd);simp only[spanL] at this ⊢;simp[List.takeWhile,h0,this]
theorem spanL_all {q:Nat→Bool}{l:Bs}(hp:∀(j:Nat) (d:UInt8),l[j]? = some d→q d.toNat=true):spanL (fun c=>q c.toNat) l=l.length:=by
 induction l with
 | nil=>rfl
 | cons x l ih =>
  have h0:=hp 0 x rfl;have:=ih (fun j d hd=>hp (j+1) d hd);simp only[spanL] at this ⊢;simp[List.takeWhile,h0,this]
structure SpI (q:Nat→Bool) (l:Bs) (p:Nat):Prop where
 le:p≤l.length
 all:∀j d,j<p→l[j]? = some d→q d.toNat=true
theorem SpI.step {q:Nat→Bool}{l:Bs}{p:Nat}{d:UInt8}(h:SpI q l p) (hd:l[p]? = some d) (hq:q d.toNat=true):SpI q l (p+1) :=
 ⟨(List.getElem?_eq_some_iff.1 hd).1,fun j x hj hx=>by
  rcases Nat.lt_or_ge j p with h1|h1
  ·exact h.all j x h1 hx
  ·have:j=p:=by omega
   subst this;rw[hd] at hx;cases hx;exact hq⟩
theorem SpI.end {q:Nat→Bool}{l:Bs}{p:Nat}{x:Bool}(h:SpI q l p) (hx:x=true↔∃d,l[p]? = some d∧q d.toNat=true) (hf:¬x=true):spanL (fun c=>q c.toNat) l=p:=by
 cases hq:l[p]? with
 | none =>
  have h1:=List.getElem?_eq_none_iff.1 hq;have h2:=h.le;have:p=l.length:=by omega
  subst this;exact spanL_all (q:=q) fun j d hd=>h.all j d (List.getElem?_eq_some_iff.1 hd).1 hd
 | some c =>
  refine spanL_step (q:=q) hq h.all ?_
  cases hb:q c.toNat with
  | false=>rfl
  | true=>exact absurd (hx.2 ⟨c,hq,hb⟩) hf
theorem take_span (q:Nat→Bool) (l:Bs):l.take (spanL (fun c=>q c.toNat) l)=l.takeWhile (fun c=>q c.toNat):=by
 unfold spanL
 induction l with
 | nil=>rfl
 | cons x l ih =>
  cases hx:q x.toNat
  ·simp[List.takeWhile,hx]
  ·simp[List.takeWhile,hx,ih]
theorem SpI.take {q:Nat→Bool}{l:Bs}{p:Nat}(h:spanL (fun c=>q c.toNat) l=p):l.takeWhile (fun c=>q c.toNat)=l.take p:=by rw[← h,take_span]
section
variable {P:Program}{ops:Array Oper}{Q:Exit→Act→World→Prop}{n:Fr}{m:List (Nat×Value)}{H:World→Prop}{rest:List Oper}{d:Nat}{ty:TypeId}{pos:String}{af:Array Edge}
theorem ZF {op:Op}{v:Value}(hd:Nat.blt d n=true) (hy:YF P op ty n m H v) (h:WL P ops Q rest n ((d,v)::m) H):WL P ops Q (⟨some d,op,ty,pos,af,none⟩::rest) n m H:=tU .none hd hy h
theorem ZG {op:Op}{v:Value}{j t:Nat}{want:Bool}(ht:(ops[j]?).bind (·.dst)=some t) (hv:look m t=some (.bool want)) (hd:Nat.blt d n=true) (hy:YF P op ty n m H v) (h:WL P ops Q rest n ((d,v)::m) H):WL P ops Q (⟨some d,op,ty,pos,af,some (j,want)⟩::rest) n m H:=tU (.some ht hv) hd hy h
theorem Zm {x:Operand}{v:Value}(hd:Nat.blt d n=true) (hx:ev m x=some v) (h:WL P ops Q rest n ((d,v)::m) H):WL P ops Q (⟨some d,.move x,ty,pos,af,none⟩::rest) n m H:=tU .none hd (yW hx) h
theorem Za {x:Operand}{v:Value}(hd:Nat.blt d n=true) (hx:ev m x=some v) (h:WL P ops Q rest n ((d,v)::m) H):WL P ops Q (⟨some d,.assign x,ty,pos,af,none⟩::rest) n m H:=tU .none hd (wD hx) h
theorem Zn {x:Operand}{p:Addr}(hd:Nat.blt d n=true) (hx:ev m x=some (.pointer (some p))) (h:WL P ops Q rest n ((d,.pointer (some p))::m) H):WL P ops Q (⟨some d,.nilCheck x,ty,pos,af,none⟩::rest) n m H:=tU .none hd (xV hx) h
theorem ZP {op:Op}{j:Nat}{want:Bool}(ht:((match (ops[j]?).bind (·.dst) with|some t=>(match look m t with|some (.bool b)=>!(b==want)|_=>false)|none=>false)&&Nat.blt d n)=true) (h:WL P ops Q rest n ((d,undef)::m) H):WL P ops Q (⟨some d,op,ty,pos,af,some (j,want)⟩::rest) n m H:=by
  obtain⟨h1,hd⟩:=Bool.and_eq_true_iff.1 ht
  cases ht':(ops[j]?).bind (·.dst) with
  | none=>rw[ht'] at h1;cases h1
  | some t =>
    rw[ht'] at h1;dsimp only at h1;split at h1
    · next b hv=>exact wl_pass (.some ht' hv (by simpa using h1)) hd h
    · cases h1
theorem ZT {y:Code}(h:WC P y Q n m H):WL P ops (Exit.then (y.wp P Q) Q) [] n m H:=zS (zV h)
theorem ZX {x y:Code}(h:WC P x (Exit.then (y.wp P Q) Q) n m H):WL P ops (Exit.then ((Code.seq x y).wp P Q) Q) [] n m H:=zS (zV (zX h))
theorem Zd {J:World→Prop}{σ:List Nat}{G:Nat→Prop}{l:List Oper}{i:Nat}{op:Op}{v:Value}(ho:nthO l i=some ⟨some d,op,ty,pos,af,none⟩) (hk:kd ⟨some d,op,ty,pos,af,none⟩=.free) (hd:Nat.blt d n=true) (hy:YF P op ty n m J v) (h:WD P l.toArray J Q σ G n ((d,v)::m) H):WD P l.toArray J Q (i::σ) G n m H:=vP ho (wd_free hk .none hd hy h)
theorem Zg {J:World→Prop}{σ:List Nat}{G:Nat→Prop}{l:List Oper}{i j t:Nat}{want:Bool}{op:Op}{v:Value}(ho:nthO l i=some ⟨some d,op,ty,pos,af,some (j,want)⟩) (hk:kd ⟨some d,op,ty,pos,af,some (j,want)⟩=.free) (ht:(l.toArray[j]?).bind (·.dst)=some t) (hv:look m t=some (.bool want)) (hd:Nat.blt d n=true) (hy:YF P op ty n m J v) (h:WD P l.toArray J Q σ G n ((d,v)::m) H):WD P l.toArray J Q (i::σ) G n m H:=vP ho (wd_free hk (.some ht hv) hd hy h)
theorem ZD {J:World→Prop}{σ:List Nat}{G:Nat→Prop}{l:List Oper}{i:Nat}{op:Op}{j:Nat}{want:Bool}(ho:nthO l i=some ⟨some d,op,ty,pos,af,some (j,want)⟩) (ht:((match op with|.select _ _=>false|_=>true)&&((match (l.toArray[j]?).bind (·.dst) with|some t=>(match look m t with|some (.bool b)=>!(b==want)|_=>false)|none=>false)&&Nat.blt d n))=true) (h:WD P l.toArray J Q σ G n ((d,undef)::m) H):WD P l.toArray J Q (i::σ) G n m H:=by
  obtain⟨h0,h1⟩:=Bool.and_eq_true_iff.1 ht
  obtain⟨h1,hd⟩:=Bool.and_eq_true_iff.1 h1
  cases ht':(l.toArray[j]?).bind (·.dst) with
  | none=>rw[ht'] at h1;cases h1
  | some t =>
    rw[ht'] at h1;dsimp only at h1;split at h1
    · next b hv=>exact vP ho (wd_pass (fun _ _ e=>by subst e;cases h0) (.some ht' hv (by simpa using h1)) hd h)
    · cases h1
theorem M {α:Sort _}{a:α}:a=a:=rfl
theorem tpP {α β:Type _}{a c:α}{b e:β}(h:(a,b)=(c,e)):a=c:=(Prod.mk.inj h).1
theorem tpQ {α β:Type _}{a c:α}{b e:β}(h:(a,b)=(c,e)):b=e:=(Prod.mk.inj h).2
theorem Pk:∀(l:List (Nat×Value)),(l.map fun p=>look m p.1)=(l.map fun p=>some p.2)→Pr m l
  | [],_=>.nil
  | p::l,h=>.cons (List.cons.inj h).1 (Pk l (List.cons.inj h).2)
theorem Z0 {c:Code}{w:World}(h:WC P c Q n m (Hp (fun _=>False) w [] [] (fun _=>True))):WC P c Q n m (fun u=>u=w):=zG (fun u hu=>by subst hu;exact Hp.start0) h
theorem Zu8 (x:Int) (h1:0≤x:=by omega) (h2:x≤255:=by omega):IntKind.u8.wrap x=x:=u8_in x h1 h2
theorem Zu32 (x:Int) (h1:0≤x:=by omega) (h2:x≤4294967295:=by omega):IntKind.u32.wrap x=x:=qV x h1 h2
theorem Zi64 (x:Int) (h1:-9223372036854775808≤x:=by omega) (h2:x≤9223372036854775807:=by omega):IntKind.i64.wrap x=x:=i64_in x h1 h2
theorem ZU {fn:Func}{R:Ending→World→Prop}{t:Tmp}{v:Value}(hr:fn.results=#[.tmp t]) (hv:look m t=some v) (h:∀w,H w→R (.returned v) w) (hz:n.D=[]:=by rfl):WL P ops (Exit.then (Code.ret.wp P (bodyPost P fn R)) (bodyPost P fn R)) [] n m H:=zS (zV (zK (yY hr hv h hz)))
theorem Zf {c x y:Operand}{v:Value}(h:(Nat.blt d n,ev m c,ev m y)=(true,some (.bool false),some v)) (g:WL P ops Q rest n ((d,v)::m) H):WL P ops Q (⟨some d,.pick c x y,ty,pos,af,none⟩::rest) n m H:=tU .none (tpP h) (yD (tpP (tpQ h)) (tpQ (tpQ h))) g
theorem Zh {c x y:Operand}{v:Value}(h:(Nat.blt d n,ev m c,ev m x)=(true,some (.bool true),some v)) (g:WL P ops Q rest n ((d,v)::m) H):WL P ops Q (⟨some d,.pick c x y,ty,pos,af,none⟩::rest) n m H:=tU .none (tpP h) (yA (tpP (tpQ h)) (tpQ (tpQ h))) g
theorem Ze {x y:Operand}{t t':TypeId}{k:IntKind}{a b:Int}(h:(Nat.blt d n,ev m x,ev m y)=(true,some (.int k a),some (.int k b))) (g:WL P ops Q rest n ((d,.bool (a==b))::m) H):WL P ops Q (⟨some d,.binOp .eql t x y t',ty,pos,af,none⟩::rest) n m H:=tU .none (tpP h) (oW (tpP (tpQ h)) (tpQ (tpQ h))) g
theorem Zv {x:Operand}{v:Value}{j t:Nat}{want:Bool}(h:((ops[j]?).bind (·.dst),look m t,Nat.blt d n,ev m x)=(some t,some (.bool want),true,some v)) (g:WL P ops Q rest n ((d,v)::m) H):WL P ops Q (⟨some d,.move x,ty,pos,af,some (j,want)⟩::rest) n m H:=tU (.some (tpP h) (tpP (tpQ h))) (tpP (tpQ (tpQ h))) (yW (tpQ (tpQ (tpQ h)))) g
theorem Zx {x y:Operand}{t0 t':TypeId}{k:IntKind}{a b:Int}{j t:Nat}{want:Bool}(h:((ops[j]?).bind (·.dst),look m t,Nat.blt d n,ev m x,ev m y)=(some t,some (.bool want),true,some (.int k a),some (.int k b))) (g:WL P ops Q rest n ((d,.bool (a==b))::m) H):WL P ops Q (⟨some d,.binOp .eql t0 x y t',ty,pos,af,some (j,want)⟩::rest) n m H:=tU (.some (tpP h) (tpP (tpQ h))) (tpP (tpQ (tpQ h))) (oW (tpP (tpQ (tpQ (tpQ h)))) (tpQ (tpQ (tpQ (tpQ h))))) g
theorem Zc {x:Operand}{t t':TypeId}{k k':IntKind}{a c:Int}(hx:ev m x=some (.int k a)) (h2:P.underlying t'=some (.int k')) (hc:k'.wrap a=c) (h1:(P.underlying t).isSome=true:=by kernel_rfl):YF P (.convert t t' x) ty n m H (.int k' c):=yf_conv hx h1 h2 hc
theorem Zi {x y:Operand}{t e:TypeId}{g o:Nat}{k:IntKind}{len cap j es c:Nat}{i:Int}(hx:ev m x=some (.slice (some ⟨g,o,none⟩) len cap)) (hy:ev m y=some (.int k i)) (ht:P.underlying t=some (.slice e)) (hi:i=j) (hj:j<len) (hc:o+j*es=c) (hs':(P.info? e).map (·.size)=some es:=by kernel_rfl):YF P (.indexAddr t x y) ty n m H (.pointer (some ⟨g,c,none⟩)):=yf_indexAddrS hx hy ht hs' hi hj hc
theorem Zj {x y:Operand}{t e:TypeId}{g o:Nat}{k:IntKind}{len j es c:Nat}{i:Int}(hx:ev m x=some (.pointer (some ⟨g,o,none⟩))) (hy:ev m y=some (.int k i)) (ht:P.underlying t=some (.array len e)) (hi:i=j) (hj:j<len) (hc:o+j*es=c) (hs':(P.info? e).map (·.size)=some es:=by kernel_rfl):YF P (.indexAddr t x y) ty n m H (.pointer (some ⟨g,c,none⟩)):=yf_indexAddrA hx hy ht hs' hi hj hc
theorem Zb {parts:List (Nat×Operand)}{vs:List (Nat×Value)}{t:TypeId}(z:List Value) (places:List (Nat×Nat)) (h:(evs m parts,partsOk places z.length vs)=(some vs,true)) (hz:(P.info? t).bind (fun i=>i.zero.map (·.cells))=some z.toArray:=by kernel_rfl) (hpl:placesOf P t=some places:=by kernel_rfl):YF P (.build t parts.toArray) ty n m H (.agg (setParts places z vs).toArray):=yf_buildS z places (tpP h) hz hpl (tpQ h)
theorem Zy {x:Operand}{t:TypeId}{g o:Nat}{i off c:Nat}{fs:Array Field}{sz:Nat}(hx:ev m x=some (.pointer (some ⟨g,o,none⟩))) (ht:P.underlying t=some (.struct fs)) (hc:o+off=c) (hf:(fs[i]?).map (fun f=>(f.offset,(P.info? f.type).map (·.size)))=some (off,some (sz+1)):=by kernel_rfl):YF P (.fieldAddr t x i) ty n m H (.pointer (some ⟨g,c,none⟩)):=zY hx ht hf hc
theorem O2 {a b:Nat}{A B:Value}(h:[look m a,look m b]=[some A,some B]):Pr m [(a,A),(b,B)]:=Pk _ h
theorem Z2 {c0:Code}(a b:Nat) {A B:Value}(h:[look m a,look m b]=[some A,some B]) (g:WC P c0 Q n [(a,A),(b,B)] H):WC P c0 Q n m H:=yJ (Pk [(a,A),(b,B)] h) g
theorem Z2r {id:Nat}{l:List Oper}(a b:Nat) {A B:Value}(h:[look m a,look m b]=[some A,some B]) (g:WL P l.toArray Q l n [(a,A),(b,B)] H):WC P (.region id l.toArray false) Q n m H:=yJ (Pk [(a,A),(b,B)] h) (zZ g)
theorem O3 {a b c:Nat}{A B C:Value}(h:[look m a,look m b,look m c]=[some A,some B,some C]):Pr m [(a,A),(b,B),(c,C)]:=Pk _ h
theorem Z3 {c0:Code}(a b c:Nat) {A B C:Value}(h:[look m a,look m b,look m c]=[some A,some B,some C]) (g:WC P c0 Q n [(a,A),(b,B),(c,C)] H):WC P c0 Q n m H:=yJ (Pk [(a,A),(b,B),(c,C)] h) g
theorem Z3r {id:Nat}{l:List Oper}(a b c:Nat) {A B C:Value}(h:[look m a,look m b,look m c]=[some A,some B,some C]) (g:WL P l.toArray Q l n [(a,A),(b,B),(c,C)] H):WC P (.region id l.toArray false) Q n m H:=yJ (Pk [(a,A),(b,B),(c,C)] h) (zZ g)
theorem O4 {a b c e:Nat}{A B C D:Value}(h:[look m a,look m b,look m c,look m e]=[some A,some B,some C,some D]):Pr m [(a,A),(b,B),(c,C),(e,D)]:=Pk _ h
theorem Z4 {c0:Code}(a b c e:Nat) {A B C D:Value}(h:[look m a,look m b,look m c,look m e]=[some A,some B,some C,some D]) (g:WC P c0 Q n [(a,A),(b,B),(c,C),(e,D)] H):WC P c0 Q n m H:=yJ (Pk [(a,A),(b,B),(c,C),(e,D)] h) g
theorem Z4r {id:Nat}{l:List Oper}(a b c e:Nat) {A B C D:Value}(h:[look m a,look m b,look m c,look m e]=[some A,some B,some C,some D]) (g:WL P l.toArray Q l n [(a,A),(b,B),(c,C),(e,D)] H):WC P (.region id l.toArray false) Q n m H:=yJ (Pk [(a,A),(b,B),(c,C),(e,D)] h) (zZ g)
theorem O5 {a b c e f:Nat}{A B C D E:Value}(h:[look m a,look m b,look m c,look m e,look m f]=[some A,some B,some C,some D,some E]):Pr m [(a,A),(b,B),(c,C),(e,D),(f,E)]:=Pk _ h
theorem Z5 {c0:Code}(a b c e f:Nat) {A B C D E:Value}(h:[look m a,look m b,look m c,look m e,look m f]=[some A,some B,some C,some D,some E]) (g:WC P c0 Q n [(a,A),(b,B),(c,C),(e,D),(f,E)] H):WC P c0 Q n m H:=yJ (Pk [(a,A),(b,B),(c,C),(e,D),(f,E)] h) g
theorem Z5r {id:Nat}{l:List Oper}(a b c e f:Nat) {A B C D E:Value}(h:[look m a,look m b,look m c,look m e,look m f]=[some A,some B,some C,some D,some E]) (g:WL P l.toArray Q l n [(a,A),(b,B),(c,C),(e,D),(f,E)] H):WC P (.region id l.toArray false) Q n m H:=yJ (Pk [(a,A),(b,B),(c,C),(e,D),(f,E)] h) (zZ g)
theorem O6 {a b c e f i:Nat}{A B C D E F:Value}(h:[look m a,look m b,look m c,look m e,look m f,look m i]=[some A,some B,some C,some D,some E,some F]):Pr m [(a,A),(b,B),(c,C),(e,D),(f,E),(i,F)]:=Pk _ h
theorem Z6 {c0:Code}(a b c e f i:Nat) {A B C D E F:Value}(h:[look m a,look m b,look m c,look m e,look m f,look m i]=[some A,some B,some C,some D,some E,some F]) (g:WC P c0 Q n [(a,A),(b,B),(c,C),(e,D),(f,E),(i,F)] H):WC P c0 Q n m H:=yJ (Pk [(a,A),(b,B),(c,C),(e,D),(f,E),(i,F)] h) g
theorem Z6r {id:Nat}{l:List Oper}(a b c e f i:Nat) {A B C D E F:Value}(h:[look m a,look m b,look m c,look m e,look m f,look m i]=[some A,some B,some C,some D,some E,some F]) (g:WL P l.toArray Q l n [(a,A),(b,B),(c,C),(e,D),(f,E),(i,F)] H):WC P (.region id l.toArray false) Q n m H:=yJ (Pk [(a,A),(b,B),(c,C),(e,D),(f,E),(i,F)] h) (zZ g)
theorem O7 {a b c e f i j:Nat}{A B C D E F G:Value}(h:[look m a,look m b,look m c,look m e,look m f,look m i,look m j]=[some A,some B,some C,some D,some E,some F,some G]):Pr m [(a,A),(b,B),(c,C),(e,D),(f,E),(i,F),(j,G)]:=Pk _ h
theorem Z7 {c0:Code}(a b c e f i j:Nat) {A B C D E F G:Value}(h:[look m a,look m b,look m c,look m e,look m f,look m i,look m j]=[some A,some B,some C,some D,some E,some F,some G]) (g:WC P c0 Q n [(a,A),(b,B),(c,C),(e,D),(f,E),(i,F),(j,G)] H):WC P c0 Q n m H:=yJ (Pk [(a,A),(b,B),(c,C),(e,D),(f,E),(i,F),(j,G)] h) g
theorem Z7r {id:Nat}{l:List Oper}(a b c e f i j:Nat) {A B C D E F G:Value}(h:[look m a,look m b,look m c,look m e,look m f,look m i,look m j]=[some A,some B,some C,some D,some E,some F,some G]) (g:WL P l.toArray Q l n [(a,A),(b,B),(c,C),(e,D),(f,E),(i,F),(j,G)] H):WC P (.region id l.toArray false) Q n m H:=yJ (Pk [(a,A),(b,B),(c,C),(e,D),(f,E),(i,F),(j,G)] h) (zZ g)
theorem O8 {a b c e f i j k:Nat}{A B C D E F G I:Value}(h:[look m a,look m b,look m c,look m e,look m f,look m i,look m j,look m k]=[some A,some B,some C,some D,some E,some F,some G,some I]):Pr m [(a,A),(b,B),(c,C),(e,D),(f,E),(i,F),(j,G),(k,I)]:=Pk _ h
theorem Z8 {c0:Code}(a b c e f i j k:Nat) {A B C D E F G I:Value}(h:[look m a,look m b,look m c,look m e,look m f,look m i,look m j,look m k]=[some A,some B,some C,some D,some E,some F,some G,some I]) (g:WC P c0 Q n [(a,A),(b,B),(c,C),(e,D),(f,E),(i,F),(j,G),(k,I)] H):WC P c0 Q n m H:=yJ (Pk [(a,A),(b,B),(c,C),(e,D),(f,E),(i,F),(j,G),(k,I)] h) g
theorem Z8r {id:Nat}{l:List Oper}(a b c e f i j k:Nat) {A B C D E F G I:Value}(h:[look m a,look m b,look m c,look m e,look m f,look m i,look m j,look m k]=[some A,some B,some C,some D,some E,some F,some G,some I]) (g:WL P l.toArray Q l n [(a,A),(b,B),(c,C),(e,D),(f,E),(i,F),(j,G),(k,I)] H):WC P (.region id l.toArray false) Q n m H:=yJ (Pk [(a,A),(b,B),(c,C),(e,D),(f,E),(i,F),(j,G),(k,I)] h) (zZ g)
theorem O9 {a b c e f i j k o:Nat}{A B C D E F G I J:Value}(h:[look m a,look m b,look m c,look m e,look m f,look m i,look m j,look m k,look m o]=[some A,some B,some C,some D,some E,some F,some G,some I,some J]):Pr m [(a,A),(b,B),(c,C),(e,D),(f,E),(i,F),(j,G),(k,I),(o,J)]:=Pk _ h
theorem Z9 {c0:Code}(a b c e f i j k o:Nat) {A B C D E F G I J:Value}(h:[look m a,look m b,look m c,look m e,look m f,look m i,look m j,look m k,look m o]=[some A,some B,some C,some D,some E,some F,some G,some I,some J]) (g:WC P c0 Q n [(a,A),(b,B),(c,C),(e,D),(f,E),(i,F),(j,G),(k,I),(o,J)] H):WC P c0 Q n m H:=yJ (Pk [(a,A),(b,B),(c,C),(e,D),(f,E),(i,F),(j,G),(k,I),(o,J)] h) g
theorem Z9r {id:Nat}{l:List Oper}(a b c e f i j k o:Nat) {A B C D E F G I J:Value}(h:[look m a,look m b,look m c,look m e,look m f,look m i,look m j,look m k,look m o]=[some A,some B,some C,some D,some E,some F,some G,some I,some J]) (g:WL P l.toArray Q l n [(a,A),(b,B),(c,C),(e,D),(f,E),(i,F),(j,G),(k,I),(o,J)] H):WC P (.region id l.toArray false) Q n m H:=yJ (Pk [(a,A),(b,B),(c,C),(e,D),(f,E),(i,F),(j,G),(k,I),(o,J)] h) (zZ g)
theorem O10 {a b c e f i j k o p:Nat}{A B C D E F G I J K:Value}(h:[look m a,look m b,look m c,look m e,look m f,look m i,look m j,look m k,look m o,look m p]=[some A,some B,some C,some D,some E,some F,some G,some I,some J,some K]):Pr m [(a,A),(b,B),(c,C),(e,D),(f,E),(i,F),(j,G),(k,I),(o,J),(p,K)]:=Pk _ h
theorem Z10 {c0:Code}(a b c e f i j k o p:Nat) {A B C D E F G I J K:Value}(h:[look m a,look m b,look m c,look m e,look m f,look m i,look m j,look m k,look m o,look m p]=[some A,some B,some C,some D,some E,some F,some G,some I,some J,some K]) (g:WC P c0 Q n [(a,A),(b,B),(c,C),(e,D),(f,E),(i,F),(j,G),(k,I),(o,J),(p,K)] H):WC P c0 Q n m H:=yJ (Pk [(a,A),(b,B),(c,C),(e,D),(f,E),(i,F),(j,G),(k,I),(o,J),(p,K)] h) g
theorem Z10r {id:Nat}{l:List Oper}(a b c e f i j k o p:Nat) {A B C D E F G I J K:Value}(h:[look m a,look m b,look m c,look m e,look m f,look m i,look m j,look m k,look m o,look m p]=[some A,some B,some C,some D,some E,some F,some G,some I,some J,some K]) (g:WL P l.toArray Q l n [(a,A),(b,B),(c,C),(e,D),(f,E),(i,F),(j,G),(k,I),(o,J),(p,K)] H):WC P (.region id l.toArray false) Q n m H:=yJ (Pk [(a,A),(b,B),(c,C),(e,D),(f,E),(i,F),(j,G),(k,I),(o,J),(p,K)] h) (zZ g)
theorem O11 {a b c e f i j k o p q:Nat}{A B C D E F G I J K L:Value}(h:[look m a,look m b,look m c,look m e,look m f,look m i,look m j,look m k,look m o,look m p,look m q]=[some A,some B,some C,some D,some E,some F,some G,some I,some J,some K,some L]):Pr m [(a,A),(b,B),(c,C),(e,D),(f,E),(i,F),(j,G),(k,I),(o,J),(p,K),(q,L)]:=Pk _ h
theorem Z11 {c0:Code}(a b c e f i j k o p q:Nat) {A B C D E F G I J K L:Value}(h:[look m a,look m b,look m c,look m e,look m f,look m i,look m j,look m k,look m o,look m p,look m q]=[some A,some B,some C,some D,some E,some F,some G,some I,some J,some K,some L]) (g:WC P c0 Q n [(a,A),(b,B),(c,C),(e,D),(f,E),(i,F),(j,G),(k,I),(o,J),(p,K),(q,L)] H):WC P c0 Q n m H:=yJ (Pk [(a,A),(b,B),(c,C),(e,D),(f,E),(i,F),(j,G),(k,I),(o,J),(p,K),(q,L)] h) g
theorem Z11r {id:Nat}{l:List Oper}(a b c e f i j k o p q:Nat) {A B C D E F G I J K L:Value}(h:[look m a,look m b,look m c,look m e,look m f,look m i,look m j,look m k,look m o,look m p,look m q]=[some A,some B,some C,some D,some E,some F,some G,some I,some J,some K,some L]) (g:WL P l.toArray Q l n [(a,A),(b,B),(c,C),(e,D),(f,E),(i,F),(j,G),(k,I),(o,J),(p,K),(q,L)] H):WC P (.region id l.toArray false) Q n m H:=yJ (Pk [(a,A),(b,B),(c,C),(e,D),(f,E),(i,F),(j,G),(k,I),(o,J),(p,K),(q,L)] h) (zZ g)
theorem O12 {a b c e f i j k o p q r:Nat}{A B C D E F G I J K L N:Value}(h:[look m a,look m b,look m c,look m e,look m f,look m i,look m j,look m k,look m o,look m p,look m q,look m r]=[some A,some B,some C,some D,some E,some F,some G,some I,some J,some K,some L,some N]):Pr m [(a,A),(b,B),(c,C),(e,D),(f,E),(i,F),(j,G),(k,I),(o,J),(p,K),(q,L),(r,N)]:=Pk _ h
theorem Z12 {c0:Code}(a b c e f i j k o p q r:Nat) {A B C D E F G I J K L N:Value}(h:[look m a,look m b,look m c,look m e,look m f,look m i,look m j,look m k,look m o,look m p,look m q,look m r]=[some A,some B,some C,some D,some E,some F,some G,some I,some J,some K,some L,some N]) (g:WC P c0 Q n [(a,A),(b,B),(c,C),(e,D),(f,E),(i,F),(j,G),(k,I),(o,J),(p,K),(q,L),(r,N)] H):WC P c0 Q n m H:=yJ (Pk [(a,A),(b,B),(c,C),(e,D),(f,E),(i,F),(j,G),(k,I),(o,J),(p,K),(q,L),(r,N)] h) g
theorem Z12r {id:Nat}{l:List Oper}(a b c e f i j k o p q r:Nat) {A B C D E F G I J K L N:Value}(h:[look m a,look m b,look m c,look m e,look m f,look m i,look m j,look m k,look m o,look m p,look m q,look m r]=[some A,some B,some C,some D,some E,some F,some G,some I,some J,some K,some L,some N]) (g:WL P l.toArray Q l n [(a,A),(b,B),(c,C),(e,D),(f,E),(i,F),(j,G),(k,I),(o,J),(p,K),(q,L),(r,N)] H):WC P (.region id l.toArray false) Q n m H:=yJ (Pk [(a,A),(b,B),(c,C),(e,D),(f,E),(i,F),(j,G),(k,I),(o,J),(p,K),(q,L),(r,N)] h) (zZ g)
theorem O13 {a b c e f i j k o p q r s:Nat}{A B C D E F G I J K L N O:Value}(h:[look m a,look m b,look m c,look m e,look m f,look m i,look m j,look m k,look m o,look m p,look m q,look m r,look m s]=[some A,some B,some C,some D,some E,some F,some G,some I,some J,some K,some L,some N,some O]):Pr m [(a,A),(b,B),(c,C),(e,D),(f,E),(i,F),(j,G),(k,I),(o,J),(p,K),(q,L),(r,N),(s,O)]:=Pk _ h
theorem Z13r {id:Nat}{l:List Oper}(a b c e f i j k o p q r s:Nat) {A B C D E F G I J K L N O:Value}(h:[look m a,look m b,look m c,look m e,look m f,look m i,look m j,look m k,look m o,look m p,look m q,look m r,look m s]=[some A,some B,some C,some D,some E,some F,some G,some I,some J,some K,some L,some N,some O]) (g:WL P l.toArray Q l n [(a,A),(b,B),(c,C),(e,D),(f,E),(i,F),(j,G),(k,I),(o,J),(p,K),(q,L),(r,N),(s,O)] H):WC P (.region id l.toArray false) Q n m H:=yJ (Pk [(a,A),(b,B),(c,C),(e,D),(f,E),(i,F),(j,G),(k,I),(o,J),(p,K),(q,L),(r,N),(s,O)] h) (zZ g)
theorem O14 {a b c e f i j k o p q r s t:Nat}{A B C D E F G I J K L N O R:Value}(h:[look m a,look m b,look m c,look m e,look m f,look m i,look m j,look m k,look m o,look m p,look m q,look m r,look m s,look m t]=[some A,some B,some C,some D,some E,some F,some G,some I,some J,some K,some L,some N,some O,some R]):Pr m [(a,A),(b,B),(c,C),(e,D),(f,E),(i,F),(j,G),(k,I),(o,J),(p,K),(q,L),(r,N),(s,O),(t,R)]:=Pk _ h
theorem Z14 {c0:Code}(a b c e f i j k o p q r s t:Nat) {A B C D E F G I J K L N O R:Value}(h:[look m a,look m b,look m c,look m e,look m f,look m i,look m j,look m k,look m o,look m p,look m q,look m r,look m s,look m t]=[some A,some B,some C,some D,some E,some F,some G,some I,some J,some K,some L,some N,some O,some R]) (g:WC P c0 Q n [(a,A),(b,B),(c,C),(e,D),(f,E),(i,F),(j,G),(k,I),(o,J),(p,K),(q,L),(r,N),(s,O),(t,R)] H):WC P c0 Q n m H:=yJ (Pk [(a,A),(b,B),(c,C),(e,D),(f,E),(i,F),(j,G),(k,I),(o,J),(p,K),(q,L),(r,N),(s,O),(t,R)] h) g
theorem Z14r {id:Nat}{l:List Oper}(a b c e f i j k o p q r s t:Nat) {A B C D E F G I J K L N O R:Value}(h:[look m a,look m b,look m c,look m e,look m f,look m i,look m j,look m k,look m o,look m p,look m q,look m r,look m s,look m t]=[some A,some B,some C,some D,some E,some F,some G,some I,some J,some K,some L,some N,some O,some R]) (g:WL P l.toArray Q l n [(a,A),(b,B),(c,C),(e,D),(f,E),(i,F),(j,G),(k,I),(o,J),(p,K),(q,L),(r,N),(s,O),(t,R)] H):WC P (.region id l.toArray false) Q n m H:=yJ (Pk [(a,A),(b,B),(c,C),(e,D),(f,E),(i,F),(j,G),(k,I),(o,J),(p,K),(q,L),(r,N),(s,O),(t,R)] h) (zZ g)
theorem Z15r {id:Nat}{l:List Oper}(a b c e f i j k o p q r s t u:Nat) {A B C D E F G I J K L N O R S:Value}(h:[look m a,look m b,look m c,look m e,look m f,look m i,look m j,look m k,look m o,look m p,look m q,look m r,look m s,look m t,look m u]=[some A,some B,some C,some D,some E,some F,some G,some I,some J,some K,some L,some N,some O,some R,some S]) (g:WL P l.toArray Q l n [(a,A),(b,B),(c,C),(e,D),(f,E),(i,F),(j,G),(k,I),(o,J),(p,K),(q,L),(r,N),(s,O),(t,R),(u,S)] H):WC P (.region id l.toArray false) Q n m H:=yJ (Pk [(a,A),(b,B),(c,C),(e,D),(f,E),(i,F),(j,G),(k,I),(o,J),(p,K),(q,L),(r,N),(s,O),(t,R),(u,S)] h) (zZ g)
theorem Z16 {c0:Code}(a b c e f i j k o p q r s t u v:Nat) {A B C D E F G I J K L N O R S T:Value}(h:[look m a,look m b,look m c,look m e,look m f,look m i,look m j,look m k,look m o,look m p,look m q,look m r,look m s,look m t,look m u,look m v]=[some A,some B,some C,some D,some E,some F,some G,some I,some J,some K,some L,some N,some O,some R,some S,some T]) (g:WC P c0 Q n [(a,A),(b,B),(c,C),(e,D),(f,E),(i,F),(j,G),(k,I),(o,J),(p,K),(q,L),(r,N),(s,O),(t,R),(u,S),(v,T)] H):WC P c0 Q n m H:=yJ (Pk [(a,A),(b,B),(c,C),(e,D),(f,E),(i,F),(j,G),(k,I),(o,J),(p,K),(q,L),(r,N),(s,O),(t,R),(u,S),(v,T)] h) g
theorem Z16r {id:Nat}{l:List Oper}(a b c e f i j k o p q r s t u v:Nat) {A B C D E F G I J K L N O R S T:Value}(h:[look m a,look m b,look m c,look m e,look m f,look m i,look m j,look m k,look m o,look m p,look m q,look m r,look m s,look m t,look m u,look m v]=[some A,some B,some C,some D,some E,some F,some G,some I,some J,some K,some L,some N,some O,some R,some S,some T]) (g:WL P l.toArray Q l n [(a,A),(b,B),(c,C),(e,D),(f,E),(i,F),(j,G),(k,I),(o,J),(p,K),(q,L),(r,N),(s,O),(t,R),(u,S),(v,T)] H):WC P (.region id l.toArray false) Q n m H:=yJ (Pk [(a,A),(b,B),(c,C),(e,D),(f,E),(i,F),(j,G),(k,I),(o,J),(p,K),(q,L),(r,N),(s,O),(t,R),(u,S),(v,T)] h) (zZ g)
theorem Z17r {id:Nat}{l:List Oper}(a b c e f i j k o p q r s t u v w:Nat) {A B C D E F G I J K L N O R S T U:Value}(h:[look m a,look m b,look m c,look m e,look m f,look m i,look m j,look m k,look m o,look m p,look m q,look m r,look m s,look m t,look m u,look m v,look m w]=[some A,some B,some C,some D,some E,some F,some G,some I,some J,some K,some L,some N,some O,some R,some S,some T,some U]) (g:WL P l.toArray Q l n [(a,A),(b,B),(c,C),(e,D),(f,E),(i,F),(j,G),(k,I),(o,J),(p,K),(q,L),(r,N),(s,O),(t,R),(u,S),(v,T),(w,U)] H):WC P (.region id l.toArray false) Q n m H:=yJ (Pk [(a,A),(b,B),(c,C),(e,D),(f,E),(i,F),(j,G),(k,I),(o,J),(p,K),(q,L),(r,N),(s,O),(t,R),(u,S),(v,T),(w,U)] h) (zZ g)
theorem Z18r {id:Nat}{l:List Oper}(a b c e f i j k o p q r s t u v w x:Nat) {A B C D E F G I J K L N O R S T U V:Value}(h:[look m a,look m b,look m c,look m e,look m f,look m i,look m j,look m k,look m o,look m p,look m q,look m r,look m s,look m t,look m u,look m v,look m w,look m x]=[some A,some B,some C,some D,some E,some F,some G,some I,some J,some K,some L,some N,some O,some R,some S,some T,some U,some V]) (g:WL P l.toArray Q l n [(a,A),(b,B),(c,C),(e,D),(f,E),(i,F),(j,G),(k,I),(o,J),(p,K),(q,L),(r,N),(s,O),(t,R),(u,S),(v,T),(w,U),(x,V)] H):WC P (.region id l.toArray false) Q n m H:=yJ (Pk [(a,A),(b,B),(c,C),(e,D),(f,E),(i,F),(j,G),(k,I),(o,J),(p,K),(q,L),(r,N),(s,O),(t,R),(u,S),(v,T),(w,U),(x,V)] h) (zZ g)
theorem Z20r {id:Nat}{l:List Oper}(a b c e f i j k o p q r s t u v w x y z:Nat) {A B C D E F G I J K L N O R S T U V W X:Value}(h:[look m a,look m b,look m c,look m e,look m f,look m i,look m j,look m k,look m o,look m p,look m q,look m r,look m s,look m t,look m u,look m v,look m w,look m x,look m y,look m z]=[some A,some B,some C,some D,some E,some F,some G,some I,some J,some K,some L,some N,some O,some R,some S,some T,some U,some V,some W,some X]) (g:WL P l.toArray Q l n [(a,A),(b,B),(c,C),(e,D),(f,E),(i,F),(j,G),(k,I),(o,J),(p,K),(q,L),(r,N),(s,O),(t,R),(u,S),(v,T),(w,U),(x,V),(y,W),(z,X)] H):WC P (.region id l.toArray false) Q n m H:=yJ (Pk [(a,A),(b,B),(c,C),(e,D),(f,E),(i,F),(j,G),(k,I),(o,J),(p,K),(q,L),(r,N),(s,O),(t,R),(u,S),(v,T),(w,U),(x,V),(y,W),(z,X)] h) (zZ g)
theorem Z1 {c:Code}(i0:Nat) {v0:Value}(h0:look m i0=some v0) (h:WC P c Q n [(i0,v0)] H):WC P c Q n m H:=yJ (.cons h0<|.nil) h
end
section
variable {P:Program}{ops:Array Oper}{Q:Exit→Act→World→Prop}{n:Fr}{m:List (Nat×Value)}{G B:Nat→Prop}{w0:World}{L:List (Nat×Obj)}{R:List Rw}{X:World→Prop}{rest:List Oper}{ty:TypeId}{pos:String}{af:Array Edge}
theorem ZS {x y:Operand}{t T g o:Nat}{cs:List Value}{v:Value}(k:Nat) (q:(ev m x,ev m y,L[k]?,v.oneCell',Nat.blt o cs.length)=(some (.pointer (some ⟨g,o,none⟩)),some v,some (g,bk T cs),true,true)) (h:WL P ops Q rest n m (HpG G B w0 (L.set k (g,bk T (cs.set o v))) R X)) (hs':(P.info? t).map (·.size)=some 1:=by kernel_rfl):WL P ops Q (⟨none,.store t x y,ty,pos,af,none⟩::rest) n m (HpG G B w0 L R X):=yP .none (wA k (tpP q) (tpP (tpQ q)) (tpP (tpQ (tpQ q))) (tpP (tpQ (tpQ (tpQ q)))) (tpQ (tpQ (tpQ (tpQ q)))) hs') (fun _=>h)
theorem ZR {x y:Operand}{t T g o:Nat}{cs seg:List Value}(k:Nat) (q:(ev m x,ev m y,L[k]?,seg.all (·.oneCell'),Nat.ble (o+seg.length) cs.length)=(some (.pointer (some ⟨g,o,none⟩)),some (.agg seg.toArray),some (g,bk T cs),true,true)) (h:WL P ops Q rest n m (HpG G B w0 (L.set k (g,bk T (cs.take o++seg++cs.drop (o+seg.length)))) R X)) (hs':(P.info? t).map (·.size)=some seg.length:=by kernel_rfl):WL P ops Q (⟨none,.store t x y,ty,pos,af,none⟩::rest) n m (HpG G B w0 L R X):=yP .none (vG k (tpP q) (tpP (tpQ q)) (tpP (tpQ (tpQ q))) (tpP (tpQ (tpQ (tpQ q)))) (tpQ (tpQ (tpQ (tpQ q)))) hs') (fun _=>h)
theorem Zl {x:Operand}{t T g o d:Nat}{e:TypeDesc}{cs:List Value}{v:Value}(k:Nat) (q:(Nat.blt d n,ev m x,L[k]?,cs[o]?)=(true,some (.pointer (some ⟨g,o,none⟩)),some (g,bk T cs),some v)) (ht:P.underlying t=some e) (hd:e.isRow=false) (h:WL P ops Q rest n ((d,v)::m) (HpG G B w0 L R X)):WL P ops Q (⟨some d,.load t x,ty,pos,af,none⟩::rest) n m (HpG G B w0 L R X):=tU .none (tpP q) (yU k (tpP (tpQ q)) (tpP (tpQ (tpQ q))) (tpQ (tpQ (tpQ q))) ht hd) h
theorem Zo {x:Operand}{t T g:Nat}{e:TypeDesc}{cs:List Value}(k:Nat) (q:(ev m x,L[k]?)=(some (.pointer (some ⟨g,0,none⟩)),some (g,bk T cs))) (ht:P.underlying t=some e) (hd:e.isRow=true) (hs:(P.info? t).map (·.size)=some cs.length:=by kernel_rfl):YF P (.load t x) ty n m (HpG G B w0 L R X) (.agg cs.toArray):=yf_loadAllL k (tpP q) (tpQ q) ht hd hs
theorem Zs {x:Operand}{t e d:Nat}{v:Value}{cs:List Value}{z:Value}(q:(Nat.blt d n,ev m x,v.cells,Nat.blt 0 cs.length,Nat.ble cs.length 16777216)=(true,some v,cs.toArray,true,true)) (ht:P.underlying t=some (.slice e)) (h:∀b,WL P ops Q rest n ((d,.slice (some ⟨b,0,none⟩) 1 1)::m) (Hp B w0 ((b,bk e cs)::L) R X)) (hz:(P.info? e).bind (·.zero)=some z:=by kernel_rfl) (hs':(P.info? e).map (·.size)=some cs.length:=by kernel_rfl):WL P ops Q (⟨some d,.buildSlice t 1 #[(0,x)],ty,pos,af,none⟩::rest) n m (Hp B w0 L R X):=zA .none (tpP q) (nf_bs1 (tpP (tpQ q)) (tpP (tpQ (tpQ q))) ht hz hs' (tpP (tpQ (tpQ (tpQ q)))) (tpQ (tpQ (tpQ (tpQ q))))) h
theorem Zt {t d:Nat}{z:Value}{cs:List Value}(q:(Nat.blt d n,z.cells)=(true,cs.toArray)) (h:∀b,WL P ops Q rest n ((d,.pointer (some ⟨b,0,none⟩))::m) (Hp B w0 ((b,bk t cs)::L) R X)) (hz:(P.info? t).bind (·.zero)=some z:=by kernel_rfl):WL P ops Q (⟨some d,.alloc t,ty,pos,af,none⟩::rest) n m (Hp B w0 L R X):=zA .none (tpP q) (pT hz (tpQ q)) h
theorem Zu {d:Nat}{v:Value}{f:FuncId}{args:List Operand}{ats:Array TypeId}{vs:List Value}(q:(Nat.blt d n,evl m args)=(true,some vs)) (hC:∀w,HpG G B w0 L R X w→Calls P f vs.toArray w fun e w'=>e=.returned v∧Ext w w') (h:WL P ops Q rest n ((d,v)::m) (HpG G B w0 L R X)) (hf:goes P f=true:=by kernel_rfl):WL P ops Q (⟨some d,.call { callee:=.value (.func f),args:=args.toArray,argTypes:=ats },ty,pos,af,none⟩::rest) n m (HpG G B w0 L R X):=xW .none (tpP q) hf (tpQ q) hC h
end
section
variable {n:Fr} {m:List (Nat×Value)} {ty:TypeId} {H:World→Prop} {x:Operand} {g o:Nat}
theorem Y35x0 (hx:ev m x=some (.pointer (some ⟨g,o,none⟩))):YF Tryz.prog (.fieldAddr 35 x 0) ty n m H (.pointer (some ⟨g,o+0,none⟩)):=zY (off:=0) (sz:=0) hx Tryz.underlying35 (by kernel_rfl) rfl
theorem Y35x1 (hx:ev m x=some (.pointer (some ⟨g,o,none⟩))):YF Tryz.prog (.fieldAddr 35 x 1) ty n m H (.pointer (some ⟨g,o+1,none⟩)):=zY (off:=1) (sz:=0) hx Tryz.underlying35 (by kernel_rfl) rfl
theorem Y35x2 (hx:ev m x=some (.pointer (some ⟨g,o,none⟩))):YF Tryz.prog (.fieldAddr 35 x 2) ty n m H (.pointer (some ⟨g,o+2,none⟩)):=zY (off:=2) (sz:=0) hx Tryz.underlying35 (by kernel_rfl) rfl
theorem Y35x3 (hx:ev m x=some (.pointer (some ⟨g,o,none⟩))):YF Tryz.prog (.fieldAddr 35 x 3) ty n m H (.pointer (some ⟨g,o+3,none⟩)):=zY (off:=3) (sz:=0) hx Tryz.underlying35 (by kernel_rfl) rfl
theorem Y35x4 (hx:ev m x=some (.pointer (some ⟨g,o,none⟩))):YF Tryz.prog (.fieldAddr 35 x 4) ty n m H (.pointer (some ⟨g,o+4,none⟩)):=zY (off:=4) (sz:=0) hx Tryz.underlying35 (by kernel_rfl) rfl
theorem Y35x5 (hx:ev m x=some (.pointer (some ⟨g,o,none⟩))):YF Tryz.prog (.fieldAddr 35 x 5) ty n m H (.pointer (some ⟨g,o+5,none⟩)):=zY (off:=5) (sz:=0) hx Tryz.underlying35 (by kernel_rfl) rfl
theorem Y35x6 (hx:ev m x=some (.pointer (some ⟨g,o,none⟩))):YF Tryz.prog (.fieldAddr 35 x 6) ty n m H (.pointer (some ⟨g,o+6,none⟩)):=zY (off:=6) (sz:=0) hx Tryz.underlying35 (by kernel_rfl) rfl
theorem Y74x0 (hx:ev m x=some (.pointer (some ⟨g,o,none⟩))):YF Tryz.prog (.fieldAddr 74 x 0) ty n m H (.pointer (some ⟨g,o+0,none⟩)):=zY (off:=0) (sz:=0) hx Tryz.underlying74 (by kernel_rfl) rfl
theorem Y74x1 (hx:ev m x=some (.pointer (some ⟨g,o,none⟩))):YF Tryz.prog (.fieldAddr 74 x 1) ty n m H (.pointer (some ⟨g,o+1,none⟩)):=zY (off:=1) (sz:=0) hx Tryz.underlying74 (by kernel_rfl) rfl
theorem Y74x2 (hx:ev m x=some (.pointer (some ⟨g,o,none⟩))):YF Tryz.prog (.fieldAddr 74 x 2) ty n m H (.pointer (some ⟨g,o+2,none⟩)):=zY (off:=2) (sz:=0) hx Tryz.underlying74 (by kernel_rfl) rfl
theorem Y74x3 (hx:ev m x=some (.pointer (some ⟨g,o,none⟩))):YF Tryz.prog (.fieldAddr 74 x 3) ty n m H (.pointer (some ⟨g,o+3,none⟩)):=zY (off:=3) (sz:=0) hx Tryz.underlying74 (by kernel_rfl) rfl
theorem Y74x4 (hx:ev m x=some (.pointer (some ⟨g,o,none⟩))):YF Tryz.prog (.fieldAddr 74 x 4) ty n m H (.pointer (some ⟨g,o+4,none⟩)):=zY (off:=4) (sz:=0) hx Tryz.underlying74 (by kernel_rfl) rfl
theorem Y91x0 (hx:ev m x=some (.pointer (some ⟨g,o,none⟩))):YF Tryz.prog (.fieldAddr 91 x 0) ty n m H (.pointer (some ⟨g,o+0,none⟩)):=zY (off:=0) (sz:=0) hx Tryz.underlying91 (by kernel_rfl) rfl
theorem Y91x1 (hx:ev m x=some (.pointer (some ⟨g,o,none⟩))):YF Tryz.prog (.fieldAddr 91 x 1) ty n m H (.pointer (some ⟨g,o+1,none⟩)):=zY (off:=1) (sz:=0) hx Tryz.underlying91 (by kernel_rfl) rfl
theorem Y91x2 (hx:ev m x=some (.pointer (some ⟨g,o,none⟩))):YF Tryz.prog (.fieldAddr 91 x 2) ty n m H (.pointer (some ⟨g,o+2,none⟩)):=zY (off:=2) (sz:=0) hx Tryz.underlying91 (by kernel_rfl) rfl
theorem Y91x3 (hx:ev m x=some (.pointer (some ⟨g,o,none⟩))):YF Tryz.prog (.fieldAddr 91 x 3) ty n m H (.pointer (some ⟨g,o+3,none⟩)):=zY (off:=3) (sz:=0) hx Tryz.underlying91 (by kernel_rfl) rfl
theorem Y91x4 (hx:ev m x=some (.pointer (some ⟨g,o,none⟩))):YF Tryz.prog (.fieldAddr 91 x 4) ty n m H (.pointer (some ⟨g,o+4,none⟩)):=zY (off:=4) (sz:=0) hx Tryz.underlying91 (by kernel_rfl) rfl
theorem Y98x1 (hx:ev m x=some (.pointer (some ⟨g,o,none⟩))):YF Tryz.prog (.fieldAddr 98 x 1) ty n m H (.pointer (some ⟨g,o+1,none⟩)):=zY (off:=1) (sz:=0) hx Tryz.underlying98 (by kernel_rfl) rfl
theorem Y100x3 (hx:ev m x=some (.pointer (some ⟨g,o,none⟩))):YF Tryz.prog (.fieldAddr 100 x 3) ty n m H (.pointer (some ⟨g,o+3,none⟩)):=zY (off:=3) (sz:=0) hx Tryz.underlying100 (by kernel_rfl) rfl
theorem Y115x0 (hx:ev m x=some (.pointer (some ⟨g,o,none⟩))):YF Tryz.prog (.fieldAddr 115 x 0) ty n m H (.pointer (some ⟨g,o+0,none⟩)):=zY (off:=0) (sz:=0) hx Tryz.underlying115 (by kernel_rfl) rfl
theorem Y119x0 (hx:ev m x=some (.pointer (some ⟨g,o,none⟩))):YF Tryz.prog (.fieldAddr 119 x 0) ty n m H (.pointer (some ⟨g,o+0,none⟩)):=zY (off:=0) (sz:=0) hx Tryz.underlying119 (by kernel_rfl) rfl
theorem Y119x1 (hx:ev m x=some (.pointer (some ⟨g,o,none⟩))):YF Tryz.prog (.fieldAddr 119 x 1) ty n m H (.pointer (some ⟨g,o+1,none⟩)):=zY (off:=1) (sz:=0) hx Tryz.underlying119 (by kernel_rfl) rfl
theorem Y119x2 (hx:ev m x=some (.pointer (some ⟨g,o,none⟩))):YF Tryz.prog (.fieldAddr 119 x 2) ty n m H (.pointer (some ⟨g,o+2,none⟩)):=zY (off:=2) (sz:=0) hx Tryz.underlying119 (by kernel_rfl) rfl
theorem Y119x3 (hx:ev m x=some (.pointer (some ⟨g,o,none⟩))):YF Tryz.prog (.fieldAddr 119 x 3) ty n m H (.pointer (some ⟨g,o+3,none⟩)):=zY (off:=3) (sz:=0) hx Tryz.underlying119 (by kernel_rfl) rfl
theorem Y119x4 (hx:ev m x=some (.pointer (some ⟨g,o,none⟩))):YF Tryz.prog (.fieldAddr 119 x 4) ty n m H (.pointer (some ⟨g,o+4,none⟩)):=zY (off:=4) (sz:=0) hx Tryz.underlying119 (by kernel_rfl) rfl
theorem Y125x0 (hx:ev m x=some (.pointer (some ⟨g,o,none⟩))):YF Tryz.prog (.fieldAddr 125 x 0) ty n m H (.pointer (some ⟨g,o+0,none⟩)):=zY (off:=0) (sz:=0) hx Tryz.underlying125 (by kernel_rfl) rfl
theorem Y125x1 (hx:ev m x=some (.pointer (some ⟨g,o,none⟩))):YF Tryz.prog (.fieldAddr 125 x 1) ty n m H (.pointer (some ⟨g,o+1,none⟩)):=zY (off:=1) (sz:=0) hx Tryz.underlying125 (by kernel_rfl) rfl
theorem Y125x3 (hx:ev m x=some (.pointer (some ⟨g,o,none⟩))):YF Tryz.prog (.fieldAddr 125 x 3) ty n m H (.pointer (some ⟨g,o+3,none⟩)):=zY (off:=3) (sz:=0) hx Tryz.underlying125 (by kernel_rfl) rfl
theorem Y135x2 (hx:ev m x=some (.pointer (some ⟨g,o,none⟩))):YF Tryz.prog (.fieldAddr 135 x 1) ty n m H (.pointer (some ⟨g,o+2,none⟩)):=zY (off:=2) (sz:=0) hx Tryz.underlying135 (by kernel_rfl) rfl
theorem Y176x1 (hx:ev m x=some (.pointer (some ⟨g,o,none⟩))):YF Tryz.prog (.fieldAddr 176 x 1) ty n m H (.pointer (some ⟨g,o+1,none⟩)):=zY (off:=1) (sz:=0) hx Tryz.underlying176 (by kernel_rfl) rfl
theorem Y178x0 (hx:ev m x=some (.pointer (some ⟨g,o,none⟩))):YF Tryz.prog (.fieldAddr 178 x 0) ty n m H (.pointer (some ⟨g,o+0,none⟩)):=zY (off:=0) (sz:=0) hx Tryz.underlying178 (by kernel_rfl) rfl
theorem Y190x0 (hx:ev m x=some (.pointer (some ⟨g,o,none⟩))):YF Tryz.prog (.fieldAddr 190 x 0) ty n m H (.pointer (some ⟨g,o+0,none⟩)):=zY (off:=0) (sz:=0) hx Tryz.underlying190 (by kernel_rfl) rfl
theorem Y190x1 (hx:ev m x=some (.pointer (some ⟨g,o,none⟩))):YF Tryz.prog (.fieldAddr 190 x 1) ty n m H (.pointer (some ⟨g,o+1,none⟩)):=zY (off:=1) (sz:=0) hx Tryz.underlying190 (by kernel_rfl) rfl
theorem Y190x2 (hx:ev m x=some (.pointer (some ⟨g,o,none⟩))):YF Tryz.prog (.fieldAddr 190 x 2) ty n m H (.pointer (some ⟨g,o+2,none⟩)):=zY (off:=2) (sz:=0) hx Tryz.underlying190 (by kernel_rfl) rfl
end
theorem U3:type_of% Tryz.underlying3:=Tryz.underlying3
theorem U4:type_of% Tryz.underlying4:=Tryz.underlying4
theorem U5:type_of% Tryz.underlying5:=Tryz.underlying5
theorem U9:type_of% Tryz.underlying9:=Tryz.underlying9
theorem U22:type_of% Tryz.underlying22:=Tryz.underlying22
theorem U25:type_of% Tryz.underlying25:=Tryz.underlying25
theorem U35:type_of% Tryz.underlying35:=Tryz.underlying35
theorem U51:type_of% Tryz.underlying51:=Tryz.underlying51
theorem U53:type_of% Tryz.underlying53:=Tryz.underlying53
theorem U59:type_of% Tryz.underlying59:=Tryz.underlying59
theorem U74:type_of% Tryz.underlying74:=Tryz.underlying74
theorem U85:type_of% Tryz.underlying85:=Tryz.underlying85
theorem U88:type_of% Tryz.underlying88:=Tryz.underlying88
theorem U89:type_of% Tryz.underlying89:=Tryz.underlying89
theorem U91:type_of% Tryz.underlying91:=Tryz.underlying91
theorem U93:type_of% Tryz.underlying93:=Tryz.underlying93
theorem U100:type_of% Tryz.underlying100:=Tryz.underlying100
theorem U105:type_of% Tryz.underlying105:=Tryz.underlying105
theorem U108:type_of% Tryz.underlying108:=Tryz.underlying108
theorem U111:type_of% Tryz.underlying111:=Tryz.underlying111
theorem U113:type_of% Tryz.underlying113:=Tryz.underlying113
theorem U115:type_of% Tryz.underlying115:=Tryz.underlying115
theorem U117:type_of% Tryz.underlying117:=Tryz.underlying117
theorem U119:type_of% Tryz.underlying119:=Tryz.underlying119
theorem U125:type_of% Tryz.underlying125:=Tryz.underlying125
theorem U131:type_of% Tryz.underlying131:=Tryz.underlying131
theorem U135:type_of% Tryz.underlying135:=Tryz.underlying135
theorem U146:type_of% Tryz.underlying146:=Tryz.underlying146
theorem U178:type_of% Tryz.underlying178:=Tryz.underlying178
theorem U190:type_of% Tryz.underlying190:=Tryz.underlying190
theorem U193:type_of% Tryz.underlying193:=Tryz.underlying193
theorem U212:type_of% Tryz.underlying212:=Tryz.underlying212
theorem U228:type_of% Tryz.underlying228:=Tryz.underlying228
theorem U231:type_of% Tryz.underlying231:=Tryz.underlying231
theorem U252:type_of% Tryz.underlying252:=Tryz.underlying252
theorem U253:type_of% Tryz.underlying253:=Tryz.underlying253
abbrev Ja:Value:=.agg #[.int .i64 0,.int .i64 0,.int .i64 0,.nilFunc,.nilFunc]
abbrev Jb:Value:=.agg #[.int .i64 0,.int .i64 0]
abbrev Jc:Value:=.agg #[.int .i64 0,.int .i64 0,.int .i64 0,.int .i64 0,.int .i64 0,.int .u32 0,.int .i64 0]
abbrev Jd:Value:=.agg #[.nilFunc,.nilFunc]
abbrev Je:Value:=.agg #[.bool false,.bool false,.bool false,.bool false,.int .i64 0,.int .i64 0,.int .u32 0]
abbrev Jf:Value:=.agg #[.int .i64 0,.int .i64 0,.int .i64 0,.int .i64 0,.int .u32 0]
abbrev Jg:Value:=.string ⟨#[]⟩
abbrev Jh:Value:=.agg #[.slice none 0 0,.int .i64 0]
abbrev Ji:Value:=.agg #[.bool false,.bool false,.bool false,.bool false,.bool false,.int .i64 0,.int .u32 0]
abbrev Jj:List Value:=[.int .i64 0]
abbrev Jk:List Value:=[.int .u8 0,.int .i64 0,.string ⟨#[]⟩,.int .u32 0,.int .i64 0,.int .i64 0]
abbrev Jl:List Value:=[.int .i64 0,.int .i64 0,.int .i64 0,.nilFunc,.nilFunc]
abbrev Jm:List Value:=[.int .i64 0,.int .i64 0,.int .i64 0,.int .i64 0,.int .i64 0,.int .u32 0,.int .i64 0]
abbrev Jn:List Value:=[.nilFunc,.nilFunc]
abbrev Jo:List Value:=[.bool false,.bool false,.bool false,.bool false,.int .i64 0,.int .i64 0,.int .u32 0]
abbrev Jp:List Value:=[.int .i64 0,.int .i64 0,.int .i64 0,.int .i64 0,.int .u32 0]
abbrev Jq:List Value:=[.string ⟨#[]⟩,.string ⟨#[]⟩,.string ⟨#[]⟩,.string ⟨#[]⟩,.string ⟨#[]⟩,.string ⟨#[]⟩,.string ⟨#[]⟩,.string ⟨#[]⟩,.string ⟨#[]⟩,.string ⟨#[]⟩,.string ⟨#[]⟩,.string ⟨#[]⟩,.string ⟨#[]⟩,.string ⟨#[]⟩]
abbrev Jr:List Value:=[.string ⟨#[]⟩,.string ⟨#[]⟩,.string ⟨#[]⟩,.slice none 0 0,.pointer none,.int .i64 0,.int .i64 0]
abbrev Js:List Value:=[.slice none 0 0,.int .i64 0]
abbrev Jt:List Value:=[.string ⟨#[]⟩,.int .i64 0]
abbrev Ju:List Value:=[.bool false,.bool false,.bool false,.bool false,.bool false,.int .i64 0,.int .u32 0]
abbrev Jv:List Value:=(List.replicate 64 (.string ⟨#[]⟩))
abbrev Jw:List Value:=[.string ⟨#[]⟩,.string ⟨#[]⟩,.string ⟨#[]⟩,.string ⟨#[]⟩,.slice none 0 0,.int .i64 0,.int .i64 0]
abbrev Jx (b:Nat):Value:=.pointer (some ⟨b,0,none⟩)
abbrev Jy:=Hp (fun _=>False)
theorem Jz {α:Type}{H:α→Prop}:∀w,H w→H w:=fun _ h=>h
theorem Ka {α:Type}{x y:α}(h:x=y):some x=some y:=h▸rfl
theorem Kb:type_of% @List.length_append:=@List.length_append
theorem Kc:type_of% @List.length_cons:=@List.length_cons
theorem Ke:type_of% @List.length_nil:=@List.length_nil
theorem Kf:type_of% @Bool.eq_iff_iff:=@Bool.eq_iff_iff
theorem Kg:type_of% @List.getElem?_eq_some_iff:=@List.getElem?_eq_some_iff
theorem Kh:type_of% @Nat.le_of_ble_eq_true:=@Nat.le_of_ble_eq_true
theorem Ki:type_of% @of_decide_eq_true:=@of_decide_eq_true
theorem Kj:type_of% @of_decide_eq_false:=@of_decide_eq_false
theorem Kk:type_of% @HpG.keep:=@HpG.keep
theorem Kl:type_of% @List.Sublist.refl:=@List.Sublist.refl
theorem Km:type_of% @List.sublist_cons_self:=@List.sublist_cons_self
theorem Kn:type_of% @List.getElem?_eq_getElem:=@List.getElem?_eq_getElem
theorem Ko:type_of% @List.mem_of_getElem?:=@List.mem_of_getElem?
theorem Kp:type_of% @Array.getElem?_eq_some_iff:=@Array.getElem?_eq_some_iff
theorem Kq:type_of% @eq_of_beq:=@eq_of_beq
theorem Kr:type_of% @Nat.lt_of_lt_of_le:=@Nat.lt_of_lt_of_le
theorem Ks:type_of% @List.mem_cons_self:=@List.mem_cons_self
theorem Kt:type_of% @List.drop_succ_cons:=@List.drop_succ_cons
theorem Ku:type_of% @List.getD_eq_getElem?_getD:=@List.getD_eq_getElem?_getD
theorem Kv:type_of% @List.append_assoc:=@List.append_assoc
theorem Kw:type_of% @List.length_drop:=@List.length_drop
theorem Kx:type_of% @List.drop_zero:=@List.drop_zero
theorem Ky:type_of% @List.mem_cons_of_mem:=@List.mem_cons_of_mem
theorem Kz:type_of% @List.take_length:=@List.take_length
theorem Aa:type_of% @List.length_take:=@List.length_take
theorem Ab:type_of% @Bool.and_eq_true:=@Bool.and_eq_true
theorem Ac:type_of% @Nat.zero_add:=@Nat.zero_add
theorem Ad:type_of% @Nat.zero_le:=@Nat.zero_le
theorem Ae:type_of% @Nat.le_refl:=@Nat.le_refl
theorem Af:type_of% @decide_eq_true_eq:=@decide_eq_true_eq
theorem Ag:type_of% @if_neg:=@if_neg
theorem Ah:type_of% @if_pos:=@if_pos
theorem Ai:type_of% @List.map_cons:=@List.map_cons
theorem Aj:type_of% @List.drop_eq_nil_of_le:=@List.drop_eq_nil_of_le
theorem Ak:type_of% @List.length_map:=@List.length_map
theorem Al:type_of% @List.append_nil:=@List.append_nil
theorem Am:type_of% @beq_iff_eq:=@beq_iff_eq
theorem An:type_of% @decide_eq_true:=@decide_eq_true
theorem Ao:type_of% @decide_eq_false:=@decide_eq_false
theorem Ap:type_of% @Nat.le_trans:=@Nat.le_trans
theorem Aq:type_of% @List.mem_append:=@List.mem_append
theorem Ar:type_of% @List.mem_singleton:=@List.mem_singleton
end Go.Proofs.YtkaepknpplhgkaaGreatDoor
