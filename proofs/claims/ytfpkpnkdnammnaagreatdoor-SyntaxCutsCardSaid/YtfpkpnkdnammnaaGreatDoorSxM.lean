import Derived.Test.YtfpkpnkdnammnaaGreatDoorStr
import Derived.Lib.OthersKept
import Derived.Laws.Slices
namespace Go.Proofs.YtfpkpnkdnammnaaGreatDoor
open Go.RowKit
section
variable {P:Program}{ops:Array Oper}{Q:Exit→Act→World→Prop}{n:Nat}{m:List (Nat×Value)}{ty:TypeId}{G B:Nat→Prop}{w0:World}{L:List (Nat×Obj)}{R:List Rw}{X:World→Prop}{rest:List Oper}{d:Nat}{pos:String}{af:Array Edge}{gd:Option (Nat×Bool)}
theorem pU {H:World→Prop}{fn:Fn}{first captured:List Operand}{us vs:List Value}(h1:evl m first=some us) (h2:evl m captured=some vs):YF P (.makeFunc fn first.toArray captured.toArray) ty n m H (.func fn us.toArray vs.toArray):=fun _ w d pos af gd hs hw=>by
 have e1:=evl_map hs h1;have e2:=evl_map hs h2;simp[Yl,execOp,Instr.makeFunc,e1,e2]
theorem ch_callV {a:Act}{x:Operand}{f:FuncId}{args:List Operand}{ats:Array TypeId}{us vs cs:List Value}{w:World}{d:Option Tmp}{Rr:Value→World→Prop}(hs:Sat n m a) (hf:goes P f=true) (hx:ev m x=some (.func (.func f) us.toArray cs.toArray)) (ha:evl m args=some vs)
  (hC:Calls P f (us++vs++cs).toArray w fun e w'=>∃v,e=.returned v∧Rr v w'):Ch P ⟨d,.call { callee:=.value x,args:=args.toArray,argTypes:=ats },ty,pos,af,gd⟩ a w Rr:=by
 have hrun:(execOp a.eval ⟨d,.call { callee:=.value x,args:=args.toArray,argTypes:=ats },ty,pos,af,gd⟩).run P w=.ok (.enter f (us++vs++cs).toArray) w:=by
  have:=evl_map hs ha;simp[execOp,resolve,hs.ev hx,Deferred.ofValue,invoke,this,run_callFunc hf]
 unfold Ch;rw[hrun];exact hC
theorem qA {ι:Type}{x:Operand}{f:FuncId}{args:List Operand}{ats:Array TypeId}{us vs cs:List Value}{H:World→Prop}{val:ι→Value}{H':ι→World→Prop}(hf:goes P f=true) (hx:ev m x=some (.func (.func f) us.toArray cs.toArray)) (ha:evl m args=some vs)
  (hC:∀w,H w→Calls P f (us++vs++cs).toArray w fun e w'=>∃v,e=.returned v∧∃i,v=val i∧H' i w'):CF P (.call { callee:=.value x,args:=args.toArray,argTypes:=ats }) ty n m H val H':=fun _ w _ _ _ _ hs hw=>ch_callV hs hf hx ha (hC w hw)
def FnOk (P:Program) (fv:Value) (arg:Nat→Value) (q:Nat→Bool):Prop:=∃f,fv=.func (.func f) #[] #[]∧goes P f=true∧∀r:Nat,r≤2147483647→∀w,Calls P f #[arg r] w fun e w'=>e=.returned (.bool (q r))∧Ext w w'
theorem wl_callQ {x y:Operand}{ats:Array TypeId}{fv:Value}{arg:Nat→Value}{q:Nat→Bool}{r:Nat}(hg:Gd ops m gd) (hd:Nat.blt d n=true) (hq:FnOk P fv arg q) (hx:ev m x=some fv) (hy:ev m y=some (arg r)) (hr:r≤2147483647)
  (h:WL P ops Q rest n ((d,.bool (q r))::m) (HpG G B w0 L R X)):WL P ops Q (⟨some d,.call { callee:=.value x,args:=#[y],argTypes:=ats },ty,pos,af,gd⟩::rest) n m (HpG G B w0 L R X):=by
 obtain⟨f,rfl,hf,hC⟩:=hq;refine xQ (ι:=Unit) (val:=fun _=>.bool (q r)) (H':=fun _=>HpG G B w0 L R X) hg hd (qA (us:=[]) (cs:=[]) (args:=[y]) (vs:=[arg r]) hf hx (by simp[evl,hy]) fun w hw=>?_) fun _=>h;exact (hC r hr w).mono fun e w' ⟨e1,e2⟩=>⟨_,e1,(),rfl,hw.onE e2⟩
theorem wl_range {x:Operand}{t:TypeId}{s:ByteArray}(hg:Gd ops m gd) (hd:Nat.blt d n=true) (hx:ev m x=some (.string s)) (ht:P.underlying t=some .string)
  (h:∀b,WL P ops Q rest n ((d,.pointer (some ⟨b,0,none⟩))::m) (Hp B w0 ((b,.stringIter s 0)::L) R X)):WL P ops Q (⟨some d,.range t x,ty,pos,af,gd⟩::rest) n m (Hp B w0 L R X) :=
 xQ (ι:=Nat) (val:=fun b=>.pointer (some ⟨b,0,none⟩)) (H':=fun b=>Hp B w0 ((b,.stringIter s 0)::L) R X) hg hd (fun a w d pos af gd hs hw=>by
  unfold Ch
  have:(execOp a.eval ⟨d,.range t x,ty,pos,af,gd⟩).run P w=.ok (.value (.pointer (some ⟨w.heap.size,0,none⟩))) (w.iter s 0):=by
   simp[execOp,hs.ev hx,run_range_string w t s ht]
  rw[this]
  exact⟨w.heap.size,rfl,Hp.new hw (.stringIter s 0)⟩) h
def nextV (s:ByteArray) (p:Nat):Array Value:=if p<s.size then #[.bool true,.int .i64 p,.int .i32 (Utf8.decode s p).1] else #[.bool false]
def nextP (s:ByteArray) (p:Nat):Nat:=if p<s.size then p+(Utf8.decode s p).2 else p
theorem nextV0 (s:ByteArray) (p:Nat):(nextV s p)[0]? = some (.bool (decide (p<s.size))):=by
 unfold nextV;split<;>rename_i h<;>simp[h]
theorem nextV1 {s:ByteArray}{p:Nat}(h:p<s.size):(nextV s p)[1]? = some (.int .i64 p):=by unfold nextV;rw[Kp h];rfl
theorem nextV2 {s:ByteArray}{p:Nat}(h:p<s.size):(nextV s p)[2]? = some (.int .i32 (Utf8.decode s p).1):=by unfold nextV;rw[Kp h];rfl
theorem wl_next {x:Operand}{s:ByteArray}{b p:Nat}(k:Nat) (hg:Gd ops m gd) (hd:Nat.blt d n=true) (hx:ev m x=some (.pointer (some ⟨b,0,none⟩))) (hk:L[k]? = some (b,.stringIter s p))
  (h:WL P ops Q rest n ((d,.tuple (nextV s p))::m) (HpG G B w0 (L.set k (b,.stringIter s (nextP s p))) R X)):WL P ops Q (⟨some d,.next x true,ty,pos,af,gd⟩::rest) n m (HpG G B w0 L R X) :=
 xQ (ι:=Unit) (val:=fun _=>.tuple (nextV s p)) (H':=fun _=>HpG G B w0 (L.set k (b,.stringIter s (nextP s p))) R X) hg hd (fun a w d pos af gd hs hw=>by
  have hb:=hw.own _ (Ju hk);dsimp only at hb;unfold Ch
  by_cases hp:p<s.size
  ·have e:(execOp a.eval ⟨d,.next x true,ty,pos,af,gd⟩).run P w=.ok (.value (.tuple (nextV s p))) (w.iterAt b s (nextP s p)):=by
    simp[execOp,hs.ev hx,Lib.run_next_any_at w b s p ty hb hp,nextV,nextP,hp]
   rw[e];refine⟨(),rfl,hw.turn hk ⟨rfl,rfl,rfl,by simp[World.iterAt],fun j _ hne=>?_⟩ (Lib.iterAt_heap w b s p _ hb)⟩;simp[World.iterAt,Array.getElem?_setIfInBounds_ne (Ne.symm hne)]
  ·have e:(execOp a.eval ⟨d,.next x true,ty,pos,af,gd⟩).run P w=.ok (.value (.tuple (nextV s p))) w:=by
    simp[execOp,hs.ev hx,Lib.run_next_end_at w b s p ty hb hp,nextV,hp]
   rw[e]
   exact⟨(),rfl,hw.turn hk (Keep.refl _ _) (by rw[nextP,Ko hp];exact hb)⟩) fun _=>h
theorem decode_list {l:List UInt8}{p:Nat}{c:UInt8}(hc:l[p]? = some c) (ha:c.toNat<128):Utf8.decode ⟨l.toArray⟩ p=(c.toNat,1):=by
 obtain⟨h1,h2⟩:=Jm.1 hc;have hb:p<(⟨l.toArray⟩:ByteArray).size:=by simpa [ByteArray.size] using h1
 have e:(⟨l.toArray⟩:ByteArray)[p]'hb=c:=by
  show l.toArray[p]=c
  simpa using h2
 have:=decode_ascii ⟨l.toArray⟩ p hb (by rw[e];exact ha);rw[this,e]
theorem decode_big {l:List UInt8}{p:Nat}{c:UInt8}(hc:l[p]? = some c) (ha:128≤c.toNat):128≤(Utf8.decode ⟨l.toArray⟩ p).1:=by
 obtain⟨h1,h2⟩:=Jm.1 hc;have hb:p<(⟨l.toArray⟩:ByteArray).size:=by simpa [ByteArray.size] using h1
 have e:(⟨l.toArray⟩:ByteArray)[p]'hb=c:=by
  show l.toArray[p]=c
  simpa using h2
 exact (decode_high ⟨l.toArray⟩ p hb (by rw[e];exact ha)).1
theorem pI {H:World→Prop}{x hi:Operand}{t:TypeId}{k':IntKind}{j:Int}{l c:List UInt8}(hx:ev m x=some (.string ⟨l.toArray⟩)) (hhi:ev m hi=some (.int k' j)) (ht:P.underlying t=some .string) (h0:0≤j) (h2:j≤l.length) (hc:l.take j.toNat=c):YF P (.slice t x none (some hi) none) ty n m H (.string ⟨c.toArray⟩):=fun _ w d pos af g hs hw=>by
 have:=run_slice_string_h (P:=P) w t ⟨l.toArray⟩ ht k' j h0 (by simpa [ByteArray.size] using h2);rw[ByteArray.extract_mk,show (l.drop 0).take (j.toNat-0)=c by simpa using hc] at this;simp[Yl,execOp,hs.ev hx,hs.ev hhi,Instr.sliceAt,run_underlying ht,this]
theorem yf_strLo {H:World→Prop}{x lo:Operand}{t:TypeId}{k':IntKind}{j:Int}{l c:List UInt8}(hx:ev m x=some (.string ⟨l.toArray⟩)) (hlo:ev m lo=some (.int k' j)) (ht:P.underlying t=some .string) (h0:0≤j) (h2:j≤l.length) (hc:l.drop j.toNat=c):YF P (.slice t x (some lo) none none) ty n m H (.string ⟨c.toArray⟩):=fun _ w d pos af g hs hw=>by
 have:=run_slice_string_l (P:=P) w t ⟨l.toArray⟩ ht k' j h0 (by simpa [ByteArray.size] using h2);rw[ByteArray.extract_mk,show (l.drop j.toNat).take ((⟨l.toArray⟩:ByteArray).size-j.toNat)=c by rw[← hc];exact List.take_of_length_le (by simp[ByteArray.size])] at this;simp[Yl,execOp,hs.ev hx,hs.ev hlo,Instr.sliceAt,run_underlying ht,this]
theorem vJ {H:World→Prop}{x y:Operand}{t:TypeId}{k:IntKind}{i:Int}{j:Nat}{l:List UInt8}{c:UInt8}(hx:ev m x=some (.string ⟨l.toArray⟩)) (hy:ev m y=some (.int k i)) (ht:P.underlying t=some .string) (hi:i=j) (hj:l[j]? = some c):YF P (.index t x y) ty n m H (.int .u8 c.toNat):=fun a w d pos af gd hs hw=>by
 obtain⟨h1,h2⟩:=Jm.1 hj;have hb:j<(⟨l.toArray⟩:ByteArray).size:=by simpa [ByteArray.size] using h1
 have:=yf_indexStr (H:=H) (P:=P) (ty:=ty) (n:=n) hx hy ht hi hb a w d pos af gd hs hw
 have e:(⟨l.toArray⟩:ByteArray)[j]'hb=c:=by
  show l.toArray[j]=c
  simpa using h2
 rw[e] at this;exact this
theorem vL {H:World→Prop}{x:Operand}{t:TypeId}{l:List UInt8}(hx:ev m x=some (.string ⟨l.toArray⟩)) (ht:P.underlying t=some .string):YF P (.call { callee:=.builtin .len,args:=#[x],argTypes:=#[t] }) ty n m H (.int .i64 l.length):=by
 have:=yf_lenStr (P:=P) (ty:=ty) (n:=n) (H:=H) hx ht
 simpa [ByteArray.size] using this
theorem yf_strs_neq {H:World→Prop}{x y:Operand}{t t':TypeId}{a b:List UInt8}(hx:ev m x=some (.string ⟨a.toArray⟩)) (hy:ev m y=some (.string ⟨b.toArray⟩)) (_ht:P.underlying t=some .string):YF P (.binOp .neq t x y t') ty n m H (.bool (!decide (a=b))):=fun _ w d pos af g hs hw=>by
 have e:decide (a=b)=(((⟨a.toArray⟩:ByteArray).toList)==((⟨b.toArray⟩:ByteArray).toList)):=by
  rw[ByteArray.toList_eq,ByteArray.toList_eq,Jl];simp
 rw[e];simp[Yl,execOp,hs.ev hx,hs.ev hy,binOp,eqGuard_at_string,Op.stringOp,bne]
theorem fill_list:∀(vs:List (Nat×Value)) (k:Nat) (pre mid:List Value),pre.length=k→mid.length=vs.length→vs.map (·.1)=(List.range vs.length).map (·+k)→(∀p∈vs,p.2.oneCell'=true)→Instr.fill (fun i=>some (i*1,1)) (pre++mid).toArray vs=some (pre++vs.map (·.2)).toArray
 | [],k,pre,mid,h1,h2,_,_=>by
  have:mid=[]:=List.eq_nil_of_length_eq_zero (by simpa using h2);subst this;rfl
 | (i,v)::vs,k,pre,mid,h1,h2,h3,h4=>by
  cases mid with
  | nil=>simp at h2
  | cons u mid =>
   rw[Jj,List.range_succ_eq_map,Kq,Kq,List.cons.injEq] at h3;obtain⟨e1,e2⟩:=h3;have hi:i=k:=by simpa using e1
   subst hi;have hv:v.cells=[v].toArray:=by have:=h4 (i,v) (Jy ..);cases v<;>first|rfl|cases this
   have:=fill_one (size:=1) (off:=i) (place:=fun i=>some (i*1,1)) (i:=i) (v:=v) (vs:=[v]) (pre:=pre) (mid:=[u]) (post:=mid) (by simp) hv rfl h1 rfl vs;have e3:pre++[u]++mid=pre++u::mid:=by simp
   rw[e3] at this;rw[this];have ih:=fill_list vs (i+1) (pre++[v]) mid (by simp[h1]) (by simpa using h2) (by rw[e2,List.map_map];apply List.map_congr_left;intro j _;simp;omega) (fun p hp=>h4 p (Kg _ hp));rw[ih];simp
theorem wM {t e:TypeId}{parts:List (Nat×Operand)}{vs:List (Nat×Value)}{len:Nat}{z:Value}(hp:evs m parts=some vs) (hl:len=vs.length) (hi:vs.map (·.1)=List.range vs.length) (h1:vs.all (fun p=>p.2.oneCell')=true) (ht:P.underlying t=some (.slice e)) (hz:(P.info? e).bind (·.zero)=some z) (hs':(P.info? e).map (·.size)=some 1) (h0:Nat.blt 0 len=true) (h2:Nat.ble len 16777216=true) :
  NF P (.buildSlice t len parts.toArray) ty n m (bk e (vs.map (·.2))) (fun g=>.slice (some ⟨g,0,none⟩) len len):=fun a w d pos af gd hs=>by
 subst hl;have h0':0<vs.length:=by simpa [Nat.blt_eq] using h0
 have h2':=Jn h2
 have h3:=run_bs (P:=P) (parts:=vs.toArray) (len:=vs.length) ht hz hs' (by omega) (by omega) (cs:=vs.map (·.2)) (fun mid hm=>by
  have:=fill_list vs 0 [] mid rfl (by simpa using hm) (by simpa using hi) (fun p hp=>List.all_eq_true.1 h1 p hp)
  simpa using this) w
 have e2:=evs_map hs hp;simp only[execOp,List.map_toArray];rw[show parts.map (fun x=>match x with|(i,x)=>(i,a.eval x))=vs from e2];simp[h3]
end
end Go.Proofs.YtfpkpnkdnammnaaGreatDoor
