import Derived.Test.YtfpkpnkdnammnaaGreatDoorSyY
import Derived.Test.YtfpkpnkdnammnaaGreatDoorMgK
import Derived.Test.YtfpkpnkdnammnaaGreatDoorSyShelf2
import Derived.Lib.AppendIntMem
import Derived.Laws.Pointers
import Derived.Laws.Externs
import Derived.Lib.Builder
import Derived.Lib.AppendStr
import Derived.Lib.OthersKept
import Derived.Lib.UnsafeStr
set_option maxRecDepth 100000
set_option maxHeartbeats 4000000
namespace Go.Proofs.YtfpkpnkdnammnaaGreatDoor
open Go.RowKit Go.Sort
def TbN (w:World):Prop:=Lib.TabIs Tryz.prog w "internal/strconv.uint64pow10" .u64 Lib.pow10Tab
theorem TbN.ext {w w':World}(h:TbN w) (hx:Ext w w'):TbN w':=Lib.tabBelow_of_tabIs h w' hx
theorem yf_sliceArrHi {P:Program}{n:Nat}{m:List (Nat×Value)}{ty:TypeId}{H:World→Prop}{x hi:Operand}{t e:TypeId}{k:IntKind}{g o i size N:Nat}{j:Int}(hx:ev m x=some (.pointer (some ⟨g,o,none⟩))) (hh:ev m hi=some (.int k j)) (ht:P.underlying t=some (.array N e)) (hs':(P.info? e).map (·.size)=some size) (hj:j=i) (hi':i≤N) :
  YF P (.slice t x none (some hi) none) ty n m H (.slice (some ⟨g,o,none⟩) i N):=fun _ w d pos af gd hs hw=>by
 subst hj;simp[Yl,execOp,hs.ev hx,hs.ev hh,Instr.sliceAt,Instr.sureAddr,run_underlying ht,Instr.sliceBounds,Instr.sliceBound,asIntOf,tL hs',Addr.add];intro hlt;omega
abbrev encB (b:UInt8):Value:=.int .u8 (b.toNat:Int)
theorem put_dec {u v':Nat}{dk:Array UInt8}(h:Lib.FmtInv (Lib.nDigits u) u 0 v' dk) (hn:Lib.nDigits u≤24):putCells encB 0 dk (List.replicate 24 (Value.int .u8 0)).toArray=((Lib.decDigits u).map encB++List.replicate (24-Lib.nDigits u) (Value.int .u8 0)).toArray:=by
 have hl:=Lib.decDigits_length u;have hs:=h.size;apply Array.ext
 ·simp[putCells,hl];omega
 ·intro j h1 h2;have hj:j<24:=by simpa [putCells] using h1
  simp only[putCells,Array.getElem_mapIdx,Kl,true_and,Kk,Nat.sub_zero,List.getElem_toArray]
  by_cases hjn:j<Lib.nDigits u
  ·rw[Kp (by omega),List.getElem_append_left (by simp[hl];omega),List.getElem_map,Lib.row_is_numeral h j (by omega)]
  ·rw[Ko (by omega),List.getElem_append_right (by simp[hl];omega),List.getElem_replicate,List.getElem_replicate]
theorem fmt10_turn (u:Nat) (hu:u<18446744073709551616) (g T:Nat) (w:World) (hg:w.heap[g]? = some (bk T (List.replicate 24 (Value.int .u8 0)))) (hn:Lib.nDigits u≤20) :
  Calls Tryz.prog 171 #[.slice (some ⟨g,0,none⟩) (Lib.nDigits u) 24,.int .u64 u] w fun e w'=>e=.returned (.tuple #[])∧Keep (fun j=>j=g) w w'∧w'.heap[g]? = some (bk T ((Lib.decDigits u).map encB++List.replicate (24-Lib.nDigits u) (.int .u8 0))):=by
 have hH:Holds encB w g 0 (Array.replicate (Lib.nDigits u) 0):=fun j hj=>by
  have hj':j<Lib.nDigits u:=by simpa using hj
  refine⟨?_,Lib.frozen_of_heap hg _⟩;rw[cell_of_row w g _ _ _ _ hg,Kk,List.getElem?_toArray,List.getElem?_replicate,Kp (by omega)];have e:(Array.replicate (Lib.nDigits u) (0:UInt8))[j]! = 0:=by rw[getElem!_pos (Array.replicate (Lib.nDigits u) (0:UInt8)) j hj,Array.getElem_replicate]
  rw[e];rfl
 have:=Tryz.internal_strconv_formatBase10 g 0 24 u (Array.replicate (Lib.nDigits u) 0) w hH (by rw[Array.size_replicate];exact Lib.lt_pow_nDigits u) hu (by rw[Array.size_replicate];omega)
 rw[Array.size_replicate] at this;refine this.mono ?_
 rintro e w' ⟨rfl,k,v',dk,rfl,hF⟩
 have hh:((putRow encB w g 0 dk).drewN k).heap=w.heap.modify g (onCells (putCells encB 0 dk)):=rfl;refine⟨rfl,⟨rfl,rfl,rfl,?_,?_⟩,?_⟩
 ·rw[hh];simp
 ·intro j _ hj;rw[hh,Array.getElem?_modify,Ko (fun e=>hj e.symm)]
 ·rw[hh,Array.getElem?_modify,Kp rfl,hg];show some (Obj.cells (putCells encB 0 dk (List.replicate 24 (Value.int .u8 0)).toArray) T (0,0))=_;rw[put_dec hF (by omega)]
theorem nd_le {u:Nat}(h:u<18446744073709551616):Lib.nDigits u≤20:=by
 rw[← Lib.decDigits_length];exact dec_len (by omega) (by decide)
theorem fu10_any (u:Nat) (hu:u<4294967296) (w_0:World) (hT:TbN w_0):Calls Tryz.prog 159 #[.int .u64 u,.int .i64 10] w_0 fun e w'=>e=.returned (.string ⟨(Lib.decDigits u).toArray⟩)∧Ext w_0 w':=by
 have hnd:=nd_le (u:=u) (by omega);refine yV (args:=[.int .u64 u,.int .i64 10]) Tryz.func159 V 32 V (Jn V)<|Z2 0 1 V V<|zD (H':=Hp (fun _=>False) w_0 [] [] (fun _=>True)) (fun u hu=>?_) ?_
 ·subst hu;exact Hp.start0
 refine zY<|zX<|Za V V<|ZX<|zY<|zX<|Zm V V<|ZF V (yS V V)<|ZT<|zT V (fun hc=>?_) (fun hc=>?_)
 ·replace hc:=Jw hc;refine zY<|zY<|Z4r 0 1 4 10 V V V V<|Zm V V<|ZF V (xS V V)<|ZT<|zT V (fun hc=>?_) (fun hc=>?_)
  ·replace hc:=Jo hc;refine zY<|Z5r 0 1 4 10 12 V V V V V<|Zm V V ?_
   refine ZF V (qP V (by kernel_rfl) U3 (i64_in _ (by omega) (by omega))) ?_
   refine yT .none V (by kernel_rfl) V (fun w hw=>(Tryz.internal_strconv_small u (by omega) w).mono fun e w' ⟨h1,h2⟩=>⟨h1,by subst h2;exact Ext.refl _⟩) ?_
   refine Za V V<|ZT<|zK<|zV<|zV<|zI V V (fun w hw=>?_);exact⟨rfl,(Jq hw).ext⟩
  ·replace hc:=Jp hc;refine zG<|zQ<|zY<|Z5r 0 1 4 10 12 V V V V V<|zC .none V (yK (z:=.agg #[.int .u8 0,.int .u8 0,.int .u8 0,.int .u8 0,.int .u8 0,.int .u8 0,.int .u8 0,.int .u8 0,.int .u8 0,.int .u8 0,.int .u8 0,.int .u8 0,.int .u8 0,.int .u8 0,.int .u8 0,.int .u8 0,.int .u8 0,.int .u8 0,.int .u8 0,.int .u8 0,.int .u8 0,.int .u8 0,.int .u8 0,.int .u8 0]) (cs:=[.int .u8 0,.int .u8 0,.int .u8 0,.int .u8 0,.int .u8 0,.int .u8 0,.int .u8 0,.int .u8 0,.int .u8 0,.int .u8 0,.int .u8 0,.int .u8 0,.int .u8 0,.int .u8 0,.int .u8 0,.int .u8 0,.int .u8 0,.int .u8 0,.int .u8 0,.int .u8 0,.int .u8 0,.int .u8 0,.int .u8 0,.int .u8 0]) (by kernel_rfl) V) (fun b5=>?_);refine ZX<|zX<|Zm V V ?_
   refine yT .none V (by kernel_rfl) V (fun w hw=>(Tryz.internal_strconv_numDigits u (by omega) (by omega) w (hT.ext (Jq hw).ext)).mono fun e w' ⟨h1,h2⟩=>⟨h1,by subst h2;exact Ext.refl _⟩) ?_
   refine Za V V<|ZX<|Z7r 0 1 4 5 6 10 12 V V V V V V V<|Zm V V<|ZF V (yf_sliceArrHi (size:=1) V V Tryz.underlying193 (by kernel_rfl) V (by omega)) ?_;refine Zm V V<|xQ .none V (cf_turn 0 (by kernel_rfl) V V (fun w hg hw=>fmt10_turn u (by omega) b5 193 w hg hnd)) (fun _=>?_);refine ZX<|Z7r 0 1 4 5 6 10 12 V V V V V V V<|Zm V V<|ZF V (yf_sliceArrHi (size:=1) V V Tryz.underlying193 (by kernel_rfl) V (by omega)) ?_
   refine ZF V (yf_convL 0 (Lib.decDigits u) V V Tryz.underlying54 Tryz.underlying5 Tryz.underlying9 (Lib.decDigits_length u) (fun j hj=>by rw[Kk,List.getElem?_append_left (by rw[Kt];exact hj),List.getElem?_map,Jt hj];rfl)) ?_
   refine Za V V<|ZT<|zK<|zV<|zI V V (fun w hw=>?_);exact⟨rfl,(Jq hw).ext⟩
 ·replace hc:=yP hc;exact absurd V hc
theorem sfu_any (u:Nat) (hu:u<4294967296) (w_0:World) (hT:TbN w_0):Calls Tryz.prog 146 #[.int .u64 u,.int .i64 10] w_0 fun e w'=>e=.returned (.string ⟨(Lib.decDigits u).toArray⟩)∧Ext w_0 w':=by
 refine yV (args:=[.int .u64 u,.int .i64 10]) Tryz.func146 V 8 V (Jn V)<|Z2 0 1 V V<|zD (H':=Hp (fun _=>False) w_0 [] [] (fun _=>True)) (fun u hu=>?_) ?_
 ·subst hu;exact Hp.start0
 refine zY<|zX<|Za V V<|ZX<|zX<|Zm V V<|Zm V V<|yT .none V  (by kernel_rfl) V (fun w hw=>fu10_any u hu w (hT.ext (Jq hw).ext)) ?_;refine Za V V<|ZT<|zK<|zI V V (fun w hw=>?_);exact⟨rfl,(Jq hw).ext⟩
def levN (s:Bs):Nat:=(wA s).getD 0
def pM (k:Nat) (s:Bs):Nat:=if k≠7 then 8 else levN s
theorem lev_le (s:Bs):levN s≤7:=by
 unfold levN wA
 have key:∀t:List (Bs×Nat),(∀p∈t,p.2≤7)→(vC s t).getD 0≤7:=by
  intro t
  induction t with
  | nil=>intro _;simp[vC]
  | cons p t ih =>
   intro h;obtain⟨x,v⟩:=p;unfold vC
   split
   ·exact h _ (Jy ..)
   ·exact ih fun p hp=>h p (Kg _ hp)
 exact key _ (by decide)
section
variable {P:Program}{n:Nat}{m:List (Nat×Value)}{ty:TypeId}
theorem yf_lookupS1 {H:World→Prop}{x y:Operand}{T K E:TypeId}{g:Nat}{tab:List (Bs×Nat)}{key:Bs}(hx:ev m x=some (.map (some g))) (hy:ev m y=some (.string ⟨key.toArray⟩)) (hr:∀w,H w→w.heap[g]? = some (mapO tab)) (hT:P.underlying T=some (.map K E)) (hK:P.underlying K=some .string) (hE:∀w,(zeroValue E).run P w=.ok (.int .i64 0) w) :
  YF P (.lookup T x y false) ty n m H (.int .i64 ((vC key tab).getD 0:Nat)):=fun a w d pos af gd hs hw=>by
 have hr':=hr w hw;have hc:(Instr.checkKey (mapE tab).isEmpty 10000 K (.string ⟨key.toArray⟩)).run P w=.ok () w:=MapKept.run_checkKey (k:=.string ⟨key.toArray⟩) hK (by simp[MapKept.IsKey]) _ 9999;obtain⟨n',hn⟩:=find_tab key tab 0 0;have hn':Instr.findNow .string (.string ⟨key.toArray⟩) (mapE tab) 0=some ((vC key tab).map fun v=>(n',.int .i64 v)):=hn
 have:(Instr.lookup T (.map (some g)) (.string ⟨key.toArray⟩) false).run P w=.ok (.int .i64 ((vC key tab).getD 0:Nat)) w:=by
  cases hl:vC key tab with
  | none=>rw[hl] at hn';simp[Instr.lookup,run_underlying hT,MapKept.run_getObj_map hr',hc,MapKept.run_findKey hK hn',hE,Result.andThen]
  | some v=>rw[hl] at hn';simp[Instr.lookup,run_underlying hT,MapKept.run_getObj_map hr',hc,MapKept.run_findKey hK hn',Result.andThen]
 simp[Yl,execOp,hs.ev hx,hs.ev hy,this]
end
theorem binds_any (k n:Nat) (s:Bs) (A:Option Addr) (len cap:Nat) (w_0:World):Calls Tryz.prog 145 #[.agg (exC k n s A len cap).toArray] w_0 fun e w'=>e=.returned (.int .i64 (pM k s))∧Ext w_0 w':=by
 refine yV (args:=[.agg (exC k n s A len cap).toArray]) Tryz.func145 V 10 V (Jn V)<|Z1 0 V<|zD (H':=Hp (fun _=>False) w_0 [] [] (fun _=>True)) (fun u hu=>?_) ?_
 ·subst hu;exact Hp.start0
 refine zY<|zX<|zC .none V (vY V V) (fun b1=>?_);refine Za V V<|ZX<|zY<|zX<|ZF V (Y57x0 V) ?_;refine ZF V (zW 0 V V V U3 V)<|ZF V (sW V V)<|ZT<|zT V (fun hc=>?_) (fun hc=>?_)
 ·replace hc:=tQ hc;refine zY<|Z4r 0 1 2 5 V V V V<|Za V V<|ZT<|zK<|zV<|zI V V (fun w hw=>?_);exact⟨by rw[pM,Kp (by omega)];rfl,(Jq hw).ext⟩
 ·replace hc:=rO hc;refine zG<|zQ<|zY<|Z4 0 1 2 5 V V V V<|wc_drawA 3 [1,2,0] (Blk b1 _) (by kernel_rfl) (by kernel_rfl) Blk.stab (fun w h=>HpG.blk h (k:=0) V) (fun n0 hn0=>?_);refine Zd V V V (Y57x2 V) ?_;refine Zd V V V (uH V V U9 V)<|xF V<|wd_levels (fun _ h=>h.elim) (fun w w' h hx=>Blk.onE h hx) .none V  (fun gl FL hFL=>?_);refine wd_endA<|yN (k:=1) [3] (by kernel_rfl) (by simp) ⟨⟨_,rfl,?_⟩,trivial⟩
  ·refine ZF V (yf_lookupS1 V V (fun w h=>(HpG.x h).1.2.2) Tryz.underlying185 Tryz.underlying9 zero_int) ?_;refine zU<|yW<|yN (k:=0) [4] (by kernel_rfl) (by simp) ⟨⟨_,rfl,?_⟩,trivial⟩
   ·refine Za V V<|zU<|yW<|qU (by kernel_rfl) ?_;refine zQ<|zK<|zI V V (fun w hw=>?_);exact⟨by rw[pM,Ko (by omega)];rfl,(Jq hw).ext⟩
mutual
def vD:Ex→Nat→Bs
 | .mk k n s kids,need =>
  let t:=if k=1 then Lib.decDigits n else if k=2 then s else if k=3 then s++[40]++Lib.join (textEs kids) [44,32]++[41] else if k=4 then [109,101,109,91]++textH kids 0++[93] else if k=5 then [105,110] else if k=6 then s++textH kids 8 else textH kids (levN s)++[32]++s++[32]++textS kids (levN s+1)
  if pM k s<need then [40]++t++[41] else t
def textEs:List Ex→List Bs
 | []=>[]
 | x::l=>vD x 0::textEs l
def textH:List Ex→Nat→Bs
 | [],_=>[]
 | x::_,need=>vD x need
def textS:List Ex→Nat→Bs
 | [],_=>[]
 | _::l,need=>textH l need
end
end Go.Proofs.YtfpkpnkdnammnaaGreatDoor
namespace Go.Proofs.YtfpkpnkdnammnaaGreatDoor
open Go.RowKit
mutual
def exU:Ex→Bool
 | .mk _ n _ kids=>decide (n<4294967296)&&exUs kids
def exUs:List Ex→Bool
 | []=>true
 | x::l=>exU x&&exUs l
end
theorem qX {l:List Ex}(h:exUs l=true):∀x∈l,exU x=true:=by
 induction l with
 | nil=>intro x hx;cases hx
 | cons y l ih =>
  simp only[exUs,Kj] at h;intro x hx;rcases List.mem_cons.1 hx with rfl|hx
  ·exact h.1
  ·exact ih h.2 x hx
def textT (k n:Nat) (s:Bs) (kids:List Ex):Bs:=if k=1 then Lib.decDigits n else if k=2 then s else if k=3 then s++[40]++Lib.join (textEs kids) [44,32]++[41] else if k=4 then [109,101,109,91]++textH kids 0++[93] else if k=5 then [105,110] else if k=6 then s++textH kids 8 else textH kids (levN s)++[32]++s++[32]++textS kids (levN s+1)
theorem textE_eq (k n:Nat) (s:Bs) (kids:List Ex) (need:Nat):vD (.mk k n s kids) need=if pM k s<need then [40]++textT k n s kids++[41] else textT k n s kids:=by simp only[vD,textT]
theorem textEs_len (l:List Ex):(textEs l).length=l.length:=by
 induction l with
 | nil=>rfl
 | cons x l ih=>simp only[textEs,Jj,ih]
theorem textEs_at {l:List Ex}{i:Nat}{x:Ex}(h:l[i]? = some x):(textEs l)[i]? = some (vD x 0):=by
 induction l generalizing i with
 | nil=>cases h
 | cons y l ih =>
  cases i with
  | zero=>cases h;simp[textEs]
  | succ i=>simp only[textEs,List.getElem?_cons_succ];exact ih h
theorem join_mem {sep:Bs}:∀{l:List Bs}{x:Bs},x∈l→x.length≤(Lib.join l sep).length
 | y::l,x,h=>by
  rw[Lib.join_cons,Ji];rcases List.mem_cons.1 h with rfl|h
  ·omega
  ·have:x.length≤(Lib.joinTail sep l).length:=by
    unfold Lib.joinTail;obtain⟨a,b,rfl⟩:=List.append_of_mem h;simp only[List.map_append,Kq,List.flatten_append,Kr,Ji];omega
   omega
theorem exs_len (l:List Ex):l.length≤exNs l:=by
 induction l with
 | nil=>simp[exNs]
 | cons x l ih =>
  cases x with
  | mk k n s kids=>simp only[exNs,exN,Jj];omega
theorem wN.stab {F:Nat→Prop}{w0:World}:vA (wN F w0):=fun w ob h k h1 h2=>by
 have e:=h k h1 h2;rw[Array.getElem?_eq_getElem h2] at e;exact (Below.heap_alloc w ob k (Jv.1 e).1).trans (h k h1 h2)
theorem wN.ext {F:Nat→Prop}{w0 w w':World}(h:wN F w0 w) (hx:Ext w w'):wN F w0 w':=fun k h1 h2=>by
 have e:=h k h1 h2;rw[Array.getElem?_eq_getElem h2] at e;exact (Ext.block hx e).trans (by rw[Array.getElem?_eq_getElem h2])
theorem join_any (l:List Bs) (sep:Bs) (A:Option Addr) (cap:Nat) (hcap:l.length≤cap) (hn:l.length≤1000000000000) (hl:(Lib.join l sep).length≤1000000000000) {F:Nat→Prop}(w:World) (h:RdF F A (xX l) w):Calls Tryz.prog 43 #[.slice A l.length cap,.string ⟨sep.toArray⟩] w fun e w'=>e=.returned (.string ⟨(Lib.join l sep).toArray⟩)∧Ext w w':=by
 cases l with
 | nil=>exact (Tryz.strings_Join_none A cap ⟨sep.toArray⟩ w).mono fun e w' ⟨e1,e2⟩=>⟨e1,by subst e2;exact Ext.refl _⟩
 | cons y l =>
  obtain⟨b,off,rfl,_,hlt,hc⟩:=h (by simp[xX])
  have hm:((y::l).map fun s:Bs=>(⟨s.toArray⟩:ByteArray)).map (·.data.toList)=y::l:=by
   rw[List.map_map];simp[Function.comp_def]
  have:=Tryz.strings_Join b off cap ((y::l).map fun s:Bs=>(⟨s.toArray⟩:ByteArray)) ⟨sep.toArray⟩ w (fun j x hx=>by
   rw[List.getElem?_map] at hx
   cases hj:(y::l)[j]? with
   | none=>rw[hj] at hx;cases hx
   | some z =>
    rw[hj] at hx;cases hx;have hjl:=(Jm.1 hj).1
    rw[hc j (by simpa [xX] using hjl),Ka,rU hj];rfl) hlt (by rw[Kt];omega) (by rw[Kt];exact hcap) (by rw[hm];show (Lib.join (y::l) sep).length≤_;omega)
  rw[hm,Kt] at this;exact this
def TXE (x:Ex):Prop:=∀(need:Nat) (F:Nat→Prop) (A:Option Addr) (cap:Nat) (w:World),yJ x=true→exU x=true→exN x≤1000000000000→(vD x need).length≤1000000000000→TbN w→xT F w x A cap →
 Calls Tryz.prog 121 #[.agg (xL x A cap).toArray,.int .i64 need] w fun e w'=>e=.returned (.string ⟨(vD x need).toArray⟩)∧Ext w w'
structure TxI where
 i:Nat
 A:Option Addr
 cap:Nat
theorem text_step0 (k n:Nat) (s:Bs) (kids:List Ex) (IH:∀x∈kids,TXE x) (need:Nat) (hneed:need≤pM k s) (F:Nat→Prop) (A:Option Addr) (cap:Nat) (w_0:World) (hr:yJ (.mk k n s kids)=true) (hu:exU (.mk k n s kids)=true) (hN:exN (.mk k n s kids)≤1000000000000) (hl:(textT k n s kids).length≤1000000000000) (hT:TbN w_0) (h:xT F w_0 (.mk k n s kids) A cap) :
  Calls Tryz.prog 121 #[.agg (exC k n s A kids.length cap).toArray,.int .i64 need] w_0 fun e w'=>e=.returned (.string ⟨(textT k n s kids).toArray⟩)∧Ext w_0 w':=by
 obtain⟨hle,kc,hk1,hk2⟩:=h;dsimp only[Ex.kids] at hk2 hle;have hlt:=hle.lt;simp only[rightEx_eq,Kj] at hr;obtain⟨⟨hok,hn0⟩,hrk⟩:=hr;rw[wK,List.all_eq_true] at hrk;simp only[exU,Kj,Kn] at hu;obtain⟨hun,huk⟩:=hu;have huk:=qX huk;simp only[exN] at hN;have hkl:=exs_len kids;have hlev:=lev_le s;have hbk:pM k s≤8:=by unfold pM;split<;>omega
 have hA:0<kids.length→∃b off,A=some ⟨b,off,none⟩:=fun h0=>by
  obtain⟨b,off,e,_⟩:=hk1 (by rw[hk2.len];omega);exact⟨b,off,e⟩
 have hNm:∀x∈kids,exN x≤1000000000000:=fun x hx=>by have:=exN_mem hx;omega
 refine yV (args:=[.agg (exC k n s A kids.length cap).toArray,.int .i64 need]) Tryz.func121 V 92 V (Jn V)<|Z2 0 1 V V<|zD (H':=Hp (fun _=>False) w_0 [] [] (wN F w_0)) (fun u hu=>?_) ?_
 ·subst hu;exact Hp.startSame
 refine zY<|zX<|zC .none V (vY V V) (fun b2=>?_);refine Za V V<|ZX<|zY<|zX<|ZF V (yX 0 V V U57 V (by kernel_rfl)) ?_;refine yT .none V  (v:=.int .i64 (pM k s)) (by kernel_rfl) V (fun w hw=>binds_any k n s A kids.length cap w) ?_;refine Zm V V<|ZF V (xS V V)<|ZT<|zT V (fun hc=>?_) (fun hc=>?_)
 ·replace hc:=Jo hc;omega
 ·replace hc:=Jp hc;refine zG<|zQ<|zY<|zY<|Z5r 0 1 2 4 11 V V V V V<|ZF V (Y57x0 V) ?_;refine ZF V (zW 0 V V V U3 V)<|ZT<|yY<|zY<|Z6r 0 1 2 4 11 17 V V V V V V<|ZF V (yS V V)<|Za V V<|ZT<|zT V (fun hc=>?_) (fun hc=>?_)
  ·replace hc:=Jw hc;have hk:k=1:=by omega
   refine zY<|Z7r 0 1 2 4 11 17 18 V V V V V V V<|ZF V (Y57x1 V) ?_;refine ZF V (zW 0 V V V U50 V) ?_
   refine ZF V (qP V (by kernel_rfl) U53 (u64_in _ (by omega) (by omega))) ?_
   refine yT .none V  (v:=.string ⟨(Lib.decDigits n).toArray⟩) (by kernel_rfl) V (fun w hw=>sfu_any n hun w (hT.ext (Jq hw).ext)) ?_;refine Za V V<|ZT<|zK<|zR<|zV<|zI V V (fun w hw=>?_);exact⟨by rw[show textT k n s kids=Lib.decDigits n from Kp hk],(Jq hw).ext⟩
  ·replace hc:=yP hc;have hk1':k≠1:=by omega
   refine zY<|Z7r 0 1 2 4 11 17 18 V V V V V V V<|ZF V (yS V V)<|Za V V<|ZT<|zT V (fun hc=>?_) (fun hc=>?_)
   ·replace hc:=Jw hc;have hk:k=2:=by omega
    refine zY<|Z8r 0 1 2 4 11 17 18 24 V V V V V V V V<|ZF V (Y57x2 V) ?_;refine ZF V (zW 0 V V V U9 V)<|Za V V<|ZT<|zK<|zR<|zV<|zI V V (fun w hw=>?_);exact⟨by rw[show textT k n s kids=s from (Ko hk1').trans (Kp hk)],(Jq hw).ext⟩
   ·replace hc:=yP hc;have hk2':k≠2:=by omega
    refine zY<|Z8r 0 1 2 4 11 17 18 24 V V V V V V V V<|ZF V (yS V V)<|Za V V<|ZT<|zT V (fun hc=>?_) (fun hc=>?_)
    ·replace hc:=Jw hc;have hk:k=3:=by omega
     subst hk;have hl3:(s++[40]++Lib.join (textEs kids) [44,32]++[41]).length≤1000000000000:=hl;simp only[Ji,Jj,Jk] at hl3;refine zY<|Z9r 0 1 2 4 11 17 18 24 28 V V V V V V V V V<|Za V V<|ZX<|zY<|zX<|ZF V (Y57x3 V) ?_;refine ZF V (zW 0 V V V U55 V)<|ZF V (yM V U55)<|Zm V V<|ZT<|yY<|xV (ι:={j:TxI // j.i≤kids.length∧j.i≤j.cap}) (fun j=>[(2,.pointer (some ⟨b2,0,none⟩)),(5,.slice j.1.A j.1.i j.1.cap),(31,.slice A kids.length cap),(32,.int .i64 kids.length),(33,.int .i64 j.1.i)]) (fun j=>Hp (fun _=>False) w_0 [(b2,bk 57 (exC 3 n s A kids.length cap))] [⟨.slice j.1.A j.1.i j.1.cap,9,1,j.1.i,xX ((textEs kids).take j.1.i)⟩] (wN F w_0)) (fun j=>kids.length-j.1.i) ⟨⟨0,none,0⟩,Kl _,Km _⟩ ?_ ?_ (fun j=>?_)
     ·exact .cons V<|.cons V<|.cons V<|.cons V<|.cons V<|.nil
     ·exact fun w h=>Hp.nil h _ _
     obtain⟨⟨i,Ar,cr⟩,hi,hcr⟩:=j;dsimp only at hi hcr ⊢;refine zY<|zX<|ZF V (xS V V)<|ZX<|zT V (fun hc=>?_) (fun hc=>?_)
     ·replace hc:=Jo hc;obtain⟨b,off,rfl⟩:=hA (by omega);have hil:i<kids.length:=by omega
      obtain⟨x,hx⟩:∃x,kids[i]? = some x:=⟨kids[i],Jt hil⟩;have hxm:=Ju hx;obtain⟨A1,cap1,hfix⟩:=hk2.fix hx;have hxk:=(hfix F w_0 hk2).1;have hcell:=(hfix F w_0 hk2).2;have hxl:=join_mem (sep:=[44,32]) (Ju (textEs_at hx));have hte:=wF (textEs_at hx);refine zG<|zQ<|zY<|yY<|zY<|zX<|ZF rfl (zJ (es:=4) rfl rfl U55 (by kernel_rfl) rfl (by first|decide|omega|(simp;done)|(simp;omega)) rfl) ?_;refine ZF V (yD (cs:=xL x A1 cap1) V U57 V (by kernel_rfl) (fun w h j v hv=>RdF.part ((HpG.x h).get RdF.lies hk1) (Jm.1 (hcell j v hv)).1 (by omega) (hcell j v hv))) ?_;refine zC .none V (yK (z:=.agg #[.int .i64 0,.int .u32 0,.string ⟨#[]⟩,.slice none 0 0]) (cs:=Je) (by kernel_rfl) V) (fun b7=>?_);refine ZR 0 V V V V V (by kernel_rfl) ?_;refine ZT<|Z7r 2 5 7 31 32 33 34 V V V V V V V<|Zm V V<|ZF V (yX 0 V V U57 V (by kernel_rfl)) ?_;refine yT .none V  (v:=.string ⟨(vD x 0).toArray⟩) (by kernel_rfl) V (fun w hw=>IH x hxm 0 F A1 cap1 w (hrk x hxm) (huk x hxm) (hNm x hxm) (by omega) (hT.ext (Jq hw).ext) ((HpG.x hw).get xT.lies hxk)) ?_;refine zC .none V (xR (z:=Ja) V V U22 (by kernel_rfl) (by kernel_rfl) V V) (fun b40=>?_);refine uO (z:=Ja) (bytes:=16) 0 0 .none V V V V V U22 (by kernel_rfl) V V V V V (by omega) (by omega) (fun a41 c41 h41=>?_);refine Za V V<|zU<|zM<|zQ<|Z7r 2 5 7 31 32 33 34 V V V V V V V<|ZF V (yI V V (i64_in _ (by omega) (by omega))) ?_;refine Zm V V<|zU<|yC (ι:={j:TxI // j.i≤kids.length∧j.i≤j.cap}) ⟨⟨i+1,some ⟨a41,0,none⟩,c41⟩,hil,h41⟩ (by show kids.length-(i+1)<kids.length-i;omega) (O5 V V V V V) (fun w h=>?_);have h2:=Hp.drop h ((Js _ _).trans (Js _ _)) (Jr _);dsimp only;rw[hte,strs_one'];exact h2
     ·replace hc:=Jp hc;have hie:i=kids.length:=by omega
      subst hie;rw[show (textEs kids).take kids.length=textEs kids by rw[← textEs_len kids,Kh]];refine xY<|zN<|zN<|xZ<|zQ<|zY<|wR 7 [0,1,2,3,4,5,6] (Blk b2 _) (by kernel_rfl) (by kernel_rfl) Blk.stab (fun w h=>HpG.blk h (k:=0) V) (fun n0 hn0=>?_);refine Zd V V V (Y57x2 V) ?_;refine Zd rfl rfl rfl (uH rfl rfl U9 rfl)<|Zd rfl rfl rfl (zF rfl rfl (by first|omega|simp<;>omega)) ?_;refine Zd V V V (zO V)<|xF V<|sM .none V  (v:=.string ⟨(Lib.join (textEs kids) [44,32]).toArray⟩) (by kernel_rfl) V (fun w w' h hx=>Blk.onE h hx) (fun w hw=>?_) ?_
      ·have hj:=join_any (textEs kids) [44,32] Ar cr (by rw[textEs_len];exact hcr) (by rw[textEs_len];omega) (by omega) w (HpG.rowF hw (j:=0) rfl);rw[textEs_len] at hj;exact hj
      refine xF rfl<|sL rfl .none rfl (zF rfl rfl (by first|omega|simp<;>omega)) ?_;refine Zd rfl rfl rfl (zF rfl rfl (by first|omega|simp<;>omega)) ?_;refine wL ?_;simp only[Jz,Ke];refine Za V V<|ZT<|zK<|zR<|zV<|zI V V (fun w hw=>?_);exact⟨rfl,(Jq hw).ext⟩
    ·replace hc:=yP hc;have hk3':k≠3:=by omega
     refine zY<|Z9r 0 1 2 4 11 17 18 24 28 V V V V V V V V V<|ZF V (yS V V)<|Za V V<|ZT<|zT V (fun hc=>?_) (fun hc=>?_)
     ·replace hc:=Jw hc;have hk:k=4:=by omega
      subst hk
      obtain⟨x,rfl⟩:∃x,kids=[x]:=by
       rw[xB rfl] at hok;simp only[Kj,Kn] at hok;exact List.length_eq_one_iff.1 hok.2
      obtain⟨g0,o0,rfl⟩:=hA (by simp);obtain⟨A1,cap1,hfix⟩:=hk2.fix (i:=0) (x:=x) rfl;have hxk:=(hfix F w_0 hk2).1;have hcell:=(hfix F w_0 hk2).2;have hl4:([109,101,109,91]++vD x 0++[93]).length≤1000000000000:=hl;simp only[Ji,Jj,Jk] at hl4;refine zY<|Z10r 0 1 2 4 11 17 18 24 28 50 V V V V V V V V V V<|ZF V (Y57x3 V) ?_;refine ZF rfl (zW 0 rfl rfl rfl U55 rfl)<|ZF rfl (zJ (j:=0) (es:=4) rfl rfl U55 (by kernel_rfl) rfl (by first|decide|omega|(simp;done)|(simp;omega)) rfl) ?_;refine ZF V (yD (cs:=xL x A1 cap1) V U57 V (by kernel_rfl) (fun w h j v hv=>RdF.part ((HpG.x h).get RdF.lies hk1) (Jm.1 (hcell j v hv)).1 (by omega) (hcell j v hv))) ?_;refine yT .none V  (v:=.string ⟨(vD x 0).toArray⟩) (by kernel_rfl) V (fun w hw=>IH x (by simp) 0 F A1 cap1 w (hrk x (by simp)) (huk x (by simp)) (hNm x (by simp)) (by omega) (hT.ext (Jq hw).ext) ((HpG.x hw).get xT.lies hxk)) ?_;refine ZF rfl (zF rfl rfl (by first|omega|simp<;>omega)) ?_;refine ZF rfl (zF rfl rfl (by first|omega|simp<;>omega)) ?_;refine Za V V<|ZT<|zK<|zR<|zV<|zI V V (fun w hw=>?_);exact⟨rfl,(Jq hw).ext⟩
     ·replace hc:=yP hc;have hk4':k≠4:=by omega
      refine zY<|Z10r 0 1 2 4 11 17 18 24 28 50 V V V V V V V V V V<|ZF V (yS V V)<|Za V V<|ZT<|zT V (fun hc=>?_) (fun hc=>?_)
      ·replace hc:=Jw hc;have hk:k=5:=by omega
       refine zY<|Z11r 0 1 2 4 11 17 18 24 28 50 59 V V V V V V V V V V V<|Za V V<|ZT<|zK<|zR<|zV<|zI V V (fun w hw=>?_);exact⟨by rw[show textT k n s kids=[105,110] from (Ko hk1').trans ((Ko hk2').trans ((Ko hk3').trans ((Ko hk4').trans (Kp hk))))],(Jq hw).ext⟩
      ·replace hc:=yP hc;have hk5':k≠5:=by omega
       refine zY<|Z11r 0 1 2 4 11 17 18 24 28 50 59 V V V V V V V V V V V<|ZF V (yS V V)<|Za V V<|ZT<|zT V (fun hc=>?_) (fun hc=>?_)
       ·replace hc:=Jw hc;have hk:k=6:=by omega
        subst hk
        obtain⟨x,rfl⟩:∃x,kids=[x]:=by
         rw[xC rfl] at hok;simp only[Kj,Kn] at hok;exact List.length_eq_one_iff.1 hok.2
        obtain⟨g0,o0,rfl⟩:=hA (by simp);obtain⟨A1,cap1,hfix⟩:=hk2.fix (i:=0) (x:=x) rfl;have hxk:=(hfix F w_0 hk2).1;have hcell:=(hfix F w_0 hk2).2;have hl6:(s++vD x 8).length≤1000000000000:=hl;simp only[Ji] at hl6;refine zY<|Z12 0 1 2 4 11 17 18 24 28 50 59 61 V V V V V V V V V V V V<|wR 8 [0,1,2,3,4,5,6,7] (fun u=>Blk b2 (bk 57 (exC 6 n s (some ⟨g0,o0,none⟩) 1 cap)) u∧wN F w_0 u) (by kernel_rfl) (by kernel_rfl) (fun u ob ⟨h1,h2⟩=>⟨Blk.stab u ob h1,wN.stab u ob h2⟩) (fun w h=>⟨HpG.blk h (k:=0) rfl,HpG.x h⟩) (fun n0 hn0=>?_);refine Zd V V V (Y57x2 V) ?_;refine Zd V V V (yO (v:=.string ⟨s.toArray⟩) V U9 V (fun u h=>by rw[cell_of_row u b2 _ _ _ _ h.1];rfl)) ?_;refine Zd V V V (Y57x3 V) ?_;refine Zd V V V (yO (v:=.slice (some ⟨g0,o0,none⟩) 1 cap) V U55 V (fun u h=>by rw[cell_of_row u b2 _ _ _ _ h.1];rfl)) ?_;refine Zd rfl rfl rfl (zJ (j:=0) (es:=4) rfl rfl U55 (by kernel_rfl) rfl (by first|decide|omega|(simp;done)|(simp;omega)) rfl) ?_;refine Zd V V V (yD (cs:=xL x A1 cap1) V U57 V (by kernel_rfl) (fun w h j v hv=>RdF.part (h.2.get RdF.lies hk1) (Jm.1 (hcell j v hv)).1 (by omega) (hcell j v hv))) ?_;refine xF V<|sM .none V  (v:=.string ⟨(vD x 8).toArray⟩) (by kernel_rfl) V (fun w w' h hx=>⟨Blk.onE h.1 hx,h.2.ext hx⟩) (fun w hw=>IH x (by simp) 8 F A1 cap1 w (hrk x (by simp)) (huk x (by simp)) (hNm x (by simp)) (by omega) (hT.ext (Jq hw).ext) ((HpG.x hw).get xT.lies hxk)) ?_;refine Zd rfl rfl rfl (zF rfl rfl (by first|omega|simp<;>omega)) ?_;refine wL ?_;simp only[Jz,Ke];refine Za V V<|ZT<|zK<|zR<|zV<|zI V V (fun w hw=>?_);exact⟨rfl,(Jq hw).ext⟩
       ·replace hc:=yP hc
        have hk7:k=7:=by
         by_cases h7:k=7
         ·exact h7
         ·rw[wV (by omega)] at hok;cases hok
        subst hk7
        obtain⟨x,y,rfl⟩:∃x y,kids=[x,y]:=by
         rw[xD rfl] at hok;simp only[Kj,Kn] at hok;obtain⟨_,h2⟩:=hok
         match kids,h2 with
         | [x,y],_=>exact⟨x,y,rfl⟩
        obtain⟨g0,o0,rfl⟩:=hA (by simp);obtain⟨A1,cap1,hfix⟩:=hk2.fix (i:=0) (x:=x) rfl;have hxk:=(hfix F w_0 hk2).1;have hcell:=(hfix F w_0 hk2).2;obtain⟨A2,cap2,hfix2⟩:=hk2.fix (i:=1) (x:=y) rfl;have hyk:=(hfix2 F w_0 hk2).1;have hcell2:=(hfix2 F w_0 hk2).2;have hl7:(vD x (levN s)++[32]++s++[32]++vD y (levN s+1)).length≤1000000000000:=hl;simp only[Ji,Jj,Jk] at hl7;refine zG<|zM<|zQ<|zY<|Z12 0 1 2 4 11 17 18 24 28 50 59 61 V V V V V V V V V V V V<|wR 21 [0,1,2,3,4,5,6,7,8,9,10,11,12,13,14,15,16,17,18,19,20] (fun u=>Blk b2 (bk 57 (exC 7 n s (some ⟨g0,o0,none⟩) 2 cap)) u∧wN F w_0 u) (by kernel_rfl) (by kernel_rfl) (fun u ob ⟨h1,h2⟩=>⟨Blk.stab u ob h1,wN.stab u ob h2⟩) (fun w h=>⟨HpG.blk h (k:=0) rfl,HpG.x h⟩) (fun n0 hn0=>?_);refine Zd V V V (Y57x3 V) ?_;refine Zd V V V (yO (v:=.slice (some ⟨g0,o0,none⟩) 2 cap) V U55 V (fun u h=>by rw[cell_of_row u b2 _ _ _ _ h.1];rfl)) ?_;refine Zd rfl rfl rfl (zJ (j:=0) (es:=4) rfl rfl U55 (by kernel_rfl) rfl (by first|decide|omega|(simp;done)|(simp;omega)) rfl) ?_;refine Zd V V V (yD (cs:=xL x A1 cap1) V U57 V (by kernel_rfl) (fun w h j v hv=>RdF.part (h.2.get RdF.lies hk1) (Jm.1 (hcell j v hv)).1 (by omega) (hcell j v hv))) ?_;refine Zd V V V (yD (cs:=exC 7 n s (some ⟨g0,o0,none⟩) 2 cap) V U57 V (by kernel_rfl) (fun w h j v hv=>by rw[Kk,cell_of_row w b2 j _ _ _ h.1,List.getElem?_toArray];exact hv)) ?_;refine xF V<|sM .none V  (v:=.int .i64 (levN s)) (by kernel_rfl) V (fun w w' h hx=>⟨Blk.onE h.1 hx,h.2.ext hx⟩) (fun w hw=>binds_any 7 n s (some ⟨g0,o0,none⟩) 2 cap w) ?_;refine xF V<|sM .none V  (v:=.string ⟨(vD x (levN s)).toArray⟩) (by kernel_rfl) V (fun w w' h hx=>⟨Blk.onE h.1 hx,h.2.ext hx⟩) (fun w hw=>IH x (by simp) (levN s) F A1 cap1 w (hrk x (by simp)) (huk x (by simp)) (hNm x (by simp)) (by omega) (hT.ext (Jq hw).ext) ((HpG.x hw).get xT.lies hxk)) ?_;refine Zd rfl rfl rfl (zF rfl rfl (by first|omega|simp<;>omega)) ?_;refine Zd V V V (Y57x2 V) ?_;refine Zd V V V (yO (v:=.string ⟨s.toArray⟩) V U9 V (fun u h=>by rw[cell_of_row u b2 _ _ _ _ h.1];rfl)) ?_;refine Zd rfl rfl rfl (zF rfl rfl (by first|omega|simp<;>omega)) ?_;refine Zd rfl rfl rfl (zF rfl rfl (by first|omega|simp<;>omega)) ?_;refine Zd V V V (Y57x3 V) ?_;refine Zd V V V (yO (v:=.slice (some ⟨g0,o0,none⟩) 2 cap) V U55 V (fun u h=>by rw[cell_of_row u b2 _ _ _ _ h.1];rfl)) ?_;refine Zd rfl rfl rfl (zJ (j:=1) (es:=4) rfl rfl U55 (by kernel_rfl) rfl (by first|decide|omega|(simp;done)|(simp;omega)) rfl) ?_;refine Zd V V V (yD (cs:=xL y A2 cap2) V U57 V (by kernel_rfl) (fun w h j v hv=>RdF.part (h.2.get RdF.lies hk1) (Jm.1 (hcell2 j v hv)).1 (by omega) (hcell2 j v hv))) ?_;refine xF V ?_
        (refine sL ?_ .none rfl (yD (cs:=exC 7 n s (some ⟨g0,o0,none⟩) 2 cap) rfl U57 rfl (by kernel_rfl) (fun w h j v hv=>by rw[Kk,cell_of_row w b2 j _ _ _ h.1,List.getElem?_toArray];exact hv)) ?_;·rfl);refine xF V<|sM .none V  (v:=.int .i64 (levN s)) (by kernel_rfl) V (fun w w' h hx=>⟨Blk.onE h.1 hx,h.2.ext hx⟩) (fun w hw=>binds_any 7 n s (some ⟨g0,o0,none⟩) 2 cap w) ?_;refine Zd V V V (yI V V (oX (n:=levN s) (by omega))) ?_;refine xF V<|sM .none V  (v:=.string ⟨(vD y (levN s+1)).toArray⟩) (by kernel_rfl) V (fun w w' h hx=>⟨Blk.onE h.1 hx,h.2.ext hx⟩) (fun w hw=>IH y (by simp) (levN s+1) F A2 cap2 w (hrk y (by simp)) (huk y (by simp)) (hNm y (by simp)) (by omega) (hT.ext (Jq hw).ext) ((HpG.x hw).get xT.lies hyk)) ?_;refine Zd rfl rfl rfl (zF rfl rfl (by first|omega|simp<;>omega)) ?_;refine wL ?_;simp only[Jz,Ke];refine Za V V<|ZT<|zK<|zI V V (fun w hw=>?_);exact⟨rfl,(Jq hw).ext⟩
end Go.Proofs.YtfpkpnkdnammnaaGreatDoor
namespace Go.Proofs.YtfpkpnkdnammnaaGreatDoor
open Go.RowKit
section
variable {P:Program}{n:Nat}{m:List (Nat×Value)}{ty:TypeId}{H:World→Prop}
theorem run_eql_nilP {t:TypeId}{p:Option Addr}(ht:P.underlying t=some (.pointer (P.pointee t))) (w:World):(Op.equal t (.pointer p) (.pointer none)).run P w=.ok p.isNone w:=run_equalIn_pointer_nil (P:=P) w 9999 t p ht
theorem yf_eqNilP {x y:Operand}{t t':TypeId}{p:Option Addr}(hx:ev m x=some (.pointer p)) (hy:ev m y=some (.pointer none)) (ht:P.underlying t=some (.pointer (P.pointee t))):YF P (.binOp .eql t x y t') ty n m H (.bool p.isNone):=fun _ w d pos af g hs hw=>by
 have:=run_eql_nilP (P:=P) (p:=p) ht w;simp[Yl,execOp,hs.ev hx,hs.ev hy,binOp,Result.andThen,eqGuard_at_pointer,this]
theorem yf_neSame {x y:Operand}{t t' te:TypeId}{p:Addr}(hx:ev m x=some (.pointer (some p))) (hy:ev m y=some (.pointer (some p))) (ht:P.underlying t=some (.pointer te)) (hte:(P.info? te).isSome=true):YF P (.binOp .neq t x y t') ty n m H (.bool false):=fun _ w d pos af g hs hw=>by
 obtain⟨j,hj⟩:=Option.isSome_iff_exists.1 hte;have:=Lib.run_neq_ptr_same (P:=P) w p ht hj;simp[Yl,execOp,hs.ev hx,hs.ev hy,Result.andThen,eqGuard_at_pointer,this]
theorem yf_toUnsafe {x:Operand}{src dst t e:TypeId}{g cells k:Nat}(hx:ev m x=some (.pointer (some ⟨g,0,none⟩))) (hs':P.underlying src=some (.pointer t)) (hd:P.underlying dst=some .unsafePointer) (ht:(P.info? t).map (·.size)=some (k+1)) (hsh:∀w,H w→w.shape? g=some (e,cells+1)):YF P (.convert src dst x) ty n m H (.pointer (some ⟨g,0,none⟩)):=fun _ w d pos af gd hs hw=>by
 obtain⟨j,hj,hjs⟩:=Option.map_eq_some_iff.1 ht;have:=Lib.run_to_unsafe (P:=P) w ⟨g,0,none⟩ hs' hd hj (by rw[hjs];omega) (hsh w hw) (Nat.succ_pos _);simp[Yl,execOp,hs.ev hx,Result.andThen,this]
theorem yf_fromUnsafe {x:Operand}{src dst u e:TypeId}{g cells:Nat}(hx:ev m x=some (.pointer (some ⟨g,0,none⟩))) (hs':P.underlying src=some .unsafePointer) (hd:P.underlying dst=some (.pointer u)) (hu:(P.info? u).isSome=true) (hsh:∀w,H w→w.shape? g=some (e,cells)) (hl:liesAt P P.depth e (cells/P.cellsOf e) 0 u 1=true):YF P (.convert src dst x) ty n m H (.pointer (some ⟨g,0,none⟩)):=fun _ w d pos af gd hs hw=>by
 obtain⟨j,hj⟩:=Option.isSome_iff_exists.1 hu;have:=Lib.run_from_unsafe (P:=P) w ⟨g,0,none⟩ hs' hd hj (hsh w hw) hl;simp[Yl,execOp,hs.ev hx,Result.andThen,this]
theorem yf_noEscape {args:List Operand}{ats:Array TypeId}{f:FuncId}{v:Value}(hf:(P.funcs[f]?).isSome=true) (h1:(((P.funcs[f]?).getD default).name == "runtime.NumGoroutine")=false) (h2:((P.funcs[f]?).getD default).body.isNone=true) (h3:Extern.findNext ((P.funcs[f]?).getD default)=none) (h4:Extern.find ((P.funcs[f]?).getD default)=some Extern.AbiNoEscape.same) (hx:evl m args=some [v]):YF P (.call { callee:=.value (.func f),args:=args.toArray,argTypes:=ats }) ty n m H v:=fun _ w d pos af gd hs hw=>by
 obtain⟨fn,hfn⟩:=Option.isSome_iff_exists.1 hf;rw[hfn] at h1 h2 h3 h4;have hc:=run_callFunc_extern (P:=P) hfn h1 h2 h3 h4 #[v] w;rw[Lib.run_noEscape] at hc;have:=evl_map hs hx;simp[Yl,execOp,resolve,Act.eval,Deferred.ofValue,invoke,Result.andThen,this,hc]
end
abbrev prO (p v:Value) (d:Nat):Obj:=bk 80 [p,v,.int .i64 d]
theorem prO_shape {w:World}{pb:Nat}{p v:Value}{d:Nat}(h:w.heap[pb]? = some (prO p v d)):w.shape? pb=some (80,2+1):=by simp[World.shape?,h]
theorem copyCheck_any (pb:Nat) (q:Option Addr) (v:Value) (d:Nat) (hp:q=none∨q=some ⟨pb,0,none⟩) (w_0:World) (hb:w_0.heap[pb]? = some (prO (.pointer q) v d)):Calls Tryz.prog 116 #[.pointer (some ⟨pb,0,none⟩)] w_0 fun e w'=>e=.returned (.tuple #[])∧Keep (fun j=>j=pb) w_0 w'∧w'.heap[pb]? = some (prO (.pointer (some ⟨pb,0,none⟩)) v d):=by
 refine yV (args:=[.pointer (some ⟨pb,0,none⟩)]) Tryz.func116 V 20 V (Jn V)<|Z1 0 V<|zD (H':=Hp (fun k=>k=pb) w_0 [(pb,prO (.pointer q) v d)] [] (fun _=>True)) (fun u hu=>?_) ?_
 ·subst hu;exact Hp.startB0 hb
 refine zY<|zX<|Zm V V<|Zn V V<|ZF V (zZ (off:=0) (sz:=0) V Tryz.underlying78 (by kernel_rfl) V) ?_;refine ZF V (zW 0 V V V Tryz.underlying76 V)<|ZF V (yf_eqNilP V V Tryz.underlying76)<|ZT<|zT V (fun h6=>?_) (fun h6=>?_)
 ·refine Z2r 0 6 V V<|Zm V V<|Zm V V<|ZF V (yf_toUnsafe (k:=1) V Tryz.underlying76 Tryz.underlying170 (by kernel_rfl) (fun w h=>prO_shape (HpG.blkL h (j:=0) V))) ?_;refine ZF V (yf_noEscape (by kernel_rfl) (by kernel_rfl) (by kernel_rfl) (by kernel_rfl) (by kernel_rfl) V) ?_;refine ZF V (yf_fromUnsafe V Tryz.underlying170 Tryz.underlying76 (by kernel_rfl) (fun w h=>prO_shape (HpG.blkL h (j:=0) V)) (by kernel_rfl)) ?_;refine Zn V V<|ZF V (zZ (off:=0) (sz:=0) V Tryz.underlying78 (by kernel_rfl) V) ?_;refine ZS 0 V V V V V (by kernel_rfl) ?_;refine zU<|xI V (fun w hw=>?_);exact⟨rfl,Jq hw,HpG.blkL (j:=0) hw rfl⟩
 ·obtain rfl:q=some ⟨pb,0,none⟩:=hp.resolve_left (fun e=>by subst e;simp at h6);refine zY<|Z2r 0 6 V V<|Zm V V<|Zn V V<|ZF V (zZ (off:=0) (sz:=0) V Tryz.underlying78 (by kernel_rfl) V) ?_;refine ZF V (zW 0 V V V Tryz.underlying76 V)<|Zm V V<|ZF V (yf_neSame V V Tryz.underlying76 (by kernel_rfl)) ?_;refine ZT<|zT V (fun hc=>?_) (fun hc=>?_)
  ·cases hc
  ·refine zG<|xI V (fun w hw=>?_);exact⟨rfl,Jq hw,HpG.blkL (j:=0) hw rfl⟩
end Go.Proofs.YtfpkpnkdnammnaaGreatDoor
namespace Go.Proofs.YtfpkpnkdnammnaaGreatDoor
open Go.RowKit
def okOb (o:Obj):Bool:=match o with|.cells _ e _=>!(e==5)&&!(e==80)|_=>true
def PXw (w0:World) (pb:Nat) (q:Option Addr) (v v':Value) (d:Nat) (l:Bs) (w:World):Prop:=w0.heap.size≤pb∧w.heap[pb]? = some (prO (.pointer q) v d)∧w.ownsRow w0.heap.size 5 1 v' l.length (Lib.byteCells l)
def PX (w0:World) (pb d:Nat) (l:Bs) (w:World):Prop:=∃q v,(q=none∨q=some ⟨pb,0,none⟩)∧PXw w0 pb q v v d l w
def FT (X:World→Prop) (w:World):Prop:=∃F:Nat→Prop,(∀k,F k→∃c e fz,w.heap[k]? = some (.cells c e fz)∧(e=5∨e=80))∧Foot F X w
section
variable {w0 w w':World}{L:List (Nat×Obj)}{X X':World→Prop}{pb d d2:Nat}{q q2:Option Addr}{v v' v2:Value}{l:Bs}
theorem PXw.ft (h:PXw w0 pb q v v' d l w):FT (PXw w0 pb q v v' d l) w:=by
 obtain⟨h1,h2,h3⟩:=h;have h3':=h3;obtain⟨hxl,hv⟩:=h3';rcases hv with ⟨e1,e2⟩|⟨g,cap,cur,e1,hg1,hg,r⟩
 ·exact⟨fun k=>k=pb,fun k hk=>by subst hk;exact⟨_,_,_,h2,.inr rfl⟩,fun u hu=>⟨h1,(hu pb V).trans h2,hxl,.inl ⟨e1,e2⟩⟩⟩
 ·refine⟨fun k=>k=pb∨k=g,fun k hk=>?_,fun u hu=>⟨h1,(hu pb (.inl V)).trans h2,hxl,.inr ⟨g,cap,cur,e1,hg1,(hu g (.inr V)).trans hg,r⟩⟩⟩;rcases hk with rfl|rfl
  ·exact⟨_,_,_,h2,.inr rfl⟩
  ·exact⟨_,_,_,hg,.inl rfl⟩
theorem PX.ft (h:PX w0 pb d l w):FT (PX w0 pb d l) w:=by
 obtain⟨q,v,hq,h⟩:=h;obtain⟨F,h1,h2⟩:=PXw.ft h;exact⟨F,h1,fun u hu=>⟨q,v,hq,h2 u hu⟩⟩
theorem PX.blk (h:PX w0 pb d l w):∃c,w.heap[pb]? = some (.cells c 80 (0,0)):=by
 obtain⟨q,v,hq,_,h,_⟩:=h;exact⟨_,h⟩
theorem PXw.blk (h:PXw w0 pb q v v' d l w):∃c,w.heap[pb]? = some (.cells c 80 (0,0)):=⟨_,h.2.1⟩
theorem PXw.turn (h:PXw w0 pb q v v' d l w) (hk:Keep (fun j=>j=pb) w w') (hb:w'.heap[pb]? = some (prO (.pointer q2) v2 d2)):PXw w0 pb q2 v2 v' d2 l w':=by
 obtain⟨h1,h2,hxl,hv⟩:=h;refine⟨h1,hb,hxl,?_⟩;rcases hv with hv|⟨g,cap,cur,e1,hg1,hg,r⟩
 ·exact .inl hv
 ·refine .inr ⟨g,cap,cur,e1,hg1,(hk.block g (Jv.1 hg).1 fun e=>?_).trans hg,r⟩;subst e;rw[h2] at hg;simp at hg
theorem Hp.px (h:Hp (fun _=>False) w0 L [] X w) (ho:L.all (fun p=>okOb p.2)=true) (hb:Below w0.heap.size w w') (hk:Lib.OthersKept 5 (some pb) w w') (hpb:∃c,w.heap[pb]? = some (.cells c 80 (0,0))) (hx:FT X' w'):Hp (fun _=>False) w0 L [] X' w':=by
 obtain⟨c,hbk⟩:=hpb
 have own:∀p∈L,w'.heap[p.1]? = some p.2:=fun p hp=>by
  have h1:=HpG.own h p hp;have h2:=List.all_eq_true.1 ho p hp;refine hk p.1 p.2 h1 (fun e=>?_) (fun cc fz e=>?_)
  ·have:p.1=pb:=Option.some.inj e;rw[this,hbk] at h1;rw[← Option.some.inj h1] at h2;simp[okOb] at h2
  ·rw[e] at h2;simp[okOb] at h2
 obtain⟨F,hF,hX⟩:=hx;have h0:=Jq h;refine⟨⟨hb.os.trans h0.os,hb.tape.trans h0.tape,hb.output.trans h0.output,Kx h0.size hb.size,fun k hk' hG=>(hb.block k hk').trans (h0.block k hk' hG)⟩,own,HpG.mine h,fun r hr=>(by cases hr),HpG.nd h,fun _ _=>trivial,F,fun k hk=>?_,hX⟩;obtain⟨cc,e,fz,hc,he⟩:=hF k hk;refine⟨(Jv.1 hc).1,id,fun hm=>?_,trivial⟩;rw[wB,List.filterMap_nil,Ku] at hm;obtain⟨p,hp,rfl⟩:=List.mem_map.1 hm;have h1:=own p hp;rw[hc] at h1;have h2:=List.all_eq_true.1 ho p hp;rw[← Option.some.inj h1] at h2;rcases he with rfl|rfl<;>simp[okOb] at h2
theorem Hp.pxT (h:Hp (fun _=>False) w0 L [] X w) (ho:L.all (fun p=>okOb p.2)=true) (hpb:∃c,w.heap[pb]? = some (.cells c 80 (0,0))) (h0:w0.heap.size≤pb) (hk:Keep (fun j=>j=pb) w w') (hx:FT X' w'):Hp (fun _=>False) w0 L [] X' w' :=
 Hp.px h ho ⟨hk.os,hk.tape,hk.output,hk.size,fun k hk'=>hk.block k (Jx hk' (HpG.size h)) (fun e=>by omega)⟩ (fun k o hk1 hk2 _=>(hk.block k (Jv.1 hk1).1 (fun e=>hk2 (by rw[e]))).trans hk1) hpb hx
theorem PX.cell (h:PX w0 pb d l w):w.cell? ⟨pb,2,none⟩=some (.int .i64 d):=by
 obtain⟨q,v,_,_,h,_⟩:=h;rw[cell_of_row w pb _ _ _ _ h];rfl
end
theorem write_any {w0:World}{pb d:Nat}{l:Bs}{L:List (Nat×Obj)}(s:Bs) (ho:L.all (fun p=>okOb p.2)=true) (hl:l.length+s.length≤140737488355328) (w_0:World) (h:Hp (fun _=>False) w0 L [] (PX w0 pb d l) w_0):Calls Tryz.prog 76 #[.pointer (some ⟨pb,0,none⟩),.string ⟨s.toArray⟩] w_0 fun e w'=>e=.returned (.tuple #[.int .i64 s.length,.nilIface])∧Hp (fun _=>False) w0 L [] (PX w0 pb d (l++s)) w':=by
 obtain⟨q,v,hq,hx⟩:=HpG.x h;have hst:=Hp.px h ho (Below.refl _ _) (Lib.OthersKept.refl _ _ _) hx.blk hx.ft
 obtain⟨A0,n0,c0,rfl⟩:∃A n c,v=.slice A n c:=by
  rcases hx.2.2.2 with ⟨e1,_⟩|⟨g,cap,cur,e1,_⟩
  ·exact⟨_,_,_,e1⟩
  ·exact⟨_,_,_,e1⟩
 refine yV (args:=[.pointer (some ⟨pb,0,none⟩),.string ⟨s.toArray⟩]) Tryz.func76 V 19 V (Jn V)<|Z2 0 1 V V<|zD (H':=Hp (fun _=>False) w0 L [] (PXw w0 pb q (.slice A0 n0 c0) (.slice A0 n0 c0) d l)) (fun u hu=>?_) ?_
 ·subst hu;exact hst
 refine zY<|zX<|Za V V<|Za V V<|ZX<|zX<|Zm V V<|xQ (ι:=Unit) (val:=fun _=>.tuple #[]) (H':=fun _=>Hp (fun _=>False) w0 L [] (PXw w0 pb (some ⟨pb,0,none⟩) (.slice A0 n0 c0) (.slice A0 n0 c0) d l)) .none V  (vT (by kernel_rfl) V (fun w hw=>(copyCheck_any pb q _ d hq w (HpG.x hw).2.1).mono fun e w' ⟨e1,e2,e3⟩=>⟨_,e1,(),rfl,Hp.pxT hw ho (HpG.x hw).blk (HpG.x hw).1 e2 ((HpG.x hw).turn e2 e3).ft⟩)) (fun _=>?_);refine ZX<|Z4r 0 1 4 5 V V V V<|Zm V V<|Zm V V<|Zn V V<|ZF V (Y78x1 V) ?_;refine ZF V (yO (v:=.slice A0 n0 c0) V U54 V (fun u h=>by rw[cell_of_row u pb _ _ _ _ (HpG.x h).2.1];rfl)) ?_;refine Zm V V<|xQ (ι:=(Option Addr×Nat×Nat)) (val:=fun i=>.slice i.1 i.2.1 i.2.2) (H':=fun i=>Hp (fun _=>False) w0 L [] (PXw w0 pb (some ⟨pb,0,none⟩) (.slice A0 n0 c0) (.slice i.1 i.2.1 i.2.2) d (l++s))) .none V  (fun a w d pos af gd hs hw=>?_) (fun i=>?_)
 ·obtain⟨h1,h2,h3⟩:=HpG.x hw;have hmap:(Tryz.prog.info? 5).map (fun i=>(i.zero,i.size,i.bytes))=some (some (.int .u8 0),1,1):=by kernel_rfl
  obtain⟨i,hq',hii⟩:=Option.map_eq_some_iff.1 hmap;obtain⟨hz,hs1,hb1⟩:i.zero=some (.int .u8 0)∧i.size=1∧i.bytes=1:=by simpa using hii
  obtain⟨v',w',hr,ho',hgr,_⟩:=Lib.run_append_own_string (P:=Tryz.prog) w w0.heap.size 54 9 54 5 i Tryz.underlying54 Tryz.underlying9 hq' hz hs1 hb1 _ _ _ h3 ⟨s.toArray⟩ (by simp[ByteArray.size];unfold maxLen;omega) (by simpa [ByteArray.size] using hl) (HpG.size hw)
  obtain⟨A',n',c',rfl⟩:∃A n c,v'=.slice A n c:=by
   rcases ho'.2 with ⟨e1,_⟩|⟨g,cap,cur,e1,_⟩
   ·exact⟨_,_,_,e1⟩
   ·exact⟨_,_,_,e1⟩
  have ex:=hs.ev (x:=.tmp 12) rfl;have ey:=hs.ev (x:=.tmp 13) rfl
  have hrun:(execOp a.eval ⟨d,.call { callee:=.builtin .append,args:=#[.tmp 12,.tmp 13],argTypes:=#[54,9] },54,pos,af,gd⟩).run Tryz.prog w=.ok (.value (.slice A' n' c')) w':=by
   simp[execOp,resolve,invoke,builtin,ex,ey,hr]
  have kind:∀g,(Value.slice A0 n0 c0).ownBlock=some g→w0.heap.size≤g∧∃c fz,w.heap[g]? = some (.cells c 5 fz):=fun g hg=>by
   rcases h3.2 with ⟨e1,_⟩|⟨g2,cap,cur,e1,hg1,hg2,_⟩
   ·rw[e1] at hg;simp[Value.ownBlock] at hg
   ·rw[e1] at hg;simp only[Value.ownBlock,Option.some.injEq] at hg;subst hg;exact⟨hg1,_,_,hg2⟩
  have hlt:=(Jv.1 h2).1;have hsz:=HpG.size hw;unfold Ch;rw[hrun];refine⟨(A',n',c'),rfl,Hp.px hw ho ⟨hgr.os,hgr.tape,hgr.output,hgr.size,fun k hk=>hgr.block k (by omega) (fun e=>?_)⟩ (Lib.OthersKept.grown (Lib.OthersKept.refl _ _ _) hgr fun g hg=>(kind g hg).2) (HpG.x hw).blk (PXw.ft ⟨h1,?_,?_⟩)⟩
  ·have:=(kind k e.symm).1;omega
  ·rw[hgr.block pb hlt (fun e=>?_)]
   ·exact h2
   ·obtain⟨_,c,fz,hc⟩:=kind pb e.symm;rw[h2] at hc;simp at hc
  ·have e:Lib.byteCells (l++s)=Lib.byteCells l++Lib.strCells ⟨s.toArray⟩:=by simp[Lib.byteCells,Lib.strCells]
   rw[Ji,e];simpa [ByteArray.size] using ho'
 obtain⟨A',n',c'⟩:=i;dsimp only;refine Zn V V<|ZF V (Y78x1 V) ?_;refine xG (ι:=Unit) (val:=fun _=>undef) (H':=fun _=>Hp (fun _=>False) w0 L [] (PXw w0 pb (some ⟨pb,0,none⟩) (.slice A' n' c') (.slice A' n' c') d (l++s))) .none (fun a w d2 pos af gd hs hw=>(ch_store hs (x:=.tmp 16) V (y:=.tmp 14) V V (by simp) (by kernel_rfl) (HpG.x hw).2.1).mono fun u w' ⟨e1,e2,e3⟩=>⟨(),e1,Hp.pxT hw ho (HpG.x hw).blk (HpG.x hw).1 e2 ((HpG.x hw).turn e2 e3).ft⟩) (fun _=>?_);refine ZX<|Z4r 0 1 4 5 V V V V<|Zm V V<|ZF V (vL V U9)<|Za V V<|Za V V<|ZT<|zK<|wq_ret2 V V V (fun w hw=>?_);exact⟨rfl,Hp.px hw ho (Below.refl _ _) (Lib.OthersKept.refl _ _ _) (HpG.x hw).blk (PX.ft ⟨_,_,.inr rfl,HpG.x hw⟩)⟩
end Go.Proofs.YtfpkpnkdnammnaaGreatDoor
namespace Go.Proofs.YtfpkpnkdnammnaaGreatDoor
open Go.RowKit
theorem text_step (k n:Nat) (s:Bs) (kids:List Ex) (IH:∀x∈kids,TXE x):TXE (.mk k n s kids):=by
 intro need F A cap w_0 hr hu hN hl hT h;rw[textE_eq] at hl ⊢
 by_cases hb:pM k s<need
 ·rw[Kp hb] at hl ⊢;simp only[Ji,Jj,Jk] at hl;have h0:=fun w hx=>text_step0 k n s kids IH 0 (Kl _) F A cap w hr hu hN (by omega) (hT.ext hx);show Calls Tryz.prog 121 #[.agg (exC k n s A kids.length cap).toArray,.int .i64 need] w_0 fun e w'=>e=.returned (.string ⟨([40]++textT k n s kids++[41]).toArray⟩)∧Ext w_0 w';refine yV (args:=[.agg (exC k n s A kids.length cap).toArray,.int .i64 need]) Tryz.func121 V 92 V (Jn V)<|Z2 0 1 V V<|zD (H':=Hp (fun _=>False) w_0 [] [] (wN F w_0)) (fun u hu=>?_) ?_
  ·subst hu;exact Hp.startSame
  refine zY<|zX<|zC .none V (vY V V) (fun b2=>?_);refine Za V V<|ZX<|zY<|zX<|ZF V (yX 0 V V U57 V (by kernel_rfl)) ?_;refine yT .none V  (v:=.int .i64 (pM k s)) (by kernel_rfl) V (fun w hw=>binds_any k n s A kids.length cap w) ?_;refine Zm V V<|ZF V (xS V V)<|ZT<|zT V (fun hc=>?_) (fun hc=>?_)
  ·replace hc:=Jo hc;refine zY<|Z5r 0 1 2 4 11 V V V V V<|ZF V (yX 0 V V U57 V (by kernel_rfl)) ?_;refine yT .none V  (v:=.string ⟨(textT k n s kids).toArray⟩) (by kernel_rfl) V (fun w hw=>h0 w (Jq hw).ext ((HpG.x hw).get xT.lies h)) ?_;refine ZF rfl (zF rfl rfl (by first|omega|simp<;>omega)) ?_;refine ZF rfl (zF rfl rfl (by first|omega|simp<;>omega)) ?_;refine Za V V<|ZT<|zK<|zV<|zI V V (fun w hw=>?_);exact⟨rfl,(Jq hw).ext⟩
  ·replace hc:=Jp hc;omega
 ·rw[Ko hb] at hl ⊢;exact text_step0 k n s kids IH need (by omega) F A cap w_0 hr hu hN hl hT h
theorem text_all:∀x:Ex,TXE x:=by
 have key:∀(N:Nat) (x:Ex),SizeOf.sizeOf x<N→TXE x:=by
  intro N
  induction N with
  | zero=>exact fun x h=>absurd h (by omega)
  | succ N ih =>
   intro x h
   cases x with
   | mk k n s kids=>exact text_step k n s kids (fun y hy=>ih y (by have:=tM (k:=k) (n:=n) (s:=s) hy;omega))
 exact fun x=>key _ x (Nat.lt_succ_self _)
def uJ (d:Nat) (s:Bs):Bs:=Lib.repeatL [32,32] d++s++[10]
theorem line_any {w0:World}{pb d:Nat}{l:Bs}{L:List (Nat×Obj)}(s:Bs) (ho:L.all (fun p=>okOb p.2)=true) (hd:d≤1000000000000) (hl:l.length+(uJ d s).length≤100000000000000) (w_0:World) (h:Hp (fun _=>False) w0 L [] (PX w0 pb d l) w_0):Calls Tryz.prog 42 #[.pointer (some ⟨pb,0,none⟩),.string ⟨s.toArray⟩] w_0 fun e w'=>e=.returned (.tuple #[])∧Hp (fun _=>False) w0 L [] (PX w0 pb d (l++uJ d s)) w':=by
 obtain⟨q,v,hq,hx⟩:=HpG.x h;have hst:=Hp.px h ho (Below.refl _ _) (Lib.OthersKept.refl _ _ _) hx.blk hx.ft;unfold uJ at hl ⊢;simp only[Ji,Jj,Jk] at hl;refine yV (args:=[.pointer (some ⟨pb,0,none⟩),.string ⟨s.toArray⟩]) Tryz.func42 V 16 V (Jn V)<|Z2 0 1 V V<|zD (H':=Hp (fun _=>False) w0 L [] (PXw w0 pb q v v d l)) (fun u hu=>?_) ?_
 ·subst hu;exact hst
 refine wR 11 [0,1,2,3,4,5,6,7,8,9,10] (Blk pb (prO (.pointer q) v d)) (by kernel_rfl) (by kernel_rfl) Blk.stab (fun w h=>(HpG.x h).2.1) (fun n0 hn0=>?_);refine Zd V V V (zO V)<|Zd V V V (yR V)<|Zd V V V (zZ (off:=0) (sz:=1) V Tryz.underlying80 (by kernel_rfl) V) ?_;refine Zd V V V (zO V)<|Zd V V V (yR V)<|Zd V V V (Y80x2 V) ?_;refine Zd V V V (yO (v:=.int .i64 d) V U3 V (fun u h=>by rw[cell_of_row u pb _ _ _ _ h];rfl)) ?_;refine xF V<|sM .none V  (v:=.string ⟨(Lib.repeatL [32,32] d).toArray⟩) (by kernel_rfl) V (fun w w' h hx=>Blk.onE h hx) (fun w hw=>Tryz.strings_Repeat ⟨#[32,32]⟩ d w (by omega) (by show 2*d≤_;omega)) ?_;refine Zd rfl rfl rfl (zO rfl)<|Zd rfl rfl rfl (zF rfl rfl (by first|omega|simp<;>omega)) ?_;refine Zd rfl rfl rfl (zF rfl rfl (by first|omega|simp<;>omega)) ?_;refine wL ?_;simp only[Jz,Ke];refine xQ (ι:=Unit) (val:=fun _=>.tuple #[.int .i64 (Lib.repeatL [32,32] d++s++[10]).length,.nilIface]) (H':=fun _=>Hp (fun _=>False) w0 L [] (PX w0 pb d (l++(Lib.repeatL [32,32] d++s++[10])))) .none V  (vT (by kernel_rfl) V (fun w hw=>(write_any (Lib.repeatL [32,32] d++s++[10]) ho (by simp only[Ji,Jj,Jk];omega) w (Hp.weakX hw fun u hu=>⟨q,v,hq,hu⟩)).mono fun e w' ⟨e1,e2⟩=>⟨_,e1,(),rfl,e2⟩)) (fun _=>?_);refine zU<|xI V (fun w hw=>?_);exact⟨rfl,hw⟩
section
variable {w0:World}{pb d:Nat}{l:Bs}{L:List (Nat×Obj)}{ops:Array Oper}{Q:Exit→Act→World→Prop}{n:Nat}{m:List (Nat×Value)}{ty:TypeId}{rest:List Oper}{t:Nat}{pos:String}{af:Array Edge}{gd:Option (Nat×Bool)}
theorem tR {x y:Operand}{ats:Array TypeId}(s:Bs) (ho:L.all (fun p=>okOb p.2)=true) (hd:d≤1000000000000) (hl:l.length+(uJ d s).length≤100000000000000) (hg:Gd ops m gd) (ht:Nat.blt t n=true) (ha:evl m [x,y]=some [.pointer (some ⟨pb,0,none⟩),.string ⟨s.toArray⟩])
  (h:WL Tryz.prog ops Q rest n ((t,.tuple #[])::m) (Hp (fun _=>False) w0 L [] (PX w0 pb d (l++uJ d s)))):WL Tryz.prog ops Q (⟨some t,.call { callee:=.value (.func 42),args:=#[x,y],argTypes:=ats },ty,pos,af,gd⟩::rest) n m (Hp (fun _=>False) w0 L [] (PX w0 pb d l)) :=
 xQ (ι:=Unit) (val:=fun _=>.tuple #[]) (H':=fun _=>Hp (fun _=>False) w0 L [] (PX w0 pb d (l++uJ d s))) hg ht (vT (args:=[x,y]) (by kernel_rfl) ha (fun w hw=>(line_any s ho hd hl w hw).mono fun e w' ⟨e1,e2⟩=>⟨_,e1,(),rfl,e2⟩)) fun _=>h
end
mutual
def prS:Nat→St→Bs
 | d,.mk k s es b c =>
  if k=1 then uJ d ([118,97,114,32]++s++[32,61,32]++textH es 0++[59])
  else if k=2 then uJ d (s++[32,61,32]++textH es 0++[59])
  else if k=3 then uJ d ([109,101,109,91]++textH es 0++[93,32,61,32]++textS es 0++[59])
  else if k=6 then uJ d ([114,101,116,117,114,110,32]++textH es 0++[59])
  else if k=7 then uJ d ([111,117,116,32]++textH es 0++[59])
  else if k=8 then uJ d (textH es 0++[59])
  else if k=5 then uJ d ([119,104,105,108,101,32]++textH es 0++[32,123])++prB (d+1) b++uJ d [125]
  else if k=4 then uJ d ([105,102,32]++textH es 0++[32,123])++prB (d+1) b++(if 0<c.length then uJ d [125,32,101,108,115,101,32,123]++prB (d+1) c else [])++uJ d [125]
  else []
def prB:Nat→List St→Bs
 | _,[]=>[]
 | d,x::l=>prS d x++prB d l
end
def prF (f:Fn):Bs:=uJ 0 ([102,110,32]++f.name++[40]++Lib.join f.params [44,32]++[41,32,123])++prB (0+1) f.body++uJ 0 [125]
def xE (fs:List Fn):Bs:=if wD fs=true then (fs.map prF).flatten else []
theorem prB_append (d:Nat):∀l m:List St,prB d (l++m)=prB d l++prB d m
 | [],m=>by simp[prB]
 | x::l,m=>by simp only[List.cons_append,prB,prB_append d l m,Kb]
mutual
def stU:St→Bool
 | .mk _ _ es b c=>exUs es&&stsU b&&stsU c
def stsU:List St→Bool
 | []=>true
 | x::l=>stU x&&stsU l
end
theorem stsU_all {l:List St}(h:stsU l=true):∀x∈l,stU x=true:=by
 induction l with
 | nil=>intro x hx;cases hx
 | cons y l ih =>
  simp only[stsU,Kj] at h;intro x hx;rcases List.mem_cons.1 hx with rfl|hx
  ·exact h.1
  ·exact ih h.2 x hx
theorem Lies.ext {T:(Nat→Prop)→World→Prop}(hT:Lies T) {F:Nat→Prop}{w w':World}(h:T F w) (hx:Ext w w'):T F w' :=
 hT.mono (fun _ h=>h.1) (hT.foot (F:=fun k=>F k∧k<w.heap.size) (fun k hk=>Below.block hx k hk.2) (hT.lt h))
end Go.Proofs.YtfpkpnkdnammnaaGreatDoor
namespace Go.Proofs.YtfpkpnkdnammnaaGreatDoor
open Go.RowKit
def PrSt (x:St):Prop:=∀(d:Nat) (l:Bs) (pb:Nat) (w0:World) (L:List (Nat×Obj)) (F:Nat→Prop) (a:StA) (w:World),xH x=true→stU x=true→stN x+d≤1000000000000→L.all (fun p=>okOb p.2)=true→l.length+(prS d x).length≤1000000000000→TbN w0→stsK F w0 x a→Hp (fun _=>False) w0 L [] (PX w0 pb d l) w →
 Calls Tryz.prog 79 #[.pointer (some ⟨pb,0,none⟩),.agg (stOf x a).toArray] w fun e w'=>e=.returned (.tuple #[])∧Hp (fun _=>False) w0 L [] (PX w0 pb d (l++prS d x)) w'
def PB (b:List St):Prop:=∀(d:Nat) (l:Bs) (pb:Nat) (w0:World) (L:List (Nat×Obj)) (F:Nat→Prop) (A:Option Addr) (cap:Nat) (w:World),rightSts b=true→stsU b=true→stNs b+d+1≤1000000000000→L.all (fun p=>okOb p.2)=true→l.length+(prB (d+1) b).length≤1000000000000→TbN w0→wQ F w0 b A cap→Hp (fun _=>False) w0 L [] (PX w0 pb d l) w →
 Calls Tryz.prog 44 #[.pointer (some ⟨pb,0,none⟩),.slice A b.length cap] w fun e w'=>e=.returned (.tuple #[])∧Hp (fun _=>False) w0 L [] (PX w0 pb d (l++prB (d+1) b)) w'
section
variable {w0:World}{pb d:Nat}{l:Bs}{L:List (Nat×Obj)}{ops:Array Oper}{Q:Exit→Act→World→Prop}{n:Nat}{m:List (Nat×Value)}{ty:TypeId}{rest:List Oper}{t:Nat}{pos:String}{af:Array Edge}{gd:Option (Nat×Bool)}
theorem wl_deep {x y:Operand}{t T:TypeId}(d2:Nat) (ho:L.all (fun p=>okOb p.2)=true) (hx:ev m x=some (.pointer (some ⟨pb,2,none⟩))) (hy:ev m y=some (.int .i64 d2)) (hs':(Tryz.prog.info? t).map (·.size)=some 1) (hg:Gd ops m gd)
  (h:WL Tryz.prog ops Q rest n m (Hp (fun _=>False) w0 L [] (PX w0 pb d2 l))):WL Tryz.prog ops Q (⟨none,.store t x y,ty,pos,af,gd⟩::rest) n m (Hp (fun _=>False) w0 L [] (PX w0 pb d l)) :=
 xG (ι:=Unit) (val:=fun _=>undef) (H':=fun _=>Hp (fun _=>False) w0 L [] (PX w0 pb d2 l)) hg (fun a w d3 pos af gd hs hw=>by
  obtain⟨q,v,hq,hxw⟩:=HpG.x hw
  exact (ch_store hs hx hy V (by simp) hs' hxw.2.1).mono fun u w' ⟨e1,e2,e3⟩=>⟨(),e1,Hp.pxT hw ho hxw.blk hxw.1 e2 (PX.ft ⟨q,v,hq,hxw.turn e2 e3⟩)⟩) fun _=>h
theorem wl_pblock {b:List St}(hb:PB b) {x y:Operand}{ats:Array TypeId}(F:Nat→Prop) (A:Option Addr) (cap:Nat) (hr:rightSts b=true) (hu:stsU b=true) (hN:stNs b+d+1≤1000000000000) (ho:L.all (fun p=>okOb p.2)=true) (hl:l.length+(prB (d+1) b).length≤1000000000000) (hT:TbN w0) (hk:wQ F w0 b A cap) (hg:Gd ops m gd) (ht:Nat.blt t n=true) (ha:evl m [x,y]=some [.pointer (some ⟨pb,0,none⟩),.slice A b.length cap])
  (h:WL Tryz.prog ops Q rest n ((t,.tuple #[])::m) (Hp (fun _=>False) w0 L [] (PX w0 pb d (l++prB (d+1) b)))):WL Tryz.prog ops Q (⟨some t,.call { callee:=.value (.func 44),args:=#[x,y],argTypes:=ats },ty,pos,af,gd⟩::rest) n m (Hp (fun _=>False) w0 L [] (PX w0 pb d l)) :=
 xQ (ι:=Unit) (val:=fun _=>.tuple #[]) (H':=fun _=>Hp (fun _=>False) w0 L [] (PX w0 pb d (l++prB (d+1) b))) hg ht (vT (args:=[x,y]) (by kernel_rfl) ha (fun w hw=>(hb d l pb w0 L F A cap w hr hu hN ho hl hT hk hw).mono fun e w' ⟨e1,e2⟩=>⟨_,e1,(),rfl,e2⟩)) fun _=>h
end
theorem prS_1 (d:Nat) (s:Bs) (es:List Ex) (b c:List St):prS d (.mk 1 s es b c)=uJ d ([118,97,114,32]++s++[32,61,32]++textH es 0++[59]):=by simp only[prS];rfl
theorem prS_2 (d:Nat) (s:Bs) (es:List Ex) (b c:List St):prS d (.mk 2 s es b c)=uJ d (s++[32,61,32]++textH es 0++[59]):=by simp only[prS];rfl
theorem prS_3 (d:Nat) (s:Bs) (es:List Ex) (b c:List St):prS d (.mk 3 s es b c)=uJ d ([109,101,109,91]++textH es 0++[93,32,61,32]++textS es 0++[59]):=by simp only[prS];rfl
theorem prS_6 (d:Nat) (s:Bs) (es:List Ex) (b c:List St):prS d (.mk 6 s es b c)=uJ d ([114,101,116,117,114,110,32]++textH es 0++[59]):=by simp only[prS];rfl
theorem prS_7 (d:Nat) (s:Bs) (es:List Ex) (b c:List St):prS d (.mk 7 s es b c)=uJ d ([111,117,116,32]++textH es 0++[59]):=by simp only[prS];rfl
theorem prS_8 (d:Nat) (s:Bs) (es:List Ex) (b c:List St):prS d (.mk 8 s es b c)=uJ d (textH es 0++[59]):=by simp only[prS];rfl
theorem prS_5 (d:Nat) (s:Bs) (es:List Ex) (b c:List St):prS d (.mk 5 s es b c)=uJ d ([119,104,105,108,101,32]++textH es 0++[32,123])++prB (d+1) b++uJ d [125]:=by simp only[prS];rfl
theorem prS_4 (d:Nat) (s:Bs) (es:List Ex) (b c:List St):prS d (.mk 4 s es b c)=uJ d ([105,102,32]++textH es 0++[32,123])++prB (d+1) b++(if 0<c.length then uJ d [125,32,101,108,115,101,32,123]++prB (d+1) c else [])++uJ d [125]:=by simp only[prS];rfl
theorem xO (d:Nat) (s:Bs):(uJ d s).length=(Lib.repeatL [32,32] d).length+s.length+1:=by simp[uJ];omega
theorem tV {es:List Ex}{x:Ex}(h:es[0]? = some x) (need:Nat):textH es need=vD x need:=by
 cases es with
 | nil=>cases h
 | cons y l=>cases h;simp only[textH]
theorem textE1_le {es:List Ex}{x:Ex}(h:es[1]? = some x) (need:Nat):textS es need=vD x need:=by
 cases es with
 | nil=>cases h
 | cons y l=>simp only[textS];exact tV h need
theorem prS_text (d:Nat) (k:Nat) (s:Bs) (es:List Ex) (b c:List St) (h1:1≤k) (h8:k≤8):(textH es 0).length≤(prS d (.mk k s es b c)).length:=by
 have:k=1∨k=2∨k=3∨k=4∨k=5∨k=6∨k=7∨k=8:=by omega
 rcases this with rfl|rfl|rfl|rfl|rfl|rfl|rfl|rfl
 ·rw[prS_1,xO];simp only[Ji];omega
 ·rw[prS_2,xO];simp only[Ji];omega
 ·rw[prS_3,xO];simp only[Ji];omega
 ·rw[prS_4];simp only[Ji,xO];omega
 ·rw[prS_5];simp only[Ji,xO];omega
 ·rw[prS_6,xO];simp only[Ji];omega
 ·rw[prS_7,xO];simp only[Ji];omega
 ·rw[prS_8,xO];simp only[Ji];omega
theorem pstmt_step (k:Nat) (s:Bs) (es:List Ex) (b c:List St) (hb:PB b) (hc':PB c):PrSt (.mk k s es b c):=by
 intro d l pb w0 L F a w_0 hr hu hN ho hl hT h hH;obtain⟨A1,A2,A3,c1,c2,c3⟩:=a;obtain⟨p1,p2,p3,⟨x1,h1,k1⟩,h2,h3⟩:=h;dsimp only[St.exprs,St.body,St.els] at p1 p2 p3 h1 k1 h2 h3;have kb:wQ F w0 b A2 c2:=⟨p2,h2⟩;have kc:wQ F w0 c A3 c3:=⟨p3,h3⟩;have hlc:=p3.lt;simp only[rightSt_eq,Kj] at hr;obtain⟨⟨⟨hok,hre⟩,hrb⟩,hrc⟩:=hr;rw[wK,List.all_eq_true] at hre;simp only[stU,Kj] at hu;obtain⟨⟨hue,hub⟩,huc⟩:=hu;have hue:=qX hue;simp only[stN] at hN;unfold pA at hok;simp only[Kj,Kn] at hok;obtain⟨⟨⟨⟨⟨hka,hkb⟩,hle⟩,_⟩,_⟩,_⟩:=hok;have htx:=prS_text d k s es b c hka hkb;have hes0:0<es.length:=by rw[hle];split<;>omega
 obtain⟨x,hx⟩:∃x,es[0]? = some x:=⟨es[0],Jt hes0⟩;rw[tV hx] at htx;have hxm:=Ju hx;have hxN:=exN_mem hxm
 obtain⟨g0,o0,rfl⟩:∃b off,A1=some ⟨b,off,none⟩:=by
  obtain⟨b,off,e,_⟩:=h1 (by rw[k1.len];omega);exact⟨b,off,e⟩
 obtain⟨B1,cap1,hfix⟩:=k1.fix hx;have hxk:=(hfix F w0 k1).1;have hcell:=(hfix F w0 k1).2;have h1l:4≤x1.length:=by rw[k1.len];omega
 refine yV (args:=[.pointer (some ⟨pb,0,none⟩),.agg (stC k s (some ⟨g0,o0,none⟩) es.length c1 A2 b.length c2 A3 c.length c3).toArray]) Tryz.func79 V 103 V (Jn V)<|Z2 0 1 V V<|zD (H':=Hp (fun _=>False) w0 L [] (PX w0 pb d l)) (fun u hu=>?_) ?_
 ·subst hu;exact hH
 refine zY<|zX<|zC .none V (vY V V) (fun b3=>?_);refine ZX<|zX<|ZF V (Y60x2 V) ?_;refine ZF rfl (zW 0 rfl rfl rfl U55 rfl)<|ZF rfl (zJ (j:=0) (es:=4) rfl rfl U55 (by kernel_rfl) rfl (by first|decide|omega|(simp;done)|(simp;omega)) rfl) ?_;refine ZF V (yD (cs:=xL x B1 cap1) V U57 V (by kernel_rfl) (fun w h j v hv=>RdF.part (Lies.ext RdF.lies h1 (Jq h).ext) (Jm.1 (hcell j v hv)).1 (by omega) (hcell j v hv))) ?_;refine yT .none V  (v:=.string ⟨(vD x 0).toArray⟩) (by kernel_rfl) V (fun w hw=>text_all x 0 F B1 cap1 w (hre x hxm) (hue x hxm) (by omega) (by omega) (hT.ext (Jq hw).ext) (Lies.ext xT.lies hxk (Jq hw).ext)) ?_;refine Za V V<|ZX<|Z4r 0 1 3 4 V V V V<|ZF V (Y60x0 V) ?_;refine ZF V (zW 0 V V V U3 V)<|ZT<|yY<|zY<|Z5r 0 1 3 4 11 V V V V V<|ZF V (yS V V)<|Za V V<|ZT<|zT V (fun hc=>?_) (fun hc=>?_)
 ·replace hc:=Jw hc;have hk:k=1:=by omega
  subst hk;rw[prS_1,tV hx] at hl ⊢;have hl2:=hl;simp only[Ji,xO,Jj,Jk] at hl2;refine Z6r 0 1 3 4 11 12 V V V V V V<|Zm V V<|ZF V (Y60x1 V) ?_;refine ZF rfl (zW 0 rfl rfl rfl U9 rfl)<|ZF rfl (zF rfl rfl (by first|omega|simp<;>omega)) ?_;refine ZF rfl (zF rfl rfl (by first|omega|simp<;>omega)) ?_;refine Zm rfl rfl<|ZF rfl (zF rfl rfl (by first|omega|simp<;>omega)) ?_;refine ZF rfl (zF rfl rfl (by first|omega|simp<;>omega)) ?_;refine tR _ (by exact ho) (by omega) (by simp only[Ji,xO,Jj,Jk];omega) .none V  V ?_;refine zU<|zM<|xI V (fun w hw=>?_);refine⟨rfl,?_⟩;have hw2:=Hp.drop hw (Js _ _) (Jr _)
  try simp only[Kb,Ku] at hw2 ⊢
  exact hw2
 ·replace hc:=yP hc;have hk1':k≠1:=by omega
  refine zY<|Z6r 0 1 3 4 11 12 V V V V V V<|ZF V (yS V V)<|Za V V<|ZT<|zT V (fun hc=>?_) (fun hc=>?_)
  ·replace hc:=Jw hc;have hk:k=2:=by omega
   subst hk;rw[prS_2,tV hx] at hl ⊢;have hl2:=hl;simp only[Ji,xO,Jj,Jk] at hl2;refine Z7r 0 1 3 4 11 12 23 V V V V V V V<|Zm V V<|ZF V (Y60x1 V) ?_;refine ZF rfl (zW 0 rfl rfl rfl U9 rfl)<|ZF rfl (zF rfl rfl (by first|omega|simp<;>omega)) ?_;refine Zm rfl rfl<|ZF rfl (zF rfl rfl (by first|omega|simp<;>omega)) ?_;refine ZF rfl (zF rfl rfl (by first|omega|simp<;>omega)) ?_;refine tR _ (by exact ho) (by omega) (by simp only[Ji,xO,Jj,Jk];omega) .none V  V ?_;refine zU<|zM<|xI V (fun w hw=>?_);refine⟨rfl,?_⟩;have hw2:=Hp.drop hw (Js _ _) (Jr _)
   try simp only[Kb,Ku] at hw2 ⊢
   exact hw2
  ·replace hc:=yP hc;have hk2':k≠2:=by omega
   refine zY<|Z7r 0 1 3 4 11 12 23 V V V V V V V<|ZF V (yS V V)<|Za V V<|ZT<|zT V (fun hc=>?_) (fun hc=>?_)
   ·replace hc:=Jw hc;have hk:k=3:=by omega
    subst hk;have hel2:1<es.length:=by rw[hle,Kp rfl];omega
    obtain⟨y,hy⟩:∃y,es[1]? = some y:=⟨es[1],Jt hel2⟩;rw[prS_3,tV hx,textE1_le hy] at hl ⊢;have hl2:=hl;simp only[Ji,xO,Jj,Jk] at hl2;have hym:=Ju hy;have hyN:=exN_mem hym;obtain⟨B2,cap2,hfix2⟩:=k1.fix hy;have hyk:=(hfix2 F w0 k1).1;have hcell2:=(hfix2 F w0 k1).2;refine Z8r 0 1 3 4 11 12 23 33 rfl rfl rfl rfl rfl rfl rfl rfl<|Zm rfl rfl<|Zm rfl rfl<|ZF rfl (zF rfl rfl (by first|omega|simp<;>omega)) ?_;refine ZF rfl (zF rfl rfl (by first|omega|simp<;>omega)) ?_;refine ZF V (Y60x2 V) ?_;refine ZF rfl (zW 0 rfl rfl rfl U55 rfl)<|ZF rfl (zJ (j:=1) (es:=4) rfl rfl U55 (by kernel_rfl) rfl (by first|decide|omega|(simp;done)|(simp;omega)) rfl) ?_;refine ZF V (yD (cs:=xL y B2 cap2) V U57 V (by kernel_rfl) (fun w h j v hv=>RdF.part (Lies.ext RdF.lies h1 (Jq h).ext) (Jm.1 (hcell2 j v hv)).1 (by omega) (hcell2 j v hv))) ?_;refine yT .none V  (v:=.string ⟨(vD y 0).toArray⟩) (by kernel_rfl) V (fun w hw=>text_all y 0 F B2 cap2 w (hre y hym) (hue y hym) (by omega) (by omega) (hT.ext (Jq hw).ext) (Lies.ext xT.lies hyk (Jq hw).ext)) ?_;refine ZF rfl (zF rfl rfl (by first|omega|simp<;>omega)) ?_;refine ZF rfl (zF rfl rfl (by first|omega|simp<;>omega)) ?_;refine tR _ (by exact ho) (by omega) (by simp only[Ji,xO,Jj,Jk];omega) .none V  V ?_;refine zU<|zM<|xI V (fun w hw=>?_);refine⟨rfl,?_⟩;have hw2:=Hp.drop hw (Js _ _) (Jr _)
    try simp only[Kb,Ku] at hw2 ⊢
    exact hw2
   ·replace hc:=yP hc;have hk3':k≠3:=by omega
    refine zY<|Z8r 0 1 3 4 11 12 23 33 V V V V V V V V<|ZF V (yS V V)<|Za V V<|ZT<|zT V (fun hc=>?_) (fun hc=>?_)
    ·replace hc:=Jw hc;have hk:k=6:=by omega
     subst hk;rw[prS_6,tV hx] at hl ⊢;have hl2:=hl;simp only[Ji,xO,Jj,Jk] at hl2;refine Z9r 0 1 3 4 11 12 23 33 47 rfl rfl rfl rfl rfl rfl rfl rfl rfl<|Zm rfl rfl<|Zm rfl rfl<|ZF rfl (zF rfl rfl (by first|omega|simp<;>omega)) ?_;refine ZF rfl (zF rfl rfl (by first|omega|simp<;>omega)) ?_;refine tR _ (by exact ho) (by omega) (by simp only[Ji,xO,Jj,Jk];omega) .none V  V ?_;refine zU<|zM<|xI V (fun w hw=>?_);refine⟨rfl,?_⟩;have hw2:=Hp.drop hw (Js _ _) (Jr _)
     try simp only[Kb,Ku] at hw2 ⊢
     exact hw2
    ·replace hc:=yP hc;have hk6':k≠6:=by omega
     refine zY<|Z9r 0 1 3 4 11 12 23 33 47 V V V V V V V V V<|ZF V (yS V V)<|Za V V<|ZT<|zT V (fun hc=>?_) (fun hc=>?_)
     ·replace hc:=Jw hc;have hk:k=7:=by omega
      subst hk;rw[prS_7,tV hx] at hl ⊢;have hl2:=hl;simp only[Ji,xO,Jj,Jk] at hl2;refine Z10r 0 1 3 4 11 12 23 33 47 54 rfl rfl rfl rfl rfl rfl rfl rfl rfl rfl<|Zm rfl rfl<|Zm rfl rfl<|ZF rfl (zF rfl rfl (by first|omega|simp<;>omega)) ?_;refine ZF rfl (zF rfl rfl (by first|omega|simp<;>omega)) ?_;refine tR _ (by exact ho) (by omega) (by simp only[Ji,xO,Jj,Jk];omega) .none V  V ?_;refine zU<|zM<|xI V (fun w hw=>?_);refine⟨rfl,?_⟩;have hw2:=Hp.drop hw (Js _ _) (Jr _)
      try simp only[Kb,Ku] at hw2 ⊢
      exact hw2
     ·replace hc:=yP hc;have hk7':k≠7:=by omega
      refine zY<|Z10r 0 1 3 4 11 12 23 33 47 54 V V V V V V V V V V<|ZF V (yS V V)<|Za V V<|ZT<|zT V (fun hc=>?_) (fun hc=>?_)
      ·replace hc:=Jw hc;have hk:k=8:=by omega
       subst hk;rw[prS_8,tV hx] at hl ⊢;have hl2:=hl;simp only[Ji,xO,Jj,Jk] at hl2;refine Z11r 0 1 3 4 11 12 23 33 47 54 61 rfl rfl rfl rfl rfl rfl rfl rfl rfl rfl rfl<|Zm rfl rfl<|Zm rfl rfl<|ZF rfl (zF rfl rfl (by first|omega|simp<;>omega)) ?_;refine tR _ (by exact ho) (by omega) (by simp only[Ji,xO,Jj,Jk];omega) .none V  V ?_;refine zU<|zM<|xI V (fun w hw=>?_);refine⟨rfl,?_⟩;have hw2:=Hp.drop hw (Js _ _) (Jr _)
       try simp only[Kb,Ku] at hw2 ⊢
       exact hw2
      ·replace hc:=yP hc;have hk8':k≠8:=by omega
       refine zY<|Z11r 0 1 3 4 11 12 23 33 47 54 61 V V V V V V V V V V V<|ZF V (yS V V)<|Za V V<|ZT<|zT V (fun hc=>?_) (fun hc=>?_)
       ·replace hc:=Jw hc;have hk:k=5:=by omega
        subst hk;rw[prS_5,tV hx] at hl ⊢;have hl2:=hl;simp only[Ji,xO,Jj,Jk] at hl2;refine zY<|Z12r 0 1 3 4 11 12 23 33 47 54 61 67 rfl rfl rfl rfl rfl rfl rfl rfl rfl rfl rfl rfl<|Zm rfl rfl<|Zm rfl rfl<|ZF rfl (zF rfl rfl (by first|omega|simp<;>omega)) ?_;refine ZF rfl (zF rfl rfl (by first|omega|simp<;>omega)) ?_;refine tR _ (by exact ho) (by omega) (by simp only[Ji,xO,Jj,Jk];omega) .none V  V ?_;refine ZX<|Z12r 0 1 3 4 11 12 23 33 47 54 61 67 V V V V V V V V V V V V<|Zm V V<|ZF V (Y60x3 V) ?_;refine ZF V (zW 0 V V V U58 V)<|wl_pblock hb F A2 c2 hrb hub (by omega) (by exact ho) (by simp only[Ji,xO,Jj,Jk];omega) hT kb .none V  V ?_;refine ZT<|Z12r 0 1 3 4 11 12 23 33 47 54 61 67 V V V V V V V V V V V V<|Zm V V<|tR _ (by exact ho) (by omega) (by simp only[Ji,xO,Jj,Jk];omega) .none V  V ?_;refine zU<|zM<|xI V (fun w hw=>?_);refine⟨rfl,?_⟩;have hw2:=Hp.drop hw (Js _ _) (Jr _)
        try simp only[Kb,Ku] at hw2 ⊢
        exact hw2
       ·replace hc:=yP hc;have hk:k=4:=by omega
        subst hk;rw[prS_4,tV hx] at hl ⊢;have hl2:=hl;simp only[Ji,xO,Jj,Jk] at hl2;refine zY<|Z12r 0 1 3 4 11 12 23 33 47 54 61 67 V V V V V V V V V V V V<|ZF V (yS V V)<|Za V V<|ZT<|zT V (fun hc=>?_) (fun hc=>?_)
        ·replace hc:=Jw hc;refine zY<|Z13r 0 1 3 4 11 12 23 33 47 54 61 67 80 rfl rfl rfl rfl rfl rfl rfl rfl rfl rfl rfl rfl rfl<|Zm rfl rfl<|Zm rfl rfl<|ZF rfl (zF rfl rfl (by first|omega|simp<;>omega)) ?_;refine ZF rfl (zF rfl rfl (by first|omega|simp<;>omega)) ?_;refine tR _ (by exact ho) (by omega) (by simp only[Ji,xO,Jj,Jk];omega) .none V  V ?_;refine ZX<|Z13r 0 1 3 4 11 12 23 33 47 54 61 67 80 V V V V V V V V V V V V V<|Zm V V<|ZF V (Y60x3 V) ?_;refine ZF V (zW 0 V V V U58 V)<|wl_pblock hb F A2 c2 hrb hub (by omega) (by exact ho) (by simp only[Ji,xO,Jj,Jk];omega) hT kb .none V  V ?_;refine ZX<|zY<|Z13r 0 1 3 4 11 12 23 33 47 54 61 67 80 V V V V V V V V V V V V V<|ZF V (Y60x4 V) ?_;refine ZF V (zW 0 V V V U58 V)<|ZF V (yM V U58)<|ZF V (wO V V)<|ZT<|zT V (fun hc=>?_) (fun hc=>?_)
         ·replace hc:=Jo hc;have hcl:0<c.length:=by omega
          rw[Kp hcl] at hl ⊢;have hl2:=hl;simp only[Ji,xO,Jj,Jk] at hl2;refine zY<|Z14r 0 1 3 4 11 12 23 33 47 54 61 67 80 94 V V V V V V V V V V V V V V<|Zm V V<|tR _ (by exact ho) (by omega) (by simp only[Ji,xO,Jj,Jk];omega) .none V  V ?_;refine ZT<|Z14r 0 1 3 4 11 12 23 33 47 54 61 67 80 94 V V V V V V V V V V V V V V<|Zm V V<|ZF V (Y60x4 V) ?_;refine ZF V (zW 0 V V V U58 V)<|wl_pblock hc' F A3 c3 hrc huc (by omega) (by exact ho) (by simp only[Ji,xO,Jj,Jk];omega) hT kc .none V  V ?_;refine ZT<|Z14r 0 1 3 4 11 12 23 33 47 54 61 67 80 94 V V V V V V V V V V V V V V<|Zm V V<|tR _ (by exact ho) (by omega) (by simp only[Ji,xO,Jj,Jk];omega) .none V  V ?_;refine zU<|zM<|xI V (fun w hw=>?_);refine⟨rfl,?_⟩;have hw2:=Hp.drop hw (Js _ _) (Jr _)
          try simp only[Kb,Ku] at hw2 ⊢
          exact hw2
         ·replace hc:=Jp hc;have hcl:¬0<c.length:=by omega
          rw[Ko hcl] at hl ⊢;have hl2:=hl;simp only[Ji,xO,Jj,Jk] at hl2;refine zG<|zQ<|Z14r 0 1 3 4 11 12 23 33 47 54 61 67 80 94 V V V V V V V V V V V V V V<|Zm V V<|tR _ (by exact ho) (by omega) (by simp only[Ji,xO,Jj,Jk];omega) .none V  V ?_;refine zU<|zM<|xI V (fun w hw=>?_);refine⟨rfl,?_⟩;have hw2:=Hp.drop hw (Js _ _) (Jr _)
          try simp only[Kb,Ku] at hw2 ⊢
          exact hw2
        ·replace hc:=yP hc;omega
theorem pblock_step (b:List St) (IH:∀x∈b,PrSt x):PB b:=by
 intro d l pb w0 L F A cap w_0 hr hu hN ho hl hT h hH;have hlt:=h.1.lt;obtain⟨_,xs,hk1,hk2⟩:=h
 have hr2:∀x∈b,xH x=true:=by
  rw[uQ,List.all_eq_true] at hr;exact hr
 have hu2:=stsU_all hu
 have hA:0<b.length→∃b off,A=some ⟨b,off,none⟩:=fun h0=>by
  obtain⟨b,off,e,_⟩:=hk1 (by rw[hk2.len];omega);exact⟨b,off,e⟩
 refine yV (args:=[.pointer (some ⟨pb,0,none⟩),.slice A b.length cap]) Tryz.func44 V 30 V (Jn V)<|Z2 0 1 V V<|zD (H':=Hp (fun _=>False) w0 L [] (PX w0 pb d l)) (fun u hu=>?_) ?_
 ·subst hu;exact hH
 refine zY<|zX<|Zm V V<|Zn V V<|ZF V (Y80x2 V) ?_;refine ZF V (yO (v:=.int .i64 d) V U3 V (fun u h=>(HpG.x h).cell)) ?_;refine ZF V (yI V V (oX (n:=d) (by omega))) ?_;refine Zn V V<|ZF V (Y80x2 V) ?_;refine wl_deep (T:=80) (d+1) ho V V (by kernel_rfl) .none ?_;refine ZX<|zY<|Z2r 0 1 V V<|Zm V V<|ZF V (yM V U58)<|Zm V V<|ZT<|yY<|xV (ι:={j:Nat // j≤b.length}) (fun j=>[(0,.pointer (some ⟨pb,0,none⟩)),(13,.slice A b.length cap),(14,.int .i64 b.length),(15,.int .i64 j.1)]) (fun j=>Hp (fun _=>False) w0 L [] (PX w0 pb (d+1) (l++prB (d+1) (b.take j.1)))) (fun j=>b.length-j.1) ⟨0,Kl _⟩ ?_ ?_ (fun j=>?_)
 ·exact .cons V<|.cons V<|.cons V<|.cons V<|.nil
 ·intro w h;simp only[List.take_zero,prB,Ku];exact h
 obtain⟨i,hi⟩:=j;dsimp only;refine zY<|zX<|ZF V (xS V V)<|ZX<|zT V (fun hc=>?_) (fun hc=>?_)
 ·replace hc:=Jo hc;obtain⟨g0,o0,rfl⟩:=hA (by omega);have hil:i<b.length:=by omega
  obtain⟨x,hx⟩:∃x,b[i]? = some x:=⟨b[i],Jt hil⟩;have hxm:=Ju hx;obtain⟨a,hfix⟩:=hk2.fix hx;have hxk:=(hfix F w0 hk2).1;have hcell:=(hfix F w0 hk2).2;have ht:=wF hx;have hN2:=stNs_take hx
  have hpl:(prB (d+1) b).length=(prB (d+1) (b.take (i+1))).length+(prB (d+1) (b.drop (i+1))).length:=by
   rw[← Ji,← prB_append,List.take_append_drop]
  have hnx:prB (d+1) (b.take (i+1))=prB (d+1) (b.take i)++prS (d+1) x:=by
   rw[ht,prB_append];simp only[prB,Ku]
  have hpl2:=hpl;rw[hnx,Ji] at hpl2;refine zG<|zQ<|zY<|yY<|zY<|zX<|ZF rfl (zJ (es:=5) rfl rfl U58 (by kernel_rfl) rfl (by first|decide|omega|(simp;done)|(simp;omega)) rfl) ?_;refine ZF V (yD (cs:=stOf x a) V U60 V (by kernel_rfl) (fun w h j v hv=>RdF.part (Lies.ext RdF.lies hk1 (Jq h).ext) (Jm.1 (hcell j v hv)).1 (by omega) (hcell j v hv))) ?_;refine zC .none V (yK (z:=.agg #[.int .i64 0,.string ⟨#[]⟩,.slice none 0 0,.slice none 0 0,.slice none 0 0]) (cs:=Jf) (by kernel_rfl) V) (fun b5=>?_);refine ZR 0 V V V V V (by kernel_rfl) ?_;refine ZT<|Z6r 0 5 13 14 15 16 V V V V V V<|Zm V V<|ZF V (yX 0 V V U60 V (by kernel_rfl)) ?_;refine xQ (ι:=Unit) (val:=fun _=>.tuple #[]) (H':=fun _=>Hp (fun _=>False) w0 ((b5,bk 60 (stOf x a))::L) [] (PX w0 pb (d+1) (l++prB (d+1) (b.take (i+1))))) .none V  (vT (by kernel_rfl) V (fun w hw=>(IH x hxm (d+1) (l++prB (d+1) (b.take i)) pb w0 _ F a w (hr2 x hxm) (hu2 x hxm) (by omega) (by exact ho) (by rw[Ji];omega) hT hxk hw).mono fun e w' ⟨e1,e2⟩=>⟨_,e1,(),rfl,by rw[hnx,← Kb];exact e2⟩)) (fun _=>?_);refine zU<|zM<|zQ<|Z6r 0 5 13 14 15 16 V V V V V V<|ZF V (yI V V (i64_in _ (by omega) (by omega))) ?_;refine Zm V V<|zU<|yC (ι:={j:Nat // j≤b.length}) ⟨i+1,by omega⟩ (by show b.length-(i+1)<b.length-i;omega) (O4 V V V V) (fun w h=>Hp.drop h (Js _ _) (Jr _))
 ·replace hc:=Jp hc;have hie:i=b.length:=by omega
  subst hie;rw[Kh];refine xY<|zN<|zN<|xZ<|zQ<|zX<|Zm V V<|Zn V V<|ZF V (Y80x2 V) ?_;refine ZF V (yO (v:=.int .i64 ((d+1:Nat):Int)) V U3 V (fun u h=>(HpG.x h).cell)) ?_;refine ZF V (wG V V (show IntKind.i64.wrap (((d+1:Nat):Int)-1)=(d:Int) from by rw[i64_in _ (by omega) (by omega)];omega)) ?_;refine Zn V V<|ZF V (Y80x2 V) ?_;refine wl_deep (T:=80) d ho V V (by kernel_rfl) .none ?_;refine zU<|xI V (fun w hw=>?_);exact⟨rfl,hw⟩
theorem pr_all:∀(N:Nat) (x:St),SizeOf.sizeOf x<N→PrSt x
 | 0,_,h=>absurd h (by omega)
 | N+1,.mk k s es b c,h=>pstmt_step k s es b c (pblock_step b fun x hx=>pr_all N x (by have:=vF (k:=k) (s:=s) (es:=es) (c:=c) (.inl hx);omega)) (pblock_step c fun x hx=>pr_all N x (by have:=vF (k:=k) (s:=s) (es:=es) (b:=b) (.inr hx);omega))
theorem pblock_any (b:List St):PB b:=pblock_step b fun x _=>pr_all _ x (Nat.lt_succ_self _)
end Go.Proofs.YtfpkpnkdnammnaaGreatDoor
namespace Go.Proofs.YtfpkpnkdnammnaaGreatDoor
open Go.RowKit
section
variable {P:Program}{n:Nat}{m:List (Nat×Value)}{ty:TypeId}{H:World→Prop}
theorem yf_sliceData {x:Operand}{t:TypeId}{a:Addr}{k c:Nat}(hx:ev m x=some (.slice (some a) k c)) (hc:c≠0):YF P (.call { callee:=.builtin .unsafeSliceData,args:=#[x],argTypes:=#[t] }) ty n m H (.pointer (some a)):=fun _ w d pos af g hs hw=>by
 have:=Lib.run_unsafeSliceData_row (P:=P) (w:=w) #[t] ty a k c hc;simp[Yl,execOp,resolve,invoke,builtin,hs.ev hx,Result.andThen,this]
theorem yf_sliceData0 {x:Operand}{t:TypeId}{k c:Nat}(hx:ev m x=some (.slice none k c)):YF P (.call { callee:=.builtin .unsafeSliceData,args:=#[x],argTypes:=#[t] }) ty n m H (.pointer none):=fun _ w d pos af g hs hw=>by
 have:=Lib.run_unsafeSliceData_nil (P:=P) (w:=w) #[t] ty k c;simp[Yl,execOp,resolve,invoke,builtin,hs.ev hx,Result.andThen,this]
theorem yf_unsafeStr0 {x y:Operand}{t1 t2:TypeId}{p:Option Addr}(hx:ev m x=some (.pointer p)) (hy:ev m y=some (.int .i64 0)):YF P (.call { callee:=.builtin .unsafeString,args:=#[x,y],argTypes:=#[t1,t2] }) ty n m H (.string ⟨#[]⟩):=fun _ w d pos af g hs hw=>by
 have:=Lib.run_unsafeString_none (P:=P) (w:=w) t1 t2 ty p;simp[Yl,execOp,resolve,invoke,builtin,hs.ev hx,hs.ev hy,Result.andThen,this];rfl
end
theorem string_any {w0:World}{pb d:Nat}{l:Bs}{L:List (Nat×Obj)}(hne:l≠[]) (ho:L.all (fun p=>okOb p.2)=true) (w_0:World) (h:Hp (fun _=>False) w0 L [] (PX w0 pb d l) w_0):Calls Tryz.prog 45 #[.pointer (some ⟨pb,0,none⟩)] w_0 fun e w'=>e=.returned (.string ⟨l.toArray⟩)∧Ext w0 w':=by
 obtain⟨q,v,hq,hx⟩:=HpG.x h;have hst:=Hp.px h ho (Below.refl _ _) (Lib.OthersKept.refl _ _ _) hx.blk hx.ft;have hl0:l.length≠0:=by simpa using hne
 obtain⟨g,cap,rfl,hcap⟩:∃g cap,v=.slice (some ⟨g,0,none⟩) l.length cap∧l.length≤cap:=by
  rcases hx.2.2.2 with ⟨_,e2⟩|⟨g,cap,cur,e1,_,_,e2,_⟩
  ·exact absurd e2 hl0
  ·exact⟨g,cap,e1,e2⟩
 refine yV (args:=[.pointer (some ⟨pb,0,none⟩)]) Tryz.func45 V 14 V (Jn V)<|Z1 0 V<|zD (H':=Hp (fun _=>False) w0 L [] (PXw w0 pb q (.slice (some ⟨g,0,none⟩) l.length cap) (.slice (some ⟨g,0,none⟩) l.length cap) d l)) (fun u hu=>?_) ?_
 ·subst hu;exact hst
 refine zY<|zX<|Za V V<|ZX<|wc_still 10 (by kernel_rfl) (by kernel_rfl) (fun _ h=>HpG.drew h) ?_;refine yB .none V (zO V)<|yB .none V (yR V)<|yB .none V (Y78x1 V) ?_;refine yB .none V (yO (v:=.slice (some ⟨g,0,none⟩) l.length cap) V U54 V (fun u h=>by rw[cell_of_row u pb _ _ _ _ (HpG.x h).2.1];rfl)) ?_;refine yB .none V  (yf_sliceData V (by omega)) ?_;refine yB .none V (zO V)<|yB .none V (yR V)<|yB .none V (Y78x1 V) ?_;refine yB .none V (yO (v:=.slice (some ⟨g,0,none⟩) l.length cap) V U54 V (fun u h=>by rw[cell_of_row u pb _ _ _ _ (HpG.x h).2.1];rfl)) ?_;refine yB .none V (yM V U54)<|wt_tail<|xQ (ι:=Unit) (val:=fun _=>.string ⟨l.toArray⟩) (H':=fun _ w=>Ext w0 w) .none V  (fun a w d2 pos af gd hs hw=>?_) (fun _=>?_)
 ·obtain⟨h1,h2,h3⟩:=HpG.x hw
  obtain⟨cur,hg1,hg,hcs,htake⟩:∃cur,w0.heap.size≤g∧w.heap[g]? = some (.cells cur 5 (0,0))∧cur.size=cap∧cur.toList.take l.length=Lib.byteCells l:=by
   rcases h3.2 with ⟨e1,_⟩|⟨g2,cap2,cur,e1,hg1,hg2,_,_,e4,e5⟩
   ·cases e1
   ·injection e1 with e1 _ e3;injection e1 with e1;injection e1 with e1;subst e1;subst e3;exact⟨cur,hg1,hg2,by simpa using e4,by simpa using e5⟩
  have hcm:l.length≤9223372036854775807:=by
   have:=h3.1;rcases h3.2 with ⟨e1,_⟩|⟨g2,cap2,cur,e1,_,_,e4,e5,_⟩
   ·cases e1
   ·unfold maxLen at e5;omega
  have hUS:=Lib.run_unsafeString_row (P:=Tryz.prog) w 131 3 9 5 Tryz.underlying131 (by kernel_rfl) g cur.size (by simp[World.shape?,hg]) l hne (by omega) hcm (fun j x hx=>by
   have hjl:=(Jm.1 hx).1;rw[Addr.add_mid,Kk,cell_of_row w g j _ _ _ hg];have e:=congrArg (fun z:List Value=>z[j]?) htake;simp only[List.getElem?_take,Kp hjl] at e;rw[← Array.getElem?_toList,e]
   simp[Lib.byteCells,hx])
  have ex:=hs.ev (x:=.tmp 7) rfl;have ey:=hs.ev (x:=.tmp 12) rfl
  have hrun:(execOp a.eval ⟨d2,.call { callee:=.builtin .unsafeString,args:=#[.tmp 7,.tmp 12],argTypes:=#[131,3] },9,pos,af,gd⟩).run Tryz.prog w=.ok (.value (.string ⟨l.toArray⟩)) (w.freeze ⟨g,0,none⟩ l.length):=by
   simp[execOp,resolve,invoke,builtin,ex,ey,hUS]
  unfold Ch;rw[hrun];exact⟨(),rfl,Lib.below_freeze ((Jq hw).ext) hg1 _⟩
 refine Za V V<|ZT<|zK<|zI V V (fun w hw=>?_);exact⟨rfl,hw⟩
theorem string_none (pb d:Nat) (w_0:World) (hb:w_0.heap[pb]? = some (prO (.pointer none) (.slice none 0 0) d)):Calls Tryz.prog 45 #[.pointer (some ⟨pb,0,none⟩)] w_0 fun e w'=>e=.returned (.string ⟨#[]⟩)∧Ext w_0 w':=by
 refine yV (args:=[.pointer (some ⟨pb,0,none⟩)]) Tryz.func45 V 14 V (Jn V)<|Z1 0 V<|zD (H':=Hp (fun _=>False) w_0 [] [] (Blk pb (prO (.pointer none) (.slice none 0 0) d))) (fun u hu=>?_) ?_
 ·subst hu;exact Hp.start ⟨fun k=>k=pb,fun k hk=>by subst hk;exact⟨(Jv.1 hb).1,id⟩,fun u hu=>(hu pb V).trans hb⟩
 refine zY<|zX<|Za V V<|ZX<|wc_still 10 (by kernel_rfl) (by kernel_rfl) (fun _ h=>HpG.drew h) ?_;refine yB .none V (zO V)<|yB .none V (yR V)<|yB .none V (Y78x1 V) ?_;refine yB .none V (yO (v:=.slice none 0 0) V U54 V (fun u h=>by rw[cell_of_row u pb _ _ _ _ (HpG.x h)];rfl)) ?_;refine yB .none V  (yf_sliceData0 V)<|yB .none V (zO V)<|yB .none V (yR V)<|yB .none V (Y78x1 V) ?_;refine yB .none V (yO (v:=.slice none 0 0) V U54 V (fun u h=>by rw[cell_of_row u pb _ _ _ _ (HpG.x h)];rfl)) ?_;refine yB .none V (yM V U54)<|wt_tail<|wl_free .none V  (yf_unsafeStr0 V V)<|Za V V<|ZT<|zK<|zI V V (fun w hw=>?_);exact⟨rfl,(Jq hw).ext⟩
end Go.Proofs.YtfpkpnkdnammnaaGreatDoor
namespace Go.Proofs.YtfpkpnkdnammnaaGreatDoor
open Go.RowKit
theorem Hp.pxNew {w0 w:World}{L:List (Nat×Obj)}{X:World→Prop}{b d:Nat}(h:Hp (fun _=>False) w0 ((b,prO (.pointer none) (.slice none 0 0) d)::L) [] X w) (ho:L.all (fun p=>okOb p.2)=true):Hp (fun _=>False) w0 L [] (PX w0 b d []) w:=by
 have hb:=HpG.own h _ (Jy ..)
 have hm:w0.heap.size≤b:=by
  rcases HpG.mine h _ (Jy ..) with h1|h1
  ·exact h1
  ·exact h1.elim
 exact Hp.px (Hp.drop h (Js _ _) (Jr _)) ho (Below.refl _ _) (Lib.OthersKept.refl _ _ _) ⟨_,hb⟩ (PX.ft ⟨none,_,.inl rfl,hm,hb,rfl,.inl ⟨rfl,rfl⟩⟩)
theorem flat_take {α:Type}(f:α→Bs) {l:List α}{i:Nat}{x:α}(hx:l[i]? = some x):((l.take (i+1)).map f).flatten=((l.take i).map f).flatten++f x∧((l.take i).map f).flatten.length+(f x).length≤(l.map f).flatten.length:=by
 have e:((l.take (i+1)).map f).flatten=((l.take i).map f).flatten++f x:=by rw[wF hx];simp
 refine⟨e,?_⟩;have:l.map f=(l.take (i+1)).map f++(l.drop (i+1)).map f:=by rw[← List.map_append,List.take_append_drop]
 rw[this,List.flatten_append,Ji,e,Ji];omega
def fnU (f:Fn):Bool:=stsU f.body
theorem print_nil (F:Nat→Prop) (A:Option Addr) (cap:Nat) (w_0:World) (hP:PgK F w_0 [] A cap):Calls Tryz.prog 23 #[.agg [Value.slice A 0 cap].toArray] w_0 fun e w'=>e=.returned (.string ⟨#[]⟩)∧Ext w_0 w':=by
 refine yV (args:=[Value.agg [Value.slice A 0 cap].toArray]) Tryz.func23 V 33 V (Jn V)<|Z1 0 V<|zD (H':=Hp (fun _=>False) w_0 [] [] (wN F w_0)) (fun u hu=>?_) ?_
 ·subst hu;exact Hp.startSame
 refine zY<|zX<|zC .none V (vY V V) (fun b1=>?_);refine Za V V<|ZX<|zY<|zX<|ZF V (yX 0 V V U32 V (by kernel_rfl)) ?_;refine yT .none V  (v:=.bool (wD [])) (by kernel_rfl) V (fun w hw=>right_any [] F A cap w ((HpG.x hw).get PgK.lies hP)) ?_;refine ZF V (xJ V)<|ZT<|zT V (fun h8=>?_) (fun h8=>?_)
 ·simp[wD] at h8
 ·refine zG<|zQ<|zY<|Z4r 0 1 2 8 V V V V<|zC .none V (yK (z:=Jc) (cs:=[.pointer none,.slice none 0 0,.int .i64 0]) (by kernel_rfl) V) (fun b3=>?_);refine ZX<|zY<|zX<|ZF V (Y32x0 V) ?_;refine ZF V (zW 1 V V V U30 V)<|ZF V (yM V U30)<|Zm V V<|ZT<|yY<|xV (ι:=Unit) (fun _=>[(3,.pointer (some ⟨b3,0,none⟩)),(11,.int .i64 0),(12,.int .i64 0)]) (fun _=>Hp (fun _=>False) w_0 [(b3,prO (.pointer none) (.slice none 0 0) 0),(b1,bk 32 [.slice A 0 cap])] [] (wN F w_0)) (fun _=>0) () ?_ ?_ (fun _=>?_)
  ·exact .cons V<|.cons V<|.cons V<|.nil
  ·exact fun w h=>h
  refine zY<|zX<|ZF V (xS V V)<|ZX<|zT V (fun hc=>?_) (fun hc=>?_)
  ·replace hc:=Jo hc;cases hc
  ·replace hc:=Jp hc;refine xY<|zN<|zN<|xZ<|zQ<|zY<|zX<|ZF V (zZ (off:=0) (sz:=1) V Tryz.underlying80 (by kernel_rfl) V) ?_;refine yT .none V  (v:=.string ⟨#[]⟩) (by kernel_rfl) V (fun w hw=>string_none b3 0 w (HpG.blkL hw (j:=0) V)) ?_;refine Za V V<|ZT<|zK<|zI V V (fun w hw=>?_);exact⟨rfl,(Jq hw).ext⟩
theorem print_cons (fs:List Fn) (hne:fs≠[]) (F:Nat→Prop) (A:Option Addr) (cap:Nat) (w_0:World) (hU:∀f∈fs,fnU f=true) (hN:∀f∈fs,f.params.length+stNs f.body≤100000000000) (hl:(xE fs).length≤1000000000000) (hT:TbN w_0) (hP:PgK F w_0 fs A cap):Calls Tryz.prog 23 #[.agg [Value.slice A fs.length cap].toArray] w_0 fun e w'=>e=.returned (.string ⟨(xE fs).toArray⟩)∧Ext w_0 w':=by
 have hP0:=hP;obtain⟨hcp,xs,hk1,hk2⟩:=hP0;have hlt:=hcp.lt
 have hA:0<fs.length→∃b off,A=some ⟨b,off,none⟩:=fun h0=>by
  obtain⟨b,off,e,_⟩:=hk1 (by rw[hk2.len];omega);exact⟨b,off,e⟩
 refine yV (args:=[Value.agg [Value.slice A fs.length cap].toArray]) Tryz.func23 V 33 V (Jn V)<|Z1 0 V<|zD (H':=Hp (fun _=>False) w_0 [] [] (wN F w_0)) (fun u hu=>?_) ?_
 ·subst hu;exact Hp.startSame
 refine zY<|zX<|zC .none V (vY V V) (fun b1=>?_);refine Za V V<|ZX<|zY<|zX<|ZF V (yX 0 V V U32 V (by kernel_rfl)) ?_;refine yT .none V  (v:=.bool (wD fs)) (by kernel_rfl) V (fun w hw=>right_any fs F A cap w ((HpG.x hw).get PgK.lies hP)) ?_;refine ZF V (xJ V)<|ZT<|zT V (fun h8=>?_) (fun h8=>?_)
 ·have hr:¬wD fs=true:=by simpa using h8
  refine zY<|Z4r 0 1 2 8 V V V V<|Za V V<|ZT<|zK<|zV<|zI V V (fun w hw=>?_);exact⟨by rw[show xE fs=[] from Ko hr],(Jq hw).ext⟩
 ·have hr:wD fs=true:=by simpa using h8
  have hpl:xE fs=(fs.map prF).flatten:=Kp hr;rw[hpl] at hl ⊢;unfold wD at hr;rw[List.all_eq_true] at hr;refine zG<|zQ<|zY<|Z4r 0 1 2 8 V V V V<|zC .none V (yK (z:=Jc) (cs:=[.pointer none,.slice none 0 0,.int .i64 0]) (by kernel_rfl) V) (fun b3=>?_);refine ZX<|zY<|zD (H':=Hp (fun _=>False) w_0 [(b1,bk 32 [.slice A fs.length cap])] [] (PX w_0 b3 0 [])) (fun w h=>Hp.pxNew h V) ?_;refine zX<|ZF V (Y32x0 V) ?_;refine ZF V (zW 0 V V V U30 V)<|ZF V (yM V U30)<|Zm V V<|ZT<|yY<|xV (ι:={j:Nat // j≤fs.length}) (fun j=>[(3,.pointer (some ⟨b3,0,none⟩)),(10,.slice A fs.length cap),(11,.int .i64 fs.length),(12,.int .i64 j.1)]) (fun j=>Hp (fun _=>False) w_0 [] [] (PX w_0 b3 0 ((fs.take j.1).map prF).flatten)) (fun j=>fs.length-j.1) ⟨0,Kl _⟩ ?_ ?_ (fun j=>?_)
  ·exact .cons V<|.cons V<|.cons V<|.cons V<|.nil
  ·exact fun w h=>Hp.drop h (Kf _) (Jr _)
  obtain⟨i,hi⟩:=j;dsimp only;refine zY<|zX<|ZF V (xS V V)<|ZX<|zT V (fun hc=>?_) (fun hc=>?_)
  ·replace hc:=Jo hc;obtain⟨g0,o0,rfl⟩:=hA (by omega);have hil:i<fs.length:=by omega
   obtain⟨x,hx⟩:∃x,fs[i]? = some x:=⟨fs[i],Jt hil⟩;have hxm:=Ju hx;obtain⟨a,hfix⟩:=hk2.fix hx;have hxk:=(hfix F w_0 hk2).1;have hcell:=(hfix F w_0 hk2).2;obtain⟨hft,hfl⟩:=flat_take prF hx;have hNx:=hN x hxm;have hUx:=hU x hxm;have hrx:=hr x hxm;unfold vO at hrx;simp only[Kj] at hrx;obtain⟨nm,ps,body⟩:=x;obtain⟨A1,A2,c1,c2⟩:=a;obtain⟨p1,p2,h1,h2⟩:=hxk;dsimp only at p1 p2 h1 h2 hNx hrx;have kb:wQ F w_0 body A2 c2:=⟨p2,h2⟩;generalize ((fs.take i).map prF).flatten=l0 at hft hfl ⊢;have hfl2:l0.length+(uJ 0 ([102,110,32]++nm++[40]++Lib.join ps [44,32]++[41,32,123])++prB (0+1) body++uJ 0 [125]).length≤((fs.map prF).flatten).length:=hfl;simp only[Ji,xO,Jj,Jk] at hfl2;refine zG<|zQ<|zY<|yY<|zY<|zX<|ZF rfl (zJ (es:=3) rfl rfl U30 (by kernel_rfl) rfl (by first|decide|omega|(simp;done)|(simp;omega)) rfl) ?_;refine ZF V (yD (cs:=fnC nm A1 ps.length c1 A2 body.length c2) V U62 V (by kernel_rfl) (fun w h j v hv=>RdF.part (Lies.ext RdF.lies hk1 (Jq h).ext) (Jm.1 (hcell j v hv)).1 (by omega) (hcell j v hv))) ?_;refine zC .none V (yK (z:=.agg #[.string ⟨#[]⟩,.slice none 0 0,.slice none 0 0]) (cs:=Jg) (by kernel_rfl) V) (fun b5=>?_);refine ZR 0 V V V V V (by kernel_rfl) ?_;refine ZX<|Z6 3 5 10 11 12 13 V V V V V V<|wR 9 [0,1,2,3,4,5,6,7,8] (Blk b5 _) (by kernel_rfl) (by kernel_rfl) Blk.stab (fun w h=>HpG.blk h (k:=0) V) (fun n0 hn0=>?_);refine Zd V V V (Y62x0 V) ?_;refine Zd rfl rfl rfl (uH rfl rfl U9 rfl)<|Zd rfl rfl rfl (zF rfl rfl (by first|omega|simp<;>omega)) ?_;refine Zd rfl rfl rfl (zF rfl rfl (by first|omega|simp<;>omega)) ?_;refine Zd V V V (Y62x1 V) ?_;refine Zd V V V (uH V V U22 V)<|xF V<|sM .none V  (v:=.string ⟨(Lib.join ps [44,32]).toArray⟩) (by kernel_rfl) V (fun w w' h hx=>Blk.onE h hx) (fun w hw=>join_any ps [44,32] A1 c1 p1.1 (by omega) (by omega) w (Lies.ext RdF.lies h1 (Jq hw).ext)) ?_;refine Zd rfl rfl rfl (zF rfl rfl (by first|omega|simp<;>omega)) ?_;refine Zd rfl rfl rfl (zF rfl rfl (by first|omega|simp<;>omega)) ?_;refine wL ?_;simp only[Jz,Ke];refine tR (pb:=b3) (d:=0) _ (by rfl) (by omega) (by simp only[Ji,xO,Jj,Jk];omega) .none V  V ?_;refine ZX<|Z6r 3 5 10 11 12 13 V V V V V V<|ZF V (Y62x2 V) ?_;refine ZF V (zW 0 V V V U58 V)<|wl_pblock (pb:=b3) (d:=0) (pblock_any body) F A2 c2 hrx.2 hUx (by omega) (by rfl) (by simp only[Ji,xO,Jj,Jk];omega) hT kb .none V  V ?_;refine ZT<|Z6r 3 5 10 11 12 13 V V V V V V<|tR (pb:=b3) (d:=0) _ (by rfl) (by omega) (by simp only[Ji,xO,Jj,Jk];omega) .none V  V ?_
   refine zU<|zM<|zQ<|Z6r 3 5 10 11 12 13 V V V V V V<|ZF V (yI V V (i64_in _ (by omega) (by omega))) ?_;refine Zm V V<|zU<|yC (ι:={j:Nat // j≤fs.length}) ⟨i+1,hil⟩ (by show fs.length-(i+1)<fs.length-i;omega) (O4 V V V V) (fun w h=>?_);have hw2:=Hp.drop h (Kf _) (Jr _);dsimp only;rw[hft];unfold prF;simp only[Kb] at hw2 ⊢;exact hw2
  ·replace hc:=Jp hc;have hie:i=fs.length:=by omega
   subst hie;rw[Kh];refine xY<|zN<|zN<|xZ<|zQ<|zY<|zX<|ZF V (zZ (off:=0) (sz:=1) V Tryz.underlying80 (by kernel_rfl) V) ?_;refine xQ (ι:=Unit) (val:=fun _=>.string ⟨(fs.map prF).flatten.toArray⟩) (H':=fun _ w=>Ext w_0 w) .none V  (vT (by kernel_rfl) V (fun w hw=>(string_any (w0:=w_0) (fun e=>?_) V w hw).mono fun e w' ⟨e1,e2⟩=>⟨_,e1,(),rfl,e2⟩)) (fun _=>?_)
   ·cases fs with
    | nil=>exact hne rfl
    | cons f fs =>
     have:=congrArg List.length e;simp[prF,uJ] at this
   refine Za V V<|ZT<|zK<|zI V V (fun w hw=>?_);exact⟨rfl,hw⟩
theorem print_any (fs:List Fn) (F:Nat→Prop) (A:Option Addr) (cap:Nat) (w_0:World) (hU:∀f∈fs,fnU f=true) (hN:∀f∈fs,f.params.length+stNs f.body≤100000000000) (hl:(xE fs).length≤1000000000000) (hT:TbN w_0) (hP:PgK F w_0 fs A cap):Calls Tryz.prog 23 #[.agg [Value.slice A fs.length cap].toArray] w_0 fun e w'=>e=.returned (.string ⟨(xE fs).toArray⟩)∧Ext w_0 w':=by
 cases fs with
 | nil=>exact print_nil F A cap w_0 hP
 | cons f fs=>exact print_cons (f::fs) (by simp) F A cap w_0 hU hN hl hT hP
end Go.Proofs.YtfpkpnkdnammnaaGreatDoor
