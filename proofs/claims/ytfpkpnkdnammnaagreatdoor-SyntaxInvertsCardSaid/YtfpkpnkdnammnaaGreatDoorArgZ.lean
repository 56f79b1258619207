/- Arguments opened: numbers, three numbers, slices of numbers. -/
import Derived.Test.YtfpkpnkdnammnaaGreatDoorSeat
import Derived.Test.YtfpkpnkdnammnaaGreatDoorTree
import Derived.Laws.IdiomArrays
namespace Go.Proofs.YtfpkpnkdnammnaaGreatDoor
open Go.Joins Go.ChangeShapes Go.WideShapes Go.ChangeAt Go.RowKit Go.Deep
theorem cell_ltA {w:World}{b o:Nat}{v:Value}(h:w.cell? ⟨b,o,none⟩=some v):b<w.heap.size:=by
 rcases Nat.lt_or_ge b w.heap.size with h1|h1
 ·exact h1
 ·unfold World.cell? at h;simp[Array.getElem?_eq_none h1] at h
theorem okWide_arr {P:Program}{w:World}{r:Reach}{b0:Nat}{t e:TypeId}{n:Nat}{v:Value}(ht:P.underlying t=some (.array n e)) (h:Value.okWide P w r b0 t v):∃cs,v=.agg cs∧cs.size=P.cellsOf t:=by
 simp only[Value.okWide,ht] at h;obtain⟨cs,h1,h2,_⟩:=h;exact⟨cs,h1,h2⟩
section
variable {H:Type}{enc:TypeId×Value→H}{w:World}{base:Nat}{held:Bool}{fuel:Nat}{v:Value}{y:DataW H×List MemPlace}
/-- A slice of numbers, opened. -/
theorem open_arrI {t e:TypeId}{k:IntKind}(ht:Tryz.prog.underlying t=some (.slice e)) (he:Tryz.prog.underlying e=some (.int k)) (hc:Tryz.prog.cellsOf e=1)
  (h:DataW.trod enc Tryz.prog w base (fun _=>true) held fuel t [v]=some y) :
  ∃A cap,∃l:List Int,v=.slice A l.length cap∧l.length≤cap∧cap≤maxLen∧RdF (fun _=>True) A (l.map (Value.int k)) w∧∀n∈l,(Lit.int k n).wf=true:=by
 rcases open_ints ht he hc h with ⟨hcs,_⟩|⟨a,len,cap,zs,hcs,_,hl,hm,hz,_,hcell,hw⟩
 ·refine⟨none,0,[],by simpa using hcs,by simp,by unfold maxLen;omega,fun h0=>by simp at h0,fun n hn=>by simp at hn⟩
 ·simp only[if_true] at hz;refine⟨some a,cap,zs.take len,?_,?_,hm,fun h0=>?_,fun n hn=>hw n (List.mem_of_mem_take hn)⟩
  ·have:(zs.take len).length=len:=by rw[List.length_take];omega
   rw[this];simpa using hcs
  ·rw[List.length_take];omega
  ·simp only[List.length_map,List.length_take] at h0;obtain⟨b,off,rfl,hc'⟩:=ints_at hcell (by omega);refine⟨b,off,rfl,trivial,cell_ltA (hc' 0 (by omega)),fun i hi=>?_⟩;simp only[List.length_map,List.length_take] at hi;rw[hc' i (by omega)];simp[List.getD_eq_getElem?_getD,List.getElem?_take_of_lt (show i<len by omega),show i<zs.length by omega]
end
set_option maxRecDepth 100000 in
theorem open_nums {H:Type}{enc:TypeId×Value→H}{w:World}{base:Nat}{held:Bool}{r:Reach}{b0:Nat}{v:Value}{d:DataW H}{p:List MemPlace}
  (hv:Value.okWide Tryz.prog w r b0 26 v) (h:DataW.Trod enc Tryz.prog w base (fun _=>true) held 26 v d p):∃A cap,∃l:List Int,v=.slice A l.length cap∧l.length≤cap∧cap≤maxLen∧RdF (fun _=>True) A (l.map (Value.int .i64)) w:=by
 obtain⟨A0,len0,cap0,rfl⟩:=okWide_slice Tryz.underlying26 hv;obtain⟨fuel,hf⟩:=h;obtain⟨A,cap,l,e,h1,h2,h3,_⟩:=open_arrI Tryz.underlying26 Tryz.underlying3 (by kernel_rfl) hf;exact⟨A,cap,l,e,h1,h2,h3⟩
theorem wf_i64 {n:Int}(h:(Lit.int .i64 n).wf=true):-9223372036854775808≤n∧n≤9223372036854775807:=by
 simpa [Lit.wf,IntKind.min,IntKind.max,IntKind.bits,IntKind.signed] using h
set_option maxRecDepth 100000 in
theorem open_int3w {H:Type}{enc:TypeId×Value→H}{w:World}{base:Nat}{spare:Nat→Bool}{held:Bool}{r:Reach}{b0:Nat}{v:Value}{d:DataW H}{p:List MemPlace}
  (hv:Value.okWide Tryz.prog w r b0 37 v) (h:DataW.Trod enc Tryz.prog w base spare held 37 v d p):∃a b c:Int,v=.agg [Value.int .i64 a,.int .i64 b,.int .i64 c].toArray∧(-9223372036854775808≤a∧a≤9223372036854775807)∧(-9223372036854775808≤b∧b≤9223372036854775807)∧(-9223372036854775808≤c∧c≤9223372036854775807):=by
 obtain⟨cs,rfl,hsz⟩:=okWide_arr Tryz.underlying37 hv;have hC:Tryz.prog.cellsOf 37=3:=by kernel_rfl
 obtain⟨l⟩:=cs
 match l,hsz.trans hC with
 | [c0,c1,c2],_ =>
  obtain⟨fuel,hf⟩:=h;obtain⟨y0,y1,y2,n,_,h0,h1,h2⟩:=trod_array3 Tryz.underlying37 (by kernel_rfl) hf;obtain⟨a0,e0,_,w0⟩:=DataW.trod_int Tryz.underlying3 h0;obtain⟨a1,e1,_,w1⟩:=DataW.trod_int Tryz.underlying3 h1;obtain⟨a2,e2,_,w2⟩:=DataW.trod_int Tryz.underlying3 h2;simp only[List.cons.injEq,and_true] at e0 e1 e2;subst e0 e1 e2;exact⟨a0,a1,a2,rfl,wf_i64 w0,wf_i64 w1,wf_i64 w2⟩
end Go.Proofs.YtfpkpnkdnammnaaGreatDoor
