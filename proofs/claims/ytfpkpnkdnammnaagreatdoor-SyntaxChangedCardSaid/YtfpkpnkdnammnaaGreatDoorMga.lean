import Derived.Test.YtfpkpnkdnammnaaGreatDoorSeat
import Derived.Test.YtfpkpnkdnammnaaGreatDoorTree
import Derived.Laws.IdiomArrays
import Derived.ChangeMaps5
import Derived.SliceStrings
set_option maxRecDepth 100000
namespace Go.Proofs.YtfpkpnkdnammnaaGreatDoor
open Go.Joins Go.ChangeShapes Go.WideShapes Go.ChangeAt Go.RowKit Go.Deep
theorem cell_ltA {w:World}{b o:Nat}{v:Value}(h:w.cell? ⟨b,o,none⟩=some v):b<w.heap.size:=by
 rcases Nat.lt_or_ge b w.heap.size with h1|h1
 ·exact h1
 ·unfold World.cell? at h;simp[Array.getElem?_eq_none h1] at h
section
variable {H:Type}{enc:TypeId×Value→H}{w:World}{base:Nat}{held:Bool}{fuel:Nat}{v:Value}{y:DataW H×List MemPlace}
theorem open_arrI {t e:TypeId}{k:IntKind}(ht:Tryz.prog.underlying t=some (.slice e)) (he:Tryz.prog.underlying e=some (.int k)) (hc:Tryz.prog.cellsOf e=1)
  (h:DataW.trod enc Tryz.prog w base (fun _=>true) held fuel t [v]=some y) :
  ∃A cap,∃l:List Int,v=.slice A l.length cap∧l.length≤cap∧cap≤maxLen∧RdF (fun _=>True) A (l.map (Value.int k)) w∧∀n∈l,(Lit.int k n).wf=true:=by
 rcases open_ints ht he hc h with ⟨hcs,_⟩|⟨a,len,cap,zs,hcs,_,hl,hm,hz,_,hcell,hw⟩
 ·refine⟨none,0,[],by simpa using hcs,by simp,by unfold maxLen;omega,fun h0=>by simp at h0,fun n hn=>by simp at hn⟩
 ·simp only[if_true] at hz;refine⟨some a,cap,zs.take len,?_,?_,hm,fun h0=>?_,fun n hn=>hw n (List.mem_of_mem_take hn)⟩
  ·have:(zs.take len).length=len:=by rw[Kj];omega
   rw[this];simpa using hcs
  ·rw[Kj];omega
  ·simp only[Kt,Kj] at h0;obtain⟨b,off,rfl,hc'⟩:=ints_at hcell (by omega);refine⟨b,off,rfl,trivial,cell_ltA (hc' 0 (by omega)),fun i hi=>?_⟩;simp only[Kt,Kj] at hi;rw[hc' i (by omega)];simp[Kb,List.getElem?_take_of_lt (show i<len by omega),show i<zs.length by omega]
end
theorem open_nums {H:Type}{enc:TypeId×Value→H}{w:World}{base:Nat}{held:Bool}{r:Reach}{b0:Nat}{v:Value}{d:DataW H}{p:List MemPlace}
  (hv:Value.okWide Tryz.prog w r b0 26 v) (h:DataW.Trod enc Tryz.prog w base (fun _=>true) held 26 v d p):∃A cap,∃l:List Int,v=.slice A l.length cap∧l.length≤cap∧cap≤maxLen∧RdF (fun _=>True) A (l.map (Value.int .i64)) w:=by
 obtain⟨A0,len0,cap0,rfl⟩:=okWide_slice Tryz.underlying26 hv;obtain⟨fuel,hf⟩:=h;obtain⟨A,cap,l,e,h1,h2,h3,_⟩:=open_arrI Tryz.underlying26 Tryz.underlying3 (by kernel_rfl) hf;exact⟨A,cap,l,e,h1,h2,h3⟩
end Go.Proofs.YtfpkpnkdnammnaaGreatDoor
namespace Go.Proofs.YtfpkpnkdnammnaaGreatDoor
open Go.Joins Go.ChangeShapes Go.WideShapes Go.ChangeAt Go.RowKit Go.Deep
theorem bytes_back (s:ByteArray):(⟨s.data.toList.toArray⟩:ByteArray)=s:=by cases s;simp
theorem open_strY {H:Type}{enc:TypeId×Value→H}{w:World}{base:Nat}{spare:Nat→Bool}{held:Bool}{r:Reach}{b0:Nat}{v:Value}{d:DataW H}{p:List MemPlace}
  (hv:Value.okWide Tryz.prog w r b0 9 v) (h:DataW.Trod enc Tryz.prog w base spare held 9 v d p):∃s:List UInt8,v=.string ⟨s.toArray⟩∧s.length≤9223372036854775807:=by
 obtain⟨s,rfl,_,_,hs⟩:=Go.ChangeMaps.open_string Tryz.underlying9 hv h;refine⟨s.data.toList,by rw[bytes_back],?_⟩;have:s.data.toList.length=s.size:=by rw[Array.length_toList];rfl
 unfold maxLen at hs;omega
end Go.Proofs.YtfpkpnkdnammnaaGreatDoor
