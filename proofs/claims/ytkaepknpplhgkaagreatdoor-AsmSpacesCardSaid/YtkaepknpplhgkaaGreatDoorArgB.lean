/- Arguments of the assembler's laws, opened: slices and instructions. -/
import Derived.Test.YtkaepknpplhgkaaGreatDoorMag
namespace Go.Proofs.YtkaepknpplhgkaaGreatDoor
open Go.Joins Go.ChangeShapes Go.WideShapes Go.ChangeAt Go.RowKit Go.Deep
theorem cell_ltA {w:World}{b o:Nat}{v:Value}(h:w.cell? ⟨b,o,none⟩=some v):b<w.heap.size:=by
 rcases Nat.lt_or_ge b w.heap.size with h1|h1
 ·exact h1
 ·unfold World.cell? at h;simp[Array.getElem?_eq_none h1] at h
section
variable {H:Type}{enc:TypeId×Value→H}{w:World}{base:Nat}{spare:Nat→Bool}{held:Bool}{r:Reach}{b0:Nat}{v:Value}{d:DataW H}{p:List MemPlace}
/-- A slice of numbers, opened. -/
theorem open_arrI {fuel:Nat}{y:DataW H×List MemPlace}{t e:TypeId}{k:IntKind}(ht:Tryz.prog.underlying t=some (.slice e)) (he:Tryz.prog.underlying e=some (.int k)) (hc:Tryz.prog.cellsOf e=1)
  (h:DataW.trod enc Tryz.prog w base (fun _=>true) held fuel t [v]=some y) :
  ∃A cap,∃l:List Int,v=.slice A l.length cap∧l.length≤cap∧cap≤maxLen∧RdF (fun _=>True) A (l.map (Value.int k)) w∧∀n∈l,(Lit.int k n).wf=true:=by
 rcases open_ints ht he hc h with ⟨hcs,_⟩|⟨a,len,cap,zs,hcs,_,hl,hm,hz,_,hcell,hw⟩
 ·refine⟨none,0,[],by simpa using hcs,by simp,by unfold maxLen;omega,fun h0=>by simp at h0,fun n hn=>by simp at hn⟩
 ·simp only[if_true] at hz;refine⟨some a,cap,zs.take len,?_,?_,hm,fun h0=>?_,fun n hn=>hw n (List.mem_of_mem_take hn)⟩
  ·have:(zs.take len).length=len:=by rw[List.length_take];omega
   rw[this];simpa using hcs
  ·rw[List.length_take];omega
  ·simp only[List.length_map,List.length_take] at h0;obtain⟨b,off,rfl,hc'⟩:=ints_at hcell (by omega);refine⟨b,off,rfl,trivial,cell_ltA (hc' 0 (by omega)),fun i hi=>?_⟩;simp only[List.length_map,List.length_take] at hi;rw[hc' i (by omega)];simp[List.getD_eq_getElem?_getD,List.getElem?_take_of_lt (show i<len by omega),show i<zs.length by omega]
theorem map_nat {k:IntKind}{l:List Int}(h:∀n∈l,0≤n):l.map (Value.int k)=(l.map Int.toNat).map (fun x=>Value.int k (x:Nat)):=by
 rw[List.map_map];refine List.map_congr_left fun n hn=>?_;show Value.int k n=Value.int k ((n.toNat:Nat):Int);rw[Int.toNat_of_nonneg (h n hn)]
def u8N (l:List Nat):List Value:=l.map fun x=>.int .u8 (x:Nat)
set_option maxRecDepth 100000 in
theorem open_u8s (hv:Value.okWide Tryz.prog w r b0 53 v) (h:DataW.Trod enc Tryz.prog w base (fun _=>true) held 53 v d p):∃A cap,∃l:List Nat,v=.slice A l.length cap∧l.length≤cap∧cap≤maxLen∧RdF (fun _=>True) A (u8N l) w∧∀n∈l,n<256:=by
 obtain⟨A0,len0,cap0,rfl⟩:=okWide_slice Tryz.underlying53 hv;obtain⟨fuel,hf⟩:=h;obtain⟨A,cap,l,e,h1,h2,h3,h4⟩:=open_arrI Tryz.underlying53 Tryz.underlying5 (by kernel_rfl) hf;have h5:∀n∈l,0≤n∧n≤IntKind.u8.max:=fun n hn=>wf_u (h4 n hn) rfl;have hmx:IntKind.u8.max=255:=rfl;rw[map_nat fun n hn=>(h5 n hn).1] at h3;refine⟨A,cap,l.map Int.toNat,by rw[List.length_map];exact e,by rw[List.length_map];exact h1,h2,h3,fun n hn=>?_⟩;obtain⟨m,hm,rfl⟩:=List.mem_map.1 hn;have:=h5 m hm;omega
end
end Go.Proofs.YtkaepknpplhgkaaGreatDoor
