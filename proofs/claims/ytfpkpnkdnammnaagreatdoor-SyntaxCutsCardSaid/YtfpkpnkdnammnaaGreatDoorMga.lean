import Derived.Test.YtfpkpnkdnammnaaGreatDoorSeat
import Derived.Test.YtfpkpnkdnammnaaGreatDoorTree
import Derived.Test.YtfpkpnkdnammnaaGreatDoorSs1
import Derived.Laws.IdiomArrays
import Derived.Lay
import Derived.LaidMore
import Derived.MakeChecks
import Derived.Stop.Joined
import Derived.Stop.LaidErr
import Derived.Lib.LaidTab
namespace Go.Proofs.YtfpkpnkdnammnaaGreatDoor
open Go.Joins Go.ChangeShapes Go.WideShapes Go.ChangeAt Go.RowKit Go.Deep
theorem cell_ltA {w:World}{b o:Nat}{v:Value}(h:w.cell? ⟨b,o,none⟩=some v):b<w.heap.size:=by
 rcases Nat.lt_or_ge b w.heap.size with h1|h1
 ·exact h1
 ·unfold World.cell? at h;simp[Array.getElem?_eq_none h1] at h
section
variable {H:Type}{enc:TypeId×Value→H}{w:World}{base:Nat}{held:Bool}{fuel:Nat}{v:Value}{y:DataW H×List MemPlace}
theorem open_arrI {t e:TypeId}{k:IntKind}(ht:Tryz.prog.underlying t=some (.slice e)) (he:Tryz.prog.underlying e=some (.int k)) (hc:Tryz.prog.cellsOf e=1)
  (h:DataW.trod enc Tryz.prog w base (fun _=>true) held fuel t [v]=some y) :
  ∃A cap,∃l:List Int,v=.slice A l.length cap∧l.length≤cap∧cap≤maxLen∧RdF (fun _=>True) A (l.map (Value.int k)) w∧∀n∈l,(Lit.int k n).wf=true:=by
 rcases open_ints ht he hc h with ⟨hcs,_⟩|⟨a,len,cap,zs,hcs,_,hl,hm,hz,_,hcell,hw⟩
 ·refine⟨none,0,[],by simpa using hcs,by simp,by unfold maxLen;omega,fun h0=>by simp at h0,fun n hn=>by simp at hn⟩
 ·simp only[if_true] at hz;refine⟨some a,cap,zs.take len,?_,?_,hm,fun h0=>?_,fun n hn=>hw n (List.mem_of_mem_take hn)⟩
  ·have:(zs.take len).length=len:=by rw[Ki];omega
   rw[this];simpa using hcs
  ·rw[Ki];omega
  ·simp only[Kt,Ki] at h0;obtain⟨b,off,rfl,hc'⟩:=ints_at hcell (by omega);refine⟨b,off,rfl,trivial,cell_ltA (hc' 0 (by omega)),fun i hi=>?_⟩;simp only[Kt,Ki] at hi;rw[hc' i (by omega)];simp[Ka,List.getElem?_take_of_lt (show i<len by omega),show i<zs.length by omega]
end
set_option maxRecDepth 100000 in
theorem open_nums {H:Type}{enc:TypeId×Value→H}{w:World}{base:Nat}{held:Bool}{r:Reach}{b0:Nat}{v:Value}{d:DataW H}{p:List MemPlace}
  (hv:Value.okWide Tryz.prog w r b0 26 v) (h:DataW.Trod enc Tryz.prog w base (fun _=>true) held 26 v d p):∃A cap,∃l:List Int,v=.slice A l.length cap∧l.length≤cap∧cap≤maxLen∧RdF (fun _=>True) A (l.map (Value.int .i64)) w:=by
 obtain⟨A0,len0,cap0,rfl⟩:=okWide_slice Tryz.underlying26 hv;obtain⟨fuel,hf⟩:=h;obtain⟨A,cap,l,e,h1,h2,h3,_⟩:=open_arrI Tryz.underlying26 Tryz.underlying3 (by kernel_rfl) hf;exact⟨A,cap,l,e,h1,h2,h3⟩
end Go.Proofs.YtfpkpnkdnammnaaGreatDoor
namespace Go.Proofs.YtfpkpnkdnammnaaGreatDoor
open Go.Joins Go.ChangeShapes Go.WideShapes Go.ChangeAt Go.RowKit Go.Deep
abbrev tabs:List (String×DataW Unit):=Rows.syntaxNumbersRow.laid
theorem errV_of_head {n nm:String}{d:DataW Unit}{r:List (String×DataW Unit)}{W:World}{ti:TypeId}{ms:Array (String×TypeId)}(h:laidMet Tryz.prog ((n,.iface nm d)::r) W) (hg:Tryz.prog.globalNamed n=some 2) (ht:(Tryz.prog.globals[2]?).map (·.type)=some ti) (hi:Tryz.prog.underlying ti=some (.interface ms)):pX W:=by
 obtain⟨ps,⟨g0,t0,cs0,f0,p0,q0,hg0,ht0,hv0,hd0,_,e0⟩,_,_⟩:=h;obtain rfl:=Option.some.inj (hg.symm.trans hg0);obtain rfl:=Option.some.inj (ht.symm.trans ht0);obtain⟨l0⟩:=cs0;obtain⟨f1,u,v,rfl,_,_⟩:=iface_of_trod hi hd0;exact⟨u,v,World.var?_cell hg0 hv0 0⟩
theorem laid_of {W:World}(h:laidMetH Tryz.prog tabs W):pX W∧TbN W:=by
 rw[MakeChecks.laidMetH_plain _ _ _ (by kernel_rfl)] at h
 have h2:laidMet Tryz.prog (("internal/strconv.uint64pow10",Lib.tabData .u64 Lib.pow10Tab)::[("strconv.ErrRange",Rows.laid_strconv_ErrRange),("strconv.ErrSyntax",Rows.laid_strconv_ErrSyntax)]) W:=h.tail.tail
 have h3:laidMet Tryz.prog (("strconv.ErrRange",Rows.laid_strconv_ErrRange)::[("strconv.ErrSyntax",Rows.laid_strconv_ErrSyntax)]) W:=h2.tail
 exact⟨errV_of_head h3 (by kernel_rfl) (by kernel_rfl) Tryz.underlying125,Lib.tabIs_of_head (g:=3) (t:=203) (by kernel_rfl) (by kernel_rfl) Tryz.underlying203 Tryz.underlying53 (by kernel_rfl) (by kernel_rfl) h2⟩
theorem tabs_met (os:Os) (args:Array Value):laidMetH Tryz.prog tabs ((World.laidAll Tryz.prog os tabs).forCall (fun _ _=>0) ⟨#[],args,[]⟩).memory:=by
 rw[MakeChecks.laidMetH_plain _ _ _ (by kernel_rfl)];exact laidMet_laidAll _ (by kernel_rfl) (by kernel_rfl)
end Go.Proofs.YtfpkpnkdnammnaaGreatDoor
