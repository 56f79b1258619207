/- Arguments opened: strings, slices of strings. -/
import Derived.Test.YtfpkpnkdnammnaaGreatDoorArgZ
import Derived.ChangeMaps5
import Derived.SliceStrings
namespace Go.Proofs.YtfpkpnkdnammnaaGreatDoor
open Go.Joins Go.ChangeShapes Go.WideShapes Go.ChangeAt Go.RowKit Go.Deep
theorem bytes_back (s:ByteArray):(⟨s.data.toList.toArray⟩:ByteArray)=s:=by cases s;simp
set_option maxRecDepth 100000 in
theorem open_strY {H:Type}{enc:TypeId×Value→H}{w:World}{base:Nat}{spare:Nat→Bool}{held:Bool}{r:Reach}{b0:Nat}{v:Value}{d:DataW H}{p:List MemPlace}
  (hv:Value.okWide Tryz.prog w r b0 9 v) (h:DataW.Trod enc Tryz.prog w base spare held 9 v d p):∃s:List UInt8,v=.string ⟨s.toArray⟩∧s.length≤9223372036854775807:=by
 obtain⟨s,rfl,_,_,hs⟩:=Go.ChangeMaps.open_string Tryz.underlying9 hv h;refine⟨s.data.toList,by rw[bytes_back],?_⟩;have:s.data.toList.length=s.size:=by rw[Array.length_toList];rfl
 unfold maxLen at hs;omega
theorem cells_atY {a:Addr}{w:World}{n:Nat}{f:Nat→Value}(h:∀i,i<n→w.cell? (a.add i)=some (f i)) (h0:0<n):∃b off,a=⟨b,off,none⟩∧∀i,i<n→w.cell? ⟨b,off+i,none⟩=some (f i):=by
 obtain⟨b,off,spot⟩:=a;have hspot:spot=none:=by simpa [Addr.add] using World.cell?_spot (h 0 h0)
 subst hspot;exact⟨b,off,rfl,fun j hj=>by rw[← Go.WideShapes.add_plain];exact h j hj⟩
set_option maxRecDepth 100000 in
theorem open_strsY {H:Type}{enc:TypeId×Value→H}{w:World}{base:Nat}{held:Bool}{r:Reach}{b0:Nat}{v:Value}{d:DataW H}{p:List MemPlace}
  (hv:Value.okWide Tryz.prog w r b0 22 v) (h:DataW.Trod enc Tryz.prog w base (fun _=>true) held 22 v d p):∃A cap,∃l:List (List UInt8),v=.slice A l.length cap∧l.length≤cap∧cap≤maxLen∧RdF (fun _=>True) A (xG l) w∧∀s∈l,s.length≤9223372036854775807:=by
 obtain⟨A0,len0,cap0,rfl⟩:=okWide_slice Tryz.underlying22 hv;obtain⟨fuel,hf⟩:=h;rcases open_strings Tryz.underlying22 Tryz.underlying9 (by kernel_rfl) hf with ⟨hcs,_⟩|⟨a,len,cap,ss,hcs,_,hl,hm,hz,_,hcell,hsz⟩
 ·have hcs':[Value.slice A0 len0 cap0]=[.slice none 0 0]:=hcs;refine⟨none,0,[],by simpa using hcs',by simp,by unfold maxLen;omega,fun h0=>by simp[xG] at h0,fun s hs=>by simp at hs⟩
 ·have hcs':[Value.slice A0 len0 cap0]=[.slice (some a) len cap]:=hcs;simp only[if_true] at hz;have hlen:((ss.take len).map fun s=>s.data.toList).length=len:=by rw[List.length_map,List.length_take];omega
  refine⟨some a,cap,(ss.take len).map fun s=>s.data.toList,?_,?_,hm,fun h0=>?_,fun s hs=>?_⟩
  ·rw[hlen];simpa using hcs'
  ·rw[hlen];exact hl
  ·have hl0:(xG ((ss.take len).map fun s=>s.data.toList)).length=len:=by unfold xG;rw[List.length_map,hlen]
   rw[hl0] at h0;obtain⟨b,off,rfl,hc'⟩:=cells_atY hcell (by omega);refine⟨b,off,rfl,trivial,cell_ltA (hc' 0 (by omega)),fun i hi=>?_⟩;rw[hl0] at hi;rw[hc' i (by omega)];have hss:i<ss.length:=by omega
   simp[xG,List.getD_eq_getElem?_getD,List.getElem?_take_of_lt hi,hss]
  ·obtain⟨x,hx,rfl⟩:=List.mem_map.1 hs;have:=hsz x (List.mem_of_mem_take hx);have e:x.data.toList.length=x.size:=by rw[Array.length_toList];rfl
   unfold maxLen at this;omega
end Go.Proofs.YtfpkpnkdnammnaaGreatDoor
