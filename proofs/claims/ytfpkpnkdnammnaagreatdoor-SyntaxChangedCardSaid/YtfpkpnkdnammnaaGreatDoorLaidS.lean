import Derived.Test.YtfpkpnkdnammnaaGreatDoorSs1
import Derived.Test.YtfpkpnkdnammnaaGreatDoorSeat
import Derived.Lay
import Derived.LaidMore
import Derived.MakeChecks
import Derived.Stop.Joined
import Derived.Stop.LaidErr
import Derived.Lib.LaidTab
namespace Go.Proofs.YtfpkpnkdnammnaaGreatDoor
open Go.Joins Go.ChangeShapes Go.WideShapes Go.ChangeAt Go.RowKit Go.Deep
abbrev tabs:List (String×DataW Unit):=Rows.syntaxNumbersRow.laid
theorem errV_of_head {n nm:String}{d:DataW Unit}{r:List (String×DataW Unit)}{W:World}{ti:TypeId}{ms:Array (String×TypeId)}(h:laidMet Tryz.prog ((n,.iface nm d)::r) W) (hg:Tryz.prog.globalNamed n=some 2) (ht:(Tryz.prog.globals[2]?).map (·.type)=some ti) (hi:Tryz.prog.underlying ti=some (.interface ms)):qW W:=by
 obtain⟨ps,⟨g0,t0,cs0,f0,p0,q0,hg0,ht0,hv0,hd0,_,e0⟩,_,_⟩:=h;obtain rfl:=Option.some.inj (hg.symm.trans hg0);obtain rfl:=Option.some.inj (ht.symm.trans ht0);obtain⟨l0⟩:=cs0;obtain⟨f1,u,v,rfl,_,_⟩:=iface_of_trod hi hd0;exact⟨u,v,World.var?_cell hg0 hv0 0⟩
theorem laid_of {W:World}(h:laidMetH Tryz.prog tabs W):qW W∧TbN W:=by
 rw[MakeChecks.laidMetH_plain _ _ _ (by kernel_rfl)] at h
 have h2:laidMet Tryz.prog (("internal/strconv.uint64pow10",Lib.tabData .u64 Lib.pow10Tab)::[("strconv.ErrRange",Rows.laid_strconv_ErrRange),("strconv.ErrSyntax",Rows.laid_strconv_ErrSyntax)]) W:=h.tail.tail
 have h3:laidMet Tryz.prog (("strconv.ErrRange",Rows.laid_strconv_ErrRange)::[("strconv.ErrSyntax",Rows.laid_strconv_ErrSyntax)]) W:=h2.tail
 exact⟨errV_of_head h3 (by kernel_rfl) (by kernel_rfl) Tryz.underlying125,Lib.tabIs_of_head (g:=3) (t:=203) (by kernel_rfl) (by kernel_rfl) Tryz.underlying203 Tryz.underlying53 (by kernel_rfl) (by kernel_rfl) h2⟩
theorem tabs_met (os:Os) (args:Array Value):laidMetH Tryz.prog tabs ((World.laidAll Tryz.prog os tabs).forCall (fun _ _=>0) ⟨#[],args,[]⟩).memory:=by
 rw[MakeChecks.laidMetH_plain _ _ _ (by kernel_rfl)];exact laidMet_laidAll _ (by kernel_rfl) (by kernel_rfl)
end Go.Proofs.YtfpkpnkdnammnaaGreatDoor
