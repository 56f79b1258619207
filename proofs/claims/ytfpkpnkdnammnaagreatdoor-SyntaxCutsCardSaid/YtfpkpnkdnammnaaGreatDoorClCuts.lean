import Derived.Test.YtfpkpnkdnammnaaGreatDoorMga
import Derived.Test.YtfpkpnkdnammnaaGreatDoorLc1
import Derived.Test.YtfpkpnkdnammnaaGreatDoorCards
import Derived.Test.YtfpkpnkdnammnaaGreatDoorTie
import Derived.SevenTiedAt
namespace Go.Proofs.YtfpkpnkdnammnaaGreatDoor
open Go.Joins Go.ChangeShapes Go.WideShapes Go.ChangeAt Go.RowKit Go.Deep
set_option maxRecDepth 100000 in
theorem syntaxCuts_lifted (os:Os) (started:os.Started) (H:Type) (enc:TypeId×Value→H) :
  ReturnsInHanded {} Tryz.checked os 11 .any (fun w args=>(Rows.syntaxCutsSpec.pre enc Tryz.prog Tryz.f11 [] false w args∧laidMetH Tryz.prog tabs w)∧sizedMet enc Tryz.prog Tryz.f11 (OpenSpec.ofChange Rows.syntaxCutsSpec) false w args) (Rows.syntaxCutsSpec.post enc Tryz.prog Tryz.f11 false true false false):=by
 refine returnsInHanded_of_change_and (C:=Tryz.checked) (X:=fun w _=>laidMetH Tryz.prog tabs w) (fun _ _ _ hh h=>h.of_heap hh) own started (by kernel_rfl) Tryz.func11
  (ChangeSpec.witness_shaped (enc:=enc) (C:=Tryz.checked) (os:=os) (X:=fun w _=>laidMetH Tryz.prog tabs w) false (World.laidAll Tryz.prog os tabs) #[.slice none 0 0,.int .i64 0] 8 (World.laidAll_os _ _ _) (World.shaped_of_ZipB (by kernel_rfl) (by kernel_rfl)) (by kernel_rfl) (by kernel_rfl) (by kernel_rfl) (tabs_met os _)) ?_
 intro W base args ds gs before hval0 hW _ _ hL _;have hval:∀(j:Nat) t v,Tryz.f11.params[j]? = some t→args[j]? = some v→Value.okWide Tryz.prog W .any base t v:=hval0;have hW':=hW;obtain⟨p,q,hA0,hV,rfl,hfz,hnd⟩:=hW;have hA:DataW.TrodAll enc Tryz.prog W 0 (fun _=>true) true Tryz.f11.params.toList args.toList ds p:=hA0;rw[Tryz.params11] at hA hval;obtain⟨v0,v1,d0,d1,p0,p1,rfl,rfl,rfl,h0,h1⟩:=trodAll_two hA;obtain⟨rfl,rfl⟩:=trodVars_none hV;obtain⟨A0,c0,l0,rfl,hc0,hm0,hS0⟩:=open_nums (hval 0 26 v0 rfl rfl) h0;obtain⟨a1,rfl,rfl,rfl,w1⟩:=open_int Tryz.underlying3 (hval 1 3 v1 rfl rfl) h1;obtain⟨hE,hT⟩:=laid_of hL;exact (cuts_law l0 A0 c0 (Kx hc0 (Kx hm0 (by unfold maxLen;decide))) a1 W hE hT hS0).mono fun e W' h=>law_end (s:=Rows.syntaxCutsSpec) V V V V (by kernel_rfl) V hW' h
theorem syntaxCuts_row:Rows.SyntaxCutsSaid :=
 OpenClaim.holds_of_wide 11 Tryz.f11 rfl rfl rfl rfl rfl rfl rfl ⟨rfl,rfl,rfl,rfl,rfl⟩ rfl rfl rfl rfl rfl (by kernel_rfl) Tryz.func11 (by kernel_rfl)
  (Jo (by kernel_rfl)) (by unfold Func.isWrapper;first|(rw[Kp (by decide +kernel)];kernel_rfl)|(rw[Ko (by decide +kernel)];exact⟨rfl,rfl⟩))
  (fun os started H enc _=>syntaxCuts_lifted os started H enc)
theorem syntaxCuts_holds:Rows.SyntaxCutsCardSaid :=
 Claim7.holds_tied_plain_at .later [] [.data,.data,.data,.sentinel,.sentinel] true (true, "9e7466ea0daf2e9e237cb3ac5d191ebc6f9c578cedc76a9bf7fc085b7ed4f59e") true
  syntaxCuts_row (fun _ h=>by cases h) (by kernel_rfl) (fun _ h=>by cases h) syntaxCuts_row_tie rfl ⟨rfl,rfl⟩ (by kernel_rfl) rfl
  (fun f fn hf hfn=>by
   obtain rfl:f=11:=Option.some.inj ((show Tryz.prog.funcNamed "babel/babellaw08.SyntaxCuts"=some 11 by kernel_rfl).symm.trans hf) |>.symm;obtain rfl:fn=Tryz.f11:=(Option.some.inj (Tryz.func11.symm.trans hfn)).symm
   exact⟨by kernel_rfl,fun j t ht=>by
    rw[Tryz.params11] at ht;have hm:t∈[26,3]:=by simpa using Array.mem_of_getElem? ht
    have hall:([26,3].all fun u=>!Tryz.prog.wantsStandIn u)=true:=by kernel_rfl
    exact (show Tryz.prog.wantsStandIn t=false by simpa using List.all_eq_true.1 hall t hm)⟩)
  (by kernel_rfl)
#print axioms syntaxCuts_holds
end Go.Proofs.YtfpkpnkdnammnaaGreatDoor
