/- The law SyntaxParses holds for all sources and all slices of words, the five listed variables of the library being as the program's text lays them. -/
import Derived.Test.YtfpkpnkdnammnaaGreatDoorArgY
import Derived.Test.YtfpkpnkdnammnaaGreatDoorLs1
import Derived.Test.YtfpkpnkdnammnaaGreatDoorLaidS
import Derived.Test.YtfpkpnkdnammnaaGreatDoorCards
import Derived.Test.YtfpkpnkdnammnaaGreatDoorTie
import Derived.SevenTiedAt
namespace Go.Proofs.YtfpkpnkdnammnaaGreatDoor
open Go.Joins Go.ChangeShapes Go.WideShapes Go.ChangeAt Go.RowKit Go.Deep
set_option maxRecDepth 100000 in
theorem syntaxParses_lifted (os:Os) (started:os.Started) (H:Type) (enc:TypeId×Value→H) :
  ReturnsInHanded {} Tryz.checked os 3 .any (fun w args=>(Rows.syntaxParsesSpec.pre enc Tryz.prog Tryz.f3 [] false w args∧laidMetH Tryz.prog tabs w)∧sizedMet enc Tryz.prog Tryz.f3 (OpenSpec.ofChange Rows.syntaxParsesSpec) false w args) (Rows.syntaxParsesSpec.post enc Tryz.prog Tryz.f3 false true false false):=by
 refine returnsInHanded_of_change_and (C:=Tryz.checked) (X:=fun w _=>laidMetH Tryz.prog tabs w) (fun _ _ _ hh h=>h.of_heap hh) own started (by kernel_rfl) Tryz.func3
  (ChangeSpec.witness_shaped (enc:=enc) (C:=Tryz.checked) (os:=os) (X:=fun w _=>laidMetH Tryz.prog tabs w) false (World.laidAll Tryz.prog os tabs) #[.string ⟨#[]⟩,.slice none 0 0] 8 (World.laidAll_os _ _ _) (World.shaped_of_ZipB (by kernel_rfl) (by kernel_rfl)) (by kernel_rfl) (by kernel_rfl) (by kernel_rfl) (tabs_met os _)) ?_
 intro W base args ds gs before hval0 hW _ _ hL _;have hval:∀(j:Nat) t v,Tryz.f3.params[j]? = some t→args[j]? = some v→Value.okWide Tryz.prog W .any base t v:=hval0;have hW':=hW;obtain⟨p,q,hA0,hV,rfl,hfz,hnd⟩:=hW;have hA:DataW.TrodAll enc Tryz.prog W 0 (fun _=>true) true Tryz.f3.params.toList args.toList ds p:=hA0;rw[Tryz.params3] at hA hval;obtain⟨v0,v1,d0,d1,p0,p1,rfl,rfl,rfl,h0,h1⟩:=trodAll_two hA;obtain⟨rfl,rfl⟩:=trodVars_none hV;obtain⟨s0,rfl,hs0⟩:=open_strY (hval 0 9 v0 rfl rfl) h0;obtain⟨A1,c1,l1,rfl,hc1,hm1,hS1,hl1⟩:=open_strsY (hval 1 22 v1 rfl rfl) h1;obtain⟨hE,hT⟩:=laid_of hL;exact (parses_law s0 hs0 l1 A1 c1 (by unfold maxLen at hm1;omega) hl1 W hE hT hS1).mono fun e W' h=>law_end (s:=Rows.syntaxParsesSpec) V V V V (by kernel_rfl) V hW' h
theorem syntaxParses_row:Rows.SyntaxParsesSaid :=
 OpenClaim.holds_of_wide 3 Tryz.f3 rfl rfl rfl rfl rfl rfl rfl ⟨rfl,rfl,rfl,rfl,rfl⟩ rfl rfl rfl rfl rfl (by kernel_rfl) Tryz.func3 (by kernel_rfl)
  (of_decide_eq_true (by kernel_rfl)) (by unfold Func.isWrapper;first|(rw[if_pos (by decide +kernel)];kernel_rfl)|(rw[if_neg (by decide +kernel)];exact⟨rfl,rfl⟩))
  (fun os started H enc _=>syntaxParses_lifted os started H enc)
theorem syntaxParses_holds:Rows.SyntaxParsesCardSaid :=
 Claim7.holds_tied_plain_at .later [] [.data,.data,.data,.sentinel,.sentinel] true (true, "9e7466ea0daf2e9e237cb3ac5d191ebc6f9c578cedc76a9bf7fc085b7ed4f59e") true
  syntaxParses_row (fun _ h=>by cases h) (by kernel_rfl) (fun _ h=>by cases h) syntaxParses_row_tie rfl ⟨rfl,rfl⟩ (by kernel_rfl) rfl
  (fun f fn hf hfn=>by
   obtain rfl:f=3:=Option.some.inj ((show Tryz.prog.funcNamed "babel/babellaw08.SyntaxParses"=some 3 by kernel_rfl).symm.trans hf) |>.symm;obtain rfl:fn=Tryz.f3:=(Option.some.inj (Tryz.func3.symm.trans hfn)).symm
   exact⟨by kernel_rfl,fun j t ht=>by
    rw[Tryz.params3] at ht;have hm:t∈[9,22]:=by simpa using Array.mem_of_getElem? ht
    have hall:([9,22].all fun u=>!Tryz.prog.wantsStandIn u)=true:=by kernel_rfl
    exact (show Tryz.prog.wantsStandIn t=false by simpa using List.all_eq_true.1 hall t hm)⟩)
  (by kernel_rfl)
#print axioms syntaxParses_holds
end Go.Proofs.YtfpkpnkdnammnaaGreatDoor
