/- The law SyntaxInverts holds for all numbers and all changes, the five listed variables of the library being as the program text lays them. -/
import Derived.Test.YtfpkpnkdnammnaaGreatDoorArgZ
import Derived.Test.YtfpkpnkdnammnaaGreatDoorMgl
import Derived.Test.YtfpkpnkdnammnaaGreatDoorLaidS
import Derived.Test.YtfpkpnkdnammnaaGreatDoorCards
import Derived.Test.YtfpkpnkdnammnaaGreatDoorTie
import Derived.SevenTiedAt
namespace Go.Proofs.YtfpkpnkdnammnaaGreatDoor
open Go.Joins Go.ChangeShapes Go.WideShapes Go.ChangeAt Go.RowKit Go.Deep
set_option maxRecDepth 100000 in
theorem syntaxInverts_lifted (os:Os) (started:os.Started) (H:Type) (enc:TypeId×Value→H) :
  ReturnsInHanded {} Tryz.checked os 6 .any (fun w args=>(Rows.syntaxInvertsSpec.pre enc Tryz.prog Tryz.f6 [] false w args∧laidMetH Tryz.prog tabs w)∧sizedMet enc Tryz.prog Tryz.f6 (OpenSpec.ofChange Rows.syntaxInvertsSpec) false w args) (Rows.syntaxInvertsSpec.post enc Tryz.prog Tryz.f6 false true false false):=by
 refine returnsInHanded_of_change_and (C:=Tryz.checked) (X:=fun w _=>laidMetH Tryz.prog tabs w) (fun _ _ _ hh h=>h.of_heap hh) own started (by kernel_rfl) Tryz.func6
  (ChangeSpec.witness_shaped (enc:=enc) (C:=Tryz.checked) (os:=os) (X:=fun w _=>laidMetH Tryz.prog tabs w) false (World.laidAll Tryz.prog os tabs) #[.slice none 0 0,.agg #[.int .i64 0,.int .i64 0,.int .i64 0]] 8 (World.laidAll_os _ _ _) (World.shaped_of_ZipB (by kernel_rfl) (by kernel_rfl)) (by kernel_rfl) (by kernel_rfl) (by kernel_rfl) (tabs_met os _)) ?_
 intro W base args ds gs before hval0 hW _ _ hL _;have hval:∀(j:Nat) t v,Tryz.f6.params[j]? = some t→args[j]? = some v→Value.okWide Tryz.prog W .any base t v:=hval0;have hW':=hW;obtain⟨p,q,hA0,hV,rfl,hfz,hnd⟩:=hW;have hA:DataW.TrodAll enc Tryz.prog W 0 (fun _=>true) true Tryz.f6.params.toList args.toList ds p:=hA0;rw[Tryz.params6] at hA hval;obtain⟨v0,v1,d0,d1,p0,p1,rfl,rfl,rfl,h0,h1⟩:=trodAll_two hA;obtain⟨rfl,rfl⟩:=trodVars_none hV;obtain⟨A0,c0,l0,rfl,hc0,hm0,hS0⟩:=open_nums (hval 0 26 v0 rfl rfl) h0;obtain⟨x1,y1,z1,rfl,rx1,ry1,rz1⟩:=open_int3w (hval 1 37 v1 rfl rfl) h1;obtain⟨hE,hT⟩:=laid_of hL;exact (inverts_law l0 A0 c0 x1 y1 z1 ry1.1 ry1.2 (Nat.le_trans hc0 (Nat.le_trans hm0 (by unfold maxLen;decide))) W hE hT hS0).mono fun e W' h=>law_end (s:=Rows.syntaxInvertsSpec) V V V V (by kernel_rfl) V hW' h
theorem syntaxInverts_row:Rows.SyntaxInvertsSaid :=
 OpenClaim.holds_of_wide 6 Tryz.f6 rfl rfl rfl rfl rfl rfl rfl ⟨rfl,rfl,rfl,rfl,rfl⟩ rfl rfl rfl rfl rfl (by kernel_rfl) Tryz.func6 (by kernel_rfl)
  (of_decide_eq_true (by kernel_rfl)) (by unfold Func.isWrapper;first|(rw[if_pos (by decide +kernel)];kernel_rfl)|(rw[if_neg (by decide +kernel)];exact⟨rfl,rfl⟩))
  (fun os started H enc _=>syntaxInverts_lifted os started H enc)
theorem syntaxInverts_holds:Rows.SyntaxInvertsCardSaid :=
 Claim7.holds_tied_plain_at .later [] [.data,.data,.data,.sentinel,.sentinel] true (true, "9e7466ea0daf2e9e237cb3ac5d191ebc6f9c578cedc76a9bf7fc085b7ed4f59e") true
  syntaxInverts_row (fun _ h=>by cases h) (by kernel_rfl) (fun _ h=>by cases h) syntaxInverts_row_tie rfl ⟨rfl,rfl⟩ (by kernel_rfl) rfl
  (fun f fn hf hfn=>by
   obtain rfl:f=6:=Option.some.inj ((show Tryz.prog.funcNamed "babel/babellaw08.SyntaxInverts"=some 6 by kernel_rfl).symm.trans hf) |>.symm;obtain rfl:fn=Tryz.f6:=(Option.some.inj (Tryz.func6.symm.trans hfn)).symm
   exact⟨by kernel_rfl,fun j t ht=>by
    rw[Tryz.params6] at ht;have hm:t∈[26,37]:=by simpa using Array.mem_of_getElem? ht
    have hall:([26,37].all fun u=>!Tryz.prog.wantsStandIn u)=true:=by kernel_rfl
    exact (show Tryz.prog.wantsStandIn t=false by simpa using List.all_eq_true.1 hall t hm)⟩)
  (by kernel_rfl)
#print axioms syntaxInverts_holds
end Go.Proofs.YtfpkpnkdnammnaaGreatDoor
