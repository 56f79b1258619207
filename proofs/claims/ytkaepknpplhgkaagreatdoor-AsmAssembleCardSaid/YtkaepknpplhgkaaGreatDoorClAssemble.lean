import Derived.Test.YtkaepknpplhgkaaGreatDoorMag
import Derived.Test.YtkaepknpplhgkaaGreatDoorMba
import Derived.Test.YtkaepknpplhgkaaGreatDoorCards
import Derived.Test.YtkaepknpplhgkaaGreatDoorTie
import Derived.SevenTiedAt
namespace Go.Proofs.YtkaepknpplhgkaaGreatDoor
open Go.Joins Go.ChangeShapes Go.WideShapes Go.ChangeAt Go.RowKit Go.Deep
set_option maxRecDepth 100000 in
theorem asmAssemble_lifted (os:Os) (started:os.Started) (H:Type) (enc:TypeId×Value→H) :
  ReturnsInHanded {} Tryz.checked os 3 .any (fun w args=>(Rows.asmAssembleSpec.pre enc Tryz.prog Tryz.f3 [] false w args∧laidMetH Tryz.prog tabs w)∧sizedMet enc Tryz.prog Tryz.f3 (OpenSpec.ofChange Rows.asmAssembleSpec) false w args) (Rows.asmAssembleSpec.post enc Tryz.prog Tryz.f3 false true false false):=by
 refine handedS (C:=Tryz.checked) (X:=fun w _=>laidMetH Tryz.prog tabs w) (fun _ _ _ hh h=>h.of_heap hh) own started (by kernel_rfl) Tryz.func3
  (ChangeSpec.witness_shaped (enc:=enc) (C:=Tryz.checked) (os:=os) (X:=fun w _=>laidMetH Tryz.prog tabs w) false (World.laidAll Tryz.prog os tabs) #[.int .u8 0,.string ⟨#[]⟩,.int .u32 0] 8 (World.laidAll_os _ _ _) (World.shaped_of_ZipB (by kernel_rfl) (by kernel_rfl)) (by kernel_rfl) (by kernel_rfl) (by kernel_rfl) (tabs_met os _)) ?_
 intro W base args ds gs before hval0 hW hsh hL;have hval:∀(j:Nat) t v,Tryz.f3.params[j]? = some t→args[j]? = some v→Value.okWide Tryz.prog W .any base t v:=hval0;have hW':=hW;obtain⟨p,q,hA0,hV,rfl,hfz,hnd⟩:=hW;have hA:DataW.TrodAll enc Tryz.prog W 0 (fun _=>true) true Tryz.f3.params.toList args.toList ds p:=hA0;rw[Tryz.params3] at hA hval;obtain⟨v0,v1,v2,d0,d1,d2,p0,p1,p2,rfl,rfl,rfl,h0,h1,h2⟩:=trodAll_three hA;obtain⟨rfl,rfl⟩:=trodVars_none hV;obtain⟨n0,rfl,r0⟩:=open_u8 (hval 0 5 v0 rfl rfl) h0;obtain⟨s1,rfl,hs1⟩:=open_strA (hval 1 9 v1 rfl rfl) h1;obtain⟨n2,rfl,r2⟩:=open_u32 (hval 2 22 v2 rfl rfl) h2;have hK:=laid_of hL hsh;exact (assemble_law n0 s1 hs1 n2 r2 W hK).mono fun e W' h=>law_end (s:=Rows.asmAssembleSpec) M M M M (by kernel_rfl) M hW' h
theorem asmAssemble_z1:(Rows.asmAssembleRow.inPlace==Tryz.pinned.checked.prog.inPlace 3)=true:=by kernel_rfl
theorem asmAssemble_z2:(Rows.asmAssembleRow.unfollowed==Tryz.pinned.checked.prog.unfollowed 3)=true:=by kernel_rfl
theorem asmAssemble_z3:(Rows.asmAssembleRow.recurses==Tryz.pinned.checked.prog.recurses 3)=true:=by kernel_rfl
theorem asmAssemble_z4:(Rows.asmAssembleRow.named==Tryz.pinned.checked.prog.varsNamed 3)=true:=by kernel_rfl
theorem asmAssemble_z5:laidOutB Tryz.pinned.checked.prog=true:=by kernel_rfl
theorem asmAssemble_z6:Tryz.pinned.checked.prog.mayEnter=true:=by kernel_rfl
theorem asmAssemble_z7:(Rows.asmAssembleRow.lifted==Tryz.pinned.checked.prog.liftsFinal)=true:=by kernel_rfl
theorem asmAssemble_z8:(Tryz.pinned.checked.prog.make==some Rows.asmAssembleRow.make)=true:=by kernel_rfl
theorem asmAssemble_closed:joinedFacts Tryz.pinned.checked.prog 3 Tryz.f3 Rows.asmAssembleSpec Rows.asmAssembleRow=true:=by
 unfold joinedFacts;rw[asmAssemble_z1,asmAssemble_z2,asmAssemble_z3,asmAssemble_z4,asmAssemble_z5,asmAssemble_z6,asmAssemble_z7,asmAssemble_z8]
 kernel_rfl
theorem asmAssemble_row:Rows.AsmAssembleSaid :=
 OpenClaim.holds_of_wide 3 Tryz.f3 rfl rfl rfl rfl rfl rfl rfl ⟨rfl,rfl,rfl,rfl,rfl⟩ rfl rfl rfl rfl rfl (by kernel_rfl) Tryz.func3 asmAssemble_closed
  (Ki (by kernel_rfl)) (by unfold Func.isWrapper;first|(rw[Ah (by decide +kernel)];kernel_rfl)|(rw[Ag (by decide +kernel)];exact⟨rfl,rfl⟩))
  (fun os started H enc _=>asmAssemble_lifted os started H enc)
theorem asmAssemble_holds:Rows.AsmAssembleCardSaid :=
 Claim7.holds_tied_plain_at .later [] [.data,.data,.data,.data,.listed,.data,.pinned] true (true, "0942ce58b5acab498ce0f340ab9e26598e996b3a98cc32accedf19a921f10b41") true
  asmAssemble_row (fun _ h=>by cases h) (by kernel_rfl) (fun _ h=>by cases h) asmAssemble_row_tie rfl ⟨rfl,rfl⟩ (by kernel_rfl) rfl
  (fun f fn hf hfn=>by
   obtain rfl:f=3:=Option.some.inj ((show Tryz.prog.funcNamed "babel/babellaw07.AsmAssemble"=some 3 by kernel_rfl).symm.trans hf) |>.symm;obtain rfl:fn=Tryz.f3:=(Option.some.inj (Tryz.func3.symm.trans hfn)).symm
   exact⟨by kernel_rfl,fun j t ht=>by
    rw[Tryz.params3] at ht;have hm:t∈[5,9,22]:=by simpa using Array.mem_of_getElem? ht
    have hall:([5,9,22].all fun u=>!Tryz.prog.wantsStandIn u)=true:=by kernel_rfl
    exact (show Tryz.prog.wantsStandIn t=false by simpa using List.all_eq_true.1 hall t hm)⟩)
  (by kernel_rfl)
#print axioms asmAssemble_holds
end Go.Proofs.YtkaepknpplhgkaaGreatDoor
