import Derived.Test.YtkaepknpplhgkaaGreatDoorMag
import Derived.Test.YtkaepknpplhgkaaGreatDoorMat
import Derived.Test.YtkaepknpplhgkaaGreatDoorCards
import Derived.Test.YtkaepknpplhgkaaGreatDoorTie
import Derived.SevenTiedAt
namespace Go.Proofs.YtkaepknpplhgkaaGreatDoor
open Go.Joins Go.ChangeShapes Go.WideShapes Go.ChangeAt Go.RowKit Go.Deep
set_option maxRecDepth 100000 in
theorem asmDisassemble_lifted (os:Os) (started:os.Started) (H:Type) (enc:TypeId×Value→H) :
  ReturnsInHanded {} Tryz.checked os 12 .any (fun w args=>(Rows.asmDisassembleSpec.pre enc Tryz.prog Tryz.f12 [] false w args∧laidMetH Tryz.prog tabs w)∧sizedMet enc Tryz.prog Tryz.f12 (OpenSpec.ofChange Rows.asmDisassembleSpec) false w args) (Rows.asmDisassembleSpec.post enc Tryz.prog Tryz.f12 false true false false):=by
 refine handedS (C:=Tryz.checked) (X:=fun w _=>laidMetH Tryz.prog tabs w) (fun _ _ _ hh h=>h.of_heap hh) own started (by kernel_rfl) Tryz.func12
  (ChangeSpec.witness_shaped (enc:=enc) (C:=Tryz.checked) (os:=os) (X:=fun w _=>laidMetH Tryz.prog tabs w) false (World.laidAll Tryz.prog os tabs) #[.int .u8 0,.string ⟨#[]⟩,.int .u32 0] 8 (World.laidAll_os _ _ _) (World.shaped_of_ZipB (by kernel_rfl) (by kernel_rfl)) (by kernel_rfl) (by kernel_rfl) (by kernel_rfl) (tabs_met os _)) ?_
 intro W base args ds gs before hval0 hW hsh hL;have hval:∀(j:Nat) t v,Tryz.f12.params[j]? = some t→args[j]? = some v→Value.okWide Tryz.prog W .any base t v:=hval0;have hW':=hW;obtain⟨p,q,hA0,hV,rfl,hfz,hnd⟩:=hW;have hA:DataW.TrodAll enc Tryz.prog W 0 (fun _=>true) true Tryz.f12.params.toList args.toList ds p:=hA0;rw[Tryz.params12] at hA hval;obtain⟨v0,v1,v2,d0,d1,d2,p0,p1,p2,rfl,rfl,rfl,h0,h1,h2⟩:=trodAll_three hA;obtain⟨rfl,rfl⟩:=trodVars_none hV;obtain⟨n0,rfl,r0⟩:=open_u8 (hval 0 5 v0 rfl rfl) h0;obtain⟨s1,rfl,hs1⟩:=open_strA (hval 1 9 v1 rfl rfl) h1;obtain⟨n2,rfl,r2⟩:=open_u32 (hval 2 22 v2 rfl rfl) h2;have hK:=laid_of hL hsh;exact (disassemble_law n0 s1 hs1 n2 r2 W hK).mono fun e W' h=>law_end (s:=Rows.asmDisassembleSpec) M M M M (by kernel_rfl) M hW' h
theorem asmDisassemble_z1:(Rows.asmDisassembleRow.inPlace==Tryz.pinned.checked.prog.inPlace 12)=true:=by kernel_rfl
theorem asmDisassemble_z2:(Rows.asmDisassembleRow.unfollowed==Tryz.pinned.checked.prog.unfollowed 12)=true:=by kernel_rfl
theorem asmDisassemble_z3:(Rows.asmDisassembleRow.recurses==Tryz.pinned.checked.prog.recurses 12)=true:=by kernel_rfl
theorem asmDisassemble_z4:(Rows.asmDisassembleRow.named==Tryz.pinned.checked.prog.varsNamed 12)=true:=by kernel_rfl
theorem asmDisassemble_z5:laidOutB Tryz.pinned.checked.prog=true:=by kernel_rfl
theorem asmDisassemble_z6:Tryz.pinned.checked.prog.mayEnter=true:=by kernel_rfl
theorem asmDisassemble_z7:(Rows.asmDisassembleRow.lifted==Tryz.pinned.checked.prog.liftsFinal)=true:=by kernel_rfl
theorem asmDisassemble_z8:(Tryz.pinned.checked.prog.make==some Rows.asmDisassembleRow.make)=true:=by kernel_rfl
theorem asmDisassemble_closed:joinedFacts Tryz.pinned.checked.prog 12 Tryz.f12 Rows.asmDisassembleSpec Rows.asmDisassembleRow=true:=by
 unfold joinedFacts;rw[asmDisassemble_z1,asmDisassemble_z2,asmDisassemble_z3,asmDisassemble_z4,asmDisassemble_z5,asmDisassemble_z6,asmDisassemble_z7,asmDisassemble_z8]
 kernel_rfl
theorem asmDisassemble_row:Rows.AsmDisassembleSaid :=
 OpenClaim.holds_of_wide 12 Tryz.f12 rfl rfl rfl rfl rfl rfl rfl ⟨rfl,rfl,rfl,rfl,rfl⟩ rfl rfl rfl rfl rfl (by kernel_rfl) Tryz.func12 asmDisassemble_closed
  (Ke (by kernel_rfl)) (by unfold Func.isWrapper;first|(rw[Ae (by decide +kernel)];kernel_rfl)|(rw[Ad (by decide +kernel)];exact⟨rfl,rfl⟩))
  (fun os started H enc _=>asmDisassemble_lifted os started H enc)
theorem asmDisassemble_holds:Rows.AsmDisassembleCardSaid :=
 Claim7.holds_tied_plain_at .later [] [.data,.data,.data,.data,.listed,.data,.pinned] true (true, "0942ce58b5acab498ce0f340ab9e26598e996b3a98cc32accedf19a921f10b41") true
  asmDisassemble_row (fun _ h=>by cases h) (by kernel_rfl) (fun _ h=>by cases h) asmDisassemble_row_tie rfl ⟨rfl,rfl⟩ (by kernel_rfl) rfl
  (fun f fn hf hfn=>by
   obtain rfl:f=12:=Option.some.inj ((show Tryz.prog.funcNamed "babel/babellaw07.AsmDisassemble"=some 12 by kernel_rfl).symm.trans hf) |>.symm;obtain rfl:fn=Tryz.f12:=(Option.some.inj (Tryz.func12.symm.trans hfn)).symm
   exact⟨by kernel_rfl,fun j t ht=>by
    rw[Tryz.params12] at ht;have hm:t∈[5,9,22]:=by simpa using Array.mem_of_getElem? ht
    have hall:([5,9,22].all fun u=>!Tryz.prog.wantsStandIn u)=true:=by kernel_rfl
    exact (show Tryz.prog.wantsStandIn t=false by simpa using List.all_eq_true.1 hall t hm)⟩)
  (by kernel_rfl)
#print axioms asmDisassemble_holds
end Go.Proofs.YtkaepknpplhgkaaGreatDoor
