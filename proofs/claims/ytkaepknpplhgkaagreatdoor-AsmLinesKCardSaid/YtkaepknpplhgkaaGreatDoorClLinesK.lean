import Derived.Test.YtkaepknpplhgkaaGreatDoorMaq
import Derived.Test.YtkaepknpplhgkaaGreatDoorAlK
import Derived.Test.YtkaepknpplhgkaaGreatDoorCards
import Derived.Test.YtkaepknpplhgkaaGreatDoorTie
import Derived.SevenTiedAt
namespace Go.Proofs.YtkaepknpplhgkaaGreatDoor
open Go.Joins Go.ChangeShapes Go.WideShapes Go.ChangeAt Go.RowKit Go.Deep
set_option maxRecDepth 100000 in
theorem asmLinesK_lifted (os:Os) (started:os.Started) (H:Type) (enc:TypeId×Value→H) :
  ReturnsInHanded {} Tryz.checked os 10 .any (fun w args=>(Rows.asmLinesKSpec.pre enc Tryz.prog Tryz.f10 [] false w args∧laidMetH Tryz.prog tabs w)∧sizedMet enc Tryz.prog Tryz.f10 (OpenSpec.ofChange Rows.asmLinesKSpec) false w args) (Rows.asmLinesKSpec.post enc Tryz.prog Tryz.f10 false true false false):=by
 refine handedS (C:=Tryz.checked) (X:=fun w _=>laidMetH Tryz.prog tabs w) (fun _ _ _ hh h=>h.of_heap hh) own started (by kernel_rfl) Tryz.func10
  (ChangeSpec.witness_shaped (enc:=enc) (C:=Tryz.checked) (os:=os) (X:=fun w _=>laidMetH Tryz.prog tabs w) false (World.laidAll Tryz.prog os tabs) #[.slice none 0 0,.int .u32 0,.agg #[.int .i64 0,.int .i64 0,.int .i64 0,.int .i64 0,.int .i64 0,.int .u32 0,.int .i64 0]] 8 (World.laidAll_os _ _ _) (World.shaped_of_ZipB (by kernel_rfl) (by kernel_rfl)) (by kernel_rfl) (by kernel_rfl) (by kernel_rfl) (tabs_met os _)) ?_
 intro W base args ds gs before hval0 hW hsh hL;have hval:∀(j:Nat) t v,Tryz.f10.params[j]? = some t→args[j]? = some v→Value.okWide Tryz.prog W .any base t v:=hval0;have hW':=hW;obtain⟨p,q,hA0,hV,rfl,hfz,hnd⟩:=hW;have hA:DataW.TrodAll enc Tryz.prog W 0 (fun _=>true) true Tryz.f10.params.toList args.toList ds p:=hA0;rw[Tryz.params10] at hA hval;obtain⟨v0,v1,v2,d0,d1,d2,p0,p1,p2,rfl,rfl,rfl,h0,h1,h2⟩:=trodAll_three hA;obtain⟨rfl,rfl⟩:=trodVars_none hV;obtain⟨A0,c0,l0,rfl,hc0,hm0,hS0⟩:=open_int5s (hval 0 65 v0 rfl rfl) h0;obtain⟨n1,rfl,r1⟩:=open_u32 (hval 1 22 v1 rfl rfl) h1;obtain⟨i2,rfl,hi2⟩:=open_kins (hval 2 35 v2 rfl rfl) h2;have hK:=laid_of hL hsh;exact (linesK_law l0 A0 c0 (Ac hc0 (Ac hm0 (by unfold maxLen;decide))) n1 r1 i2 hi2 W hK hS0).mono fun e W' h=>law_end (s:=Rows.asmLinesKSpec) M M M M (by kernel_rfl) M hW' h
theorem asmLinesK_z1:(Rows.asmLinesKRow.inPlace==Tryz.pinned.checked.prog.inPlace 10)=true:=by kernel_rfl
theorem asmLinesK_z2:(Rows.asmLinesKRow.unfollowed==Tryz.pinned.checked.prog.unfollowed 10)=true:=by kernel_rfl
theorem asmLinesK_z3:(Rows.asmLinesKRow.recurses==Tryz.pinned.checked.prog.recurses 10)=true:=by kernel_rfl
theorem asmLinesK_z4:(Rows.asmLinesKRow.named==Tryz.pinned.checked.prog.varsNamed 10)=true:=by kernel_rfl
theorem asmLinesK_z5:laidOutB Tryz.pinned.checked.prog=true:=by kernel_rfl
theorem asmLinesK_z6:Tryz.pinned.checked.prog.mayEnter=true:=by kernel_rfl
theorem asmLinesK_z7:(Rows.asmLinesKRow.lifted==Tryz.pinned.checked.prog.liftsFinal)=true:=by kernel_rfl
theorem asmLinesK_z8:(Tryz.pinned.checked.prog.make==some Rows.asmLinesKRow.make)=true:=by kernel_rfl
theorem asmLinesK_closed:joinedFacts Tryz.pinned.checked.prog 10 Tryz.f10 Rows.asmLinesKSpec Rows.asmLinesKRow=true:=by
 unfold joinedFacts;rw[asmLinesK_z1,asmLinesK_z2,asmLinesK_z3,asmLinesK_z4,asmLinesK_z5,asmLinesK_z6,asmLinesK_z7,asmLinesK_z8]
 kernel_rfl
theorem asmLinesK_row:Rows.AsmLinesKSaid :=
 OpenClaim.holds_of_wide 10 Tryz.f10 rfl rfl rfl rfl rfl rfl rfl ⟨rfl,rfl,rfl,rfl,rfl⟩ rfl rfl rfl rfl rfl (by kernel_rfl) Tryz.func10 asmLinesK_closed
  (Jv (by kernel_rfl)) (by unfold Func.isWrapper;first|(rw[Kv (by decide +kernel)];kernel_rfl)|(rw[Ku (by decide +kernel)];exact⟨rfl,rfl⟩))
  (fun os started H enc _=>asmLinesK_lifted os started H enc)
theorem asmLinesK_holds:Rows.AsmLinesKCardSaid :=
 Claim7.holds_tied_plain_at .later [] [.data,.data,.data,.data,.listed,.data,.pinned] true (true, "0942ce58b5acab498ce0f340ab9e26598e996b3a98cc32accedf19a921f10b41") true
  asmLinesK_row (fun _ h=>by cases h) (by kernel_rfl) (fun _ h=>by cases h) asmLinesK_row_tie rfl ⟨rfl,rfl⟩ (by kernel_rfl) rfl
  (fun f fn hf hfn=>by
   obtain rfl:f=10:=Option.some.inj ((show Tryz.prog.funcNamed "babel/babellaw07.AsmLinesK"=some 10 by kernel_rfl).symm.trans hf) |>.symm;obtain rfl:fn=Tryz.f10:=(Option.some.inj (Tryz.func10.symm.trans hfn)).symm
   exact⟨by kernel_rfl,fun j t ht=>by
    rw[Tryz.params10] at ht;have hm:t∈[65,22,35]:=by simpa using Array.mem_of_getElem? ht
    have hall:([65,22,35].all fun u=>!Tryz.prog.wantsStandIn u)=true:=by kernel_rfl
    exact (show Tryz.prog.wantsStandIn t=false by simpa using List.all_eq_true.1 hall t hm)⟩)
  (by kernel_rfl)
#print axioms asmLinesK_holds
end Go.Proofs.YtkaepknpplhgkaaGreatDoor
