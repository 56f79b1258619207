/- The law AsmForms holds for all operations, values and registers, the seven listed variables of the library being as the program text lays them. -/
import Derived.Test.YtkaepknpplhgkaaGreatDoorMag
import Derived.Test.YtkaepknpplhgkaaGreatDoorMal
import Derived.Test.YtkaepknpplhgkaaGreatDoorCards
import Derived.Test.YtkaepknpplhgkaaGreatDoorTie
import Derived.SevenTiedAt
namespace Go.Proofs.YtkaepknpplhgkaaGreatDoor
open Go.Joins Go.ChangeShapes Go.WideShapes Go.ChangeAt Go.RowKit Go.Deep
set_option maxRecDepth 100000 in
theorem asmForms_lifted (os:Os) (started:os.Started) (H:Type) (enc:TypeId×Value→H) :
  ReturnsInHanded {} Tryz.checked os 9 .any (fun w args=>(Rows.asmFormsSpec.pre enc Tryz.prog Tryz.f9 [] false w args∧laidMetH Tryz.prog tabs w)∧sizedMet enc Tryz.prog Tryz.f9 (OpenSpec.ofChange Rows.asmFormsSpec) false w args) (Rows.asmFormsSpec.post enc Tryz.prog Tryz.f9 false true false false):=by
 refine handedS (C:=Tryz.checked) (X:=fun w _=>laidMetH Tryz.prog tabs w) (fun _ _ _ hh h=>h.of_heap hh) own started (by kernel_rfl) Tryz.func9
  (ChangeSpec.witness_shaped (enc:=enc) (C:=Tryz.checked) (os:=os) (X:=fun w _=>laidMetH Tryz.prog tabs w) false (World.laidAll Tryz.prog os tabs) #[.int .u8 0,.int .u32 0,.agg #[.int .u8 0,.int .u8 0,.int .u8 0]] 8 (World.laidAll_os _ _ _) (World.shaped_of_ZipB (by kernel_rfl) (by kernel_rfl)) (by kernel_rfl) (by kernel_rfl) (by kernel_rfl) (tabs_met os _)) ?_
 intro W base args ds gs before hval0 hW hsh hL;have hval:∀(j:Nat) t v,Tryz.f9.params[j]? = some t→args[j]? = some v→Value.okWide Tryz.prog W .any base t v:=hval0;have hW':=hW;obtain⟨p,q,hA0,hV,rfl,hfz,hnd⟩:=hW;have hA:DataW.TrodAll enc Tryz.prog W 0 (fun _=>true) true Tryz.f9.params.toList args.toList ds p:=hA0;rw[Tryz.params9] at hA hval;obtain⟨v0,v1,v2,d0,d1,d2,p0,p1,p2,rfl,rfl,rfl,h0,h1,h2⟩:=trodAll_three hA;obtain⟨rfl,rfl⟩:=trodVars_none hV;obtain⟨n0,rfl,r0⟩:=open_u8 (hval 0 5 v0 rfl rfl) h0;obtain⟨n1,rfl,r1⟩:=open_u32 (hval 1 22 v1 rfl rfl) h1;obtain⟨x2,y2,z2,rfl,rx2,ry2,rz2⟩:=open_u8x3 (hval 2 58 v2 rfl rfl) h2;have hK:=laid_of hL hsh;exact (forms_law n0 n1 x2 y2 z2 r0 r1 rx2 ry2 rz2 W hK).mono fun e W' h=>law_end (s:=Rows.asmFormsSpec) M M M M (by kernel_rfl) M hW' h
theorem asmForms_row:Rows.AsmFormsSaid :=
 OpenClaim.holds_of_wide 9 Tryz.f9 rfl rfl rfl rfl rfl rfl rfl ⟨rfl,rfl,rfl,rfl,rfl⟩ rfl rfl rfl rfl rfl (by kernel_rfl) Tryz.func9 (by kernel_rfl)
  (of_decide_eq_true (by kernel_rfl)) (by unfold Func.isWrapper;first|(rw[if_pos (by decide +kernel)];kernel_rfl)|(rw[if_neg (by decide +kernel)];exact⟨rfl,rfl⟩))
  (fun os started H enc _=>asmForms_lifted os started H enc)
theorem asmForms_holds:Rows.AsmFormsCardSaid :=
 Claim7.holds_tied_plain_at .later [] [.data,.data,.data,.data,.listed,.data,.pinned] true (true, "0942ce58b5acab498ce0f340ab9e26598e996b3a98cc32accedf19a921f10b41") true
  asmForms_row (fun _ h=>by cases h) (by kernel_rfl) (fun _ h=>by cases h) asmForms_row_tie rfl ⟨rfl,rfl⟩ (by kernel_rfl) rfl
  (fun f fn hf hfn=>by
   obtain rfl:f=9:=Option.some.inj ((show Tryz.prog.funcNamed "babel/babellaw07.AsmForms"=some 9 by kernel_rfl).symm.trans hf) |>.symm;obtain rfl:fn=Tryz.f9:=(Option.some.inj (Tryz.func9.symm.trans hfn)).symm
   exact⟨by kernel_rfl,fun j t ht=>by
    rw[Tryz.params9] at ht;have hm:t∈[5,22,58]:=by simpa using Array.mem_of_getElem? ht
    have hall:([5,22,58].all fun u=>!Tryz.prog.wantsStandIn u)=true:=by kernel_rfl
    exact (show Tryz.prog.wantsStandIn t=false by simpa using List.all_eq_true.1 hall t hm)⟩)
  (by kernel_rfl)
#print axioms asmForms_holds
end Go.Proofs.YtkaepknpplhgkaaGreatDoor
