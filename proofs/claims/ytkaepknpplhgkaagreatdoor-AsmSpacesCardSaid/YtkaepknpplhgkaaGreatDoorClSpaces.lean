/- The law AsmSpaces holds for every kind, code and list of numbers, the seven listed variables of the library being as the program text lays them. -/
import Derived.Test.YtkaepknpplhgkaaGreatDoorArgB
import Derived.Test.YtkaepknpplhgkaaGreatDoorMaj
import Derived.Test.YtkaepknpplhgkaaGreatDoorCards
import Derived.Test.YtkaepknpplhgkaaGreatDoorTie
import Derived.SevenTiedAt
namespace Go.Proofs.YtkaepknpplhgkaaGreatDoor
open Go.Joins Go.ChangeShapes Go.WideShapes Go.ChangeAt Go.RowKit Go.Deep
set_option maxRecDepth 100000 in
theorem asmSpaces_lifted (os:Os) (started:os.Started) (H:Type) (enc:TypeId×Value→H) :
  ReturnsInHanded {} Tryz.checked os 14 .any (fun w args=>(Rows.asmSpacesSpec.pre enc Tryz.prog Tryz.f14 [] false w args∧laidMetH Tryz.prog tabs w)∧sizedMet enc Tryz.prog Tryz.f14 (OpenSpec.ofChange Rows.asmSpacesSpec) false w args) (Rows.asmSpacesSpec.post enc Tryz.prog Tryz.f14 false true false false):=by
 refine handedS (C:=Tryz.checked) (X:=fun w _=>laidMetH Tryz.prog tabs w) (fun _ _ _ hh h=>h.of_heap hh) own started (by kernel_rfl) Tryz.func14
  (ChangeSpec.witness_shaped (enc:=enc) (C:=Tryz.checked) (os:=os) (X:=fun w _=>laidMetH Tryz.prog tabs w) false (World.laidAll Tryz.prog os tabs) #[.int .u8 0,.string ⟨#[]⟩,.slice none 0 0] 8 (World.laidAll_os _ _ _) (World.shaped_of_ZipB (by kernel_rfl) (by kernel_rfl)) (by kernel_rfl) (by kernel_rfl) (by kernel_rfl) (tabs_met os _)) ?_
 intro W base args ds gs before hval0 hW hsh hL;have hval:∀(j:Nat) t v,Tryz.f14.params[j]? = some t→args[j]? = some v→Value.okWide Tryz.prog W .any base t v:=hval0;have hW':=hW;obtain⟨p,q,hA0,hV,rfl,hfz,hnd⟩:=hW;have hA:DataW.TrodAll enc Tryz.prog W 0 (fun _=>true) true Tryz.f14.params.toList args.toList ds p:=hA0;rw[Tryz.params14] at hA hval;obtain⟨v0,v1,v2,d0,d1,d2,p0,p1,p2,rfl,rfl,rfl,h0,h1,h2⟩:=trodAll_three hA;obtain⟨rfl,rfl⟩:=trodVars_none hV;obtain⟨n0,rfl,r0⟩:=open_u8 (hval 0 5 v0 rfl rfl) h0;obtain⟨s1,rfl,hs1⟩:=open_strA (hval 1 9 v1 rfl rfl) h1;obtain⟨A2,c2,l2,rfl,hc2,hm2,hS2,hl2⟩:=open_u8s (hval 2 53 v2 rfl rfl) h2;have hK:=laid_of hL hsh;exact (spaces_law n0 s1 hs1 l2 A2 c2 (Nat.le_trans hc2 (Nat.le_trans hm2 (by unfold maxLen;decide))) hl2 W hK hS2).mono fun e W' h=>law_end (s:=Rows.asmSpacesSpec) M M M M (by kernel_rfl) M hW' h
theorem asmSpaces_row:Rows.AsmSpacesSaid :=
 OpenClaim.holds_of_wide 14 Tryz.f14 rfl rfl rfl rfl rfl rfl rfl ⟨rfl,rfl,rfl,rfl,rfl⟩ rfl rfl rfl rfl rfl (by kernel_rfl) Tryz.func14 (by kernel_rfl)
  (of_decide_eq_true (by kernel_rfl)) (by unfold Func.isWrapper;first|(rw[if_pos (by decide +kernel)];kernel_rfl)|(rw[if_neg (by decide +kernel)];exact⟨rfl,rfl⟩))
  (fun os started H enc _=>asmSpaces_lifted os started H enc)
theorem asmSpaces_holds:Rows.AsmSpacesCardSaid :=
 Claim7.holds_tied_plain_at .later [] [.data,.data,.data,.data,.listed,.data,.pinned] true (true, "0942ce58b5acab498ce0f340ab9e26598e996b3a98cc32accedf19a921f10b41") true
  asmSpaces_row (fun _ h=>by cases h) (by kernel_rfl) (fun _ h=>by cases h) asmSpaces_row_tie rfl ⟨rfl,rfl⟩ (by kernel_rfl) rfl
  (fun f fn hf hfn=>by
   obtain rfl:f=14:=Option.some.inj ((show Tryz.prog.funcNamed "babel/babellaw07.AsmSpaces"=some 14 by kernel_rfl).symm.trans hf) |>.symm;obtain rfl:fn=Tryz.f14:=(Option.some.inj (Tryz.func14.symm.trans hfn)).symm
   exact⟨by kernel_rfl,fun j t ht=>by
    rw[Tryz.params14] at ht;have hm:t∈[5,9,53]:=by simpa using Array.mem_of_getElem? ht
    have hall:([5,9,53].all fun u=>!Tryz.prog.wantsStandIn u)=true:=by kernel_rfl
    exact (show Tryz.prog.wantsStandIn t=false by simpa using List.all_eq_true.1 hall t hm)⟩)
  (by kernel_rfl)
#print axioms asmSpaces_holds
end Go.Proofs.YtkaepknpplhgkaaGreatDoor
