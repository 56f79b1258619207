import Derived.Test.YtfpkpnkdnammnaaGreatDoorSxN
namespace Go.Proofs.YtfpkpnkdnammnaaGreatDoor
open Go.RowKit
section
variable {P:Program}{ops:Array Oper}{Q:Exit→Act→World→Prop}{n:Nat}
theorem wa_abs {k0:Nat}{l0:Array Bool}{m0:List (Nat×Value)}{H0:World→Prop}(h:∀W:Nat→Array Bool→List (Nat×Value)→(World→Prop)→Prop,(∀k l m H,W k l m H↔WA P ops Q k l n m H)→WA P ops Q k0 l0 n m0 H0):WA P ops Q k0 l0 n m0 H0:=h (fun k l m H=>WA P ops Q k l n m H) fun _ _ _ _=>Iff.rfl
theorem yG {W:Nat→Array Bool→List (Nat×Value)→(World→Prop)→Prop}(hW:∀k l m H,W k l m H↔WA P ops Q k l n m H) {k:Nat}{l l':Array Bool}{m m':List (Nat×Value)}{H H':World→Prop}(hl:l=l') (hp:Pr m m') (hH:∀w,H w→H' w) (h:W k l' m' H'):WA P ops Q k l n m H:=fun a w hs hw=>by
 subst hl;exact (hW _ _ _ _).1 h a w (hs.weak hp) (hH w hw)
theorem Hp.swapL {B:Nat→Prop}{w0 w:World}{L L':List (Nat×Obj)}{R:List Rw}{X:World→Prop}(h:Hp B w0 L R X w) (hp:L.Perm L'):Hp B w0 L' R X w:=by
 have hm:(L'.map (·.1)).Perm (L.map (·.1)):=(hp.map _).symm
 have hb:(wH L' R).Perm (wH L R):=by
  unfold wH;exact hm.append_right _
 obtain⟨F,hF,hX⟩:=h.foot;exact⟨h.keep,fun p hm=>h.own p (hp.mem_iff.2 hm),fun p hm=>h.mine p (hp.mem_iff.2 hm),h.rows,hb.nodup_iff.2 h.nd,fun _ _=>trivial,F,fun k hk=>⟨(hF k hk).1,(hF k hk).2.1,fun hm=>(hF k hk).2.2.1 (hb.mem_iff.1 hm),trivial⟩,hX⟩
theorem Hp.swapR {B:Nat→Prop}{w0 w:World}{L:List (Nat×Obj)}{R R':List Rw}{X:World→Prop}(h:Hp B w0 L R X w) (hp:R.Perm R'):Hp B w0 L R' X w:=by
 have hb:(wH L R').Perm (wH L R):=by
  unfold wH;exact (hp.symm.filterMap _).append_left _
 obtain⟨F,hF,hX⟩:=h.foot;exact⟨h.keep,h.own,h.mine,fun r hr=>h.rows r (hp.mem_iff.2 hr),hb.nodup_iff.2 h.nd,fun _ _=>trivial,F,fun k hk=>⟨(hF k hk).1,(hF k hk).2.1,fun hm=>(hF k hk).2.2.1 (hb.mem_iff.1 hm),trivial⟩,hX⟩
end
end Go.Proofs.YtfpkpnkdnammnaaGreatDoor
