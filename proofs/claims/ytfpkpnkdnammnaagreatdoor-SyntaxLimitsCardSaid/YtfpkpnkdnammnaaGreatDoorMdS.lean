/- A region in all its orders: one lemma for each set of operations that may have been done. -/
import Derived.Test.YtfpkpnkdnammnaaGreatDoorSxN
namespace Go.Proofs.YtfpkpnkdnammnaaGreatDoor
open Go.RowKit
section
variable {P:Program} {ops:Array Oper} {Q:Exit→Act→World→Prop} {n:Nat}
theorem Hp.swapL {B:Nat→Prop} {w0 w:World} {L L':List (Nat×Obj)} {R:List Rw} {X:World→Prop} (h:Hp B w0 L R X w) (hp:L.Perm L'):Hp B w0 L' R X w:=by
 have hm:(L'.map (·.1)).Perm (L.map (·.1)):=(hp.map _).symm
 have hb:(wF L' R).Perm (wF L R):=by
  unfold wF;exact hm.append_right _
 obtain⟨F,hF,hX⟩:=h.foot;exact⟨h.keep,fun p hm=>h.own p (hp.mem_iff.2 hm),fun p hm=>h.mine p (hp.mem_iff.2 hm),h.rows,hb.nodup_iff.2 h.nd,fun _ _=>trivial,F,fun k hk=>⟨(hF k hk).1,(hF k hk).2.1,fun hm=>(hF k hk).2.2.1 (hb.mem_iff.1 hm),trivial⟩,hX⟩
end
end Go.Proofs.YtfpkpnkdnammnaaGreatDoor
