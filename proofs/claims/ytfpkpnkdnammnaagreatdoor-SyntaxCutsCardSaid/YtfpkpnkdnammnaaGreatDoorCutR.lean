import Derived.Test.YtfpkpnkdnammnaaGreatDoorSxN
namespace Go.Proofs.YtfpkpnkdnammnaaGreatDoor
open Go.RowKit
section
variable {P:Program}{ops:Array Oper}{Q:Exit→Act→World→Prop}{n:Nat}{m:List (Nat×Value)}{H:World→Prop}
def QL (Q:Exit→Act→World→Prop) (K:Act→World→Prop):Exit→Act→World→Prop:=fun e a w=>match e with
 | .normal=>K a w
 | e=>Q e a w
theorem QL.wp {o:Oper}{a:Act}{w:World}{K K':Act→World→Prop}{N:Act→World→Prop}(hK:∀a w,K a w→K' a w) (h:o.wp P a w K (QL Q N)):o.wp P a w K' Q:=by
 unfold Oper.wp at *;generalize (execOp a.eval o).run P w=r at *
 cases r with
 | ok x w' =>
  cases x
  case value v=>exact hK _ _ h
  case skip=>exact hK _ _ h
  case defer d=>exact hK _ _ h
  case enter f args =>
   refine Calls.mono h fun e w'' he=>?_;cases e
   ·exact hK _ _ he
   ·exact he
   ·exact he
  case row r args=>exact Rows.mono h fun v w'' hv=>hK _ _ hv
  all_goals exact h.elim
 | halt x w' =>
  cases x
  all_goals first|exact h|exact h.elim
theorem wpList_cut {l2:List Oper}{N:Act→World→Prop}(hN:∀a w,N a w→wpList P ops Q l2 a w):∀{l1:List Oper}{a:Act}{w:World},wpList P ops (QL Q N) l1 a w→wpList P ops Q (l1++l2) a w
 | [],_,_,h=>hN _ _ h
 | o::r,a,w,h=>by
  rw[List.cons_append];unfold wpList at h ⊢
  split at h
  ·rename_i hwt;rw[Kp hwt];rcases h with h|⟨h1,h2⟩
   ·exact .inl (QL.wp (fun _ _ h=>wpList_cut hN h) h)
   ·exact .inr ⟨h1,h2⟩
  ·rename_i hwt;rw[Ko hwt];exact wpList_cut hN h
theorem wl_cut {ι:Type}{l:List Oper}(k:Nat) (I:ι→List (Nat×Value)) (HI:ι→World→Prop) (h1:WL P ops (QL Q fun a w=>∃i,Sat n (I i) a∧HI i w) (l.take k) n m H) (h2:∀i,WL P ops Q (l.drop k) n (I i) (HI i)):WL P ops Q l n m H:=fun a w hs hw=>by
 rw[← List.take_append_drop k l];exact wpList_cut (fun a w ⟨i,h3,h4⟩=>h2 i a w h3 h4) (h1 a w hs hw)
theorem vR {ι:Type}{I:ι→List (Nat×Value)}{HI:ι→World→Prop}(i:ι) (hp:Pr m (I i)) (hH:∀w,H w→HI i w):WQ (QL Q fun a w=>∃i,Sat n (I i) a∧HI i w) .normal n m H:=fun _ w hs hw=>⟨i,hs.weak hp,hH w hw⟩
end
end Go.Proofs.YtfpkpnkdnammnaaGreatDoor
