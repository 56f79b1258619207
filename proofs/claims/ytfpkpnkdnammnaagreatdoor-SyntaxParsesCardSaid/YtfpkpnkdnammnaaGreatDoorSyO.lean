/- The parser of functions. -/
import Derived.Test.YtfpkpnkdnammnaaGreatDoorSyN
namespace Go.Proofs.YtfpkpnkdnammnaaGreatDoor
open Go.RowKit
abbrev fnB (s:Bs) (A1:Option Addr) (l1 c1:Nat) (A2:Option Addr) (l2 c2:Nat):Obj:=bk 62 (fnC s A1 l1 c1 A2 l2 c2)
theorem strs_one (l:List Bs) (s:Bs):xG (l++[s])=xG l++[.string ⟨s.toArray⟩]:=by simp[xG]
set_option maxRecDepth 100000 in
theorem pelem_any {E:PE}(hE:E.Ok) (s:PS) (hs:s.at_≤E.m) (bp bf bx:Nat) (nm:Bs) (A:Option Addr) (cap:Nat) (acc:List Bs) (hlen:acc.length≤1000000000) {B:Nat→Prop}{w0:World}{X:World→Prop}(hX:∀w,X w→Blk bx (pxO bp) w∧TkX E w)
  (w_0:World) (h:Hp B w0 [(bp,pO E s),(bf,fnB nm A acc.length cap none 0 0)] [⟨.slice A acc.length cap,9,1,acc.length,xG acc⟩] X w_0):Calls Tryz.prog 87 #[.pointer (some ⟨bf,0,none⟩),.pointer (some ⟨bx,0,none⟩)] w_0 fun e w'=>∃A' cap',e=.returned (.tuple #[])∧acc.length+1≤cap'∧Hp B w0 [(bp,pO E (yF E.tk s).2),(bf,fnB nm A' (acc.length+1) cap' none 0 0)] [⟨.slice A' (acc.length+1) cap',9,1,acc.length+1,xG (acc++[(yF E.tk s).1])⟩] X w':=by
 refine zC (args:=[.pointer (some ⟨bf,0,none⟩),.pointer (some ⟨bx,0,none⟩)]) Tryz.func87 V 9 V (Nat.le_of_ble_eq_true V)<|Z2 0 1 V V<|zI (H':=Hp B w0 [(bp,pO E s),(bf,fnB nm A acc.length cap none 0 0)] [⟨.slice A acc.length cap,9,1,acc.length,xG acc⟩] X) (fun u hu=>?_) ?_
 ·subst hu;exact h
 refine xX 5 [0,1,2,3,4] (fun u=>Blk bf (fnB nm A acc.length cap none 0 0) u∧Blk bx (pxO bp) u) (by kernel_rfl) (by kernel_rfl) (fun u ob ⟨h1,h2⟩=>⟨Blk.stab u ob h1,Blk.stab u ob h2⟩) (fun u h=>⟨HpG.blk h (k:=1) rfl,(hX u (HpG.x h)).1⟩) (fun n0 hn0=>?_);refine Zd V V V (Y62x1 V) ?_;refine Zd V V V (yP (v:=.slice A acc.length cap) V U22 V (fun u h=>by rw[cell_of_row u bf _ _ _ _ h.1];rfl)) ?_;refine Zd V V V (yP (v:=.pointer (some ⟨bp,0,none⟩)) V U86 V (fun u h=>by rw[cell_of_row u bx _ _ _ _ h.2];rfl)) ?_;refine yY V<|wd_turnE (ι:=Unit) (C:=fun _=>True) (val:=fun _=>.string ⟨(yF E.tk s).1.toArray⟩) (ob':=fun _=>pO E (yF E.tk s).2) .none V  0 (by kernel_rfl) V V (fun u u' h1 h2 hK=>⟨h2.1.keep hK (HpG.ne h1 (i:=1) (j:=0) V V V),h2.2.keep hK ?_⟩) (fun w h1 hw=>(name_any E hE s hs bp w h1 (hX w hw.x).2).mono fun e w' ⟨e1,e2,e3⟩=>⟨(),trivial,e1,e2,e3⟩) (fun _ _=>?_)
 ·exact fun e=>by subst e;have h9:=h2.2.symm.trans (HpG.blkL h1 (j:=0) rfl);simp at h9
 refine yY V<|vQ ?_ .none V (fun k hk=>Nat.lt_of_lt_of_le hk hn0) (xO (z:=.string ⟨#[]⟩) V V U22 (by kernel_rfl) (by kernel_rfl) V V) (fun b6 hb6=>?_)
 ·rfl
 refine xS ?_;simp only[List.drop_succ_cons,List.drop_zero];(refine wR (z:=.string ⟨#[]⟩) (bytes:=16) 0 0 .none rfl rfl rfl rfl rfl U22 (by kernel_rfl) rfl rfl rfl rfl rfl ?_ ?_ (fun a7 c7 h7=>?_);(· omega);(· omega);skip);refine ZF V (Y62x1 V) ?_;refine ZS 2 V V V V V (by kernel_rfl) ?_;refine zN<|xV V (fun w hw=>?_);refine⟨some ⟨a7,0,none⟩,c7,rfl,h7,?_⟩;have hw2:=Hp.drop hw (List.sublist_cons_self _ _) (List.Sublist.refl _);rw[strs_one];exact hw2
structure PlJ where
 k:Nat
 acc:List Bs
 s:PS
 A:Option Addr
 cap:Nat
structure PlOk (E:PE) (f:Nat) (l:List Bs) (s':PS) (j:PlJ):Prop where
 run:rZ E.tk j.k j.acc j.s=some (l,s')
 k:j.acc.length+j.k≤f
 at_:j.s.at_≤E.m
 cap:j.acc.length≤j.cap
section
variable {tk:Nat→Tok}{k:Nat}{l:List Bs}{s:PS}{p:List Bs×PS}
theorem parF_err (h:rZ tk (k+1) l s=some p) (he:s.err≠0):p=(l,s):=by
 unfold rZ at h;rw[if_pos he] at h;cases h;rfl
theorem parF_go (h:rZ tk (k+1) l s=some p) (he:s.err=0):(bif isP tk [41] (yF tk s).2 then some (l++[(yF tk s).1],adv (yF tk s).2) else rZ tk k (l++[(yF tk s).1]) (yB tk [44] (yF tk s).2))=some p:=by
 unfold rZ at h;rw[if_neg (by omega)] at h;exact h
end
theorem TkX.neF {E:PE}{w:World}(h:TkX E w) {bf:Nat}{s:Bs}{A A2:Option Addr}{l1 c1 l2 c2:Nat}(hb:w.heap[bf]? = some (fnB s A l1 c1 A2 l2 c2)):E.g≠bf:=fun e=>by
 have h1:=h 0 (Nat.zero_le _) 0 _ rfl;rw[e,cell_of_row w bf _ _ _ _ hb] at h1;simp at h1
set_option maxRecDepth 100000 in
theorem plist_any {E:PE}(hE:E.Ok) {f:Nat}(hf:f≤100000000) (s:PS) (l:List Bs) (s':PS) (hr:parS E.tk f s=some (l,s')) (hs:s.at_≤E.m) (bp bf bx:Nat) (nm:Bs) (hne:bp≠bf) (w_0:World) (hb:w_0.heap[bp]? = some (pO E s)) (he:w_0.heap[bf]? = some (fnB nm none 0 0 none 0 0)) (hx:Blk bx (pxO bp) w_0) (hX:TkX E w_0) :
  Calls Tryz.prog 86 #[.pointer (some ⟨bp,0,none⟩),.func (.func 87) #[] #[.pointer (some ⟨bf,0,none⟩),.pointer (some ⟨bx,0,none⟩)]] w_0 fun e w'=>∃A cap,Cp l.length cap∧e=.returned (.tuple #[])∧Keep (fun j=>j=bp∨j=bf) w_0 w'∧w'.heap[bp]? = some (pO E s')∧w'.heap[bf]? = some (fnB nm A l.length cap none 0 0)∧RdF (fun k=>w_0.heap.size≤k) A (xG l) w':=by
 have hxp:bx≠bp:=fun e=>by subst e;have h9:=hx.symm.trans hb;simp at h9
 have hxe:bx≠bf:=fun e=>by subst e;have h9:=hx.symm.trans he;simp at h9
 unfold parS at hr;refine zC (args:=[.pointer (some ⟨bp,0,none⟩),.func (.func 87) #[] #[.pointer (some ⟨bf,0,none⟩),.pointer (some ⟨bx,0,none⟩)]]) Tryz.func86 V 14 V (Nat.le_of_ble_eq_true V)<|Z2 0 1 V V<|zI (H':=Hp (fun k=>k=bp∨k=bf) w_0 [(bp,pO E s),(bf,fnB nm none 0 0 none 0 0)] [⟨.slice none 0 0,9,1,0,xG []⟩] (fun u=>Blk bx (pxO bp) u∧TkX E u)) (fun u hu=>?_) ?_
 ·subst hu;exact Hp.nil (Hp.start2 hb he hne ⟨fun k=>k=bx∨k=E.g,fun k hk=>by rcases hk with rfl|rfl;exact⟨(Array.getElem?_eq_some_iff.1 hx).1,hxp,hxe⟩;exact⟨hX.lt,hX.ne hb,hX.neF he⟩,fun u hu=>⟨(hu _ (.inl rfl)).trans hx,hX.foot (hu _ (.inr rfl))⟩⟩) _ _
 refine zY<|zY<|zX<|Zm V V<|xA E hE s hs [41] bp (fun _ h=>h.2) 0 .none V  V V ?_;refine ZT<|zQ V (fun h5=>?_) (fun h5=>?_)
 ·rw[h5] at hr ⊢;cases hr;refine zO<|zV<|wq_ret0 V (fun w hw=>?_);exact⟨none,0,wS,rfl,HpG.keep hw,HpG.blkL (j:=0) hw rfl,HpG.blkL (j:=1) hw rfl,RdF.nil⟩
 ·rw[h5] at hr ⊢;refine zJ<|zR<|zB<|xW (ι:={j:PlJ // PlOk E f l s' j}) (fun _=>[(0,.pointer (some ⟨bp,0,none⟩)),(1,.func (.func 87) #[] #[.pointer (some ⟨bf,0,none⟩),.pointer (some ⟨bx,0,none⟩)])]) (fun j=>Hp (fun k=>k=bp∨k=bf) w_0 [(bp,pO E j.1.s),(bf,fnB nm j.1.A j.1.acc.length j.1.cap none 0 0)] [⟨.slice j.1.A j.1.acc.length j.1.cap,9,1,j.1.acc.length,xG j.1.acc⟩] (fun u=>Blk bx (pxO bp) u∧TkX E u)) (fun j=>j.1.k) ⟨⟨f,[],s,none,0⟩,⟨hr,by simp,hs,Nat.le_refl _⟩⟩ ?_ ?_ (fun j=>?_)
  ·exact .cons V<|.cons V<|.nil
  ·exact fun w h=>h
  obtain⟨⟨k,acc,s,A,cap⟩,⟨hrun,hk,hs,hcap⟩⟩:=j;dsimp only at hrun hk hs hcap ⊢
  cases k with
  | zero=>cases hrun
  | succ k=>?_
  have hn:=uB hE.kind hs;refine zY<|zY<|zX<|Zm V V<|wl_ok E s bp 0 .none V  V V<|ZT<|zQ V (fun h7=>?_) (fun h7=>?_)
  ·have h7:s.err=0:=of_decide_eq_true h7;have hrun:=parF_go hrun h7;refine zJ<|zR<|zB<|zY<|Z3r 0 1 7 V V V<|Zm V V<|xY (ι:={i:Option Addr×Nat // acc.length+1≤i.2}) (val:=fun _=>.tuple #[]) (H':=fun i=>Hp (fun k=>k=bp∨k=bf) w_0 [(bp,pO E (yF E.tk s).2),(bf,fnB nm i.1.1 (acc.length+1) i.1.2 none 0 0)] [⟨.slice i.1.1 (acc.length+1) i.1.2,9,1,acc.length+1,xG (acc++[(yF E.tk s).1])⟩] (fun u=>Blk bx (pxO bp) u∧TkX E u)) .none V  (sX (us:=[]) (vs:=[]) (cs:=[.pointer (some ⟨bf,0,none⟩),.pointer (some ⟨bx,0,none⟩)]) (by kernel_rfl) V V (fun w hw=>(pelem_any hE s hs bp bf bx nm A cap acc (by omega) (fun _ h=>h) w hw).mono fun e w' ⟨A',cap',e1,e2,e3⟩=>⟨_,e1,⟨(A',cap'),e2⟩,rfl,e3⟩)) (fun i=>?_);obtain⟨⟨A',cap'⟩,hcap'⟩:=i;dsimp only at hcap' ⊢;refine ZX<|zY<|Z3r 0 1 7 V V V<|Zm V V<|xA E hE (yF E.tk s).2 hn.1 [41] bp (fun _ h=>h.2) 0 .none V  V V ?_;refine ZT<|zQ V (fun h11=>?_) (fun h11=>?_)
   ·rw[h11] at hrun ⊢;cases hrun;refine zO<|zV<|zS<|zV<|zS<|wq_ret0 V (fun w hw=>?_);exact⟨A',cap',by rw[List.length_append];exact HpG.rowCp (j:=0) hw rfl,rfl,HpG.keep hw,HpG.blkL (j:=0) hw rfl,by rw[List.length_append];exact HpG.blkL (j:=1) hw rfl,HpG.rowF (j:=0) hw rfl⟩
   ·rw[h11] at hrun ⊢;refine zJ<|zR<|Z4r 0 1 7 11 V V V V<|Zm V V<|wV E hE (yF E.tk s).2 hn.1 [44] bp (fun _ h=>h.2) 0 .none V  V V ?_;refine zN<|zG<|yH (ι:={j:PlJ // PlOk E f l s' j}) ⟨⟨k,acc++[(yF E.tk s).1],yB E.tk [44] (yF E.tk s).2,A',cap'⟩,⟨hrun,by rw[List.length_append];simp;omega,(wT hE.kind [44] hn.1).1,by rw[List.length_append];exact hcap'⟩⟩ (by show k<k+1;omega) (O2 V V) (fun w h=>?_);dsimp only;rw[List.length_append];exact h
  ·have h7:s.err≠0:=of_decide_eq_false h7;obtain⟨rfl,rfl⟩:l=acc∧s'=s:=by have:=parF_err hrun h7;cases this;exact⟨rfl,rfl⟩
   refine yC<|zP<|zP<|yD<|xV V (fun w hw=>?_);exact⟨A,cap,HpG.rowCp (j:=0) hw rfl,rfl,HpG.keep hw,HpG.blkL (j:=0) hw rfl,HpG.blkL (j:=1) hw rfl,HpG.rowF (j:=0) hw rfl⟩
def FnPost (E:PE) (bp:Nat) (w:World) (x:Fn) (s':PS) (e:Ending) (w':World):Prop:=∃a,e=.returned (.agg (fnOf x a).toArray)∧Keep (fun j=>j=bp) w w'∧w'.heap[bp]? = some (pO E s')∧fnsK (fun k=>w.heap.size≤k) w' x a
set_option maxRecDepth 100000 in
theorem function_any {E:PE}(hE:E.Ok) {fe f:Nat}(hf:f≤100000000) (IH:SOk E fe f) (s:PS) (x:Fn) (s':PS) (hr:fnS E.tk (EE E fe) f s=some (x,s')) (hs:s.at_≤E.m) (bp:Nat) (w_0:World) (hb:w_0.heap[bp]? = some (pO E s)) (hX:TkX E w_0) :
  Calls Tryz.prog 50 #[.pointer (some ⟨bp,0,none⟩)] w_0 (FnPost E bp w_0 x s'):=by
 obtain⟨l,s1,hl1,hr⟩:=yZ hr;obtain⟨b,s2,hb1,hr⟩:=yZ hr;cases hr;have h1:=wT hE.kind kFn hs;have h2:=uB hE.kind h1.1;have h3:=wT hE.kind [40] h2.1;have hs1:=parS_g hE.kind f _ h3.1 l s1 hl1;refine zC (args:=[.pointer (some ⟨bp,0,none⟩)]) Tryz.func50 V 18 V (Nat.le_of_ble_eq_true V)<|Z1 0 V<|zI (H':=Hp (fun k=>k=bp) w_0 [(bp,pO E s)] [] (TkX E)) (fun u hu=>?_) ?_
 ·subst hu;exact Hp.startP hb hX
 refine zY<|zX<|zA .none V (wQ V V) (fun b1=>?_);refine zA .none V (yR (z:=.agg #[.string ⟨#[]⟩,.slice none 0 0,.slice none 0 0]) (cs:=[.string ⟨#[]⟩,.slice none 0 0,.slice none 0 0]) (by kernel_rfl) V) (fun b2=>?_);refine ZX<|zX<|ZF V (zW 1 V V V U86 V)<|wV E hE s hs kFn bp (fun _ h=>h) 2 .none V  V V ?_;refine ZX<|Z3r 0 1 2 V V V<|ZF V (zW 1 V V V U86 V)<|wl_name E hE (yB E.tk kFn s) h1.1 bp (fun _ h=>h) 2 .none V  V V ?_;refine ZF V (yV [.string ⟨#[]⟩,.slice none 0 0,.slice none 0 0] [(0,1),(1,1),(2,1)] V (by kernel_rfl) (by kernel_rfl) V) ?_;refine zA .none V (yR (z:=.agg #[.string ⟨#[]⟩,.slice none 0 0,.slice none 0 0]) (cs:=[.string ⟨#[]⟩,.slice none 0 0,.slice none 0 0]) (by kernel_rfl) V) (fun b3=>?_);refine ZR 0 V V V V V (by kernel_rfl) ?_;refine ZX<|Z4r 0 1 2 3 V V V V<|ZF V (zW 2 V V V U86 V)<|wV E hE (yF E.tk (yB E.tk kFn s)).2 h2.1 [40] bp (fun _ h=>h) 3 .none V  V V ?_;refine ZX<|Z4r 0 1 2 3 V V V V<|ZF V (zW 2 V V V U86 V)<|ZF V (sU V V)<|xY (ι:={i:(Option Addr×Nat)×(Nat→Prop) // Cp l.length i.1.2∧∀k,i.2 k→w_0.heap.size≤k}) (val:=fun _=>.tuple #[]) (H':=fun i=>Hp (fun k=>k=bp) w_0 [(b3,fnB (yF E.tk (yB E.tk kFn s)).1 i.1.1.1 l.length i.1.1.2 none 0 0),(b2,bk 62 (fnC [] none 0 0 none 0 0)),(b1,pxO bp),(bp,pO E s1)] [] (fun u=>RdF i.1.2 i.1.1.1 (xG l) u∧TkX E u)) .none V  (wU (by kernel_rfl) V (fun w hw=>?_)) (fun i=>?_)
 ·refine (plist_any hE hf _ l s1 hl1 h3.1 bp b3 b1 _ (HpG.ne hw (i:=3) (j:=0) V V V) w (HpG.blkL hw (j:=3) V) (HpG.blkL hw (j:=0) V) (HpG.blkL hw (j:=2) V) (HpG.x hw)).mono fun e w' ⟨A,cap,e0,e1,e2,e3,e4,e5⟩=>?_;obtain⟨F,hF,hp⟩:=Hp.call2T (T:=fun F u=>RdF F A (xG l) u) RdF.lies hw (vZ hb) (i:=3) (j:=0) rfl rfl rfl e2 e3 e4 e5;exact⟨_,e1,⟨((A,cap),F),e0,hF⟩,rfl,hp⟩
 obtain⟨⟨⟨A,cap⟩,F⟩,hcap,hF⟩:=i;dsimp only at hcap hF ⊢;refine ZX<|Z4r 0 1 2 3 V V V V<|ZF V (zW 2 V V V U86 V)<|wl_bl E s1 b s' bp 3 (vZ hb) (fun _ h=>h.2) (fun w h1 h2=>IH.blk s1 b s' hb1 hs1.2.1 bp w h1 h2) .none V  (by kernel_rfl) V V (fun A2 cap2 F2 hF2=>?_);refine ZF V (Y62x2 V) ?_;refine ZS 0 V V V V V (by kernel_rfl) ?_;refine ZX<|Z4r 0 1 2 3 V V V V<|ZF V (zF 0 V V U62 V (by kernel_rfl)) ?_;refine ZR 1 V V V V V (by kernel_rfl) ?_;refine ZT<|zO<|yQ V V 1 V U62 V (by kernel_rfl) (fun w hw=>?_);exact⟨⟨A,A2,cap,cap2⟩,rfl,HpG.keep hw,HpG.blkL (j:=3) hw rfl,hcap,(HpG.x hw).1.1,RdF.lies.mono hF (HpG.x hw).2.1,(xJ.lies.mono hF2 (HpG.x hw).1).2⟩
end Go.Proofs.YtfpkpnkdnammnaaGreatDoor
