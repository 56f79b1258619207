import Derived.Test.YtfpkpnkdnammnaaGreatDoorSxM
import Derived.Test.YtfpkpnkdnammnaaGreatDoorMge
namespace Go.Proofs.YtfpkpnkdnammnaaGreatDoor
open Go.RowKit
def mapE (tab:List (Bs×Nat)):List MapEntry:=tab.zipIdx.map fun p=>{ key:=.string ⟨p.1.1.toArray⟩,val:=.int .i64 p.1.2,born:=p.2 }
abbrev mapO (tab:List (Bs×Nat)):Obj:=.map (mapE tab).toArray tab.length
theorem mapE_push (tab:List (Bs×Nat)) (k:Bs) (v:Nat):(mapE tab).toArray.push { key:=.string ⟨k.toArray⟩,val:=.int .i64 v,born:=tab.length }=(mapE (tab++[(k,v)])).toArray:=by
 simp[mapE,List.zipIdx_append]
theorem same_str (a b:Bs):Instr.sameNow .string (.string ⟨a.toArray⟩) (.string ⟨b.toArray⟩)=some (decide (a=b)):=by
 show some ((⟨a.toArray⟩:ByteArray)==⟨b.toArray⟩)=_;congr 1;rw[Jl];show (a.toArray==b.toArray)=true↔_;simp
theorem find_tab (key:Bs):∀(tab:List (Bs×Nat)) (i j:Nat),∃n,Instr.findNow .string (.string ⟨key.toArray⟩) ((tab.zipIdx i).map fun p=>{ key:=.string ⟨p.1.1.toArray⟩,val:=.int .i64 p.1.2,born:=p.2 }) j=some ((vC key tab).map fun v=>(n,.int .i64 v))
 | [],_,_=>⟨0,rfl⟩
 | (k,v)::tab,i,j=>by
  simp only[List.zipIdx_cons,Kq,Instr.findNow,same_str,vC]
  by_cases h:key=k
  ·exact⟨j,by simp[h]⟩
  ·obtain⟨n,hn⟩:=find_tab key tab (i+1) (j+1);exact⟨n,by simp only[h,decide_false,if_false];exact hn⟩
section
variable {P:Program}{w:World}
theorem run_updateS {T K E:TypeId}{r:Nat}{tab:List (Bs×Nat)}{key:Bs}{v:Nat}(hT:P.underlying T=some (.map K E)) (hK:P.underlying K=some .string) (hr:w.heap[r]? = some (mapO tab)) (hf:vC key tab=none) :
  (Instr.mapUpdate T (.map (some r)) (.string ⟨key.toArray⟩) (.int .i64 v)).run P w=.ok () { w with heap:=w.heap.setIfInBounds r (mapO (tab++[(key,v)])) }:=by
 have hc:(Instr.checkKey false 10000 K (.string ⟨key.toArray⟩)).run P w=.ok () w:=MapKept.run_checkKey (k:=.string ⟨key.toArray⟩) hK (by simp[MapKept.IsKey]) false 9999;obtain⟨n,hn⟩:=find_tab key tab 0 0;rw[hf] at hn;have hn':Instr.findNow .string (.string ⟨key.toArray⟩) (mapE tab).toArray.toList 0=some none:=hn;have h:mapO (tab++[(key,v)])=.map ((mapE tab).toArray.push { key:=.string ⟨key.toArray⟩,val:=.int .i64 v,born:=tab.length }) (tab.length+1):=by rw[mapE_push];simp
 rw[h];simp[Instr.mapUpdate,run_underlying hT,MapKept.run_getObj_map hr,hc,MapKept.run_findKey hK hn',MapKept.run_setObj_map _ hr,Result.andThen]
theorem run_lookupS {T K E:TypeId}{r:Nat}{tab:List (Bs×Nat)}{key:Bs}(hT:P.underlying T=some (.map K E)) (hK:P.underlying K=some .string) (hE:∀w,(zeroValue E).run P w=.ok (.int .i64 0) w) (hr:w.heap[r]? = some (mapO tab)) :
  (Instr.lookup T (.map (some r)) (.string ⟨key.toArray⟩) true).run P w=.ok (.tuple #[.int .i64 ((vC key tab).getD 0:Nat),.bool (vC key tab).isSome]) w:=by
 have hc:(Instr.checkKey (mapE tab).isEmpty 10000 K (.string ⟨key.toArray⟩)).run P w=.ok () w:=MapKept.run_checkKey (k:=.string ⟨key.toArray⟩) hK (by simp[MapKept.IsKey]) _ 9999;obtain⟨n,hn⟩:=find_tab key tab 0 0;have hn':Instr.findNow .string (.string ⟨key.toArray⟩) (mapE tab) 0=some ((vC key tab).map fun v=>(n,.int .i64 v)):=hn
 cases hl:vC key tab with
 | none=>rw[hl] at hn';simp[Instr.lookup,run_underlying hT,MapKept.run_getObj_map hr,hc,MapKept.run_findKey hK hn',hE,Result.andThen]
 | some v=>rw[hl] at hn';simp[Instr.lookup,run_underlying hT,MapKept.run_getObj_map hr,hc,MapKept.run_findKey hK hn',Result.andThen]
end
section
variable {P:Program}{n:Nat}{m:List (Nat×Value)}{ty:TypeId}{G B:Nat→Prop}{w0:World}{L:List (Nat×Obj)}{R:List Rw}{X:World→Prop}
theorem nf_makeMapS {t:TypeId}:NF P (.makeMap t none) ty n m (mapO []) (fun g=>.map (some g)):=nf_makeMap
theorem wC {x y z:Operand}{T K E:TypeId}{g:Nat}{tab:List (Bs×Nat)}{key:Bs}{v:Nat}(k:Nat) (hx:ev m x=some (.map (some g))) (hy:ev m y=some (.string ⟨key.toArray⟩)) (hz:ev m z=some (.int .i64 v)) (hk:L[k]? = some (g,mapO tab)) (hT:P.underlying T=some (.map K E)) (hK:P.underlying K=some .string) (hf:vC key tab=none) :
  CF P (.insert T x y z) ty n m (HpG G B w0 L R X) (fun _:Unit=>undef) (fun _=>HpG G B w0 (L.set k (g,mapO (tab++[(key,v)]))) R X):=fun a w d pos af gd hs hw=>by
 have hr:=hw.own _ (Ju hk);dsimp only at hr;have hrun:=run_updateS (v:=v) hT hK hr hf;have h2:=MapKept.heap_set (o':=mapO (tab++[(key,v)])) hr
 have hex:(execOp a.eval ⟨d,.insert T x y z,ty,pos,af,gd⟩).run P w=.ok .skip { w with heap:=w.heap.setIfInBounds g (mapO (tab++[(key,v)])) }:=by
  simp[execOp,hs.ev hx,hs.ev hy,hs.ev hz,hrun,Result.andThen]
 show Ch _ _ _ _ _;unfold Ch;rw[hex];exact⟨(),rfl,hw.turn hk ⟨rfl,rfl,rfl,by simp,fun j _ hne=>h2.2 j hne⟩ h2.1⟩
def MapF (F:Nat→Prop) (g:Nat) (tab:List (Bs×Nat)) (w:World):Prop:=F g∧g<w.heap.size∧w.heap[g]? = some (mapO tab)
theorem yf_lookupS {H:World→Prop}{x y:Operand}{T K E:TypeId}{g:Nat}{tab:List (Bs×Nat)}{key:Bs}(hx:ev m x=some (.map (some g))) (hy:ev m y=some (.string ⟨key.toArray⟩)) (hr:∀w,H w→w.heap[g]? = some (mapO tab)) (hT:P.underlying T=some (.map K E)) (hK:P.underlying K=some .string) (hE:∀w,(zeroValue E).run P w=.ok (.int .i64 0) w) :
  YF P (.lookup T x y true) ty n m H (.tuple #[.int .i64 ((vC key tab).getD 0:Nat),.bool (vC key tab).isSome]):=fun a w d pos af gd hs hw=>by
 have:=run_lookupS (key:=key) hT hK hE (hr w hw);simp[Yl,execOp,hs.ev hx,hs.ev hy,this]
end
end Go.Proofs.YtfpkpnkdnammnaaGreatDoor
