/- Made: a block of statements. -/
import Derived.Test.YtfpkpnkdnammnaaGreatDoorMgQ
namespace Go.Proofs.YtfpkpnkdnammnaaGreatDoor
open Go.RowKit
/-- What holds while calls turn the maker. -/
def GK2 (M:GM) (E:GE) (nm:List Bs) (F:Nat→Prop) (bp:Nat) (u:World):Prop:=GJ M E nm bp u∧GF M E F u
theorem GK2.stab {M:GM} {E:GE} {nm:List Bs} {F:Nat→Prop} {bp:Nat}:wD (GK2 M E nm F bp):=fun w ob ⟨h1,h2⟩=>⟨GJ.stab w ob h1,GF.lies.ext h2 (Ext.alloc (Ext.refl w) ob)⟩
theorem GK2.turn {M:GM} {E:GE} {s:GS} {nm:List Bs} {F:Nat→Prop} {bp:Nat} {w w':World} (h:GK2 M E nm F bp w) (hF:∀k,F k→k≠bp) (hs:s.names=nm) (hk:Keep (fun j=>j=bp) w w') (hb:w'.heap[bp]? = some (gO M E s)):GK2 M E nm F bp w':=⟨⟨s,hs,hb⟩,GF.lies.keep h.2 hk hF⟩
theorem GF.nm {M:GM} {E:GE} {F:Nat→Prop} {u:World} (p:Option Addr×Nat) (h:GF M E F u):GF (M.nm p) E F u:=⟨h.l,h.fr,h.fs⟩
end Go.Proofs.YtfpkpnkdnammnaaGreatDoor
