import Derived.Test.YtkaepknpplhgkaaGreatDoorMap
import Derived.Test.YtkaepknpplhgkaaGreatDoorMaq
import Derived.Test.YtkaepknpplhgkaaGreatDoorMaj
import Derived.Test.YtkaepknpplhgkaaGreatDoorAlF
namespace Go.Proofs.YtkaepknpplhgkaaGreatDoor
open Go.RowKit
theorem q5_cell {F:Nat→Prop}{A:Option Addr}{l:List Q5}{w:World}{b off i j o:Nat}{q:Q5}{v:Value}(h:RdF F A (q5S l) w) (hA:A=some ⟨b,off,none⟩) (hq:l[i]? = some q) (ho:o=off+i*5+j) (hv:(q5C q)[j]? = some v):w.cell? ⟨b,o,none⟩=some v:=by
 subst hA;have h1:=q5S_at hq hv
 obtain⟨b',off',e,_,_,hc⟩:=h (by
  have:=(Jx.1 h1).1
  omega)
 cases e;have:=hc (i*5+j) (Jx.1 h1).1;rw[ho,Nat.add_assoc,this,Km,h1];rfl
end Go.Proofs.YtkaepknpplhgkaaGreatDoor
