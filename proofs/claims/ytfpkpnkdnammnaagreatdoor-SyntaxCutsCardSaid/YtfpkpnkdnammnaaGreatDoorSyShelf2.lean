import Derived.Shelf.Strings.OnBuilder
import Derived.Shelf.Strings.BuilderK
import Derived.Shelf.Strings.Repeat
import Derived.Shelf.Strconv.Itoa3
import Derived.Shelf.LaysM
import Derived.Test.YtfpkpnkdnammnaaGreatDoorProg
namespace Go.Proofs
open Go.Shelf
def Tryz.lays156_ren:Go.Shelf.Ren:=⟨fun|156=>43|165=>78|166=>76|169=>45|240=>116|241=>120|276=>140|277=>144|n=>n,fun|31=>22|9=>9|3=>3|4=>4|0=>0|20=>20|72=>78|76=>126|70=>76|37=>54|75=>125|127=>131|164=>170|5=>5|80=>84|n=>n,fun|n=>n⟩
theorem Tryz.lays156:Go.Proofs.Lays.n156 Tryz.prog Tryz.lays156_ren:={
 mixed:=by kernel_rfl
 f156:=Tryz.func43.trans (congrArg some (by kernel_rfl))
 f165:=Tryz.func78.trans (congrArg some (by kernel_rfl))
 f166:=Tryz.func76.trans (congrArg some (by kernel_rfl))
 f169:=Tryz.func45.trans (congrArg some (by kernel_rfl))
 f240:=Tryz.func116.trans (congrArg some (by kernel_rfl))
 f241:=Tryz.func120.trans (congrArg some (by kernel_rfl))
 f276:=Tryz.func140.trans (congrArg some (by kernel_rfl))
 f277:=Tryz.func144.trans (congrArg some (by kernel_rfl))
 t0:=Tryz.underlying0
 a0:=Tryz.isAgg0
 z0:=Tryz.sizeOf0
 v0:=Tryz.zeroValue0
 t3:=Tryz.underlying3
 a3:=Tryz.isAgg3
 z3:=Tryz.sizeOf3
 v3:=Tryz.zeroValue3
 t4:=Tryz.underlying4
 a4:=Tryz.isAgg4
 z4:=Tryz.sizeOf4
 v4:=Tryz.zeroValue4
 t9:=Tryz.underlying9
 a9:=Tryz.isAgg9
 z9:=Tryz.sizeOf9
 v9:=Tryz.zeroValue9
 t20:=Tryz.underlying20
 a20:=Tryz.isAgg20
 z20:=Tryz.sizeOf20
 v20:=Tryz.zeroValue20
 t31:=Tryz.underlying22
 a31:=Tryz.isAgg22
 z31:=Tryz.sizeOf22
 v31:=Tryz.zeroValue22
 t37:=Tryz.underlying54
 a37:=Tryz.isAgg54
 z37:=Tryz.sizeOf54
 v37:=Tryz.zeroValue54
 t70:=Tryz.underlying76
 a70:=Tryz.isAgg76
 z70:=Tryz.sizeOf76
 v70:=Tryz.zeroValue76
 t72:=Tryz.underlying78
 a72:=Tryz.isAgg78
 z72:=Tryz.sizeOf78
 v72:=Tryz.zeroValue78
 t75:=Tryz.underlying125
 a75:=Tryz.isAgg125
 z75:=Tryz.sizeOf125
 v75:=Tryz.zeroValue125
 t76:=Tryz.underlying126
 a76:=Tryz.isAgg126
 z76:=Tryz.sizeOf126
 v76:=Tryz.zeroValue126
 t127:=Tryz.underlying131
 a127:=Tryz.isAgg131
 z127:=Tryz.sizeOf131
 v127:=Tryz.zeroValue131
 t164:=Tryz.underlying170
 a164:=Tryz.isAgg170
 z164:=Tryz.sizeOf170
 v164:=Tryz.zeroValue170 }
theorem Tryz.Builder_Extra_156:Builder.Extra Tryz.prog Tryz.lays156_ren:={
 sizeBuilder:=by kernel_rfl
 liesBuilder:=by kernel_rfl
 t5:=Tryz.underlying5
 a5:=Tryz.isAgg5
 z5:=Tryz.sizeOf5
 v5:=Tryz.zeroValue5
 infoByte:=by kernel_rfl
 cellsByte:=by kernel_rfl
 sizeByte:=by kernel_rfl
 neB5:=by decide }
open Go.RowKit in
theorem Tryz.strings_Join_none (a:Option Addr) (c:Nat) (sep:ByteArray) (w:World) :
  Calls Tryz.prog 43 #[.slice a 0 c,.string sep] w fun e w'=>e=.returned (.string ⟨#[]⟩)∧w'=w:=Any.strings_Join_none Tryz.lays156 Tryz.Builder_Extra_156 a c sep w
open Go.RowKit in
theorem Tryz.strings_Join (bk o c:Nat) (xs:List ByteArray) (sep:ByteArray) (w:World) (hcells:∀(j:Nat) x,xs[j]? = some x→w.cell? ⟨bk,o+j,none⟩=some (.string x)) (hbk:bk<w.heap.size) (hN:xs.length≤140737488355328) (hcap:xs.length≤c) (hlen:(Lib.join (xs.map (·.data.toList)) sep.data.toList).length≤140737488355328) :
  Calls Tryz.prog 43 #[.slice (some ⟨bk,o,none⟩) xs.length c,.string sep] w fun e w'=>e=.returned (.string ⟨(Lib.join (xs.map (·.data.toList)) sep.data.toList).toArray⟩)∧Below w.heap.size w w':=Any.strings_Join Tryz.lays156 Tryz.Builder_Extra_156 bk o c xs sep w hcells hbk hN hcap hlen
def Tryz.lays283_ren:Go.Shelf.Ren:=⟨fun|283=>169|n=>n,fun|3=>3|9=>9|4=>4|n=>n,fun|n=>n⟩
theorem Tryz.lays283:Go.Proofs.Lays.n283 Tryz.prog Tryz.lays283_ren:={
 mixed:=by kernel_rfl
 f283:=Tryz.func169.trans (congrArg some (by kernel_rfl))
 t3:=Tryz.underlying3
 a3:=Tryz.isAgg3
 z3:=Tryz.sizeOf3
 v3:=Tryz.zeroValue3
 t4:=Tryz.underlying4
 a4:=Tryz.isAgg4
 z4:=Tryz.sizeOf4
 v4:=Tryz.zeroValue4
 t9:=Tryz.underlying9
 a9:=Tryz.isAgg9
 z9:=Tryz.sizeOf9
 v9:=Tryz.zeroValue9 }
open Go.Lib in
theorem Tryz.internal_strconv_small (i:Nat) (h:i<100) (w:World) :
  Calls Tryz.prog 169 #[.int .i64 i] w fun e w'=>e=.returned (.string ⟨(Lib.decDigits i).toArray⟩)∧w'=w:=Any.internal_strconv_small Tryz.lays283 i h w
def Tryz.laysM284_ren:Go.Shelf.Ren:=⟨fun|284=>170|129=>180|317=>179|318=>181|n=>n,fun|53=>53|3=>3|212=>203|0=>0|4=>4|46=>154|5=>5|9=>9|n=>n,fun|17=>3|n=>n⟩
theorem Tryz.laysM284:Go.Proofs.LaysM.n284 Tryz.prog Tryz.laysM284_ren:={
 mixed:=by kernel_rfl
 f129:=Tryz.func180.trans (congrArg some (by kernel_rfl))
 f284:=Tryz.func170.trans (congrArg some (by kernel_rfl))
 f317:=Tryz.func179.trans (congrArg some (by kernel_rfl))
 f318:=Tryz.func181.trans (congrArg some (by kernel_rfl))
 t0:=Tryz.underlying0
 a0:=Tryz.isAgg0
 z0:=Tryz.sizeOf0
 v0:=Tryz.zeroValue0
 t3:=Tryz.underlying3
 a3:=Tryz.isAgg3
 z3:=Tryz.sizeOf3
 v3:=Tryz.zeroValue3
 t4:=Tryz.underlying4
 a4:=Tryz.isAgg4
 z4:=Tryz.sizeOf4
 v4:=Tryz.zeroValue4
 t5:=Tryz.underlying5
 a5:=Tryz.isAgg5
 z5:=Tryz.sizeOf5
 v5:=Tryz.zeroValue5
 t9:=Tryz.underlying9
 a9:=Tryz.isAgg9
 z9:=Tryz.sizeOf9
 v9:=Tryz.zeroValue9
 t46:=Tryz.underlying154
 a46:=Tryz.isAgg154
 z46:=Tryz.sizeOf154
 v46:=Tryz.zeroValue154
 t53:=Tryz.underlying53
 a53:=Tryz.isAgg53
 z53:=Tryz.sizeOf53
 v53:=Tryz.zeroValue53
 t212:=Tryz.underlying203
 a212:=Tryz.isAgg203
 z212:=Tryz.sizeOf203
 v212:=Tryz.zeroValue203
 g17:=by kernel_rfl
 i0:=by kernel_rfl
 i3:=by kernel_rfl
 i4:=by kernel_rfl
 i5:=by kernel_rfl
 i9:=by kernel_rfl
 i46:=by kernel_rfl
 i53:=by kernel_rfl
 i212:=by kernel_rfl
 m17:=by kernel_rfl }
open Go.Lib in
theorem Tryz.internal_strconv_numDigits (u:Nat) (h1:1≤u) (h2:u<18446744073709551616) (w:World) (htab:Lib.TabIs Tryz.prog w "internal/strconv.uint64pow10" .u64 Lib.pow10Tab) :
  Calls Tryz.prog 170 #[.int .u64 u] w fun e w'=>e=.returned (.int .i64 (Lib.nDigits u))∧w'=w:=Any.internal_strconv_numDigits Tryz.laysM284 u h1 h2 w htab
def Tryz.lays285_ren:Go.Shelf.Ren:=⟨fun|285=>171|n=>n,fun|37=>54|53=>53|3=>3|4=>4|51=>50|9=>9|5=>5|0=>0|n=>n,fun|n=>n⟩
theorem Tryz.lays285:Go.Proofs.Lays.n285 Tryz.prog Tryz.lays285_ren:={
 mixed:=by kernel_rfl
 f285:=Tryz.func171.trans (congrArg some (by kernel_rfl))
 t0:=Tryz.underlying0
 a0:=Tryz.isAgg0
 z0:=Tryz.sizeOf0
 v0:=Tryz.zeroValue0
 t3:=Tryz.underlying3
 a3:=Tryz.isAgg3
 z3:=Tryz.sizeOf3
 v3:=Tryz.zeroValue3
 t4:=Tryz.underlying4
 a4:=Tryz.isAgg4
 z4:=Tryz.sizeOf4
 v4:=Tryz.zeroValue4
 t5:=Tryz.underlying5
 a5:=Tryz.isAgg5
 z5:=Tryz.sizeOf5
 v5:=Tryz.zeroValue5
 t9:=Tryz.underlying9
 a9:=Tryz.isAgg9
 z9:=Tryz.sizeOf9
 v9:=Tryz.zeroValue9
 t37:=Tryz.underlying54
 a37:=Tryz.isAgg54
 z37:=Tryz.sizeOf54
 v37:=Tryz.zeroValue54
 t51:=Tryz.underlying50
 a51:=Tryz.isAgg50
 z51:=Tryz.sizeOf50
 v51:=Tryz.zeroValue50
 t53:=Tryz.underlying53
 a53:=Tryz.isAgg53
 z53:=Tryz.sizeOf53
 v53:=Tryz.zeroValue53 }
open Go.RowKit Go.Sort Go.Lib in
theorem Tryz.internal_strconv_formatBase10 (blk off cap:Nat) (u:Nat) (d:Array UInt8) (w:World) (hH:Holds (fun (b:UInt8)=>Value.int .u8 (b.toNat:Int)) w blk off d) (hu:u<10 ^ d.size) (hu64:u<18446744073709551616) (hsz:d.size<4611686018427387904) :
  Calls Tryz.prog 171 #[.slice (some ⟨blk,off,none⟩) d.size cap,.int .u64 u] w fun e w' =>
   e=.returned (.tuple #[])∧∃(n v':Nat) (dk:Array UInt8),w'=(putRow (fun (b:UInt8)=>Value.int .u8 (b.toNat:Int)) w blk off dk).drewN n∧FmtInv d.size u 0 v' dk:=Any.internal_strconv_formatBase10 Tryz.lays285 blk off cap u d w hH hu hu64 hsz
def Tryz.lays105_ren:Go.Shelf.Ren:=⟨fun|105=>77|212=>117|99=>118|165=>78|166=>76|170=>119|169=>45|263=>141|264=>142|206=>143|240=>116|241=>120|276=>140|277=>144|n=>n,fun|9=>9|3=>3|4=>4|20=>20|0=>0|46=>154|109=>155|5=>5|72=>78|76=>126|51=>50|146=>172|53=>53|148=>174|70=>76|37=>54|75=>125|127=>131|164=>170|80=>84|n=>n,fun|n=>n⟩
theorem Tryz.lays105:Go.Proofs.Lays.n105 Tryz.prog Tryz.lays105_ren:={
 mixed:=by kernel_rfl
 f99:=Tryz.func118.trans (congrArg some (by kernel_rfl))
 f105:=Tryz.func77.trans (congrArg some (by kernel_rfl))
 f165:=Tryz.func78.trans (congrArg some (by kernel_rfl))
 f166:=Tryz.func76.trans (congrArg some (by kernel_rfl))
 f169:=Tryz.func45.trans (congrArg some (by kernel_rfl))
 f170:=Tryz.func119.trans (congrArg some (by kernel_rfl))
 f206:=Tryz.func143.trans (congrArg some (by kernel_rfl))
 f212:=Tryz.func117.trans (congrArg some (by kernel_rfl))
 f240:=Tryz.func116.trans (congrArg some (by kernel_rfl))
 f241:=Tryz.func120.trans (congrArg some (by kernel_rfl))
 f263:=Tryz.func141.trans (congrArg some (by kernel_rfl))
 f264:=Tryz.func142.trans (congrArg some (by kernel_rfl))
 f276:=Tryz.func140.trans (congrArg some (by kernel_rfl))
 f277:=Tryz.func144.trans (congrArg some (by kernel_rfl))
 t0:=Tryz.underlying0
 a0:=Tryz.isAgg0
 z0:=Tryz.sizeOf0
 v0:=Tryz.zeroValue0
 t3:=Tryz.underlying3
 a3:=Tryz.isAgg3
 z3:=Tryz.sizeOf3
 v3:=Tryz.zeroValue3
 t4:=Tryz.underlying4
 a4:=Tryz.isAgg4
 z4:=Tryz.sizeOf4
 v4:=Tryz.zeroValue4
 t5:=Tryz.underlying5
 a5:=Tryz.isAgg5
 z5:=Tryz.sizeOf5
 v5:=Tryz.zeroValue5
 t9:=Tryz.underlying9
 a9:=Tryz.isAgg9
 z9:=Tryz.sizeOf9
 v9:=Tryz.zeroValue9
 t20:=Tryz.underlying20
 a20:=Tryz.isAgg20
 z20:=Tryz.sizeOf20
 v20:=Tryz.zeroValue20
 t37:=Tryz.underlying54
 a37:=Tryz.isAgg54
 z37:=Tryz.sizeOf54
 v37:=Tryz.zeroValue54
 t46:=Tryz.underlying154
 a46:=Tryz.isAgg154
 z46:=Tryz.sizeOf154
 v46:=Tryz.zeroValue154
 t51:=Tryz.underlying50
 a51:=Tryz.isAgg50
 z51:=Tryz.sizeOf50
 v51:=Tryz.zeroValue50
 t53:=Tryz.underlying53
 a53:=Tryz.isAgg53
 z53:=Tryz.sizeOf53
 v53:=Tryz.zeroValue53
 t70:=Tryz.underlying76
 a70:=Tryz.isAgg76
 z70:=Tryz.sizeOf76
 v70:=Tryz.zeroValue76
 t72:=Tryz.underlying78
 a72:=Tryz.isAgg78
 z72:=Tryz.sizeOf78
 v72:=Tryz.zeroValue78
 t75:=Tryz.underlying125
 a75:=Tryz.isAgg125
 z75:=Tryz.sizeOf125
 v75:=Tryz.zeroValue125
 t76:=Tryz.underlying126
 a76:=Tryz.isAgg126
 z76:=Tryz.sizeOf126
 v76:=Tryz.zeroValue126
 t109:=Tryz.underlying155
 a109:=Tryz.isAgg155
 z109:=Tryz.sizeOf155
 v109:=Tryz.zeroValue155
 t127:=Tryz.underlying131
 a127:=Tryz.isAgg131
 z127:=Tryz.sizeOf131
 v127:=Tryz.zeroValue131
 t146:=Tryz.underlying172
 a146:=Tryz.isAgg172
 z146:=Tryz.sizeOf172
 v146:=Tryz.zeroValue172
 t148:=Tryz.underlying174
 a148:=Tryz.isAgg174
 z148:=Tryz.sizeOf174
 v148:=Tryz.zeroValue174
 t164:=Tryz.underlying170
 a164:=Tryz.isAgg170
 z164:=Tryz.sizeOf170
 v164:=Tryz.zeroValue170 }
theorem Tryz.Builder_Extra_105:Builder.Extra Tryz.prog Tryz.lays105_ren:={
 sizeBuilder:=by kernel_rfl
 liesBuilder:=by kernel_rfl
 t5:=Tryz.underlying5
 a5:=Tryz.isAgg5
 z5:=Tryz.sizeOf5
 v5:=Tryz.zeroValue5
 infoByte:=by kernel_rfl
 cellsByte:=by kernel_rfl
 sizeByte:=by kernel_rfl
 neB5:=by decide }
open Go.RowKit Go.Lib in
theorem Tryz.strings_Repeat (s:ByteArray) (c:Nat) (w:World) (hc:c≤9223372036854775807) (hlen:s.size*c≤140737488355328) :
  Calls Tryz.prog 77 #[.string s,.int .i64 c] w fun e w'=>e=.returned (.string ⟨(Lib.repeatL s.data.toList c).toArray⟩)∧Below w.heap.size w w':=Any.strings_Repeat Tryz.lays105 Tryz.Builder_Extra_105 s c w hc hlen
end Go.Proofs
