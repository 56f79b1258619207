import Derived.Test.YtkaepknpplhgkaaGreatDoorMaV
import Derived.Test.YtkaepknpplhgkaaGreatDoorMaU
import Derived.Shelf.Small.Strs
import Derived.Shelf.Strings.Prefix
import Derived.Shelf.Strings.Search3
import Derived.Shelf.Strings.Cut
import Derived.Shelf.Strings.Shaped
import Derived.Shelf.Strings.SplitShaped
import Derived.Shelf.Strings.Trim
import Derived.Shelf.Strings.SlTrimAscii
import Derived.Test.YtkaepknpplhgkaaGreatDoorProg
import Derived.ArgAppend
import Derived.Scope
import Derived.Lib.CountLaws
import Derived.Lib.CutLaws
import Derived.Lib.Split
namespace Go.Proofs
open Go.Shelf
def Tryz.lays160_ren:Go.Shelf.Ren:=⟨fun|160=>178|232=>221|231=>220|227=>222|234=>224|233=>223|236=>226|235=>225|228=>243|271=>245|151=>244|197=>211|120=>255|152=>254|260=>239|137=>126|119=>258|224=>241|225=>240|217=>181|266=>228|n=>n,fun|9=>9|4=>4|3=>3|5=>5|117=>247|116=>246|0=>0|124=>250|21=>21|105=>238|46=>42|119=>232|139=>283|138=>282|n=>n,fun|3=>4|4=>5|n=>n⟩
theorem Tryz.lays160:Go.Proofs.Lays.n160 Tryz.prog Tryz.lays160_ren:={
 mixed:=by kernel_rfl
 f119:=Tryz.func258.trans (congrArg some (by kernel_rfl))
 f120:=Tryz.func255.trans (congrArg some (by kernel_rfl))
 f137:=Tryz.func126.trans (congrArg some (by kernel_rfl))
 f151:=Tryz.func244.trans (congrArg some (by kernel_rfl))
 f152:=Tryz.func254.trans (congrArg some (by kernel_rfl))
 f160:=Tryz.func178.trans (congrArg some (by kernel_rfl))
 f197:=Tryz.func211.trans (congrArg some (by kernel_rfl))
 f217:=Tryz.func181.trans (congrArg some (by kernel_rfl))
 f224:=Tryz.func241.trans (congrArg some (by kernel_rfl))
 f225:=Tryz.func240.trans (congrArg some (by kernel_rfl))
 f227:=Tryz.func222.trans (congrArg some (by kernel_rfl))
 f228:=Tryz.func243.trans (congrArg some (by kernel_rfl))
 f231:=Tryz.func220.trans (congrArg some (by kernel_rfl))
 f232:=Tryz.func221.trans (congrArg some (by kernel_rfl))
 f233:=Tryz.func223.trans (congrArg some (by kernel_rfl))
 f234:=Tryz.func224.trans (congrArg some (by kernel_rfl))
 f235:=Tryz.func225.trans (congrArg some (by kernel_rfl))
 f236:=Tryz.func226.trans (congrArg some (by kernel_rfl))
 f260:=Tryz.func239.trans (congrArg some (by kernel_rfl))
 f266:=Tryz.func228.trans (congrArg some (by kernel_rfl))
 f271:=Tryz.func245.trans (congrArg some (by kernel_rfl))
 t0:=Tryz.underlying0
 a0:=Tryz.isAgg0
 z0:=Tryz.sizeOf0
 v0:=Tryz.zeroValue0
 t3:=Tryz.underlying3
 a3:=Tryz.isAgg3
 z3:=Tryz.sizeOf3
 v3:=Tryz.zeroValue3
 t4:=Tryz.underlying4
 a4:=Tryz.isAgg4
 z4:=Tryz.sizeOf4
 v4:=Tryz.zeroValue4
 t5:=Tryz.underlying5
 a5:=Tryz.isAgg5
 z5:=Tryz.sizeOf5
 v5:=Tryz.zeroValue5
 t9:=Tryz.underlying9
 a9:=Tryz.isAgg9
 z9:=Tryz.sizeOf9
 v9:=Tryz.zeroValue9
 t21:=Tryz.underlying21
 a21:=Tryz.isAgg21
 z21:=Tryz.sizeOf21
 v21:=Tryz.zeroValue21
 t46:=Tryz.underlying42
 a46:=Tryz.isAgg42
 z46:=Tryz.sizeOf42
 v46:=Tryz.zeroValue42
 t105:=Tryz.underlying238
 a105:=Tryz.isAgg238
 z105:=Tryz.sizeOf238
 v105:=Tryz.zeroValue238
 t116:=Tryz.underlying246
 a116:=Tryz.isAgg246
 z116:=Tryz.sizeOf246
 t117:=Tryz.underlying247
 a117:=Tryz.isAgg247
 z117:=Tryz.sizeOf247
 v117:=Tryz.zeroValue247
 t119:=Tryz.underlying232
 a119:=Tryz.isAgg232
 z119:=Tryz.sizeOf232
 t124:=Tryz.underlying250
 a124:=Tryz.isAgg250
 z124:=Tryz.sizeOf250
 v124:=Tryz.zeroValue250
 t138:=Tryz.underlying282
 a138:=Tryz.isAgg282
 z138:=Tryz.sizeOf282
 v138:=Tryz.zeroValue282
 t139:=Tryz.underlying283
 a139:=Tryz.isAgg283
 z139:=Tryz.sizeOf283
 v139:=Tryz.zeroValue283
 g3:=by kernel_rfl
 g4:=by kernel_rfl }
open Go.RowKit in
theorem Tryz.strings_Trim_one (s:ByteArray) (c:UInt8) (hc:c.toNat<128) (w:World) (hs:s.size≤9223372036854775807) :
  Calls Tryz.prog 178 #[.string s,.string ⟨#[c]⟩] w fun e w'=>e=.returned (.string ⟨(Lib.trimB s.data.toList c).toArray⟩)∧(w'=w∨w'=w.drew):=Any.strings_Trim_one Tryz.lays160 s c hc w hs
def Tryz.lays137_ren:Go.Shelf.Ren:=⟨fun|137=>126|217=>181|266=>228|n=>n,fun|9=>9|5=>5|3=>3|n=>n,fun|n=>n⟩
theorem Tryz.lays137:Go.Proofs.Lays.n137 Tryz.prog Tryz.lays137_ren:={
 mixed:=by kernel_rfl
 f137:=Tryz.func126.trans (congrArg some (by kernel_rfl))
 f217:=Tryz.func181.trans (congrArg some (by kernel_rfl))
 f266:=Tryz.func228.trans (congrArg some (by kernel_rfl))
 t3:=Tryz.underlying3
 a3:=Tryz.isAgg3
 z3:=Tryz.sizeOf3
 v3:=Tryz.zeroValue3
 t5:=Tryz.underlying5
 a5:=Tryz.isAgg5
 z5:=Tryz.sizeOf5
 v5:=Tryz.zeroValue5
 t9:=Tryz.underlying9
 a9:=Tryz.isAgg9
 z9:=Tryz.sizeOf9
 v9:=Tryz.zeroValue9 }
open Go.RowKit in
theorem Tryz.strings_IndexByte (s:ByteArray) (c:Int) (w:World) :
  Calls Tryz.prog 126 #[.string s,.int .u8 c] w fun e w'=>e=.returned (.int .i64 (Lib.indexByte s.data.toList c.toNat.toUInt8))∧w'=w:=Any.strings_IndexByte Tryz.lays137 s c w
def Tryz.lays144_ren:Go.Shelf.Ren:=⟨fun|144=>172|143=>171|219=>213|217=>181|225=>240|224=>241|267=>242|266=>228|314=>253|n=>n,fun|9=>9|4=>4|3=>3|5=>5|46=>42|146=>284|51=>22|n=>n,fun|1=>2|n=>n⟩
theorem Tryz.lays144:Go.Proofs.Lays.n144 Tryz.prog Tryz.lays144_ren:={
 mixed:=by kernel_rfl
 f143:=Tryz.func171.trans (congrArg some (by kernel_rfl))
 f144:=Tryz.func172.trans (congrArg some (by kernel_rfl))
 f217:=Tryz.func181.trans (congrArg some (by kernel_rfl))
 f219:=Tryz.func213.trans (congrArg some (by kernel_rfl))
 f224:=Tryz.func241.trans (congrArg some (by kernel_rfl))
 f225:=Tryz.func240.trans (congrArg some (by kernel_rfl))
 f266:=Tryz.func228.trans (congrArg some (by kernel_rfl))
 f267:=Tryz.func242.trans (congrArg some (by kernel_rfl))
 f314:=Tryz.func253.trans (congrArg some (by kernel_rfl))
 t3:=Tryz.underlying3
 a3:=Tryz.isAgg3
 z3:=Tryz.sizeOf3
 v3:=Tryz.zeroValue3
 t4:=Tryz.underlying4
 a4:=Tryz.isAgg4
 z4:=Tryz.sizeOf4
 v4:=Tryz.zeroValue4
 t5:=Tryz.underlying5
 a5:=Tryz.isAgg5
 z5:=Tryz.sizeOf5
 v5:=Tryz.zeroValue5
 t9:=Tryz.underlying9
 a9:=Tryz.isAgg9
 z9:=Tryz.sizeOf9
 v9:=Tryz.zeroValue9
 t46:=Tryz.underlying42
 a46:=Tryz.isAgg42
 z46:=Tryz.sizeOf42
 v46:=Tryz.zeroValue42
 t51:=Tryz.underlying22
 a51:=Tryz.isAgg22
 z51:=Tryz.sizeOf22
 v51:=Tryz.zeroValue22
 t146:=Tryz.underlying284
 a146:=Tryz.isAgg284
 z146:=Tryz.sizeOf284
 v146:=Tryz.zeroValue284
 g1:=by kernel_rfl }
open Go.RowKit Go.Lib in
theorem Tryz.strings_Contains_one (s:ByteArray) (c:UInt8) (w:World) :
  Calls Tryz.prog 172 #[.string s,.string ⟨#[c]⟩] w fun e w'=>e=.returned (.bool (decide (0≤Lib.indexByte s.data.toList c)))∧w'=w:=Any.strings_Contains_one Tryz.lays144 s c w
def Tryz.laysM145_ren:Go.Shelf.Ren:=⟨fun|145=>119|220=>179|219=>213|217=>181|225=>240|224=>241|267=>242|266=>228|314=>253|n=>n,fun|9=>9|4=>4|59=>183|3=>3|5=>5|46=>42|146=>284|51=>22|n=>n,fun|1=>2|n=>n⟩
theorem Tryz.laysM145:Go.Proofs.LaysM.n145 Tryz.prog Tryz.laysM145_ren:={
 mixed:=by kernel_rfl
 f145:=Tryz.func119.trans (congrArg some (by kernel_rfl))
 f217:=Tryz.func181.trans (congrArg some (by kernel_rfl))
 f219:=Tryz.func213.trans (congrArg some (by kernel_rfl))
 f220:=Tryz.func179.trans (congrArg some (by kernel_rfl))
 f224:=Tryz.func241.trans (congrArg some (by kernel_rfl))
 f225:=Tryz.func240.trans (congrArg some (by kernel_rfl))
 f266:=Tryz.func228.trans (congrArg some (by kernel_rfl))
 f267:=Tryz.func242.trans (congrArg some (by kernel_rfl))
 f314:=Tryz.func253.trans (congrArg some (by kernel_rfl))
 t3:=Tryz.underlying3
 a3:=Tryz.isAgg3
 z3:=Tryz.sizeOf3
 v3:=Tryz.zeroValue3
 t4:=Tryz.underlying4
 a4:=Tryz.isAgg4
 z4:=Tryz.sizeOf4
 v4:=Tryz.zeroValue4
 t5:=Tryz.underlying5
 a5:=Tryz.isAgg5
 z5:=Tryz.sizeOf5
 v5:=Tryz.zeroValue5
 t9:=Tryz.underlying9
 a9:=Tryz.isAgg9
 z9:=Tryz.sizeOf9
 v9:=Tryz.zeroValue9
 t46:=Tryz.underlying42
 a46:=Tryz.isAgg42
 z46:=Tryz.sizeOf42
 v46:=Tryz.zeroValue42
 t51:=Tryz.underlying22
 a51:=Tryz.isAgg22
 z51:=Tryz.sizeOf22
 v51:=Tryz.zeroValue22
 t59:=Tryz.underlying183
 a59:=Tryz.isAgg183
 z59:=Tryz.sizeOf183
 v59:=Tryz.zeroValue183
 t146:=Tryz.underlying284
 a146:=Tryz.isAgg284
 z146:=Tryz.sizeOf284
 v146:=Tryz.zeroValue284
 g1:=by kernel_rfl
 i3:=by kernel_rfl
 i4:=by kernel_rfl
 i5:=by kernel_rfl
 i9:=by kernel_rfl
 i46:=by kernel_rfl
 i51:=by kernel_rfl
 i59:=by kernel_rfl
 i146:=by kernel_rfl
 m1:=by kernel_rfl
 s1_3:=fun w h=>Go.Proofs.cell_of_shapedOpen_int (zero:=#[.int .i64 0]) (t:=3) h (of_decide_eq_true (by kernel_rfl)) (by kernel_rfl) rfl (by kernel_rfl) (by kernel_rfl) Tryz.underlying3 }
def Tryz.lays99_ren:Go.Shelf.Ren:=⟨fun|99=>180|206=>227|n=>n,fun|9=>9|4=>4|3=>3|n=>n,fun|n=>n⟩
theorem Tryz.lays99:Go.Proofs.Lays.n99 Tryz.prog Tryz.lays99_ren:={
 mixed:=by kernel_rfl
 f99:=Tryz.func180.trans (congrArg some (by kernel_rfl))
 f206:=Tryz.func227.trans (congrArg some (by kernel_rfl))
 t3:=Tryz.underlying3
 a3:=Tryz.isAgg3
 z3:=Tryz.sizeOf3
 v3:=Tryz.zeroValue3
 t4:=Tryz.underlying4
 a4:=Tryz.isAgg4
 z4:=Tryz.sizeOf4
 v4:=Tryz.zeroValue4
 t9:=Tryz.underlying9
 a9:=Tryz.isAgg9
 z9:=Tryz.sizeOf9
 v9:=Tryz.zeroValue9 }
open Go.RowKit Go.Lib in
theorem Tryz.strings_HasPrefix (s p:ByteArray) (w:World) :
  Calls Tryz.prog 180 #[.string s,.string p] w fun e w'=>e=.returned (.bool (Lib.hasPrefix s.data.toList p.data.toList))∧w'=w:=Any.strings_HasPrefix Tryz.lays99 s p w
def Tryz.laysM146_ren:Go.Shelf.Ren:=⟨fun|146=>41|221=>113|268=>169|138=>170|143=>171|195=>210|197=>211|218=>212|219=>213|260=>239|217=>181|225=>240|224=>241|267=>242|266=>228|314=>253|n=>n,fun|9=>9|31=>59|3=>3|4=>4|0=>0|105=>238|21=>21|5=>5|46=>42|119=>232|139=>283|138=>282|146=>284|51=>22|n=>n,fun|1=>2|3=>4|4=>5|n=>n⟩
theorem Tryz.laysM146:Go.Proofs.LaysM.n146 Tryz.prog Tryz.laysM146_ren:={
 mixed:=by kernel_rfl
 f138:=Tryz.func170.trans (congrArg some (by kernel_rfl))
 f143:=Tryz.func171.trans (congrArg some (by kernel_rfl))
 f146:=Tryz.func41.trans (congrArg some (by kernel_rfl))
 f195:=Tryz.func210.trans (congrArg some (by kernel_rfl))
 f197:=Tryz.func211.trans (congrArg some (by kernel_rfl))
 f217:=Tryz.func181.trans (congrArg some (by kernel_rfl))
 f218:=Tryz.func212.trans (congrArg some (by kernel_rfl))
 f219:=Tryz.func213.trans (congrArg some (by kernel_rfl))
 f221:=Tryz.func113.trans (congrArg some (by kernel_rfl))
 f224:=Tryz.func241.trans (congrArg some (by kernel_rfl))
 f225:=Tryz.func240.trans (congrArg some (by kernel_rfl))
 f260:=Tryz.func239.trans (congrArg some (by kernel_rfl))
 f266:=Tryz.func228.trans (congrArg some (by kernel_rfl))
 f267:=Tryz.func242.trans (congrArg some (by kernel_rfl))
 f268:=Tryz.func169.trans (congrArg some (by kernel_rfl))
 f314:=Tryz.func253.trans (congrArg some (by kernel_rfl))
 t0:=Tryz.underlying0
 a0:=Tryz.isAgg0
 z0:=Tryz.sizeOf0
 v0:=Tryz.zeroValue0
 t3:=Tryz.underlying3
 a3:=Tryz.isAgg3
 z3:=Tryz.sizeOf3
 v3:=Tryz.zeroValue3
 t4:=Tryz.underlying4
 a4:=Tryz.isAgg4
 z4:=Tryz.sizeOf4
 v4:=Tryz.zeroValue4
 t5:=Tryz.underlying5
 a5:=Tryz.isAgg5
 z5:=Tryz.sizeOf5
 v5:=Tryz.zeroValue5
 t9:=Tryz.underlying9
 a9:=Tryz.isAgg9
 z9:=Tryz.sizeOf9
 v9:=Tryz.zeroValue9
 t21:=Tryz.underlying21
 a21:=Tryz.isAgg21
 z21:=Tryz.sizeOf21
 v21:=Tryz.zeroValue21
 t31:=Tryz.underlying59
 a31:=Tryz.isAgg59
 z31:=Tryz.sizeOf59
 v31:=Tryz.zeroValue59
 t46:=Tryz.underlying42
 a46:=Tryz.isAgg42
 z46:=Tryz.sizeOf42
 v46:=Tryz.zeroValue42
 t51:=Tryz.underlying22
 a51:=Tryz.isAgg22
 z51:=Tryz.sizeOf22
 v51:=Tryz.zeroValue22
 t105:=Tryz.underlying238
 a105:=Tryz.isAgg238
 z105:=Tryz.sizeOf238
 v105:=Tryz.zeroValue238
 t119:=Tryz.underlying232
 a119:=Tryz.isAgg232
 z119:=Tryz.sizeOf232
 t138:=Tryz.underlying282
 a138:=Tryz.isAgg282
 z138:=Tryz.sizeOf282
 v138:=Tryz.zeroValue282
 t139:=Tryz.underlying283
 a139:=Tryz.isAgg283
 z139:=Tryz.sizeOf283
 v139:=Tryz.zeroValue283
 t146:=Tryz.underlying284
 a146:=Tryz.isAgg284
 z146:=Tryz.sizeOf284
 v146:=Tryz.zeroValue284
 g1:=by kernel_rfl
 g3:=by kernel_rfl
 g4:=by kernel_rfl
 i0:=by kernel_rfl
 i3:=by kernel_rfl
 i4:=by kernel_rfl
 i5:=by kernel_rfl
 i9:=by kernel_rfl
 i21:=by kernel_rfl
 i31:=by kernel_rfl
 i46:=by kernel_rfl
 i51:=by kernel_rfl
 i105:=by kernel_rfl
 i138:=by kernel_rfl
 i139:=by kernel_rfl
 i146:=by kernel_rfl
 m1:=by kernel_rfl
 s1_3:=fun w h=>Go.Proofs.cell_of_shapedOpen_int (zero:=#[.int .i64 0]) (t:=3) h (of_decide_eq_true (by kernel_rfl)) (by kernel_rfl) rfl (by kernel_rfl) (by kernel_rfl) Tryz.underlying3
 m3:=by kernel_rfl
 m4:=by kernel_rfl }
def Tryz.laysM157_ren:Go.Shelf.Ren:=⟨fun|157=>149|229=>203|199=>204|261=>232|311=>246|312=>247|n=>n,fun|9=>9|31=>59|3=>3|5=>5|4=>4|119=>232|0=>0|40=>234|152=>254|21=>21|154=>256|51=>22|141=>258|196=>270|193=>267|198=>272|49=>52|194=>268|201=>275|226=>287|46=>42|227=>288|n=>n,fun|0=>0|6=>1|n=>n⟩
theorem Tryz.laysM157:Go.Proofs.LaysM.n157 Tryz.prog Tryz.laysM157_ren:={
 mixed:=by kernel_rfl
 f157:=Tryz.func149.trans (congrArg some (by kernel_rfl))
 f199:=Tryz.func204.trans (congrArg some (by kernel_rfl))
 f229:=Tryz.func203.trans (congrArg some (by kernel_rfl))
 f261:=Tryz.func232.trans (congrArg some (by kernel_rfl))
 f311:=Tryz.func246.trans (congrArg some (by kernel_rfl))
 f312:=Tryz.func247.trans (congrArg some (by kernel_rfl))
 t0:=Tryz.underlying0
 a0:=Tryz.isAgg0
 z0:=Tryz.sizeOf0
 v0:=Tryz.zeroValue0
 t3:=Tryz.underlying3
 a3:=Tryz.isAgg3
 z3:=Tryz.sizeOf3
 v3:=Tryz.zeroValue3
 t4:=Tryz.underlying4
 a4:=Tryz.isAgg4
 z4:=Tryz.sizeOf4
 v4:=Tryz.zeroValue4
 t5:=Tryz.underlying5
 a5:=Tryz.isAgg5
 z5:=Tryz.sizeOf5
 v5:=Tryz.zeroValue5
 t9:=Tryz.underlying9
 a9:=Tryz.isAgg9
 z9:=Tryz.sizeOf9
 v9:=Tryz.zeroValue9
 t21:=Tryz.underlying21
 a21:=Tryz.isAgg21
 z21:=Tryz.sizeOf21
 v21:=Tryz.zeroValue21
 t31:=Tryz.underlying59
 a31:=Tryz.isAgg59
 z31:=Tryz.sizeOf59
 v31:=Tryz.zeroValue59
 t40:=Tryz.underlying234
 a40:=Tryz.isAgg234
 z40:=Tryz.sizeOf234
 v40:=Tryz.zeroValue234
 t46:=Tryz.underlying42
 a46:=Tryz.isAgg42
 z46:=Tryz.sizeOf42
 v46:=Tryz.zeroValue42
 t49:=Tryz.underlying52
 a49:=Tryz.isAgg52
 z49:=Tryz.sizeOf52
 v49:=Tryz.zeroValue52
 t51:=Tryz.underlying22
 a51:=Tryz.isAgg22
 z51:=Tryz.sizeOf22
 v51:=Tryz.zeroValue22
 t119:=Tryz.underlying232
 a119:=Tryz.isAgg232
 z119:=Tryz.sizeOf232
 t141:=Tryz.underlying258
 a141:=Tryz.isAgg258
 z141:=Tryz.sizeOf258
 v141:=Tryz.zeroValue258
 t152:=Tryz.underlying254
 a152:=Tryz.isAgg254
 z152:=Tryz.sizeOf254
 v152:=Tryz.zeroValue254
 t154:=Tryz.underlying256
 a154:=Tryz.isAgg256
 z154:=Tryz.sizeOf256
 v154:=Tryz.zeroValue256
 t193:=Tryz.underlying267
 a193:=Tryz.isAgg267
 z193:=Tryz.sizeOf267
 v193:=Tryz.zeroValue267
 t194:=Tryz.underlying268
 a194:=Tryz.isAgg268
 z194:=Tryz.sizeOf268
 v194:=Tryz.zeroValue268
 t196:=Tryz.underlying270
 a196:=Tryz.isAgg270
 z196:=Tryz.sizeOf270
 v196:=Tryz.zeroValue270
 t198:=Tryz.underlying272
 a198:=Tryz.isAgg272
 z198:=Tryz.sizeOf272
 v198:=Tryz.zeroValue272
 t201:=Tryz.underlying275
 a201:=Tryz.isAgg275
 z201:=Tryz.sizeOf275
 v201:=Tryz.zeroValue275
 t226:=Tryz.underlying287
 a226:=Tryz.isAgg287
 z226:=Tryz.sizeOf287
 v226:=Tryz.zeroValue287
 t227:=Tryz.underlying288
 a227:=Tryz.isAgg288
 z227:=Tryz.sizeOf288
 v227:=Tryz.zeroValue288
 g0:=by kernel_rfl
 g6:=by kernel_rfl
 i0:=by kernel_rfl
 i3:=by kernel_rfl
 i4:=by kernel_rfl
 i5:=by kernel_rfl
 i9:=by kernel_rfl
 i21:=by kernel_rfl
 i31:=by kernel_rfl
 i40:=by kernel_rfl
 i46:=by kernel_rfl
 i49:=by kernel_rfl
 i51:=by kernel_rfl
 i141:=by kernel_rfl
 i152:=by kernel_rfl
 i154:=by kernel_rfl
 i193:=by kernel_rfl
 i194:=by kernel_rfl
 i196:=by kernel_rfl
 i198:=by kernel_rfl
 i201:=by kernel_rfl
 i226:=by kernel_rfl
 i227:=by kernel_rfl
 m0:=by kernel_rfl
 m6:=by kernel_rfl }
open Go.RowKit Go.Lib in
theorem Tryz.strings_Fields_laid (s:ByteArray) (w:World) (hs:s.size<4294967281) (hascii:∀(j:Nat) b,s.data.toList[j]? = some b→b.toNat<128) (htab:Lib.TabIs Tryz.prog w "strings.asciiSpace" .u8 Lib.asciiSpaceTab) :
  Calls Tryz.prog 149 #[.string s] w fun e w' =>
   e=.returned (.slice (some ⟨w.heap.size,0,none⟩) (Lib.fields s.data.toList).length (Lib.fields s.data.toList).length)∧w'=w.alloc (.cells ((Lib.fields s.data.toList).map fun l=>Value.string ⟨l.toArray⟩).toArray 9):=Any.strings_Fields_laid Tryz.laysM157 s w hs hascii htab
end Go.Proofs
namespace Go.Proofs.YtkaepknpplhgkaaGreatDoor
open Go.RowKit
theorem digA_d {c:UInt8}(h:uM c.toNat=true):tC c=c.toNat-48:=Ah h
theorem digA_l {c:UInt8}(h1:uM c.toNat=false) (h:rY c.toNat=true):tC c=c.toNat-97+10:=by
 unfold tC;rw[Ag (show ¬vU c=true by unfold vU;rw[h1];simp),Ah (show sR c=true from h)]
theorem digA_n {c:UInt8}(h1:uM c.toNat=false) (h:rY c.toNat=false):tC c=99:=by
 unfold tC;rw[Ag (show ¬vU c=true by unfold vU;rw[h1];simp),Ag (show ¬sR c=true by unfold sR;rw[h];simp)]
theorem digA_99 (c:UInt8):tC c≤99:=by
 by_cases h:vU c=true∨sR c=true
 have:=digA_le c h;omega;rw[digA_n (by cases hd:uM c.toNat with|false=>rfl|true=>exact absurd (.inl hd) h) (by cases hd:rY c.toNat with|false=>rfl|true=>exact absurd (.inr hd) h)];omega
theorem hex_t {s:Bs}(h1:s.take 2=[48,120]) (h2:2<s.length):tlA s=s.drop 2∧oI s=16:=by
 have:hexP s=true:=by unfold hexP;rw[An h1,An h2];rfl
 unfold tlA oI;rw[this];exact⟨rfl,rfl⟩
theorem hex_f {s:Bs}(h:¬(s.take 2=[48,120]∧2<s.length)):tlA s=s∧oI s=10:=by
 have:hexP s=false:=by
  unfold hexP
  by_cases h1:s.take 2=[48,120]
  rw[Ao (fun h2=>h ⟨h1,h2⟩)];simp;rw[Ao h1];rfl
 unfold tlA oI;rw[this];exact⟨rfl,rfl⟩
theorem hasPre_any (s:Bs) (w_0:World):Calls Tryz.prog 180 #[.string ⟨s.toArray⟩,.string ⟨#[48,120]⟩] w_0 fun e w'=>e=.returned (.bool (decide (s.take 2=[48,120])))∧Ext w_0 w' :=
 (Tryz.strings_HasPrefix ⟨s.toArray⟩ ⟨#[48,120]⟩ w_0).mono fun e w' ⟨h1,h2⟩=>by
  subst h2;refine⟨h1.trans ?_,Ext.refl _⟩;congr 2;unfold Lib.hasPrefix
  match s with
  | []=>rfl
  | [a]=>simp[List.isPrefixOf]
  | a::b::r=>rw[Kf];simp[List.isPrefixOf];exact⟨fun ⟨h,k⟩=>⟨h.symm,k.symm⟩,fun ⟨h,k⟩=>⟨h.symm,k.symm⟩⟩
theorem number_any (s:Bs) (hs:s.length≤1000000000000) (w_0:World):Calls Tryz.prog 124 #[.string ⟨s.toArray⟩] w_0 fun e w'=>(match pJ s with|.ok n=>e=.returned (.int .u32 n)|.error c=>e=.panicked (pan (qK c)))∧Ext w_0 w':=by
 have hbad:=@NuI.bad s;have hfin:=@NuI.fin s;have htl:(tlA s).length≤1000000000000:=by unfold tlA;split<;>(try rw[Kw])<;>omega
 have hb:oI s=10∨oI s=16:=by unfold oI;split<;>simp
 refine zN (args:=[.string ⟨s.toArray⟩]) Tryz.func124 M 61 M (Kh M)<|Z1 0 M<|Z0<|zX<|zZ<|Za M M<|ZX<|zZ<|Zm M M<|Za M M<|Za M M<|ZT<|zB (ι:=Unit) (fun _=>[(3,.string ⟨(tlA s).toArray⟩),(4,.int .u64 (oI s))]) (fun _=>Jy w_0 [] [] (fun _=>True)) ?_ (fun _=>?_)
 ·refine zX<|Z4r 0 2 3 4 M<|Zm M M<|Zu (v:=.bool (decide (s.take 2=[48,120]))) M (fun w hw=>hasPre_any s w)<|Zm M M<|zQ 12 M (fun g2=>?_) (fun g2=>?_)
  ·refine Zv M<|ZG M M M (wZ M U9)<|ZG M M M (vS M M)<|Zh M<|ZT<|zT M (fun h16=>?_) (fun h16=>?_)
   ·replace h16:=Ki h16;refine Z5r 0 2 3 4 16 M<|Zm M M<|ZF M (rD M M U9 (by omega) (by omega) M)<|Za M M<|Za M M<|zS<|zU (ι:=Unit) () (.consE M (by rw[(hex_t (Ki g2) (by omega)).1];rfl)<|.consE M (by rw[(hex_t (Ki g2) (by omega)).2];rfl)<|.nil) Jz
   replace h16:=Kj h16;refine zR<|zU (ι:=Unit) () (.consE M (by rw[(hex_f (fun h=>absurd h.2 (by omega))).1])<|.consE M (by rw[(hex_f (fun h=>absurd h.2 (by omega))).2];rfl)<|.nil) Jz
  skip;refine ZP M<|ZP M<|ZP M<|Zf M<|ZT<|zD M<|zR<|zU (ι:=Unit) () (.consE M (by rw[(hex_f (fun h=>Kj g2 h.1)).1])<|.consE M (by rw[(hex_f (fun h=>Kj g2 h.1)).2];rfl)<|.nil) Jz
 generalize tlA s=t at *;generalize oI s=b at *;refine zX<|zZ<|Za M M<|Za M M<|ZX<|zX<|zZ<|Zm M M<|ZF M (wZ M U9)<|Zm M M<|ZT<|zJ<|yF (ι:={j:Nat×Nat×Bool // NuI b t j.1 j.2.1 j.2.2}) (fun j=>[(3,.string ⟨t.toArray⟩),(4,.int .u64 b),(5,.int .u64 j.1.2.1),(6,.bool j.1.2.2),(20,.int .i64 t.length),(21,.int .i64 j.1.1)]) (fun _=>Jy w_0 [] [] (fun _=>True)) (fun j=>t.length-j.1.1) ⟨(0,0,false),NuI.zero _ _⟩ ?_ ?_ (fun j=>?_);exact O6 rfl;exact fun w h=>h;obtain⟨⟨i,n,lg⟩,hi⟩:=j;dsimp only at hi ⊢;have hile:=hi.le;have hnle:n≤4294967296:=by have:=hi.n;omega
 refine zX<|zZ<|ZF M (yR M M)<|ZX<|zT M (fun h22=>?_) (fun h22=>?_)
 ·replace h22:=Ki h22;skip;obtain⟨c,hc⟩:∃c,t[i]? = some c:=⟨t[i]'(by omega),Kn _⟩;have hcl:=UInt8.toNat_lt c;have hdl:tC c≤99:=digA_99 c;have hnb:n*b≤4294967296*16:=Nat.mul_le_mul hnle (by omega);refine zR<|zV<|zX<|zJ<|zX<|zZ<|Zm M M<|Za M M<|ZX<|Z8r 3 4 5 6 7 20 21 22 M<|Za M M<|ZT<|zB (ι:=Unit) (fun _=>[(3,.string ⟨t.toArray⟩),(4,.int .u64 b),(5,.int .u64 n),(6,.bool lg),(8,.int .u64 (tC c)),(20,.int .i64 t.length),(21,.int .i64 i)]) (fun _=>Jy w_0 [] [] (fun _=>True)) ?_ (fun _=>?_)
  ·refine zJ<|zX<|zZ<|Zm M M<|Zm M M<|ZF M (xX M M U9 M hc)<|Zu (v:=.bool (uM c.toNat)) M (fun w hw=>oZ _ w)<|Za M M<|ZT<|zT M (fun h24=>?_) (fun h24=>?_)
   ·have h24':48≤c.toNat∧c.toNat≤57:=by unfold uM at h24;simpa using h24
    refine Z10r 3 4 5 6 7 8 20 21 22 24 M<|Zm M M<|Zm M M<|ZF M (xX M M U9 M hc)<|ZF M (vL M M (Zu8 _))<|ZF M (Zc M Tryz.underlying210 (u64_in _ (by omega) (by omega)))<|Za M M<|zS<|zH<|zU (ι:=Unit) () (.cons M<|.cons M<|.cons M<|.cons M<|.consE M (by rw[digA_d h24];congr 1;omega)<|.cons M<|.cons M<|.nil) Jz
   skip;refine zX<|Z10r 3 4 5 6 7 8 20 21 22 24 M<|Zm M M<|Zm M M<|ZF M (xX M M U9 M hc)<|Zu (v:=.bool (rY c.toNat)) M (fun w hw=>qL _ w)<|Za M M<|ZT<|zT M (fun h34=>?_) (fun h34=>?_)
   ·have h34':97≤c.toNat∧c.toNat≤122:=by unfold rY at h34;simpa using h34
    refine Z11r 3 4 5 6 7 8 20 21 22 24 34 M<|Zm M M<|Zm M M<|ZF M (xX M M U9 M hc)<|ZF M (vL M M (Zu8 _))<|ZF M (Zc M Tryz.underlying210 (u64_in _ (by omega) (by omega)))<|ZF M (zF M M (u64_in _ (by omega) (by omega)))<|Za M M<|zS<|zH<|zU (ι:=Unit) () (.cons M<|.cons M<|.cons M<|.cons M<|.consE M (by rw[digA_l h24 h34];congr 1;omega)<|.cons M<|.cons M<|.nil) Jz
   skip;refine zR<|zH<|zU (ι:=Unit) () (.cons M<|.cons M<|.cons M<|.cons M<|.consE M (by rw[digA_n h24 h34];rfl)<|.cons M<|.cons M<|.nil) Jz
  skip;refine zX<|zX<|zZ<|Zm M M<|Zm M M<|ZF M (yC M M)<|ZT<|zT M (fun h47=>?_) (fun h47=>?_)
  ·replace h47:=Ki h47;refine Z8r 3 4 5 6 8 20 21 47 M<|ZF M (xA M U25)<|wL .none M<|zO<|yX<|zO<|zO<|yX<|zO<|xZ (fun w hw=>?_);refine⟨?_,(Kk hw).ext⟩;rw[hbad hi hc (by omega)];rfl
  replace h47:=Kj h47;refine zR<|zV<|zX<|Z8r 3 4 5 6 8 20 21 47 M<|Zm M M<|Zm M M<|ZF M (vE M M (u64_in _ (by omega) (by omega)))<|Zm M M<|ZF M (zF M M (u64_in _ (by omega) (by omega)))<|Za M M<|ZX<|Z8r 3 4 5 6 8 20 21 47 M<|Zm M M<|ZF M (yC M M)<|ZT<|zT M (fun h55=>?_) (fun h55=>?_)
  ·replace h55:=Ki h55;refine Z9r 3 4 5 6 8 20 21 47 55 M<|Za M M<|Za M M<|zS<|zH<|zV<|zZ<|ZF M (zF M M (i64_in _ (by omega) (by omega)))<|Zm M M<|zS ?_
   refine yV (ι:={j:Nat×Nat×Bool // NuI b t j.1 j.2.1 j.2.2}) ⟨(i+1,4294967296,true),by
    have h9:=hi.step hc (by omega) (by omega) (by omega);rw[Ah (by omega),Ah (by omega)] at h9
    exact h9⟩ (by show t.length-(i+1)<t.length-i;omega) (O6 rfl) Jz
  replace h55:=Kj h55;refine zR<|zH<|zV<|Z9r 3 4 5 6 8 20 21 47 55 M<|ZF M (zF M M (i64_in _ (by omega) (by omega)))<|Zm M M<|zS ?_
  refine yV (ι:={j:Nat×Nat×Bool // NuI b t j.1 j.2.1 j.2.2}) ⟨(i+1,n*b+tC c,lg),by
   have h9:=hi.step hc (by omega) (by omega) (by omega);rw[Ag (by omega),Ag (by omega)] at h9
   exact h9⟩ (by show t.length-(i+1)<t.length-i;omega) (O6 rfl) Jz
 replace h22:=Kj h22;skip;obtain rfl:i=t.length:=by omega
 have hf:=hfin hi;refine yM<|zP<|zP<|yN<|zV<|zX<|zX<|zZ<|Zm M M<|ZT<|zT M (fun h57=>?_) (fun h57=>?_)
 ·refine zZ<|ZF M (xA M U25)<|wL .none M<|zO<|xZ (fun w hw=>?_);refine⟨?_,(Kk hw).ext⟩;rw[hf,Ah h57];rfl
 skip
 have hn32:n<4294967296:=by
  have h1:=hi.lg;have h2:=hi.n;rw[h57] at h1;have:=Kj h1.symm;omega
 refine zR<|zV<|zX<|zZ<|Zm M M<|ZF M (Zc M U22 (qV _ (by omega) (by omega)))<|Za M M<|ZU M M (fun w hw=>?_);refine⟨?_,(Kk hw).ext⟩;rw[hf,Ag (by rw[h57];simp)]
end Go.Proofs.YtkaepknpplhgkaaGreatDoor
namespace Go.Proofs.YtkaepknpplhgkaaGreatDoor
open Go.RowKit
section
variable {G B:Nat→Prop}{w0 w w':World}{L:List (Nat×Obj)}{R:List Rw}{X:World→Prop}{g k:Nat}{ob ob':Obj}{T:(Nat→Prop)→World→Prop}
theorem Hp.lie (hT:Lies T) (h:Hp B w0 L R X w) {n0:Nat}(hl:T (fun k=>n0≤k) w) (h0:w0.heap.size≤n0) (hb:∀k∈uR L R,k<n0) (hB:∀k,B k→k<n0):∃F:Nat→Prop,(∀k,F k→w0.heap.size≤k)∧Hp B w0 L R (fun u=>T F u∧X u) w:=by
 refine⟨fun k=>n0≤k∧k<w.heap.size,fun k hk=>Ap h0 hk.1,Hp.addX h ⟨_,fun k hk=>⟨hk.2,fun hbk=>absurd (hB k hbk) (by omega),fun hm=>absurd (hb k hm) (by omega)⟩,fun u hu=>hT.foot hu (hT.lt hl)⟩⟩
theorem Hp.startT (hT:Lies T) {F:Nat→Prop}(h:T F w):Jy w [] [] (T F) w :=
 Hp.start ⟨fun k=>F k∧k<w.heap.size,fun _ hk=>⟨hk.2,id⟩,fun _ hu=>hT.mono (fun _ hk=>hk.1) (hT.foot (F:=fun k=>F k∧k<w.heap.size) hu (hT.lt h))⟩
theorem Hp.callT0 (hT:Lies T) (h:Hp B w0 L R X w) (hB:∀k,B k→k<w0.heap.size) (hK:Ext w w') (hl:T (fun k=>w.heap.size≤k) w'):∃F:Nat→Prop,(∀k,F k→w0.heap.size≤k)∧Hp B w0 L R (fun u=>T F u∧X u) w' :=
 Hp.lie hT (HpG.onE h hK) hl (HpG.size h) (fun j hj=>HpG.lt h j hj) (fun j hj=>Kr (hB j hj) (HpG.size h))
variable {P:Program}{ops:Array Oper}{Q:Exit→Act→World→Prop}{n:Fr}{m:List (Nat×Value)}{ty:TypeId}{ι:Type}{C:ι→Prop}{rest:List Oper}{d:Nat}{pos:String}{af:Array Edge}{gd:Option (Nat×Bool)}{f:FuncId}{args:List Operand}{ats:Array TypeId}{vs:List Value}{val:ι→Value}{obi:ι→Obj}{TT:ι→(Nat→Prop)→World→Prop}
theorem yI (hg:Gd ops m gd) (hd:Nat.blt d n=true) (hf:goes P f=true) (ha:evl m args=some vs) (hB:∀k,B k→k<w0.heap.size) (hT:∀i,Lies (TT i))
  (hC:∀w,Hp B w0 L R X w→Calls P f vs.toArray w fun e w'=>∃i,C i∧e=.returned (val i)∧Ext w w'∧TT i (fun k=>w.heap.size≤k) w')
  (h:∀i F,C i→(∀k,F k→w0.heap.size≤k)→WL P ops Q rest n ((d,val i)::m) (Hp B w0 L R (fun u=>TT i F u∧X u))):WL P ops Q (⟨some d,.call { callee:=.value (.func f),args:=args.toArray,argTypes:=ats },ty,pos,af,gd⟩::rest) n m (Hp B w0 L R X) :=
 xY (ι:={i:ι×(Nat→Prop) // C i.1∧∀k,i.2 k→w0.heap.size≤k}) (val:=fun i=>val i.1.1) (H':=fun i=>Hp B w0 L R (fun u=>TT i.1.1 i.1.2 u∧X u)) hg hd
  (rF hf ha fun w hw=>(hC w hw).mono fun _ w' ⟨i,c,e1,e2,e4⟩=>by
   obtain⟨F,hF,hp⟩:=Hp.callT0 (hT i) hw hB e2 e4
   exact⟨_,e1,⟨⟨i,F⟩,c,hF⟩,rfl,hp⟩) fun i=>h i.1.1 i.1.2 i.2.1 i.2.2
theorem HpG.callT0 (hT:Lies T) (h:HpG G B w0 L R X w) (hB:∀k,B k→k<w0.heap.size) (hK:Ext w w') (hl:T (fun k=>w.heap.size≤k) w') :
  HpG (fun j=>(w.heap.size≤j∧j<w'.heap.size)∨G j) B w0 L R (fun u=>T (fun j=>w.heap.size≤j∧j<w'.heap.size) u∧X u) w':=by
 have h1:=HpG.onE h hK;have hlt:=h.lt;have hs:=h.size;obtain⟨F,hF,hX⟩:=h1.foot;refine⟨h1.keep,h1.own,h1.mine,h1.rows,h1.nd,fun j hj=>.inr (h1.inG j hj),fun j=>(w.heap.size≤j∧j<w'.heap.size)∨F j,fun j hj=>?_,fun u hu=>⟨hT.foot (fun j hj=>hu j (.inl hj)) (hT.lt hl),hX u fun j hj=>hu j (.inr hj)⟩⟩;rcases hj with hj|hj
 ·refine⟨hj.2,fun hb=>?_,fun hm=>?_,.inl hj⟩;have:=hB j hb;omega;have:=hlt j hm;omega
 obtain⟨a1,a2,a3,a4⟩:=hF j hj;exact⟨a1,a2,a3,.inr a4⟩
theorem qC {J:World→Prop}{σ:List Nat}(hg:Gd ops m gd) (hd:Nat.blt d n=true) (hf:goes P f=true) (ha:evl m args=some vs) (hB:∀k,B k→k<w0.heap.size) (hT:∀i,Lies (TT i))
  (hJ:∀w w',J w→Ext w w'→J w')
  (hC:∀w,HpG G B w0 L R X w→Calls P f vs.toArray w fun e w'=>∃i,C i∧e=.returned (val i)∧Ext w w'∧TT i (fun k=>w.heap.size≤k) w')
  (h:∀i F,C i→(∀k,F k→w0.heap.size≤k)→WD P ops J Q σ (fun j=>F j∨G j) n ((d,val i)::m) (HpG (fun j=>F j∨G j) B w0 L R (fun u=>TT i F u∧X u))):WDo P ops J Q ⟨some d,.call { callee:=.value (.func f),args:=args.toArray,argTypes:=ats },ty,pos,af,gd⟩ σ G n m (HpG G B w0 L R X) :=
 wd_chainN (ι:={i:ι×(Nat→Prop) // C i.1∧∀k,i.2 k→w0.heap.size≤k}) (val:=fun i=>val i.1.1) (H':=fun i=>HpG (fun j=>i.1.2 j∨G j) B w0 L R (fun u=>TT i.1.1 i.1.2 u∧X u)) (N:=fun i=>i.1.2) rfl (fun _ _ e=>by cases e) hg hd (fun _=>HpG.stab)
  (fun _ w _ _ _ hs hw hj=>(ch_call hs hf ha ((hC w hw).mono fun _ w' ⟨i,c,e1,e2,e4⟩=>⟨_,e1,⟨i,c,rfl,e2,e4⟩⟩)).mono
   (R:=fun v w'=>∃i,C i∧v=val i∧Ext w w'∧TT i (fun k=>w.heap.size≤k) w') fun v w' ⟨i,c,e1,e2,e4⟩ =>
    ⟨Keep.of_ext e2,hJ w w' hj e2,
     ⟨⟨(i,fun j=>w.heap.size≤j∧j<w'.heap.size),c,fun j hj=>Ap hw.size hj.1⟩,e1,HpG.callT0 (hT i) hw hB e2 e4,fun _ h=>h⟩⟩) fun i=>h i.1.1 i.1.2 i.2.1 i.2.2
theorem HpG.rdF (h:HpG G B w0 L R X w) {j T:Nat}{cs:List Value}(hj:L[j]? = some (g,bk T cs)) {F:Nat→Prop}(hF:F g):RdF F (some ⟨g,0,none⟩) cs w:=fun _=>⟨g,0,rfl,hF,h.lt g (List.mem_append_left _ (List.mem_map.2 ⟨_,Ko hj,rfl⟩)),fun i hi=>by
 rw[Ac];exact h.cell hj (by rw[Ku,Kn hi];rfl)⟩
theorem HpG.mineL (h:HpG G B w0 L R X w) {j:Nat}(hj:L[j]? = some (g,ob)) (hn:¬B g):w0.heap.size≤g:=(h.mine _ (Ko hj)).resolve_right hn
theorem HpG.rowCp (h:HpG G B w0 L R X w) {j:Nat}{A:Option Addr}{E size len cap:Nat}{xs:List Value}(hj:R[j]? = some ⟨.slice A len cap,E,size,len,xs⟩):Cp len cap:=by
 obtain⟨e1,hr⟩:=h.rowAt hj;rcases hr with ⟨hv,hn⟩|⟨g',c',cur,hv,h1,h2,h3,h4,h5,h6⟩
 ·injection hv with _ _ a3;dsimp only at hn;subst hn;subst a3;exact cp00
 injection hv with a1 a2 a3;subst a3;exact⟨h3,h4⟩
theorem HpG.rowF (h:HpG G B w0 L R X w) {j:Nat}{A:Option Addr}{E size len cap:Nat}{xs:List Value}(hj:R[j]? = some ⟨.slice A len cap,E,size,len,xs⟩):RdF (fun k=>w0.heap.size≤k) A xs w:=fun h0=>by
 obtain⟨e1,hr⟩:=h.rowAt hj;rcases hr with ⟨_,hn⟩|⟨g',c',cur,hv,h1,h2,h3,h4,h5,h6⟩;dsimp only at e1 hn;rw[hn,Nat.zero_mul] at e1;omega;injection hv with a1 a2 a3;dsimp only at h2 h6;refine⟨g',0,a1,h1,(Kp.1 h2).1,fun i hi=>?_⟩;rw[Ac,cell_of_row w g' i _ _ _ h2]
 have e2:xs[i]? = cur.toList[i]? := by
  rw[← h6,List.getElem?_take_of_lt (by have:(cur.toList.take (len*size)).length≤len*size:=List.length_take_le ..;rw[h6] at this;omega)]
 rw[Ku,← Array.getElem?_toList,← e2,Kn hi];rfl
end
section
variable {G B:Nat→Prop}{w0 w w':World}{L:List (Nat×Obj)}{R:List Rw}{X:World→Prop}{g k:Nat}{ob ob' o:Obj}
theorem Hp.toX (h:Hp B w0 ((g,o)::L) R X w) (hB:¬B g):Hp B w0 L R (fun u=>Blk g o u∧X u) w:=by
 have hnd:=HpG.nd h;have hg:=HpG.own h _ (Ks ..);have hn:g∉uR L R:=(List.nodup_cons.1 hnd).1;exact Hp.addX (Hp.drop h (Km _ _) (Kl _)) ⟨fun k=>k=g,fun k hk=>by subst hk;exact⟨(Kp.1 hg).1,hB,hn⟩,fun u hu=>(hu _ M).trans hg⟩
theorem Blk.rdF {T:TypeId}{cs:List Value}{F:Nat→Prop}(h:Blk g (bk T cs) w) (hF:F g):RdF F (some ⟨g,0,none⟩) cs w:=fun _=>⟨g,0,rfl,hF,(Kp.1 h).1,fun i hi=>by
 rw[Ac,cell_of_row w g i _ _ _ h]
 simp[Ku,hi]⟩
theorem HpG.fresh {b i j:Nat}(h:HpG G (fun k=>k=b) w0 L R X w) (hj:L[j]? = some (g,ob)) (hi:L[i]? = some (b,ob')) (hij:Nat.beq j i=false):w0.heap.size≤g :=
 h.mineL hj (h.ne hj hi hij)
theorem HpG.blkL (h:HpG G B w0 L R X w) {j:Nat}(hj:L[j]? = some (g,ob)):w.heap[g]? = some ob:=h.own _ (Ko hj)
theorem Hp.start2 {w:World}{g1 g2:Nat}{o1 o2:Obj}(h1:w.heap[g1]? = some o1) (h2:w.heap[g2]? = some o2) (hne:g1≠g2) (hX:∃F:Nat→Prop,(∀k,F k→k<w.heap.size∧k≠g1∧k≠g2)∧Foot F X w):Hp (fun k=>k=g1∨k=g2) w [(g1,o1),(g2,o2)] [] X w:=by
 obtain⟨F,hF,hX⟩:=hX;refine⟨Keep.refl _ _,fun p hp=>?_,fun p hp=>?_,fun p hp=>(by cases hp),by simp[uR,hne],fun _ _=>trivial,F,fun k hk=>⟨(hF k hk).1,fun hb=>?_,(by simp[uR];exact (hF k hk).2),trivial⟩,hX⟩
 ·simp at hp;rcases hp with rfl|rfl;exact h1;exact h2
 ·simp at hp;rcases hp with rfl|rfl;exact .inr (.inl M);exact .inr (.inr M)
 obtain⟨_,b,c⟩:=hF k hk;rcases hb with hb|hb;exact b hb;exact c hb
variable {P:Program}{ops:Array Oper}{Q:Exit→Act→World→Prop}{n:Fr}{m:List (Nat×Value)}{ty:TypeId}{rest:List Oper}{d:Nat}{pos:String}{af:Array Edge}{gd:Option (Nat×Bool)}
theorem wN {x y:Operand}{t:TypeId}{v:Value}{E size len:Nat}{xs:List Value}{c mm b0:Nat}{T:TypeId}{news:List Value}{z:Value}{bytes:Nat}(k:Nat) (j:Nat) (hg:Gd ops m gd) (hd:Nat.blt d n=true) (hk:R[k]? = some ⟨v,E,size,len,xs⟩) (hj:L[j]? = some (b0,bk T news)) (hx:ev m x=some v) (hy:ev m y=some (.slice (some ⟨b0,0,none⟩) mm c))
  (ht:P.underlying t=some (.slice E)) (hi:(P.info? E).map (fun i=>(i.zero,i.size,i.bytes))=some (some z,size,bytes)) (hzs:z.cells.size=size) (hsz:Nat.blt 0 size=true) (hl:news.length=mm*size) (h1:news.all (·.oneCell')=true) (hm:Nat.blt 0 mm=true) (h63:len+mm≤9223372036854775807) (hb:(len+mm)*bytes≤140737488355328)
  (h:∀b cap,len+mm≤cap→WL P ops Q rest n ((d,.slice (some ⟨b,0,none⟩) (len+mm) cap)::m) (Hp B w0 L (R.set k ⟨.slice (some ⟨b,0,none⟩) (len+mm) cap,E,size,len+mm,xs++news⟩) X)) :
  WL P ops Q (⟨some d,.call { callee:=.builtin .append,args:=#[x,y],argTypes:=#[t,t] },ty,pos,af,gd⟩::rest) n m (Hp B w0 L R X) :=
 xY (ι:={i:Nat×Nat // len+mm≤i.2}) (val:=fun i=>.slice (some ⟨i.1.1,0,none⟩) (len+mm) i.1.2) (H':=fun i=>Hp B w0 L (R.set k ⟨.slice (some ⟨i.1.1,0,none⟩) (len+mm) i.1.2,E,size,len+mm,xs++news⟩) X) hg hd
  (fun a w d pos af gd hs hw=>(ch_append (r:=⟨v,E,size,len,xs⟩) hs k hx hk hy (fun j' u hu=>by rw[Addr.add_mid,Ac];exact HpG.cell hw hj hu) ht hi hzs (by simpa [Nat.blt_eq] using hsz) hl (List.all_eq_true.1 h1) (by simpa [Nat.blt_eq] using hm) h63 hb hw).mono fun v w' ⟨g,cap,e1,e2⟩=>by
   have hrow:=HpG.rows e2 _ (List.mem_set (Kg.1 hk).1 _);obtain⟨_,hr⟩:=hrow;rcases hr with ⟨hv,_⟩|⟨g',c',cur,hv,_,_,hle,_⟩
   ·cases hv
   injection hv with h1 h2 h3;dsimp only at hle
   exact⟨⟨(g,cap),by show len+mm≤cap;omega⟩,e1,e2⟩) fun i=>h i.1.1 i.1.2 i.2
end
section
variable {P:Program}{n:Fr}{m:List (Nat×Value)}{H:World→Prop}
end
section
variable {P:Program}{n:Fr}{m:List (Nat×Value)}{G B:Nat→Prop}{w0:World}{L:List (Nat×Obj)}{Rs:List Rw}{X:World→Prop}
end
end Go.Proofs.YtkaepknpplhgkaaGreatDoor
namespace Go.Proofs.YtkaepknpplhgkaaGreatDoor
open Go.RowKit
abbrev bxI (p:Nat):Obj:=bk 3 [.int .i64 p]
abbrev bxS (s:Bs):Obj:=bk 9 [.string ⟨s.toArray⟩]
abbrev u8V (r:Nat):Value:=.int .u8 r
abbrev whB (q:Nat→Bool) (s:Bs) (p:Nat):Bs:=(s.drop p).takeWhile fun c=>q c.toNat
theorem Blk.cell {g o:Nat}{T:TypeId}{cs:List Value}{w:World}{v:Value}(h:Blk g (bk T cs) w) (hv:cs[o]? = some v):w.cell? ⟨g,o,none⟩=some v:=by
 rw[cell_of_row w g o _ _ _ h,List.getElem?_toArray];exact hv
theorem while_any (fv:Value) (q:Nat→Bool) (hf:FnOk Tryz.prog fv u8V q) (s:Bs) (hs:s.length≤1000000000000) (p:Nat) (hp:p≤s.length) (ba bs:Nat) (hne:ba≠bs) (w_0:World) (ha:w_0.heap[ba]? = some (bxI p)) (hb:w_0.heap[bs]? = some (bxS s)) :
  Calls Tryz.prog 120 #[fv,.pointer (some ⟨ba,0,none⟩),.pointer (some ⟨bs,0,none⟩)] w_0 fun e w'=>e=.returned (.string ⟨(whB q s p).toArray⟩)∧Keep (fun j=>j=ba) w_0 w'∧w'.heap[ba]? = some (bxI (p+(whB q s p).length)):=by
 have hbs:bs<w_0.heap.size:=(Kp.1 hb).1;refine zN (args:=[fv,.pointer (some ⟨ba,0,none⟩),.pointer (some ⟨bs,0,none⟩)]) Tryz.func120 M 24 M (Kh M)<|Z3 0 1 2 M<|zG (H':=Hp (fun k=>k=ba) w_0 [(ba,bxI p)] [] (Blk bs (bxS s))) (fun u hu=>?_) ?_;subst hu;exact Hp.startB ha ⟨fun k=>k=bs,fun k hk=>by subst hk;exact⟨hbs,fun e=>hne e.symm⟩,fun u hu=>(hu _ M).trans hb⟩;refine zX<|zZ<|Za M M<|ZX<|zZ<|Zl 0 M U3 M<|Za M M<|ZX<|zJ<|yF (ι:={i:Nat // SpI q (s.drop p) i}) (fun _=>[(0,fv),(1,.pointer (some ⟨ba,0,none⟩)),(2,.pointer (some ⟨bs,0,none⟩)),(5,.int .i64 p)]) (fun i=>Hp (fun k=>k=ba) w_0 [(ba,bxI (p+i.1))] [] (Blk bs (bxS s))) (fun i=>s.length-i.1) ⟨0,Ad _,fun _ _ h=>absurd h (by omega)⟩ ?_ ?_ (fun i=>?_);exact O4 rfl;exact fun w h=>h;obtain⟨i,hi⟩:=i;dsimp only;have hile:p+i≤s.length:=by have:=hi.le;rw[Kw] at this;omega
 refine zX<|zB (ι:={x:Bool // x=true↔∃d,(s.drop p)[i]? = some d∧q d.toNat=true}) (fun x=>[(0,fv),(1,.pointer (some ⟨ba,0,none⟩)),(2,.pointer (some ⟨bs,0,none⟩)),(5,.int .i64 p),(17,.bool x.1)]) (fun _=>Hp (fun k=>k=ba) w_0 [(ba,bxI (p+i))] [] (Blk bs (bxS s))) ?_ (fun x=>?_)
 ·refine zZ<|Zl 0 M U3 M<|ZF M (zL M U9 M (fun w hw=>Blk.cell (HpG.x hw) M))<|ZF M (wZ M U9)<|ZF M (yR M M)<|Zm M M<|zQ 11 M (fun hb=>?_) (fun hb=>?_)
  ·replace hb:=Ki hb;skip;obtain⟨c,hc⟩:∃c,s[p+i]? = some c:=⟨s[p+i]'(by omega),Kn _⟩;have hcd:(s.drop p)[i]? = some c:=by rw[List.getElem?_drop];exact hc
   refine Zv M<|ZG M M M (zL M U9 M (fun w hw=>Blk.cell (HpG.x hw) M))<|ZG M M M (yU 0 M M M U3 M)<|ZG M M M (xX M M U9 M hc)<|wl_callQ (arg:=u8V) (r:=c.toNat) (.some M M) M  hf M M (by have:=UInt8.toNat_lt c;omega) ?_;refine Zh M<|zS<|zU (ι:={x:Bool // x=true↔∃d,(s.drop p)[i]? = some d∧q d.toNat=true}) ⟨q c.toNat,⟨fun h=>⟨c,hcd,h⟩,fun ⟨d,h1,h2⟩=>by rw[hcd] at h1;cases h1;exact h2⟩⟩ (O5 M) Jz
  replace hb:=Kj hb;refine ZP M<|ZP M<|ZP M<|ZP M<|ZP M<|Zf M<|zS<|zU (ι:={x:Bool // x=true↔∃d,(s.drop p)[i]? = some d∧q d.toNat=true}) ⟨false,⟨fun h=>(by cases h),fun ⟨d,h1,_⟩=>by have:=(Kg.1 h1).1;rw[Kw] at this;omega⟩⟩ (O5 M) Jz
 obtain⟨x,hx⟩:=x;dsimp only;refine zT M (fun h17=>?_) (fun h17=>?_)
 ·obtain⟨d,hd,hdq⟩:=hx.1 h17;have hps:=hi.step hd hdq;have hpl:p+i+1≤s.length:=by have:=hps.le;rw[Kw] at this;omega
  refine zR<|zV<|zJ<|zZ<|Zl 0 M U3 M<|ZF M (zF M M (i64_in _ (by omega) (by omega)))<|ZS 0 M<|zS<|zH<|yV (ι:={i:Nat // SpI q (s.drop p) i}) ⟨i+1,hps⟩ (by show s.length-(i+1)<s.length-i;omega) (O4 M) Jz
 skip;skip;have hsp:spanL (fun c=>q c.toNat) (s.drop p)=i:=hi.end hx (by simpa using h17);have hwh:whB q s p=(s.drop p).take i:=SpI.take hsp;have hwl:(whB q s p).length=i:=by rw[hwh,Aa,Kw];omega
 refine yM<|zP<|zP<|yN<|zV<|zX<|zZ<|ZF M (zL M U9 M (fun w hw=>Blk.cell (HpG.x hw) M))<|Zm M M<|Zl 0 M U3 M<|ZF M (rE M M M U9 (by omega) (by omega) (by omega) (show (s.drop p).take (p+i-p)=whB q s p from by rw[Nat.add_sub_cancel_left];exact hwh.symm)) ?_;refine Za M M<|ZU M M fun w hw=>⟨rfl,Kk hw,by rw[hwl];exact HpG.blkL (j:=0) hw rfl⟩
end Go.Proofs.YtkaepknpplhgkaaGreatDoor
namespace Go.Proofs.YtkaepknpplhgkaaGreatDoor
open Go.RowKit
def wB (k:Bs):List (Bs×Value)→Option Value
 | []=>none
 | (x,v)::r=>if k=x then some v else wB k r
def mapE (tab:List (Bs×Value)):List MapEntry:=tab.zipIdx.map fun p=>{ key:=.string ⟨p.1.1.toArray⟩,val:=p.1.2,born:=p.2 }
abbrev wH (tab:List (Bs×Value)):Obj:=.map (mapE tab).toArray tab.length
theorem mapE_push (tab:List (Bs×Value)) (k:Bs) (v:Value):(mapE tab).toArray.push { key:=.string ⟨k.toArray⟩,val:=v,born:=tab.length }=(mapE (tab++[(k,v)])).toArray:=by
 simp[mapE,List.zipIdx_append]
theorem same_str (a b:Bs):Instr.sameNow .string (.string ⟨a.toArray⟩) (.string ⟨b.toArray⟩)=some (decide (a=b)):=by
 show some ((⟨a.toArray⟩:ByteArray)==⟨b.toArray⟩)=_;congr 1;rw[Kf];show (a.toArray==b.toArray)=true↔_;simp
theorem find_tab (key:Bs):∀(tab:List (Bs×Value)) (i j:Nat),∃n,Instr.findNow .string (.string ⟨key.toArray⟩) ((tab.zipIdx i).map fun p=>{ key:=.string ⟨p.1.1.toArray⟩,val:=p.1.2,born:=p.2 }) j=some ((wB key tab).map fun v=>(n,v))
 | [],_,_=>⟨0,rfl⟩
 | (k,v)::tab,i,j=>by
  simp only[List.zipIdx_cons,Ai,Instr.findNow,same_str,wB]
  by_cases h:key=k
  exact⟨j,by simp[h]⟩;obtain⟨n,hn⟩:=find_tab key tab (i+1) (j+1);exact⟨n,by simp only[h,decide_false,if_false];exact hn⟩
section
variable {P:Program}{w:World}
theorem run_updateS {T K E:TypeId}{r:Nat}{tab:List (Bs×Value)}{key:Bs}{v:Value}(hT:P.underlying T=some (.map K E)) (hK:P.underlying K=some .string) (hr:w.heap[r]? = some (wH tab)) (hf:wB key tab=none) :
  (Instr.mapUpdate T (.map (some r)) (.string ⟨key.toArray⟩) v).run P w=.ok () { w with heap:=w.heap.setIfInBounds r (wH (tab++[(key,v)])) }:=by
 have hc:(Instr.checkKey false 10000 K (.string ⟨key.toArray⟩)).run P w=.ok () w:=MapKept.run_checkKey (k:=.string ⟨key.toArray⟩) hK (by simp[MapKept.IsKey]) false 9999;obtain⟨n,hn⟩:=find_tab key tab 0 0;rw[hf] at hn;have hn':Instr.findNow .string (.string ⟨key.toArray⟩) (mapE tab).toArray.toList 0=some none:=hn;have h:wH (tab++[(key,v)])=.map ((mapE tab).toArray.push { key:=.string ⟨key.toArray⟩,val:=v,born:=tab.length }) (tab.length+1):=by rw[mapE_push];simp
 rw[h];simp[Instr.mapUpdate,run_underlying hT,MapKept.run_getObj_map hr,hc,MapKept.run_findKey hK hn',MapKept.run_setObj_map _ hr,Result.andThen]
theorem run_lookupS {T K E:TypeId}{r:Nat}{tab:List (Bs×Value)}{key:Bs}{z:Value}(hT:P.underlying T=some (.map K E)) (hK:P.underlying K=some .string) (hE:∀w,(zeroValue E).run P w=.ok z w) (hr:w.heap[r]? = some (wH tab)) :
  (Instr.lookup T (.map (some r)) (.string ⟨key.toArray⟩) true).run P w=.ok (.tuple #[(wB key tab).getD z,.bool (wB key tab).isSome]) w:=by
 have hc:(Instr.checkKey (mapE tab).isEmpty 10000 K (.string ⟨key.toArray⟩)).run P w=.ok () w:=MapKept.run_checkKey (k:=.string ⟨key.toArray⟩) hK (by simp[MapKept.IsKey]) _ 9999;obtain⟨n,hn⟩:=find_tab key tab 0 0;have hn':Instr.findNow .string (.string ⟨key.toArray⟩) (mapE tab) 0=some ((wB key tab).map fun v=>(n,v)):=hn
 cases hl:wB key tab with
 | none=>rw[hl] at hn';simp[Instr.lookup,run_underlying hT,MapKept.run_getObj_map hr,hc,MapKept.run_findKey hK hn',hE,Result.andThen]
 | some v=>rw[hl] at hn';simp[Instr.lookup,run_underlying hT,MapKept.run_getObj_map hr,hc,MapKept.run_findKey hK hn',Result.andThen]
end
section
variable {P:Program}{n:Fr}{m:List (Nat×Value)}{ty:TypeId}{G B:Nat→Prop}{w0:World}{L:List (Nat×Obj)}{R:List Rw}{X:World→Prop}
theorem nf_makeMapS {t:TypeId}:NF P (.makeMap t none) ty n m (wH []) (fun g=>.map (some g)):=rO
theorem cf_insertS {x y z:Operand}{T K E:TypeId}{g:Nat}{tab:List (Bs×Value)}{key:Bs}{v:Value}(k:Nat) (hx:ev m x=some (.map (some g))) (hy:ev m y=some (.string ⟨key.toArray⟩)) (hz:ev m z=some v) (hk:L[k]? = some (g,wH tab)) (hT:P.underlying T=some (.map K E)) (hK:P.underlying K=some .string) (hf:wB key tab=none) :
  CF P (.insert T x y z) ty n m (HpG G B w0 L R X) (fun _:Unit=>undef) (fun _=>HpG G B w0 (L.set k (g,wH (tab++[(key,v)]))) R X):=fun a w d pos af gd hs hw=>by
 have hr:=hw.own _ (Ko hk);dsimp only at hr;have hrun:=run_updateS (v:=v) hT hK hr hf;have h2:=MapKept.heap_set (o':=wH (tab++[(key,v)])) hr
 have hex:(execOp a.eval ⟨d,.insert T x y z,ty,pos,af,gd⟩).run P w=.ok .skip { w with heap:=w.heap.setIfInBounds g (wH (tab++[(key,v)])) }:=by
  simp[execOp,hs.ev hx,hs.ev hy,hs.ev hz,hrun,Result.andThen]
 show Ch _ _ _ _ _;unfold Ch;rw[hex];exact⟨(),rfl,hw.turn hk ⟨rfl,rfl,rfl,by simp,fun j _ hne=>h2.2 j hne⟩ h2.1⟩
def MapF (F:Nat→Prop) (g:Nat) (tab:List (Bs×Value)) (w:World):Prop:=F g∧g<w.heap.size∧w.heap[g]? = some (wH tab)
theorem MapF.lies {g:Nat}{tab:List (Bs×Value)}:Lies fun F w=>MapF F g tab w :=
 ⟨fun {F w w'} hk ⟨h1,h2,h3⟩=>by
  have e:=hk g h1;refine⟨h1,?_,e.trans h3⟩;rw[h3] at e
  exact (Kp.1 e).1,fun ⟨h1,h2,h3⟩=>⟨⟨h1,h2⟩,h2,h3⟩,fun hF ⟨h1,h2,h3⟩=>⟨hF g h1,h2,h3⟩⟩
theorem yf_lookupS {H:World→Prop}{x y:Operand}{T K E:TypeId}{g:Nat}{tab:List (Bs×Value)}{key:Bs}{z:Value}(hx:ev m x=some (.map (some g))) (hy:ev m y=some (.string ⟨key.toArray⟩)) (hr:∀w,H w→w.heap[g]? = some (wH tab)) (hT:P.underlying T=some (.map K E)) (hK:P.underlying K=some .string) (hE:∀w,(zeroValue E).run P w=.ok z w) :
  YF P (.lookup T x y true) ty n m H (.tuple #[(wB key tab).getD z,.bool (wB key tab).isSome]):=fun a w d pos af gd hs hw=>by
 have:=run_lookupS (key:=key) hT hK hE (hr w hw);simp[Yl,execOp,hs.ev hx,hs.ev hy,this]
end
end Go.Proofs.YtkaepknpplhgkaaGreatDoor
namespace Go.Proofs.YtkaepknpplhgkaaGreatDoor
open Go.RowKit
def MxL (w:World):Prop:=∃m,w.cell? ⟨Tryz.laysM145_ren.g 1,0,none⟩=some (.int .i64 m)
theorem MxL.foot {w w':World}(h:MxL w) (hk:w'.heap[Tryz.laysM145_ren.g 1]? = w.heap[Tryz.laysM145_ren.g 1]?):MxL w':=by
 obtain⟨m,hm⟩:=h;exact⟨m,by rw[← hm];exact World.cell?_of_block hk⟩
theorem MxL.lt {w:World}(h:MxL w):Tryz.laysM145_ren.g 1<w.heap.size:=by
 obtain⟨m,hm⟩:=h;exact World.block_lt_of_cell? _ _ hm
theorem ext_drewN (w:World) (n:Nat):Ext w (w.drewN n):=⟨rfl,rfl,rfl,Ae _,fun _ _=>rfl⟩
theorem occ_one {s:Bs}{c:UInt8}{i:Nat}:Lib.occAt s [c] i=true↔s[i]? = some c:=by
 unfold Lib.occAt;rw[show s[i]? = (s.drop i)[0]? by rw[List.getElem?_drop,Nat.add_zero]]
 cases hd:s.drop i with
 | nil=>simp[List.isPrefixOf]
 | cons x r=>simp[List.isPrefixOf];exact⟨fun h=>h.symm,fun h=>h.symm⟩
theorem idx_miss {s:Bs}{c:UInt8}(h:Lib.index s [c]=-1):∀x∈s,x≠c:=fun x hx e=>by
 subst e;rcases Lib.index_spec s [x] with ⟨_,h2⟩|⟨i,h1,_⟩
 ·obtain⟨i,hi,hv⟩:=List.getElem_of_mem hx;have:=h2 i (Nat.le_of_lt hi);rw[(occ_one (i:=i)).2 (by rw[Kn hi,hv])] at this;cases this
 omega
theorem idx_hit {s:Bs}{c:UInt8}{i:Nat}(h:Lib.index s [c]=i):∃r,s=s.take i++c::r∧s.drop (i+1)=r∧∀x∈s.take i,x≠c:=by
 rcases Lib.index_spec s [c] with ⟨h1,_⟩|⟨j,h1,h2,h3,h4⟩;omega;have:j=i:=by omega
 subst this;have hc:=occ_one.1 h3;obtain⟨hl,hv⟩:=Kg.1 hc;refine⟨s.drop (j+1),?_,rfl,fun x hx e=>?_⟩
 ·conv=>lhs;rw[← List.take_append_drop j s,List.drop_eq_getElem_cons hl,hv]
 subst e;obtain⟨k,hk,hv⟩:=List.getElem_of_mem hx;rw[Aa] at hk;rw[List.getElem_take] at hv;have:=h4 k (by omega);rw[occ_one.2 (by rw[Kn (by omega),hv])] at this;cases this
theorem tw_all {p:UInt8→Bool}{s:Bs}(h:∀x∈s,p x=true):s.takeWhile p=s:=by
 induction s with
 | nil=>rfl
 | cons x s ih=>rw[List.takeWhile_cons,Ah (h x (Ks ..)),ih fun y hy=>h y (Ky _ hy)]
theorem cut_is (s:Bs):(Lib.cut s [59]).1=xM s:=by
 unfold Lib.cut xM;rcases Int.lt_or_le (Lib.index s [59]) 0 with h|h
 ·have h1:Lib.index s [59]=-1:=by have:=Lib.index_ge s [59];omega
  rw[Ag (by omega)];exact (tw_all fun x hx=>by rw[Ao (idx_miss h1 x hx)];rfl).symm
 obtain⟨i,hi⟩:=Int.eq_ofNat_of_zero_le h;rw[Ah h,hi];obtain⟨r,h1,_,h3⟩:=idx_hit hi;show s.take i=_
 conv=>rhs;rw[h1]
 exact (takeW7 (fun c hc=>by rw[Ao (h3 c hc)];rfl) fun c t e=>by cases e;rfl).symm
theorem split_is:∀(k:Nat) (s:Bs),s.length<k→Lib.splitK [10] 0 (Lib.count s [10]) s=xK s
 | 0,_,h=>absurd h (by omega)
 | k+1,s,h=>by
  rcases Int.lt_or_le (Lib.index s [10]) 0 with h1|h1
  ·have h1:Lib.index s [10]=-1:=by have:=Lib.index_ge s [10];omega
   rw[Lib.count_miss h1];exact (linA_one (idx_miss h1)).symm
  obtain⟨i,hi⟩:=Int.eq_ofNat_of_zero_le h1;obtain⟨r,h2,h3,h4⟩:=idx_hit hi;rw[Lib.count_hit (by simp) hi,Nat.add_comm 1,Lib.splitK,Ag (by rw[Am];omega),hi];show s.take (i+0)::Lib.splitK [10] 0 (Lib.count (s.drop (i+1)) [10]) (s.drop (i+1))=_;rw[Nat.add_zero,h3,split_is k r (by rw[h2] at h;simp at h;omega)]
  conv=>rhs;rw[h2,linA_app r h4]
open Go.Lib in
theorem cut_any (s:Bs) (hs:s.length≤4000000000) (w:World) (hm:MxL w):Calls Tryz.prog 119 #[.string ⟨s.toArray⟩,.string ⟨#[59]⟩] w fun e w'=>(∃x:Bs×Bool,e=.returned (.tuple #[.string ⟨(xM s).toArray⟩,.string ⟨x.1.toArray⟩,.bool x.2]))∧Ext w w':=by
 obtain⟨m,hm⟩:=hm;refine (Any.strings_Cut { Tryz.laysM145 with } ⟨s.toArray⟩ ⟨#[59]⟩ m w (by show s.toArray.size<_;simp;omega) hm).mono fun e w' ⟨h1,n,h2⟩=>⟨⟨((Lib.cut s [59]).2.1,(Lib.cut s [59]).2.2),?_⟩,by rw[h2];exact ext_drewN w n⟩;rw[h1,← cut_is]
open Go.Lib in
theorem lines_any (s:Bs) (hs:s.length≤4000000000) (w:World) (hm:MxL w):Calls Tryz.prog 41 #[.string ⟨s.toArray⟩,.string ⟨#[10]⟩] w fun e w'=>e=.returned (.slice (some ⟨w.heap.size,0,none⟩) (xK s).length (xK s).length)∧w'=w.alloc (bk 9 ((xK s).map fun x=>.string ⟨x.toArray⟩)):=by
 obtain⟨m,hm⟩:=hm
 have e0:Lib.splitB ⟨#[10]⟩ 0 (Lib.countB ⟨s.toArray⟩ ⟨#[10]⟩) ⟨s.toArray⟩=(xK s).map fun x=>(⟨x.toArray⟩:ByteArray):=by
  have h1:=Lib.splitB_data ⟨#[10]⟩ 0 (Lib.countB ⟨s.toArray⟩ ⟨#[10]⟩) ⟨s.toArray⟩;have h2:Lib.splitK [10] 0 (Lib.count s [10]) s=xK s:=split_is _ s (Nat.lt_succ_self _);have h3:(Lib.splitB ⟨#[10]⟩ 0 (Lib.countB ⟨s.toArray⟩ ⟨#[10]⟩) ⟨s.toArray⟩).map (·.data.toList)=xK s:=h1.trans h2;rw[← h3,List.map_map];exact (List.map_id _).symm.trans (List.map_congr_left fun x _=>rfl)
 have e1:Lib.countB ⟨s.toArray⟩ ⟨#[10]⟩+1=(xK s).length:=by
  have:=Lib.splitB_all ⟨#[10]⟩ (by decide) 0 _ (⟨s.toArray⟩:ByteArray) rfl;rw[e0,Ak] at this;omega
 refine (Any.strings_Split { Tryz.laysM146 with } Tryz.laysM146.i9 ⟨s.toArray⟩ ⟨#[10]⟩ m w (by show s.toArray.size<_;simp;omega) hm (by decide)).mono fun e w' ⟨h1,h2⟩=>⟨?_,?_⟩;rw[h1,e1];rw[h2,e0,List.map_map];rfl
end Go.Proofs.YtkaepknpplhgkaaGreatDoor
