import Derived.Shelf.Small.Strs
import Derived.Shelf.Strings.Search3
import Derived.Shelf.LaysM
import Derived.Shelf.Sort.Plain
import Derived.Shelf.Strings.Split
import Derived.Shelf.Strings.Runes
import Derived.Shelf.Slices.In.SortNone
import Derived.Test.YtmdoobnlehkmpaaGreatDoorProg
namespace Go.Proofs
open Go.Shelf
def Tryz.lays137_ren:Go.Shelf.Ren:=⟨fun|137=>185|217=>196|266=>201|n=>n,fun|9=>9|5=>5|3=>3|n=>n,fun|n=>n⟩
theorem Tryz.lays137:Go.Proofs.Lays.n137 Tryz.prog Tryz.lays137_ren:={
 mixed:=by kernel_rfl
 f137:=Tryz.func185.trans (congrArg some (by kernel_rfl))
 f217:=Tryz.func196.trans (congrArg some (by kernel_rfl))
 f266:=Tryz.func201.trans (congrArg some (by kernel_rfl))
 t3:=Tryz.underlying3
 a3:=Tryz.isAgg3
 z3:=Tryz.sizeOf3
 v3:=Tryz.zeroValue3
 t5:=Tryz.underlying5
 a5:=Tryz.isAgg5
 z5:=Tryz.sizeOf5
 v5:=Tryz.zeroValue5
 t9:=Tryz.underlying9
 a9:=Tryz.isAgg9
 z9:=Tryz.sizeOf9
 v9:=Tryz.zeroValue9 }
open Go.RowKit in
theorem Tryz.strings_IndexByte(s:ByteArray)(c:Int)(w:World):
 Calls Tryz.prog 185 #[.string s,.int .u8 c] w fun e w'=>e= .returned (.int .i64 (Lib.indexByte s.data.toList c.toNat.toUInt8))/\w'=w:=Any.strings_IndexByte Tryz.lays137 s c w
def Tryz.lays144_ren:Go.Shelf.Ren:=⟨fun|144=>186|143=>197|219=>202|217=>196|225=>193|224=>192|267=>208|266=>201|314=>221|n=>n,fun|9=>9|4=>4|3=>3|5=>5|46=>203|146=>237|51=>235|n=>n,fun|1=>0|n=>n⟩
theorem Tryz.lays144:Go.Proofs.Lays.n144 Tryz.prog Tryz.lays144_ren:={
 mixed:=by kernel_rfl
 f143:=Tryz.func197.trans (congrArg some (by kernel_rfl))
 f144:=Tryz.func186.trans (congrArg some (by kernel_rfl))
 f217:=Tryz.func196.trans (congrArg some (by kernel_rfl))
 f219:=Tryz.func202.trans (congrArg some (by kernel_rfl))
 f224:=Tryz.func192.trans (congrArg some (by kernel_rfl))
 f225:=Tryz.func193.trans (congrArg some (by kernel_rfl))
 f266:=Tryz.func201.trans (congrArg some (by kernel_rfl))
 f267:=Tryz.func208.trans (congrArg some (by kernel_rfl))
 f314:=Tryz.func221.trans (congrArg some (by kernel_rfl))
 t3:=Tryz.underlying3
 a3:=Tryz.isAgg3
 z3:=Tryz.sizeOf3
 v3:=Tryz.zeroValue3
 t4:=Tryz.underlying4
 a4:=Tryz.isAgg4
 z4:=Tryz.sizeOf4
 v4:=Tryz.zeroValue4
 t5:=Tryz.underlying5
 a5:=Tryz.isAgg5
 z5:=Tryz.sizeOf5
 v5:=Tryz.zeroValue5
 t9:=Tryz.underlying9
 a9:=Tryz.isAgg9
 z9:=Tryz.sizeOf9
 v9:=Tryz.zeroValue9
 t46:=Tryz.underlying203
 a46:=Tryz.isAgg203
 z46:=Tryz.sizeOf203
 v46:=Tryz.zeroValue203
 t51:=Tryz.underlying235
 a51:=Tryz.isAgg235
 z51:=Tryz.sizeOf235
 v51:=Tryz.zeroValue235
 t146:=Tryz.underlying237
 a146:=Tryz.isAgg237
 z146:=Tryz.sizeOf237
 v146:=Tryz.zeroValue237
 g1:=by kernel_rfl }
open Go.RowKit Go.Lib in
theorem Tryz.strings_Contains(s sub:ByteArray)(m:Int)(w:World)(hs:s.size<4294967281)(hm:w.cell? ⟨0,0,none⟩=some (.int .i64 m)):
 Calls Tryz.prog 186 #[.string s,.string sub] w fun e w'=>e= .returned (.bool (Lib.contains s.data.toList sub.data.toList))/\w'=w:=Any.strings_Contains Tryz.lays144 s sub m w hs hm
def Tryz.lays190_ren:Go.Shelf.Ren:=⟨fun|190=>198|125=>204|258=>203|128=>218|129=>219|302=>209|303=>210|304=>211|305=>212|306=>213|307=>214|308=>215|309=>216|310=>217|333=>222|329=>223|330=>224|334=>225|335=>226|336=>227|344=>228|n=>n,fun|31=>101|9=>9|3=>3|46=>203|0=>0|51=>235|53=>176|4=>4|183=>228|182=>227|131=>232|5=>5|218=>239|222=>243|228=>249|229=>250|n=>n,fun|n=>n⟩
theorem Tryz.lays190:Go.Proofs.Lays.n190 Tryz.prog Tryz.lays190_ren:={
 mixed:=by kernel_rfl
 f125:=Tryz.func204.trans (congrArg some (by kernel_rfl))
 f128:=Tryz.func218.trans (congrArg some (by kernel_rfl))
 f129:=Tryz.func219.trans (congrArg some (by kernel_rfl))
 f190:=Tryz.func198.trans (congrArg some (by kernel_rfl))
 f258:=Tryz.func203.trans (congrArg some (by kernel_rfl))
 f302:=Tryz.func209.trans (congrArg some (by kernel_rfl))
 f303:=Tryz.func210.trans (congrArg some (by kernel_rfl))
 f304:=Tryz.func211.trans (congrArg some (by kernel_rfl))
 f305:=Tryz.func212.trans (congrArg some (by kernel_rfl))
 f306:=Tryz.func213.trans (congrArg some (by kernel_rfl))
 f307:=Tryz.func214.trans (congrArg some (by kernel_rfl))
 f308:=Tryz.func215.trans (congrArg some (by kernel_rfl))
 f309:=Tryz.func216.trans (congrArg some (by kernel_rfl))
 f310:=Tryz.func217.trans (congrArg some (by kernel_rfl))
 f329:=Tryz.func223.trans (congrArg some (by kernel_rfl))
 f330:=Tryz.func224.trans (congrArg some (by kernel_rfl))
 f333:=Tryz.func222.trans (congrArg some (by kernel_rfl))
 f334:=Tryz.func225.trans (congrArg some (by kernel_rfl))
 f335:=Tryz.func226.trans (congrArg some (by kernel_rfl))
 f336:=Tryz.func227.trans (congrArg some (by kernel_rfl))
 f344:=Tryz.func228.trans (congrArg some (by kernel_rfl))
 t0:=Tryz.underlying0
 a0:=Tryz.isAgg0
 z0:=Tryz.sizeOf0
 v0:=Tryz.zeroValue0
 t3:=Tryz.underlying3
 a3:=Tryz.isAgg3
 z3:=Tryz.sizeOf3
 v3:=Tryz.zeroValue3
 t4:=Tryz.underlying4
 a4:=Tryz.isAgg4
 z4:=Tryz.sizeOf4
 v4:=Tryz.zeroValue4
 t5:=Tryz.underlying5
 a5:=Tryz.isAgg5
 z5:=Tryz.sizeOf5
 v5:=Tryz.zeroValue5
 t9:=Tryz.underlying9
 a9:=Tryz.isAgg9
 z9:=Tryz.sizeOf9
 v9:=Tryz.zeroValue9
 t31:=Tryz.underlying101
 a31:=Tryz.isAgg101
 z31:=Tryz.sizeOf101
 v31:=Tryz.zeroValue101
 t46:=Tryz.underlying203
 a46:=Tryz.isAgg203
 z46:=Tryz.sizeOf203
 v46:=Tryz.zeroValue203
 t51:=Tryz.underlying235
 a51:=Tryz.isAgg235
 z51:=Tryz.sizeOf235
 v51:=Tryz.zeroValue235
 t53:=Tryz.underlying176
 a53:=Tryz.isAgg176
 z53:=Tryz.sizeOf176
 v53:=Tryz.zeroValue176
 t131:=Tryz.underlying232
 a131:=Tryz.isAgg232
 z131:=Tryz.sizeOf232
 v131:=Tryz.zeroValue232
 t182:=Tryz.underlying227
 a182:=Tryz.isAgg227
 z182:=Tryz.sizeOf227
 v182:=Tryz.zeroValue227
 t183:=Tryz.underlying228
 a183:=Tryz.isAgg228
 z183:=Tryz.sizeOf228
 v183:=Tryz.zeroValue228
 t218:=Tryz.underlying239
 a218:=Tryz.isAgg239
 z218:=Tryz.sizeOf239
 v218:=Tryz.zeroValue239
 t222:=Tryz.underlying243
 a222:=Tryz.isAgg243
 z222:=Tryz.sizeOf243
 v222:=Tryz.zeroValue243
 t228:=Tryz.underlying249
 a228:=Tryz.isAgg249
 z228:=Tryz.sizeOf249
 v228:=Tryz.zeroValue249
 t229:=Tryz.underlying250
 a229:=Tryz.isAgg250
 z229:=Tryz.sizeOf250
 v229:=Tryz.zeroValue250 }
open Go.Sort Go.RowKit in
theorem Tryz.slices_Sort_string(blk off cap:Nat)(ss:List (List UInt8))(w:World)(hH:Holds encStr w blk off ss.toArray)(hblk:blk<w.heap.size)(hsz:ss.length<4611686018427387904):
 Calls Tryz.prog 198 #[.slice (some ⟨blk,off,none⟩) ss.length cap] w fun e w'=>
  e= .returned (.tuple #[])/\∃n os,w'=grow (putRow encStr (Sort.ahead w n) blk off (ss.mergeSort fun x y=>decide (x<=y)).toArray) os:=Any.slices_Sort_string Tryz.lays190 blk off cap ss w hH hblk hsz
def Tryz.lays146_ren:Go.Shelf.Ren:=⟨fun|146=>175|221=>194|268=>199|138=>200|143=>197|195=>205|197=>206|218=>207|219=>202|260=>220|217=>196|225=>193|224=>192|267=>208|266=>201|314=>221|n=>n,fun|9=>9|31=>101|3=>3|4=>4|0=>0|105=>224|21=>21|5=>5|46=>203|119=>245|139=>248|138=>247|146=>237|51=>235|n=>n,fun|1=>0|3=>1|4=>2|n=>n⟩
theorem Tryz.lays146:Go.Proofs.Lays.n146 Tryz.prog Tryz.lays146_ren:={
 mixed:=by kernel_rfl
 f138:=Tryz.func200.trans (congrArg some (by kernel_rfl))
 f143:=Tryz.func197.trans (congrArg some (by kernel_rfl))
 f146:=Tryz.func175.trans (congrArg some (by kernel_rfl))
 f195:=Tryz.func205.trans (congrArg some (by kernel_rfl))
 f197:=Tryz.func206.trans (congrArg some (by kernel_rfl))
 f217:=Tryz.func196.trans (congrArg some (by kernel_rfl))
 f218:=Tryz.func207.trans (congrArg some (by kernel_rfl))
 f219:=Tryz.func202.trans (congrArg some (by kernel_rfl))
 f221:=Tryz.func194.trans (congrArg some (by kernel_rfl))
 f224:=Tryz.func192.trans (congrArg some (by kernel_rfl))
 f225:=Tryz.func193.trans (congrArg some (by kernel_rfl))
 f260:=Tryz.func220.trans (congrArg some (by kernel_rfl))
 f266:=Tryz.func201.trans (congrArg some (by kernel_rfl))
 f267:=Tryz.func208.trans (congrArg some (by kernel_rfl))
 f268:=Tryz.func199.trans (congrArg some (by kernel_rfl))
 f314:=Tryz.func221.trans (congrArg some (by kernel_rfl))
 t0:=Tryz.underlying0
 a0:=Tryz.isAgg0
 z0:=Tryz.sizeOf0
 v0:=Tryz.zeroValue0
 t3:=Tryz.underlying3
 a3:=Tryz.isAgg3
 z3:=Tryz.sizeOf3
 v3:=Tryz.zeroValue3
 t4:=Tryz.underlying4
 a4:=Tryz.isAgg4
 z4:=Tryz.sizeOf4
 v4:=Tryz.zeroValue4
 t5:=Tryz.underlying5
 a5:=Tryz.isAgg5
 z5:=Tryz.sizeOf5
 v5:=Tryz.zeroValue5
 t9:=Tryz.underlying9
 a9:=Tryz.isAgg9
 z9:=Tryz.sizeOf9
 v9:=Tryz.zeroValue9
 t21:=Tryz.underlying21
 a21:=Tryz.isAgg21
 z21:=Tryz.sizeOf21
 v21:=Tryz.zeroValue21
 t31:=Tryz.underlying101
 a31:=Tryz.isAgg101
 z31:=Tryz.sizeOf101
 v31:=Tryz.zeroValue101
 t46:=Tryz.underlying203
 a46:=Tryz.isAgg203
 z46:=Tryz.sizeOf203
 v46:=Tryz.zeroValue203
 t51:=Tryz.underlying235
 a51:=Tryz.isAgg235
 z51:=Tryz.sizeOf235
 v51:=Tryz.zeroValue235
 t105:=Tryz.underlying224
 a105:=Tryz.isAgg224
 z105:=Tryz.sizeOf224
 v105:=Tryz.zeroValue224
 t119:=Tryz.underlying245
 a119:=Tryz.isAgg245
 z119:=Tryz.sizeOf245
 t138:=Tryz.underlying247
 a138:=Tryz.isAgg247
 z138:=Tryz.sizeOf247
 v138:=Tryz.zeroValue247
 t139:=Tryz.underlying248
 a139:=Tryz.isAgg248
 z139:=Tryz.sizeOf248
 v139:=Tryz.zeroValue248
 t146:=Tryz.underlying237
 a146:=Tryz.isAgg237
 z146:=Tryz.sizeOf237
 v146:=Tryz.zeroValue237
 g1:=by kernel_rfl
 g3:=by kernel_rfl
 g4:=by kernel_rfl }
open Go.RowKit Go.Lib in
theorem Tryz.strings_Split(s sep:ByteArray)(m:Int)(w:World)(hs:s.size<4294967281)(hm:w.cell? ⟨0,0,none⟩=some (.int .i64 m))(h1:1<=sep.size):
 Calls Tryz.prog 175 #[.string s,.string sep] w fun e w'=>
  e= .returned (.slice (some ⟨w.heap.size,0,none⟩) (Lib.countB s sep+1) (Lib.countB s sep+1))/\w'=w.alloc (.cells ((Lib.splitB sep 0 (Lib.countB s sep) s).map Value.string).toArray 9):=Any.strings_Split Tryz.lays146 (by kernel_rfl) s sep m w hs hm h1
def Tryz.lays151_ren:Go.Shelf.Ren:=⟨fun|151=>138|152=>174|137=>185|119=>191|224=>192|225=>193|217=>196|266=>201|n=>n,fun|9=>9|21=>21|4=>4|3=>3|5=>5|0=>0|46=>203|n=>n,fun|n=>n⟩
theorem Tryz.lays151:Go.Proofs.Lays.n151 Tryz.prog Tryz.lays151_ren:={
 mixed:=by kernel_rfl
 f119:=Tryz.func191.trans (congrArg some (by kernel_rfl))
 f137:=Tryz.func185.trans (congrArg some (by kernel_rfl))
 f151:=Tryz.func138.trans (congrArg some (by kernel_rfl))
 f152:=Tryz.func174.trans (congrArg some (by kernel_rfl))
 f217:=Tryz.func196.trans (congrArg some (by kernel_rfl))
 f224:=Tryz.func192.trans (congrArg some (by kernel_rfl))
 f225:=Tryz.func193.trans (congrArg some (by kernel_rfl))
 f266:=Tryz.func201.trans (congrArg some (by kernel_rfl))
 t0:=Tryz.underlying0
 a0:=Tryz.isAgg0
 z0:=Tryz.sizeOf0
 v0:=Tryz.zeroValue0
 t3:=Tryz.underlying3
 a3:=Tryz.isAgg3
 z3:=Tryz.sizeOf3
 v3:=Tryz.zeroValue3
 t4:=Tryz.underlying4
 a4:=Tryz.isAgg4
 z4:=Tryz.sizeOf4
 v4:=Tryz.zeroValue4
 t5:=Tryz.underlying5
 a5:=Tryz.isAgg5
 z5:=Tryz.sizeOf5
 v5:=Tryz.zeroValue5
 t9:=Tryz.underlying9
 a9:=Tryz.isAgg9
 z9:=Tryz.sizeOf9
 v9:=Tryz.zeroValue9
 t21:=Tryz.underlying21
 a21:=Tryz.isAgg21
 z21:=Tryz.sizeOf21
 v21:=Tryz.zeroValue21
 t46:=Tryz.underlying203
 a46:=Tryz.isAgg203
 z46:=Tryz.sizeOf203
 v46:=Tryz.zeroValue203 }
open Go.RowKit Go.Lib in
theorem Tryz.strings_ContainsRune_ascii(s:ByteArray)(r:Int)(w:World)(h0:0<=r)(h1:r<128):
 Calls Tryz.prog 138 #[.string s,.int .i32 r] w fun e w'=>e= .returned (.bool (decide (0<=Lib.indexByte s.data.toList r.toNat.toUInt8)))/\w'=w:=Any.strings_ContainsRune_ascii Tryz.lays151 s r w h0 h1
open Go.RowKit Go.Sort in
theorem Tryz.slices_Sort_string_none(p:Option Addr)(cap:Nat)(w:World):
 Calls Tryz.prog 198 #[.slice p 0 cap] w fun e w'=>e= .returned (.tuple #[])/\w'=w:=Any.slices_Sort_string_none Tryz.lays190 p cap w
end Go.Proofs
