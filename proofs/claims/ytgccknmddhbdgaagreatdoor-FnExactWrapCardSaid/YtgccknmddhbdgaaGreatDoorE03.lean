import Derived.Shelf.Small.Strs
import Derived.Shelf.Strings.Search3
import Derived.Shelf.LaysM
import Derived.Shelf.Sort.Plain
import Derived.Shelf.Strings.Split
import Derived.Shelf.Strings.Runes
import Derived.Shelf.Slices.In.SortNone
import Derived.Test.YtgccknmddhbdgaaGreatDoorProg
namespace Go.Proofs
open Go.Shelf
def Tryz.lays137_ren:Go.Shelf.Ren:=⟨fun|137=>109|217=>126|266=>134|n=>n,fun|9=>9|5=>5|3=>3|n=>n,fun|n=>n⟩
theorem Tryz.lays137:Go.Proofs.Lays.n137 Tryz.prog Tryz.lays137_ren:={
 mixed:=by kernel_rfl
 f137:=Tryz.func109.trans (congrArg some (by kernel_rfl))
 f217:=Tryz.func126.trans (congrArg some (by kernel_rfl))
 f266:=Tryz.func134.trans (congrArg some (by kernel_rfl))
 t3:=Tryz.underlying3
 a3:=Tryz.isAgg3
 z3:=Tryz.sizeOf3
 v3:=Tryz.zeroValue3
 t5:=Tryz.underlying5
 a5:=Tryz.isAgg5
 z5:=Tryz.sizeOf5
 v5:=Tryz.zeroValue5
 t9:=Tryz.underlying9
 a9:=Tryz.isAgg9
 z9:=Tryz.sizeOf9
 v9:=Tryz.zeroValue9 }
open Go.RowKit in
theorem Tryz.strings_IndexByte(s:ByteArray)(c:Int)(w:World):
 Calls Tryz.prog 109 #[.string s,.int .u8 c] w fun e w'=>e= .returned (.int .i64 (Lib.indexByte s.data.toList c.toNat.toUInt8))/\w'=w:=Any.strings_IndexByte Tryz.lays137 s c w
def Tryz.lays144_ren:Go.Shelf.Ren:=⟨fun|144=>121|143=>129|219=>138|217=>126|225=>125|224=>124|267=>142|266=>134|314=>154|n=>n,fun|9=>9|4=>4|3=>3|5=>5|46=>152|146=>187|51=>181|n=>n,fun|1=>0|n=>n⟩
theorem Tryz.lays144:Go.Proofs.Lays.n144 Tryz.prog Tryz.lays144_ren:={
 mixed:=by kernel_rfl
 f143:=Tryz.func129.trans (congrArg some (by kernel_rfl))
 f144:=Tryz.func121.trans (congrArg some (by kernel_rfl))
 f217:=Tryz.func126.trans (congrArg some (by kernel_rfl))
 f219:=Tryz.func138.trans (congrArg some (by kernel_rfl))
 f224:=Tryz.func124.trans (congrArg some (by kernel_rfl))
 f225:=Tryz.func125.trans (congrArg some (by kernel_rfl))
 f266:=Tryz.func134.trans (congrArg some (by kernel_rfl))
 f267:=Tryz.func142.trans (congrArg some (by kernel_rfl))
 f314:=Tryz.func154.trans (congrArg some (by kernel_rfl))
 t3:=Tryz.underlying3
 a3:=Tryz.isAgg3
 z3:=Tryz.sizeOf3
 v3:=Tryz.zeroValue3
 t4:=Tryz.underlying4
 a4:=Tryz.isAgg4
 z4:=Tryz.sizeOf4
 v4:=Tryz.zeroValue4
 t5:=Tryz.underlying5
 a5:=Tryz.isAgg5
 z5:=Tryz.sizeOf5
 v5:=Tryz.zeroValue5
 t9:=Tryz.underlying9
 a9:=Tryz.isAgg9
 z9:=Tryz.sizeOf9
 v9:=Tryz.zeroValue9
 t46:=Tryz.underlying152
 a46:=Tryz.isAgg152
 z46:=Tryz.sizeOf152
 v46:=Tryz.zeroValue152
 t51:=Tryz.underlying181
 a51:=Tryz.isAgg181
 z51:=Tryz.sizeOf181
 v51:=Tryz.zeroValue181
 t146:=Tryz.underlying187
 a146:=Tryz.isAgg187
 z146:=Tryz.sizeOf187
 v146:=Tryz.zeroValue187
 g1:=by kernel_rfl }
open Go.RowKit Go.Lib in
theorem Tryz.strings_Contains(s sub:ByteArray)(m:Int)(w:World)(hs:s.size<4294967281)(hm:w.cell? ⟨0,0,none⟩=some (.int .i64 m)):
 Calls Tryz.prog 121 #[.string s,.string sub] w fun e w'=>e= .returned (.bool (Lib.contains s.data.toList sub.data.toList))/\w'=w:=Any.strings_Contains Tryz.lays144 s sub m w hs hm
def Tryz.lays190_ren:Go.Shelf.Ren:=⟨fun|190=>133|125=>140|258=>139|128=>152|129=>153|302=>143|303=>144|304=>145|305=>146|306=>147|307=>148|308=>149|309=>150|310=>151|333=>155|329=>156|330=>157|334=>158|335=>159|336=>160|344=>161|n=>n,fun|31=>28|9=>9|3=>3|46=>152|0=>0|51=>181|53=>125|4=>4|183=>174|182=>173|131=>178|5=>5|218=>189|222=>193|228=>195|229=>196|n=>n,fun|n=>n⟩
theorem Tryz.lays190:Go.Proofs.Lays.n190 Tryz.prog Tryz.lays190_ren:={
 mixed:=by kernel_rfl
 f125:=Tryz.func140.trans (congrArg some (by kernel_rfl))
 f128:=Tryz.func152.trans (congrArg some (by kernel_rfl))
 f129:=Tryz.func153.trans (congrArg some (by kernel_rfl))
 f190:=Tryz.func133.trans (congrArg some (by kernel_rfl))
 f258:=Tryz.func139.trans (congrArg some (by kernel_rfl))
 f302:=Tryz.func143.trans (congrArg some (by kernel_rfl))
 f303:=Tryz.func144.trans (congrArg some (by kernel_rfl))
 f304:=Tryz.func145.trans (congrArg some (by kernel_rfl))
 f305:=Tryz.func146.trans (congrArg some (by kernel_rfl))
 f306:=Tryz.func147.trans (congrArg some (by kernel_rfl))
 f307:=Tryz.func148.trans (congrArg some (by kernel_rfl))
 f308:=Tryz.func149.trans (congrArg some (by kernel_rfl))
 f309:=Tryz.func150.trans (congrArg some (by kernel_rfl))
 f310:=Tryz.func151.trans (congrArg some (by kernel_rfl))
 f329:=Tryz.func156.trans (congrArg some (by kernel_rfl))
 f330:=Tryz.func157.trans (congrArg some (by kernel_rfl))
 f333:=Tryz.func155.trans (congrArg some (by kernel_rfl))
 f334:=Tryz.func158.trans (congrArg some (by kernel_rfl))
 f335:=Tryz.func159.trans (congrArg some (by kernel_rfl))
 f336:=Tryz.func160.trans (congrArg some (by kernel_rfl))
 f344:=Tryz.func161.trans (congrArg some (by kernel_rfl))
 t0:=Tryz.underlying0
 a0:=Tryz.isAgg0
 z0:=Tryz.sizeOf0
 v0:=Tryz.zeroValue0
 t3:=Tryz.underlying3
 a3:=Tryz.isAgg3
 z3:=Tryz.sizeOf3
 v3:=Tryz.zeroValue3
 t4:=Tryz.underlying4
 a4:=Tryz.isAgg4
 z4:=Tryz.sizeOf4
 v4:=Tryz.zeroValue4
 t5:=Tryz.underlying5
 a5:=Tryz.isAgg5
 z5:=Tryz.sizeOf5
 v5:=Tryz.zeroValue5
 t9:=Tryz.underlying9
 a9:=Tryz.isAgg9
 z9:=Tryz.sizeOf9
 v9:=Tryz.zeroValue9
 t31:=Tryz.underlying28
 a31:=Tryz.isAgg28
 z31:=Tryz.sizeOf28
 v31:=Tryz.zeroValue28
 t46:=Tryz.underlying152
 a46:=Tryz.isAgg152
 z46:=Tryz.sizeOf152
 v46:=Tryz.zeroValue152
 t51:=Tryz.underlying181
 a51:=Tryz.isAgg181
 z51:=Tryz.sizeOf181
 v51:=Tryz.zeroValue181
 t53:=Tryz.underlying125
 a53:=Tryz.isAgg125
 z53:=Tryz.sizeOf125
 v53:=Tryz.zeroValue125
 t131:=Tryz.underlying178
 a131:=Tryz.isAgg178
 z131:=Tryz.sizeOf178
 v131:=Tryz.zeroValue178
 t182:=Tryz.underlying173
 a182:=Tryz.isAgg173
 z182:=Tryz.sizeOf173
 v182:=Tryz.zeroValue173
 t183:=Tryz.underlying174
 a183:=Tryz.isAgg174
 z183:=Tryz.sizeOf174
 v183:=Tryz.zeroValue174
 t218:=Tryz.underlying189
 a218:=Tryz.isAgg189
 z218:=Tryz.sizeOf189
 v218:=Tryz.zeroValue189
 t222:=Tryz.underlying193
 a222:=Tryz.isAgg193
 z222:=Tryz.sizeOf193
 v222:=Tryz.zeroValue193
 t228:=Tryz.underlying195
 a228:=Tryz.isAgg195
 z228:=Tryz.sizeOf195
 v228:=Tryz.zeroValue195
 t229:=Tryz.underlying196
 a229:=Tryz.isAgg196
 z229:=Tryz.sizeOf196
 v229:=Tryz.zeroValue196 }
open Go.Sort Go.RowKit in
theorem Tryz.slices_Sort_string(blk off cap:Nat)(ss:List (List UInt8))(w:World)(hH:Holds encStr w blk off ss.toArray)(hblk:blk<w.heap.size)(hsz:ss.length<4611686018427387904):
 Calls Tryz.prog 133 #[.slice (some ⟨blk,off,none⟩) ss.length cap] w fun e w'=>
  e= .returned (.tuple #[])/\∃n os,w'=grow (putRow encStr (Sort.ahead w n) blk off (ss.mergeSort fun x y=>decide (x<=y)).toArray) os:=Any.slices_Sort_string Tryz.lays190 blk off cap ss w hH hblk hsz
def Tryz.lays146_ren:Go.Shelf.Ren:=⟨fun|146=>92|221=>110|268=>127|138=>128|143=>129|195=>135|197=>136|218=>137|219=>138|260=>141|217=>126|225=>125|224=>124|267=>142|266=>134|314=>154|n=>n,fun|9=>9|31=>28|3=>3|4=>4|0=>0|105=>168|21=>21|5=>5|46=>152|119=>183|139=>186|138=>185|146=>187|51=>181|n=>n,fun|1=>0|3=>1|4=>2|n=>n⟩
theorem Tryz.lays146:Go.Proofs.Lays.n146 Tryz.prog Tryz.lays146_ren:={
 mixed:=by kernel_rfl
 f138:=Tryz.func128.trans (congrArg some (by kernel_rfl))
 f143:=Tryz.func129.trans (congrArg some (by kernel_rfl))
 f146:=Tryz.func92.trans (congrArg some (by kernel_rfl))
 f195:=Tryz.func135.trans (congrArg some (by kernel_rfl))
 f197:=Tryz.func136.trans (congrArg some (by kernel_rfl))
 f217:=Tryz.func126.trans (congrArg some (by kernel_rfl))
 f218:=Tryz.func137.trans (congrArg some (by kernel_rfl))
 f219:=Tryz.func138.trans (congrArg some (by kernel_rfl))
 f221:=Tryz.func110.trans (congrArg some (by kernel_rfl))
 f224:=Tryz.func124.trans (congrArg some (by kernel_rfl))
 f225:=Tryz.func125.trans (congrArg some (by kernel_rfl))
 f260:=Tryz.func141.trans (congrArg some (by kernel_rfl))
 f266:=Tryz.func134.trans (congrArg some (by kernel_rfl))
 f267:=Tryz.func142.trans (congrArg some (by kernel_rfl))
 f268:=Tryz.func127.trans (congrArg some (by kernel_rfl))
 f314:=Tryz.func154.trans (congrArg some (by kernel_rfl))
 t0:=Tryz.underlying0
 a0:=Tryz.isAgg0
 z0:=Tryz.sizeOf0
 v0:=Tryz.zeroValue0
 t3:=Tryz.underlying3
 a3:=Tryz.isAgg3
 z3:=Tryz.sizeOf3
 v3:=Tryz.zeroValue3
 t4:=Tryz.underlying4
 a4:=Tryz.isAgg4
 z4:=Tryz.sizeOf4
 v4:=Tryz.zeroValue4
 t5:=Tryz.underlying5
 a5:=Tryz.isAgg5
 z5:=Tryz.sizeOf5
 v5:=Tryz.zeroValue5
 t9:=Tryz.underlying9
 a9:=Tryz.isAgg9
 z9:=Tryz.sizeOf9
 v9:=Tryz.zeroValue9
 t21:=Tryz.underlying21
 a21:=Tryz.isAgg21
 z21:=Tryz.sizeOf21
 v21:=Tryz.zeroValue21
 t31:=Tryz.underlying28
 a31:=Tryz.isAgg28
 z31:=Tryz.sizeOf28
 v31:=Tryz.zeroValue28
 t46:=Tryz.underlying152
 a46:=Tryz.isAgg152
 z46:=Tryz.sizeOf152
 v46:=Tryz.zeroValue152
 t51:=Tryz.underlying181
 a51:=Tryz.isAgg181
 z51:=Tryz.sizeOf181
 v51:=Tryz.zeroValue181
 t105:=Tryz.underlying168
 a105:=Tryz.isAgg168
 z105:=Tryz.sizeOf168
 v105:=Tryz.zeroValue168
 t119:=Tryz.underlying183
 a119:=Tryz.isAgg183
 z119:=Tryz.sizeOf183
 t138:=Tryz.underlying185
 a138:=Tryz.isAgg185
 z138:=Tryz.sizeOf185
 v138:=Tryz.zeroValue185
 t139:=Tryz.underlying186
 a139:=Tryz.isAgg186
 z139:=Tryz.sizeOf186
 v139:=Tryz.zeroValue186
 t146:=Tryz.underlying187
 a146:=Tryz.isAgg187
 z146:=Tryz.sizeOf187
 v146:=Tryz.zeroValue187
 g1:=by kernel_rfl
 g3:=by kernel_rfl
 g4:=by kernel_rfl }
open Go.RowKit Go.Lib in
theorem Tryz.strings_Split(s sep:ByteArray)(m:Int)(w:World)(hs:s.size<4294967281)(hm:w.cell? ⟨0,0,none⟩=some (.int .i64 m))(h1:1<=sep.size):
 Calls Tryz.prog 92 #[.string s,.string sep] w fun e w'=>
  e= .returned (.slice (some ⟨w.heap.size,0,none⟩) (Lib.countB s sep+1) (Lib.countB s sep+1))/\w'=w.alloc (.cells ((Lib.splitB sep 0 (Lib.countB s sep) s).map Value.string).toArray 9):=Any.strings_Split Tryz.lays146 (by kernel_rfl) s sep m w hs hm h1
def Tryz.lays151_ren:Go.Shelf.Ren:=⟨fun|151=>90|152=>108|137=>109|119=>123|224=>124|225=>125|217=>126|266=>134|n=>n,fun|9=>9|21=>21|4=>4|3=>3|5=>5|0=>0|46=>152|n=>n,fun|n=>n⟩
theorem Tryz.lays151:Go.Proofs.Lays.n151 Tryz.prog Tryz.lays151_ren:={
 mixed:=by kernel_rfl
 f119:=Tryz.func123.trans (congrArg some (by kernel_rfl))
 f137:=Tryz.func109.trans (congrArg some (by kernel_rfl))
 f151:=Tryz.func90.trans (congrArg some (by kernel_rfl))
 f152:=Tryz.func108.trans (congrArg some (by kernel_rfl))
 f217:=Tryz.func126.trans (congrArg some (by kernel_rfl))
 f224:=Tryz.func124.trans (congrArg some (by kernel_rfl))
 f225:=Tryz.func125.trans (congrArg some (by kernel_rfl))
 f266:=Tryz.func134.trans (congrArg some (by kernel_rfl))
 t0:=Tryz.underlying0
 a0:=Tryz.isAgg0
 z0:=Tryz.sizeOf0
 v0:=Tryz.zeroValue0
 t3:=Tryz.underlying3
 a3:=Tryz.isAgg3
 z3:=Tryz.sizeOf3
 v3:=Tryz.zeroValue3
 t4:=Tryz.underlying4
 a4:=Tryz.isAgg4
 z4:=Tryz.sizeOf4
 v4:=Tryz.zeroValue4
 t5:=Tryz.underlying5
 a5:=Tryz.isAgg5
 z5:=Tryz.sizeOf5
 v5:=Tryz.zeroValue5
 t9:=Tryz.underlying9
 a9:=Tryz.isAgg9
 z9:=Tryz.sizeOf9
 v9:=Tryz.zeroValue9
 t21:=Tryz.underlying21
 a21:=Tryz.isAgg21
 z21:=Tryz.sizeOf21
 v21:=Tryz.zeroValue21
 t46:=Tryz.underlying152
 a46:=Tryz.isAgg152
 z46:=Tryz.sizeOf152
 v46:=Tryz.zeroValue152 }
open Go.RowKit Go.Lib in
theorem Tryz.strings_ContainsRune_ascii(s:ByteArray)(r:Int)(w:World)(h0:0<=r)(h1:r<128):
 Calls Tryz.prog 90 #[.string s,.int .i32 r] w fun e w'=>e= .returned (.bool (decide (0<=Lib.indexByte s.data.toList r.toNat.toUInt8)))/\w'=w:=Any.strings_ContainsRune_ascii Tryz.lays151 s r w h0 h1
open Go.RowKit Go.Sort in
theorem Tryz.slices_Sort_string_none(p:Option Addr)(cap:Nat)(w:World):
 Calls Tryz.prog 133 #[.slice p 0 cap] w fun e w'=>e= .returned (.tuple #[])/\w'=w:=Any.slices_Sort_string_none Tryz.lays190 p cap w
end Go.Proofs
