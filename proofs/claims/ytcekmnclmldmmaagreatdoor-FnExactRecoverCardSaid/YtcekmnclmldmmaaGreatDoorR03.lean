import Derived.Shelf.Small.Strs
import Derived.Shelf.Strings.Search3
import Derived.Shelf.LaysM
import Derived.Shelf.Sort.Plain
import Derived.Shelf.Strings.Split
import Derived.Shelf.Strings.Runes
import Derived.Shelf.Slices.In.SortNone
import Derived.Test.YtcekmnclmldmmaaGreatDoorProg
set_option linter.unusedVariables false
set_option linter.unusedSimpArgs false
namespace Go.Proofs
open Go.Shelf
def Tryz.lays137_ren:Go.Shelf.Ren:=⟨fun|137=>129|217=>153|266=>163|n=>n,fun|9=>9|5=>5|3=>3|n=>n,fun|n=>n⟩
theorem Tryz.lays137:Go.Proofs.Lays.n137 Tryz.prog Tryz.lays137_ren:={
 mixed:=by kernel_rfl
 f137:=Tryz.func129.trans (congrArg some (by kernel_rfl))
 f217:=Tryz.func153.trans (congrArg some (by kernel_rfl))
 f266:=Tryz.func163.trans (congrArg some (by kernel_rfl))
 t3:=Tryz.underlying3
 a3:=Tryz.isAgg3
 z3:=Tryz.sizeOf3
 v3:=Tryz.zeroValue3
 t5:=Tryz.underlying5
 a5:=Tryz.isAgg5
 z5:=Tryz.sizeOf5
 v5:=Tryz.zeroValue5
 t9:=Tryz.underlying9
 a9:=Tryz.isAgg9
 z9:=Tryz.sizeOf9
 v9:=Tryz.zeroValue9 }
open Go.RowKit in
theorem Tryz.strings_IndexByte(s:ByteArray)(c:Int)(w:World):
 Calls Tryz.prog 129 #[.string s,.int .u8 c] w fun e w'=>e= .returned (.int .i64 (Lib.indexByte s.data.toList c.toNat.toUInt8))∧w'=w:=Any.strings_IndexByte Tryz.lays137 s c w
def Tryz.lays144_ren:Go.Shelf.Ren:=⟨fun|144=>148|143=>161|219=>166|217=>153|225=>152|224=>151|267=>172|266=>163|314=>185|n=>n,fun|9=>9|4=>4|3=>3|5=>5|46=>154|146=>196|51=>194|n=>n,fun|1=>0|n=>n⟩
theorem Tryz.lays144:Go.Proofs.Lays.n144 Tryz.prog Tryz.lays144_ren:={
 mixed:=by kernel_rfl
 f143:=Tryz.func161.trans (congrArg some (by kernel_rfl))
 f144:=Tryz.func148.trans (congrArg some (by kernel_rfl))
 f217:=Tryz.func153.trans (congrArg some (by kernel_rfl))
 f219:=Tryz.func166.trans (congrArg some (by kernel_rfl))
 f224:=Tryz.func151.trans (congrArg some (by kernel_rfl))
 f225:=Tryz.func152.trans (congrArg some (by kernel_rfl))
 f266:=Tryz.func163.trans (congrArg some (by kernel_rfl))
 f267:=Tryz.func172.trans (congrArg some (by kernel_rfl))
 f314:=Tryz.func185.trans (congrArg some (by kernel_rfl))
 t3:=Tryz.underlying3
 a3:=Tryz.isAgg3
 z3:=Tryz.sizeOf3
 v3:=Tryz.zeroValue3
 t4:=Tryz.underlying4
 a4:=Tryz.isAgg4
 z4:=Tryz.sizeOf4
 v4:=Tryz.zeroValue4
 t5:=Tryz.underlying5
 a5:=Tryz.isAgg5
 z5:=Tryz.sizeOf5
 v5:=Tryz.zeroValue5
 t9:=Tryz.underlying9
 a9:=Tryz.isAgg9
 z9:=Tryz.sizeOf9
 v9:=Tryz.zeroValue9
 t46:=Tryz.underlying154
 a46:=Tryz.isAgg154
 z46:=Tryz.sizeOf154
 v46:=Tryz.zeroValue154
 t51:=Tryz.underlying194
 a51:=Tryz.isAgg194
 z51:=Tryz.sizeOf194
 v51:=Tryz.zeroValue194
 t146:=Tryz.underlying196
 a146:=Tryz.isAgg196
 z146:=Tryz.sizeOf196
 v146:=Tryz.zeroValue196
 g1:=by kernel_rfl }
open Go.RowKit Go.Lib in
theorem Tryz.strings_Contains(s sub:ByteArray)(m:Int)(w:World)(hs:s.size<4294967281)(hm:w.cell? ⟨0,0,none⟩=some (.int .i64 m)):
 Calls Tryz.prog 148 #[.string s,.string sub] w fun e w'=>e= .returned (.bool (Lib.contains s.data.toList sub.data.toList))∧w'=w:=Any.strings_Contains Tryz.lays144 s sub m w hs hm
def Tryz.lays190_ren:Go.Shelf.Ren:=⟨fun|190=>162|125=>168|258=>167|128=>182|129=>183|302=>173|303=>174|304=>175|305=>176|306=>177|307=>178|308=>179|309=>180|310=>181|333=>186|329=>187|330=>188|334=>189|335=>190|336=>191|344=>192|n=>n,fun|31=>39|9=>9|3=>3|46=>154|0=>0|51=>194|53=>117|4=>4|183=>187|182=>186|131=>191|5=>5|218=>198|222=>202|228=>208|229=>209|n=>n,fun|n=>n⟩
theorem Tryz.lays190:Go.Proofs.Lays.n190 Tryz.prog Tryz.lays190_ren:={
 mixed:=by kernel_rfl
 f125:=Tryz.func168.trans (congrArg some (by kernel_rfl))
 f128:=Tryz.func182.trans (congrArg some (by kernel_rfl))
 f129:=Tryz.func183.trans (congrArg some (by kernel_rfl))
 f190:=Tryz.func162.trans (congrArg some (by kernel_rfl))
 f258:=Tryz.func167.trans (congrArg some (by kernel_rfl))
 f302:=Tryz.func173.trans (congrArg some (by kernel_rfl))
 f303:=Tryz.func174.trans (congrArg some (by kernel_rfl))
 f304:=Tryz.func175.trans (congrArg some (by kernel_rfl))
 f305:=Tryz.func176.trans (congrArg some (by kernel_rfl))
 f306:=Tryz.func177.trans (congrArg some (by kernel_rfl))
 f307:=Tryz.func178.trans (congrArg some (by kernel_rfl))
 f308:=Tryz.func179.trans (congrArg some (by kernel_rfl))
 f309:=Tryz.func180.trans (congrArg some (by kernel_rfl))
 f310:=Tryz.func181.trans (congrArg some (by kernel_rfl))
 f329:=Tryz.func187.trans (congrArg some (by kernel_rfl))
 f330:=Tryz.func188.trans (congrArg some (by kernel_rfl))
 f333:=Tryz.func186.trans (congrArg some (by kernel_rfl))
 f334:=Tryz.func189.trans (congrArg some (by kernel_rfl))
 f335:=Tryz.func190.trans (congrArg some (by kernel_rfl))
 f336:=Tryz.func191.trans (congrArg some (by kernel_rfl))
 f344:=Tryz.func192.trans (congrArg some (by kernel_rfl))
 t0:=Tryz.underlying0
 a0:=Tryz.isAgg0
 z0:=Tryz.sizeOf0
 v0:=Tryz.zeroValue0
 t3:=Tryz.underlying3
 a3:=Tryz.isAgg3
 z3:=Tryz.sizeOf3
 v3:=Tryz.zeroValue3
 t4:=Tryz.underlying4
 a4:=Tryz.isAgg4
 z4:=Tryz.sizeOf4
 v4:=Tryz.zeroValue4
 t5:=Tryz.underlying5
 a5:=Tryz.isAgg5
 z5:=Tryz.sizeOf5
 v5:=Tryz.zeroValue5
 t9:=Tryz.underlying9
 a9:=Tryz.isAgg9
 z9:=Tryz.sizeOf9
 v9:=Tryz.zeroValue9
 t31:=Tryz.underlying39
 a31:=Tryz.isAgg39
 z31:=Tryz.sizeOf39
 v31:=Tryz.zeroValue39
 t46:=Tryz.underlying154
 a46:=Tryz.isAgg154
 z46:=Tryz.sizeOf154
 v46:=Tryz.zeroValue154
 t51:=Tryz.underlying194
 a51:=Tryz.isAgg194
 z51:=Tryz.sizeOf194
 v51:=Tryz.zeroValue194
 t53:=Tryz.underlying117
 a53:=Tryz.isAgg117
 z53:=Tryz.sizeOf117
 v53:=Tryz.zeroValue117
 t131:=Tryz.underlying191
 a131:=Tryz.isAgg191
 z131:=Tryz.sizeOf191
 v131:=Tryz.zeroValue191
 t182:=Tryz.underlying186
 a182:=Tryz.isAgg186
 z182:=Tryz.sizeOf186
 v182:=Tryz.zeroValue186
 t183:=Tryz.underlying187
 a183:=Tryz.isAgg187
 z183:=Tryz.sizeOf187
 v183:=Tryz.zeroValue187
 t218:=Tryz.underlying198
 a218:=Tryz.isAgg198
 z218:=Tryz.sizeOf198
 v218:=Tryz.zeroValue198
 t222:=Tryz.underlying202
 a222:=Tryz.isAgg202
 z222:=Tryz.sizeOf202
 v222:=Tryz.zeroValue202
 t228:=Tryz.underlying208
 a228:=Tryz.isAgg208
 z228:=Tryz.sizeOf208
 v228:=Tryz.zeroValue208
 t229:=Tryz.underlying209
 a229:=Tryz.isAgg209
 z229:=Tryz.sizeOf209
 v229:=Tryz.zeroValue209 }
open Go.Sort Go.RowKit in
theorem Tryz.slices_Sort_string(blk off cap:Nat)(ss:List (List UInt8))(w:World)(hH:Holds encStr w blk off ss.toArray)(hblk:blk<w.heap.size)(hsz:ss.length<4611686018427387904):
 Calls Tryz.prog 162 #[.slice (some ⟨blk,off,none⟩) ss.length cap] w fun e w'=>
  e= .returned (.tuple #[])∧∃n os,w'=grow (putRow encStr (Sort.ahead w n) blk off (ss.mergeSort fun x y=>decide (x≤y)).toArray) os:=Any.slices_Sort_string Tryz.lays190 blk off cap ss w hH hblk hsz
def Tryz.lays146_ren:Go.Shelf.Ren:=⟨fun|146=>132|221=>156|268=>164|138=>165|143=>161|195=>169|197=>170|218=>171|219=>166|260=>184|217=>153|225=>152|224=>151|267=>172|266=>163|314=>185|n=>n,fun|9=>9|31=>39|3=>3|4=>4|0=>0|105=>183|21=>21|5=>5|46=>154|119=>204|139=>207|138=>206|146=>196|51=>194|n=>n,fun|1=>0|3=>1|4=>2|n=>n⟩
theorem Tryz.lays146:Go.Proofs.Lays.n146 Tryz.prog Tryz.lays146_ren:={
 mixed:=by kernel_rfl
 f138:=Tryz.func165.trans (congrArg some (by kernel_rfl))
 f143:=Tryz.func161.trans (congrArg some (by kernel_rfl))
 f146:=Tryz.func132.trans (congrArg some (by kernel_rfl))
 f195:=Tryz.func169.trans (congrArg some (by kernel_rfl))
 f197:=Tryz.func170.trans (congrArg some (by kernel_rfl))
 f217:=Tryz.func153.trans (congrArg some (by kernel_rfl))
 f218:=Tryz.func171.trans (congrArg some (by kernel_rfl))
 f219:=Tryz.func166.trans (congrArg some (by kernel_rfl))
 f221:=Tryz.func156.trans (congrArg some (by kernel_rfl))
 f224:=Tryz.func151.trans (congrArg some (by kernel_rfl))
 f225:=Tryz.func152.trans (congrArg some (by kernel_rfl))
 f260:=Tryz.func184.trans (congrArg some (by kernel_rfl))
 f266:=Tryz.func163.trans (congrArg some (by kernel_rfl))
 f267:=Tryz.func172.trans (congrArg some (by kernel_rfl))
 f268:=Tryz.func164.trans (congrArg some (by kernel_rfl))
 f314:=Tryz.func185.trans (congrArg some (by kernel_rfl))
 t0:=Tryz.underlying0
 a0:=Tryz.isAgg0
 z0:=Tryz.sizeOf0
 v0:=Tryz.zeroValue0
 t3:=Tryz.underlying3
 a3:=Tryz.isAgg3
 z3:=Tryz.sizeOf3
 v3:=Tryz.zeroValue3
 t4:=Tryz.underlying4
 a4:=Tryz.isAgg4
 z4:=Tryz.sizeOf4
 v4:=Tryz.zeroValue4
 t5:=Tryz.underlying5
 a5:=Tryz.isAgg5
 z5:=Tryz.sizeOf5
 v5:=Tryz.zeroValue5
 t9:=Tryz.underlying9
 a9:=Tryz.isAgg9
 z9:=Tryz.sizeOf9
 v9:=Tryz.zeroValue9
 t21:=Tryz.underlying21
 a21:=Tryz.isAgg21
 z21:=Tryz.sizeOf21
 v21:=Tryz.zeroValue21
 t31:=Tryz.underlying39
 a31:=Tryz.isAgg39
 z31:=Tryz.sizeOf39
 v31:=Tryz.zeroValue39
 t46:=Tryz.underlying154
 a46:=Tryz.isAgg154
 z46:=Tryz.sizeOf154
 v46:=Tryz.zeroValue154
 t51:=Tryz.underlying194
 a51:=Tryz.isAgg194
 z51:=Tryz.sizeOf194
 v51:=Tryz.zeroValue194
 t105:=Tryz.underlying183
 a105:=Tryz.isAgg183
 z105:=Tryz.sizeOf183
 v105:=Tryz.zeroValue183
 t119:=Tryz.underlying204
 a119:=Tryz.isAgg204
 z119:=Tryz.sizeOf204
 t138:=Tryz.underlying206
 a138:=Tryz.isAgg206
 z138:=Tryz.sizeOf206
 v138:=Tryz.zeroValue206
 t139:=Tryz.underlying207
 a139:=Tryz.isAgg207
 z139:=Tryz.sizeOf207
 v139:=Tryz.zeroValue207
 t146:=Tryz.underlying196
 a146:=Tryz.isAgg196
 z146:=Tryz.sizeOf196
 v146:=Tryz.zeroValue196
 g1:=by kernel_rfl
 g3:=by kernel_rfl
 g4:=by kernel_rfl }
open Go.RowKit Go.Lib in
theorem Tryz.strings_Split(s sep:ByteArray)(m:Int)(w:World)(hs:s.size<4294967281)(hm:w.cell? ⟨0,0,none⟩=some (.int .i64 m))(h1:1≤sep.size):
 Calls Tryz.prog 132 #[.string s,.string sep] w fun e w'=>
  e= .returned (.slice (some ⟨w.heap.size,0,none⟩) (Lib.countB s sep+1) (Lib.countB s sep+1))∧w'=w.alloc (.cells ((Lib.splitB sep 0 (Lib.countB s sep) s).map Value.string).toArray 9):=Any.strings_Split Tryz.lays146 (by kernel_rfl) s sep m w hs hm h1
def Tryz.lays151_ren:Go.Shelf.Ren:=⟨fun|151=>94|152=>128|137=>129|119=>150|224=>151|225=>152|217=>153|266=>163|n=>n,fun|9=>9|21=>21|4=>4|3=>3|5=>5|0=>0|46=>154|n=>n,fun|n=>n⟩
theorem Tryz.lays151:Go.Proofs.Lays.n151 Tryz.prog Tryz.lays151_ren:={
 mixed:=by kernel_rfl
 f119:=Tryz.func150.trans (congrArg some (by kernel_rfl))
 f137:=Tryz.func129.trans (congrArg some (by kernel_rfl))
 f151:=Tryz.func94.trans (congrArg some (by kernel_rfl))
 f152:=Tryz.func128.trans (congrArg some (by kernel_rfl))
 f217:=Tryz.func153.trans (congrArg some (by kernel_rfl))
 f224:=Tryz.func151.trans (congrArg some (by kernel_rfl))
 f225:=Tryz.func152.trans (congrArg some (by kernel_rfl))
 f266:=Tryz.func163.trans (congrArg some (by kernel_rfl))
 t0:=Tryz.underlying0
 a0:=Tryz.isAgg0
 z0:=Tryz.sizeOf0
 v0:=Tryz.zeroValue0
 t3:=Tryz.underlying3
 a3:=Tryz.isAgg3
 z3:=Tryz.sizeOf3
 v3:=Tryz.zeroValue3
 t4:=Tryz.underlying4
 a4:=Tryz.isAgg4
 z4:=Tryz.sizeOf4
 v4:=Tryz.zeroValue4
 t5:=Tryz.underlying5
 a5:=Tryz.isAgg5
 z5:=Tryz.sizeOf5
 v5:=Tryz.zeroValue5
 t9:=Tryz.underlying9
 a9:=Tryz.isAgg9
 z9:=Tryz.sizeOf9
 v9:=Tryz.zeroValue9
 t21:=Tryz.underlying21
 a21:=Tryz.isAgg21
 z21:=Tryz.sizeOf21
 v21:=Tryz.zeroValue21
 t46:=Tryz.underlying154
 a46:=Tryz.isAgg154
 z46:=Tryz.sizeOf154
 v46:=Tryz.zeroValue154 }
open Go.RowKit Go.Lib in
theorem Tryz.strings_ContainsRune_ascii(s:ByteArray)(r:Int)(w:World)(h0:0≤r)(h1:r<128):
 Calls Tryz.prog 94 #[.string s,.int .i32 r] w fun e w'=>e= .returned (.bool (decide (0≤Lib.indexByte s.data.toList r.toNat.toUInt8)))∧w'=w:=Any.strings_ContainsRune_ascii Tryz.lays151 s r w h0 h1
open Go.RowKit Go.Sort in
theorem Tryz.slices_Sort_string_none(p:Option Addr)(cap:Nat)(w:World):
 Calls Tryz.prog 162 #[.slice p 0 cap] w fun e w'=>e= .returned (.tuple #[])∧w'=w:=Any.slices_Sort_string_none Tryz.lays190 p cap w
end Go.Proofs
