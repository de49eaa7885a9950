/-
 DERIVED: THE SHELF's CONTRACTS AT THIS DUMP, IN PLAIN WORDS (tools/lay-plain.mjs out of 'YtlbfmjolchehbaaGreatDoorSh.lean', which tools/lay-shelf.mjs wrote): THE SAME DECLARATIONS UNDER THE SAME NAMES: 'import', 'namespace', 'open', 'def', 'theorem' AND NOTHING ELSE: no command of the shelf's: FOR A HAND-IN. Each laying: the table of numbers ('.._ren') and one theorem, a field a fact of the dump's own or the kernel's comparison; each contract: ONE APPLICATION.
-/
import Derived.Shelf.Small.Bits
import Derived.Shelf.Strconv.Itoa0
import Derived.Shelf.Strconv.Itoa1
import Derived.Shelf.LaysM
import Derived.Shelf.Strconv.Itoa2
import Derived.Shelf.Strconv.Itoa3
import Derived.Shelf.Strings.Search1
import Derived.Shelf.Strings.Search2
import Derived.Shelf.Strings.Search3
import Derived.Shelf.Strings.Cut
import Derived.Shelf.Strings.Shaped
import Derived.Shelf.Sort.Plain
import Derived.Shelf.Bits.Mul64
import Derived.Shelf.Unicode.DecodeSlow
import Derived.Ground.Names2Prog
import Derived.Shelf.Slices.Clone
import Derived.Shelf.Slices.CompactI
import Derived.Shelf.Slices.In.SortNone
import Derived.Ground.SlgcProg
import Derived.Shelf.SlicesG.Cmp
import Derived.Test.YtlbfmjolchehbaaGreatDoorProg
set_option linter.all false
namespace Go.Proofs
open Go.Shelf
def Tryz.laysM171_ren:Go.Shelf.Ren:=⟨λ|171=>62|243=>144|246=>218|283=>261|284=>262|285=>263|286=>264|129=>124|317=>290|318=>291|319=>292|320=>293|337=>311|338=>312|n=>n,λ|3=>3|9=>9|2=>2|4=>4|171=>401|0=>0|53=>261|37=>276|5=>5|173=>403|212=>426|51=>259|20=>20|213=>427|46=>72|232=>456|233=>457|n=>n,λ|17=>1|18=>5|19=>6|n=>n⟩
theorem Tryz.laysM171:Go.Proofs.LaysM.n171 Tryz.prog Tryz.laysM171_ren:={
 mixed:=by kernel_rfl
 f129:=Tryz.func124.trans (congrArg some (by kernel_rfl))
 f171:=Tryz.func62.trans (congrArg some (by kernel_rfl))
 f243:=Tryz.func144.trans (congrArg some (by kernel_rfl))
 f246:=Tryz.func218.trans (congrArg some (by kernel_rfl))
 f283:=Tryz.func261.trans (congrArg some (by kernel_rfl))
 f284:=Tryz.func262.trans (congrArg some (by kernel_rfl))
 f285:=Tryz.func263.trans (congrArg some (by kernel_rfl))
 f286:=Tryz.func264.trans (congrArg some (by kernel_rfl))
 f317:=Tryz.func290.trans (congrArg some (by kernel_rfl))
 f318:=Tryz.func291.trans (congrArg some (by kernel_rfl))
 f319:=Tryz.func292.trans (congrArg some (by kernel_rfl))
 f320:=Tryz.func293.trans (congrArg some (by kernel_rfl))
 f337:=Tryz.func311.trans (congrArg some (by kernel_rfl))
 f338:=Tryz.func312.trans (congrArg some (by kernel_rfl))
 t0:=Tryz.underlying0
 a0:=Tryz.isAgg0
 z0:=Tryz.sizeOf0
 v0:=Tryz.zeroValue0
 t2:=Tryz.underlying2
 a2:=Tryz.isAgg2
 z2:=Tryz.sizeOf2
 v2:=Tryz.zeroValue2
 t3:=Tryz.underlying3
 a3:=Tryz.isAgg3
 z3:=Tryz.sizeOf3
 v3:=Tryz.zeroValue3
 t4:=Tryz.underlying4
 a4:=Tryz.isAgg4
 z4:=Tryz.sizeOf4
 v4:=Tryz.zeroValue4
 t5:=Tryz.underlying5
 a5:=Tryz.isAgg5
 z5:=Tryz.sizeOf5
 v5:=Tryz.zeroValue5
 t9:=Tryz.underlying9
 a9:=Tryz.isAgg9
 z9:=Tryz.sizeOf9
 v9:=Tryz.zeroValue9
 t20:=Tryz.underlying20
 a20:=Tryz.isAgg20
 z20:=Tryz.sizeOf20
 v20:=Tryz.zeroValue20
 t37:=Tryz.underlying276
 a37:=Tryz.isAgg276
 z37:=Tryz.sizeOf276
 v37:=Tryz.zeroValue276
 t46:=Tryz.underlying72
 a46:=Tryz.isAgg72
 z46:=Tryz.sizeOf72
 v46:=Tryz.zeroValue72
 t51:=Tryz.underlying259
 a51:=Tryz.isAgg259
 z51:=Tryz.sizeOf259
 v51:=Tryz.zeroValue259
 t53:=Tryz.underlying261
 a53:=Tryz.isAgg261
 z53:=Tryz.sizeOf261
 v53:=Tryz.zeroValue261
 t171:=Tryz.underlying401
 a171:=Tryz.isAgg401
 z171:=Tryz.sizeOf401
 v171:=Tryz.zeroValue401
 t173:=Tryz.underlying403
 a173:=Tryz.isAgg403
 z173:=Tryz.sizeOf403
 v173:=Tryz.zeroValue403
 t212:=Tryz.underlying426
 a212:=Tryz.isAgg426
 z212:=Tryz.sizeOf426
 v212:=Tryz.zeroValue426
 t213:=Tryz.underlying427
 a213:=Tryz.isAgg427
 z213:=Tryz.sizeOf427
 t232:=Tryz.underlying456
 a232:=Tryz.isAgg456
 z232:=Tryz.sizeOf456
 v232:=Tryz.zeroValue456
 t233:=Tryz.underlying457
 a233:=Tryz.isAgg457
 z233:=Tryz.sizeOf457
 v233:=Tryz.zeroValue457
 g17:=by kernel_rfl
 g18:=by kernel_rfl
 g19:=by kernel_rfl
 i0:=by kernel_rfl
 i2:=by kernel_rfl
 i3:=by kernel_rfl
 i4:=by kernel_rfl
 i5:=by kernel_rfl
 i9:=by kernel_rfl
 i20:=by kernel_rfl
 i37:=by kernel_rfl
 i46:=by kernel_rfl
 i51:=by kernel_rfl
 i53:=by kernel_rfl
 i171:=by kernel_rfl
 i173:=by kernel_rfl
 i212:=by kernel_rfl
 i232:=by kernel_rfl
 i233:=by kernel_rfl
 m17:=by kernel_rfl
 m18:=by kernel_rfl
 m19:=by kernel_rfl}
open Go.RowKit Go.Sort Go.Lib in
theorem Tryz.strconv_Itoa(n:Int)(h0: -9223372036854775808<=n)(h1:n<=9223372036854775807)(w:World)(htab:Lib.TabIs Tryz.prog w "internal/strconv.uint64pow10" .u64 Lib.pow10Tab):Calls Tryz.prog 62 #[.int .i64 n] w λe w'=>e= .returned (.string ⟨(Lib.itoa n).toArray⟩)/\∃k os,w'=grow (w.drewN k) os:=Any.strconv_Itoa Tryz.laysM171 n h0 h1 w htab
def Tryz.lays217_ren:Go.Shelf.Ren:=⟨λ|217=>313|266=>323|n=>n,λ|9=>9|5=>5|3=>3|n=>n,λ|n=>n⟩
theorem Tryz.lays217:Go.Proofs.Lays.n217 Tryz.prog Tryz.lays217_ren:={
 mixed:=by kernel_rfl
 f217:=Tryz.func313.trans (congrArg some (by kernel_rfl))
 f266:=Tryz.func323.trans (congrArg some (by kernel_rfl))
 t3:=Tryz.underlying3
 a3:=Tryz.isAgg3
 z3:=Tryz.sizeOf3
 v3:=Tryz.zeroValue3
 t5:=Tryz.underlying5
 a5:=Tryz.isAgg5
 z5:=Tryz.sizeOf5
 v5:=Tryz.zeroValue5
 t9:=Tryz.underlying9
 a9:=Tryz.isAgg9
 z9:=Tryz.sizeOf9
 v9:=Tryz.zeroValue9}
open Go.RowKit Go.Lib in
theorem Tryz.stringslite_IndexByte(s:ByteArray)(c:Int)(w:World):Calls Tryz.prog 313 #[.string s,.int .u8 c] w λe w'=>e= .returned (.int .i64 (Lib.indexByte s.data.toList c.toNat.toUInt8))/\w'=w:=Any.stringslite_IndexByte Tryz.lays217 s c w
def Tryz.lays145_ren:Go.Shelf.Ren:=⟨λ|145=>220|220=>268|219=>295|217=>313|225=>314|224=>315|267=>316|266=>323|314=>324|n=>n,λ|9=>9|4=>4|59=>361|3=>3|5=>5|46=>72|146=>452|51=>259|n=>n,λ|1=>4|n=>n⟩
theorem Tryz.lays145:Go.Proofs.Lays.n145 Tryz.prog Tryz.lays145_ren:={
 mixed:=by kernel_rfl
 f145:=Tryz.func220.trans (congrArg some (by kernel_rfl))
 f217:=Tryz.func313.trans (congrArg some (by kernel_rfl))
 f219:=Tryz.func295.trans (congrArg some (by kernel_rfl))
 f220:=Tryz.func268.trans (congrArg some (by kernel_rfl))
 f224:=Tryz.func315.trans (congrArg some (by kernel_rfl))
 f225:=Tryz.func314.trans (congrArg some (by kernel_rfl))
 f266:=Tryz.func323.trans (congrArg some (by kernel_rfl))
 f267:=Tryz.func316.trans (congrArg some (by kernel_rfl))
 f314:=Tryz.func324.trans (congrArg some (by kernel_rfl))
 t3:=Tryz.underlying3
 a3:=Tryz.isAgg3
 z3:=Tryz.sizeOf3
 v3:=Tryz.zeroValue3
 t4:=Tryz.underlying4
 a4:=Tryz.isAgg4
 z4:=Tryz.sizeOf4
 v4:=Tryz.zeroValue4
 t5:=Tryz.underlying5
 a5:=Tryz.isAgg5
 z5:=Tryz.sizeOf5
 v5:=Tryz.zeroValue5
 t9:=Tryz.underlying9
 a9:=Tryz.isAgg9
 z9:=Tryz.sizeOf9
 v9:=Tryz.zeroValue9
 t46:=Tryz.underlying72
 a46:=Tryz.isAgg72
 z46:=Tryz.sizeOf72
 v46:=Tryz.zeroValue72
 t51:=Tryz.underlying259
 a51:=Tryz.isAgg259
 z51:=Tryz.sizeOf259
 v51:=Tryz.zeroValue259
 t59:=Tryz.underlying361
 a59:=Tryz.isAgg361
 z59:=Tryz.sizeOf361
 v59:=Tryz.zeroValue361
 t146:=Tryz.underlying452
 a146:=Tryz.isAgg452
 z146:=Tryz.sizeOf452
 v146:=Tryz.zeroValue452
 g1:=by kernel_rfl}
open Go.RowKit Go.Lib in
theorem Tryz.strings_Cut(s a:ByteArray)(m:Int)(w:World)(hs:s.size<4294967281)(b:w.cell? ⟨4,0,none⟩=some (.int .i64 m)):Calls Tryz.prog 220 #[.string s,.string a] w λe w'=>e= .returned (.tuple #[.string ⟨(Lib.cut s.data.toList a.data.toList).1.toArray⟩,.string ⟨(Lib.cut s.data.toList a.data.toList).2.1.toArray⟩,.bool (Lib.cut s.data.toList a.data.toList).2.2])/\∃n,w'=w.drewN n:=Any.strings_Cut Tryz.lays145 s a m w hs b
def Tryz.lays189_ren:Go.Shelf.Ren:=⟨λ|189=>20|125=>49|257=>48|128=>123|129=>124|294=>114|295=>115|296=>116|297=>117|298=>118|299=>119|216=>120|300=>121|301=>122|328=>195|329=>196|330=>197|331=>198|332=>199|215=>191|343=>257|n=>n,λ|28=>22|3=>3|46=>72|0=>0|51=>259|53=>261|4=>4|183=>253|182=>252|131=>201|5=>5|9=>9|218=>340|222=>344|228=>395|229=>292|n=>n,λ|n=>n⟩
theorem Tryz.lays189:Go.Proofs.Lays.n189 Tryz.prog Tryz.lays189_ren:={
 mixed:=by kernel_rfl
 f125:=Tryz.func49.trans (congrArg some (by kernel_rfl))
 f128:=Tryz.func123.trans (congrArg some (by kernel_rfl))
 f129:=Tryz.func124.trans (congrArg some (by kernel_rfl))
 f189:=Tryz.func20.trans (congrArg some (by kernel_rfl))
 f215:=Tryz.func191.trans (congrArg some (by kernel_rfl))
 f216:=Tryz.func120.trans (congrArg some (by kernel_rfl))
 f257:=Tryz.func48.trans (congrArg some (by kernel_rfl))
 f294:=Tryz.func114.trans (congrArg some (by kernel_rfl))
 f295:=Tryz.func115.trans (congrArg some (by kernel_rfl))
 f296:=Tryz.func116.trans (congrArg some (by kernel_rfl))
 f297:=Tryz.func117.trans (congrArg some (by kernel_rfl))
 f298:=Tryz.func118.trans (congrArg some (by kernel_rfl))
 f299:=Tryz.func119.trans (congrArg some (by kernel_rfl))
 f300:=Tryz.func121.trans (congrArg some (by kernel_rfl))
 f301:=Tryz.func122.trans (congrArg some (by kernel_rfl))
 f328:=Tryz.func195.trans (congrArg some (by kernel_rfl))
 f329:=Tryz.func196.trans (congrArg some (by kernel_rfl))
 f330:=Tryz.func197.trans (congrArg some (by kernel_rfl))
 f331:=Tryz.func198.trans (congrArg some (by kernel_rfl))
 f332:=Tryz.func199.trans (congrArg some (by kernel_rfl))
 f343:=Tryz.func257.trans (congrArg some (by kernel_rfl))
 t0:=Tryz.underlying0
 a0:=Tryz.isAgg0
 z0:=Tryz.sizeOf0
 v0:=Tryz.zeroValue0
 t3:=Tryz.underlying3
 a3:=Tryz.isAgg3
 z3:=Tryz.sizeOf3
 v3:=Tryz.zeroValue3
 t4:=Tryz.underlying4
 a4:=Tryz.isAgg4
 z4:=Tryz.sizeOf4
 v4:=Tryz.zeroValue4
 t5:=Tryz.underlying5
 a5:=Tryz.isAgg5
 z5:=Tryz.sizeOf5
 v5:=Tryz.zeroValue5
 t9:=Tryz.underlying9
 a9:=Tryz.isAgg9
 z9:=Tryz.sizeOf9
 v9:=Tryz.zeroValue9
 t28:=Tryz.underlying22
 a28:=Tryz.isAgg22
 z28:=Tryz.sizeOf22
 v28:=Tryz.zeroValue22
 t46:=Tryz.underlying72
 a46:=Tryz.isAgg72
 z46:=Tryz.sizeOf72
 v46:=Tryz.zeroValue72
 t51:=Tryz.underlying259
 a51:=Tryz.isAgg259
 z51:=Tryz.sizeOf259
 v51:=Tryz.zeroValue259
 t53:=Tryz.underlying261
 a53:=Tryz.isAgg261
 z53:=Tryz.sizeOf261
 v53:=Tryz.zeroValue261
 t131:=Tryz.underlying201
 a131:=Tryz.isAgg201
 z131:=Tryz.sizeOf201
 v131:=Tryz.zeroValue201
 t182:=Tryz.underlying252
 a182:=Tryz.isAgg252
 z182:=Tryz.sizeOf252
 v182:=Tryz.zeroValue252
 t183:=Tryz.underlying253
 a183:=Tryz.isAgg253
 z183:=Tryz.sizeOf253
 v183:=Tryz.zeroValue253
 t218:=Tryz.underlying340
 a218:=Tryz.isAgg340
 z218:=Tryz.sizeOf340
 v218:=Tryz.zeroValue340
 t222:=Tryz.underlying344
 a222:=Tryz.isAgg344
 z222:=Tryz.sizeOf344
 v222:=Tryz.zeroValue344
 t228:=Tryz.underlying395
 a228:=Tryz.isAgg395
 z228:=Tryz.sizeOf395
 v228:=Tryz.zeroValue395
 t229:=Tryz.underlying292
 a229:=Tryz.isAgg292
 z229:=Tryz.sizeOf292
 v229:=Tryz.zeroValue292}
open Go.Sort Go.RowKit in
theorem Tryz.slices_Sort_int(blk off cap:Nat)(zs:List Int)(w:World)(c:Holds (Value.int .i64) w blk off zs.toArray)(a:blk<w.heap.size)(b:zs.length<4611686018427387904):Calls Tryz.prog 20 #[.slice (some ⟨blk,off,none⟩) zs.length cap] w λe w'=>
  e= .returned (.tuple #[])/\∃n os,w'=grow (putRow (Value.int .i64) (Sort.ahead w n) blk off (zs.mergeSort λx y=>decide (x<=y)).toArray) os:=Any.slices_Sort_int Tryz.lays189 blk off cap zs w c a b
def Tryz.lays212_ren:Go.Shelf.Ren:=⟨λ|212=>304|263=>321|264=>322|n=>n,λ|46=>72|51=>259|146=>452|53=>261|148=>454|n=>n,λ|n=>n⟩
theorem Tryz.lays212:Go.Proofs.Lays.n212 Tryz.prog Tryz.lays212_ren:={
 mixed:=by kernel_rfl
 f212:=Tryz.func304.trans (congrArg some (by kernel_rfl))
 f263:=Tryz.func321.trans (congrArg some (by kernel_rfl))
 f264:=Tryz.func322.trans (congrArg some (by kernel_rfl))
 t46:=Tryz.underlying72
 a46:=Tryz.isAgg72
 z46:=Tryz.sizeOf72
 v46:=Tryz.zeroValue72
 t51:=Tryz.underlying259
 a51:=Tryz.isAgg259
 z51:=Tryz.sizeOf259
 v51:=Tryz.zeroValue259
 t53:=Tryz.underlying261
 a53:=Tryz.isAgg261
 z53:=Tryz.sizeOf261
 v53:=Tryz.zeroValue261
 t146:=Tryz.underlying452
 a146:=Tryz.isAgg452
 z146:=Tryz.sizeOf452
 v146:=Tryz.zeroValue452
 t148:=Tryz.underlying454
 a148:=Tryz.isAgg454
 z148:=Tryz.sizeOf454
 v148:=Tryz.zeroValue454}
open Go.RowKit Go.Lib in
theorem Tryz.bits_Mul(x y:Nat)(a:x<18446744073709551616)(b:y<18446744073709551616)(w:World):Calls Tryz.prog 304 #[.int .u64 x,.int .u64 y] w λe w'=>e= .returned (.tuple #[.int .u64 ((x*y / 18446744073709551616:Nat):Int),.int .u64 ((x*y % 18446744073709551616:Nat):Int)])/\w'=w:=Any.bits_Mul Tryz.lays212 x y a b w
def Tryz.laysNm215_ren:Go.Shelf.Ren:=⟨λ|15=>89|n=>n,λ|22=>22|3=>3|4=>4|n=>n,λ|n=>n⟩
theorem Tryz.laysNm215:Go.Proofs.Lays2.n15 Tryz.prog Tryz.laysNm215_ren:={
 mixed:=by kernel_rfl
 f15:=Tryz.func89.trans (congrArg some (by kernel_rfl))
 t3:=Tryz.underlying3
 a3:=Tryz.isAgg3
 z3:=Tryz.sizeOf3
 v3:=Tryz.zeroValue3
 t4:=Tryz.underlying4
 a4:=Tryz.isAgg4
 z4:=Tryz.sizeOf4
 v4:=Tryz.zeroValue4
 t22:=Tryz.underlying22
 a22:=Tryz.isAgg22
 z22:=Tryz.sizeOf22
 v22:=Tryz.zeroValue22
 i3:=by kernel_rfl}
open Go.RowKit Go.Lib in
theorem Tryz.slices_Clone_int(b off n c:Nat)(zs:List Int)(w:World)(g:n<=zs.length)(a:n*8<=140737488355328)(f:∀j,j<zs.length->w.cell? ⟨b,off+j,none⟩=some (.int .i64 (zs.getD j 0))):Calls Tryz.prog 89 #[.slice (some ⟨b,off,none⟩) n c] w λe w'=>∃d,e= .returned d/\w'.ownsRow w.heap.size 3 1 d n ((zs.take n).map (Value.int .i64))/\d≠ .slice none 0 0/\Below w.heap.size w w':=Any.slices_Clone_int Tryz.laysNm215 b off n c zs w g a f
open Go.RowKit Go.Lib in
theorem Tryz.slices_Clone_int_nil(n c:Nat)(w:World):Calls Tryz.prog 89 #[.slice none n c] w λe w'=>e= .returned (.slice none 0 0)/\w'=w:=Any.slices_Clone_int_nil Tryz.laysNm215 n c w
open Go.RowKit Go.Lib in
theorem Tryz.slices_Clone_int_zero(a:Addr)(c:Nat)(w:World):Calls Tryz.prog 89 #[.slice (some a) 0 c] w λe w'=>∃b,e= .returned b/\w'.ownsRow w.heap.size 3 1 b 0 []/\b≠ .slice none 0 0/\Below w.heap.size w w':=Any.slices_Clone_int_zero Tryz.laysNm215 a c w
def Tryz.laysNm220_ren:Go.Shelf.Ren:=⟨λ|20=>21|n=>n,λ|22=>22|3=>3|4=>4|0=>0|n=>n,λ|n=>n⟩
theorem Tryz.laysNm220:Go.Proofs.Lays2.n20 Tryz.prog Tryz.laysNm220_ren:={
 mixed:=by kernel_rfl
 f20:=Tryz.func21.trans (congrArg some (by kernel_rfl))
 t0:=Tryz.underlying0
 a0:=Tryz.isAgg0
 z0:=Tryz.sizeOf0
 v0:=Tryz.zeroValue0
 t3:=Tryz.underlying3
 a3:=Tryz.isAgg3
 z3:=Tryz.sizeOf3
 v3:=Tryz.zeroValue3
 t4:=Tryz.underlying4
 a4:=Tryz.isAgg4
 z4:=Tryz.sizeOf4
 v4:=Tryz.zeroValue4
 t22:=Tryz.underlying22
 a22:=Tryz.isAgg22
 z22:=Tryz.sizeOf22
 v22:=Tryz.zeroValue22
 i3:=by kernel_rfl}
open Go.RowKit Go.Lib Go.Sort in
theorem Tryz.slices_Compact_int(blk off cap:Nat)(zs:List Int)(w:World)(c:Holds (Value.int .i64) w blk off zs.toArray)(b:zs.length<=9223372036854775807)(a:zs.length<=cap):Calls Tryz.prog 21 #[.slice (some ⟨blk,off,none⟩) zs.length cap] w λe w'=>e= .returned (.slice (some ⟨blk,off,none⟩) (Lib.compact zs).length cap)/\∃q,w'=putRow (Value.int .i64) (Sort.ahead w q) blk off (Lib.compact zs++List.replicate (zs.length-(Lib.compact zs).length) 0).toArray:=Any.slices_Compact_int Tryz.laysNm220 blk off cap zs w c b a
open Go.RowKit Go.Lib Go.Sort in
theorem Tryz.slices_Compact_int_empty(a:Option Addr)(cap:Nat)(w:World):Calls Tryz.prog 21 #[.slice a 0 cap] w λe w'=>e= .returned (.slice a 0 cap)/\w'=w:=Any.slices_Compact_int_empty Tryz.laysNm220 a cap w
open Go.RowKit Go.Sort in
theorem Tryz.slices_Sort_int_none(p:Option Addr)(cap:Nat)(w:World):Calls Tryz.prog 20 #[.slice p 0 cap] w λe w'=>e= .returned (.tuple #[])/\w'=w:=Any.slices_Sort_int_none Tryz.lays189 p cap w
def Tryz.laysSlC25_f103_ren:Go.Shelf.Ren:=⟨λ|5=>103|7=>191|n=>n,λ|22=>3|3=>3|4=>4|n=>n,λ|n=>n⟩
theorem Tryz.laysSlC25_f103:Go.Proofs.SlLaysC2.n5 Tryz.prog Tryz.laysSlC25_f103_ren:={
 mixed:=by kernel_rfl
 f5:=⟨Tryz.f103.name,by decide,Tryz.func103.trans (congrArg some (by kernel_rfl))⟩
 f7:=⟨Tryz.f191.name,by decide,Tryz.func191.trans (congrArg some (by kernel_rfl))⟩
 t3:=Tryz.underlying3
 a3:=Tryz.isAgg3
 z3:=Tryz.sizeOf3
 v3:=Tryz.zeroValue3
 t4:=Tryz.underlying4
 a4:=Tryz.isAgg4
 z4:=Tryz.sizeOf4
 v4:=Tryz.zeroValue4
 t22:=Tryz.underlying3
 a22:=Tryz.isAgg3
 z22:=Tryz.sizeOf3
 v22:=Tryz.zeroValue3}
open Go.Lib in
theorem Tryz.cmp_Compare_int(x y:Int)(w:World):Calls Tryz.prog 103 #[.int .i64 x,.int .i64 y] w λe w'=>e= .returned (.int .i64 (Lib.compareInt x y))/\w'=w:=AnyG.cmp_Compare_int Tryz.laysSlC25_f103 x y w
end Go.Proofs
