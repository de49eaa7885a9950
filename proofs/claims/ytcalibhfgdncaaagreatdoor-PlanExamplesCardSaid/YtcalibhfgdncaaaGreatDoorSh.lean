/-
 DERIVED: THE SHELF's CONTRACTS AT THIS DUMP, IN PLAIN WORDS (tools/lay-plain.mjs out of 'YtcalibhfgdncaaaGreatDoorSh.lean', which tools/lay-shelf.mjs wrote): THE SAME DECLARATIONS UNDER THE SAME NAMES: 'import', 'namespace', 'open', 'def', 'theorem' AND NOTHING ELSE: no command of the shelf's: FOR A HAND-IN. Each laying: the table of numbers ('.._ren') and one theorem, a field a fact of the dump's own or the kernel's comparison; each contract: ONE APPLICATION.
-/
import Derived.Shelf.Strings.Builder1
import Derived.Shelf.Strconv.Itoa0
import Derived.Shelf.Strconv.Itoa1
import Derived.Shelf.LaysM
import Derived.Shelf.Strconv.Itoa2
import Derived.Shelf.Strconv.Itoa3
import Derived.Shelf.Strings.Search1
import Derived.Shelf.Strings.Search2
import Derived.Shelf.Strings.Search3
import Derived.Shelf.Strings.Cut
import Derived.Shelf.Strings.Shaped
import Derived.Shelf.Unicode.Decode
import Derived.Shelf.Bits.Mul64
import Derived.Shelf.Unicode.DecodeSlow
import Derived.Shelf.Unicode.DecodeAny
import Derived.Test.YtcalibhfgdncaaaGreatDoorProg
set_option linter.all false
namespace Go.Proofs
open Go.Shelf
def Tryz.laysM171_ren : Go.Shelf.Ren := ⟨fun | 171 => 112 | 243 => 163 | 246 => 189 | 283 => 198 | 284 => 199 | 285 => 200 | 286 => 201 | 129 => 209 | 317 => 208 | 318 => 210 | 319 => 211 | 320 => 212 | 337 => 216 | 338 => 217 | n => n, fun | 3 => 3 | 9 => 9 | 2 => 2 | 4 => 4 | 171 => 260 | 0 => 0 | 53 => 261 | 37 => 174 | 5 => 5 | 173 => 264 | 212 => 274 | 51 => 275 | 20 => 20 | 213 => 276 | 46 => 98 | 232 => 286 | 233 => 287 | n => n, fun | 17 => 3 | 18 => 4 | 19 => 5 | n => n⟩
theorem Tryz.laysM171 : Go.Proofs.LaysM.n171 Tryz.prog Tryz.laysM171_ren := {
 mixed := by kernel_rfl
 f129 := Tryz.func209.trans (congrArg some (by kernel_rfl))
 f171 := Tryz.func112.trans (congrArg some (by kernel_rfl))
 f243 := Tryz.func163.trans (congrArg some (by kernel_rfl))
 f246 := Tryz.func189.trans (congrArg some (by kernel_rfl))
 f283 := Tryz.func198.trans (congrArg some (by kernel_rfl))
 f284 := Tryz.func199.trans (congrArg some (by kernel_rfl))
 f285 := Tryz.func200.trans (congrArg some (by kernel_rfl))
 f286 := Tryz.func201.trans (congrArg some (by kernel_rfl))
 f317 := Tryz.func208.trans (congrArg some (by kernel_rfl))
 f318 := Tryz.func210.trans (congrArg some (by kernel_rfl))
 f319 := Tryz.func211.trans (congrArg some (by kernel_rfl))
 f320 := Tryz.func212.trans (congrArg some (by kernel_rfl))
 f337 := Tryz.func216.trans (congrArg some (by kernel_rfl))
 f338 := Tryz.func217.trans (congrArg some (by kernel_rfl))
 t0 := Tryz.underlying0
 a0 := Tryz.isAgg0
 z0 := Tryz.sizeOf0
 v0 := Tryz.zeroValue0
 t2 := Tryz.underlying2
 a2 := Tryz.isAgg2
 z2 := Tryz.sizeOf2
 v2 := Tryz.zeroValue2
 t3 := Tryz.underlying3
 a3 := Tryz.isAgg3
 z3 := Tryz.sizeOf3
 v3 := Tryz.zeroValue3
 t4 := Tryz.underlying4
 a4 := Tryz.isAgg4
 z4 := Tryz.sizeOf4
 v4 := Tryz.zeroValue4
 t5 := Tryz.underlying5
 a5 := Tryz.isAgg5
 z5 := Tryz.sizeOf5
 v5 := Tryz.zeroValue5
 t9 := Tryz.underlying9
 a9 := Tryz.isAgg9
 z9 := Tryz.sizeOf9
 v9 := Tryz.zeroValue9
 t20 := Tryz.underlying20
 a20 := Tryz.isAgg20
 z20 := Tryz.sizeOf20
 v20 := Tryz.zeroValue20
 t37 := Tryz.underlying174
 a37 := Tryz.isAgg174
 z37 := Tryz.sizeOf174
 v37 := Tryz.zeroValue174
 t46 := Tryz.underlying98
 a46 := Tryz.isAgg98
 z46 := Tryz.sizeOf98
 v46 := Tryz.zeroValue98
 t51 := Tryz.underlying275
 a51 := Tryz.isAgg275
 z51 := Tryz.sizeOf275
 v51 := Tryz.zeroValue275
 t53 := Tryz.underlying261
 a53 := Tryz.isAgg261
 z53 := Tryz.sizeOf261
 v53 := Tryz.zeroValue261
 t171 := Tryz.underlying260
 a171 := Tryz.isAgg260
 z171 := Tryz.sizeOf260
 v171 := Tryz.zeroValue260
 t173 := Tryz.underlying264
 a173 := Tryz.isAgg264
 z173 := Tryz.sizeOf264
 v173 := Tryz.zeroValue264
 t212 := Tryz.underlying274
 a212 := Tryz.isAgg274
 z212 := Tryz.sizeOf274
 v212 := Tryz.zeroValue274
 t213 := Tryz.underlying276
 a213 := Tryz.isAgg276
 z213 := Tryz.sizeOf276
 t232 := Tryz.underlying286
 a232 := Tryz.isAgg286
 z232 := Tryz.sizeOf286
 v232 := Tryz.zeroValue286
 t233 := Tryz.underlying287
 a233 := Tryz.isAgg287
 z233 := Tryz.sizeOf287
 v233 := Tryz.zeroValue287
 g17 := by kernel_rfl
 g18 := by kernel_rfl
 g19 := by kernel_rfl
 i0 := by kernel_rfl
 i2 := by kernel_rfl
 i3 := by kernel_rfl
 i4 := by kernel_rfl
 i5 := by kernel_rfl
 i9 := by kernel_rfl
 i20 := by kernel_rfl
 i37 := by kernel_rfl
 i46 := by kernel_rfl
 i51 := by kernel_rfl
 i53 := by kernel_rfl
 i171 := by kernel_rfl
 i173 := by kernel_rfl
 i212 := by kernel_rfl
 i232 := by kernel_rfl
 i233 := by kernel_rfl
 m17 := by kernel_rfl
 m18 := by kernel_rfl
 m19 := by kernel_rfl }
open Go.RowKit Go.Sort Go.Lib in
theorem Tryz.strconv_Itoa (n : Int) (h0 : -9223372036854775808 ≤ n) (h1 : n ≤ 9223372036854775807) (w : World) (htab : Lib.TabIs Tryz.prog w "internal/strconv.uint64pow10" .u64 Lib.pow10Tab) :
  Calls Tryz.prog 112 #[.int .i64 n] w fun e w' => e = .returned (.string ⟨(Lib.itoa n).toArray⟩) ∧ ∃ k os, w' = grow (w.drewN k) os := Any.strconv_Itoa Tryz.laysM171 n h0 h1 w htab
def Tryz.lays219_ren : Go.Shelf.Ren := ⟨fun | 219 => 196 | 217 => 203 | 225 => 204 | 224 => 205 | 267 => 206 | 266 => 214 | 314 => 215 | n => n, fun | 9 => 9 | 3 => 3 | 4 => 4 | 5 => 5 | 46 => 98 | 146 => 280 | 51 => 275 | n => n, fun | 1 => 2 | n => n⟩
theorem Tryz.lays219 : Go.Proofs.Lays.n219 Tryz.prog Tryz.lays219_ren := {
 mixed := by kernel_rfl
 f217 := Tryz.func203.trans (congrArg some (by kernel_rfl))
 f219 := Tryz.func196.trans (congrArg some (by kernel_rfl))
 f224 := Tryz.func205.trans (congrArg some (by kernel_rfl))
 f225 := Tryz.func204.trans (congrArg some (by kernel_rfl))
 f266 := Tryz.func214.trans (congrArg some (by kernel_rfl))
 f267 := Tryz.func206.trans (congrArg some (by kernel_rfl))
 f314 := Tryz.func215.trans (congrArg some (by kernel_rfl))
 t3 := Tryz.underlying3
 a3 := Tryz.isAgg3
 z3 := Tryz.sizeOf3
 v3 := Tryz.zeroValue3
 t4 := Tryz.underlying4
 a4 := Tryz.isAgg4
 z4 := Tryz.sizeOf4
 v4 := Tryz.zeroValue4
 t5 := Tryz.underlying5
 a5 := Tryz.isAgg5
 z5 := Tryz.sizeOf5
 v5 := Tryz.zeroValue5
 t9 := Tryz.underlying9
 a9 := Tryz.isAgg9
 z9 := Tryz.sizeOf9
 v9 := Tryz.zeroValue9
 t46 := Tryz.underlying98
 a46 := Tryz.isAgg98
 z46 := Tryz.sizeOf98
 v46 := Tryz.zeroValue98
 t51 := Tryz.underlying275
 a51 := Tryz.isAgg275
 z51 := Tryz.sizeOf275
 v51 := Tryz.zeroValue275
 t146 := Tryz.underlying280
 a146 := Tryz.isAgg280
 z146 := Tryz.sizeOf280
 v146 := Tryz.zeroValue280
 g1 := by kernel_rfl }
open Go.RowKit Go.Lib in
theorem Tryz.stringslite_Index_one (s : ByteArray) (c : UInt8) (w : World) :
  Calls Tryz.prog 196 #[.string s, .string ⟨#[c]⟩] w fun e w' => e = .returned (.int .i64 (Lib.indexByte s.data.toList c)) ∧ w' = w := Any.stringslite_Index_one Tryz.lays219 s c w
def Tryz.lays143_ren : Go.Shelf.Ren := ⟨fun | 143 => 184 | 219 => 196 | 217 => 203 | 225 => 204 | 224 => 205 | 267 => 206 | 266 => 214 | 314 => 215 | n => n, fun | 9 => 9 | 3 => 3 | 4 => 4 | 5 => 5 | 46 => 98 | 146 => 280 | 51 => 275 | n => n, fun | 1 => 2 | n => n⟩
theorem Tryz.lays143 : Go.Proofs.Lays.n143 Tryz.prog Tryz.lays143_ren := {
 mixed := by kernel_rfl
 f143 := Tryz.func184.trans (congrArg some (by kernel_rfl))
 f217 := Tryz.func203.trans (congrArg some (by kernel_rfl))
 f219 := Tryz.func196.trans (congrArg some (by kernel_rfl))
 f224 := Tryz.func205.trans (congrArg some (by kernel_rfl))
 f225 := Tryz.func204.trans (congrArg some (by kernel_rfl))
 f266 := Tryz.func214.trans (congrArg some (by kernel_rfl))
 f267 := Tryz.func206.trans (congrArg some (by kernel_rfl))
 f314 := Tryz.func215.trans (congrArg some (by kernel_rfl))
 t3 := Tryz.underlying3
 a3 := Tryz.isAgg3
 z3 := Tryz.sizeOf3
 v3 := Tryz.zeroValue3
 t4 := Tryz.underlying4
 a4 := Tryz.isAgg4
 z4 := Tryz.sizeOf4
 v4 := Tryz.zeroValue4
 t5 := Tryz.underlying5
 a5 := Tryz.isAgg5
 z5 := Tryz.sizeOf5
 v5 := Tryz.zeroValue5
 t9 := Tryz.underlying9
 a9 := Tryz.isAgg9
 z9 := Tryz.sizeOf9
 v9 := Tryz.zeroValue9
 t46 := Tryz.underlying98
 a46 := Tryz.isAgg98
 z46 := Tryz.sizeOf98
 v46 := Tryz.zeroValue98
 t51 := Tryz.underlying275
 a51 := Tryz.isAgg275
 z51 := Tryz.sizeOf275
 v51 := Tryz.zeroValue275
 t146 := Tryz.underlying280
 a146 := Tryz.isAgg280
 z146 := Tryz.sizeOf280
 v146 := Tryz.zeroValue280
 g1 := by kernel_rfl }
open Go.RowKit Go.Lib in
theorem Tryz.strings_Index_one (s : ByteArray) (c : UInt8) (w : World) :
  Calls Tryz.prog 184 #[.string s, .string ⟨#[c]⟩] w fun e w' => e = .returned (.int .i64 (Lib.indexByte s.data.toList c)) ∧ w' = w := Any.strings_Index_one Tryz.lays143 s c w
def Tryz.lays145_ren : Go.Shelf.Ren := ⟨fun | 145 => 153 | 220 => 185 | 219 => 196 | 217 => 203 | 225 => 204 | 224 => 205 | 267 => 206 | 266 => 214 | 314 => 215 | n => n, fun | 9 => 9 | 4 => 4 | 59 => 216 | 3 => 3 | 5 => 5 | 46 => 98 | 146 => 280 | 51 => 275 | n => n, fun | 1 => 2 | n => n⟩
theorem Tryz.lays145 : Go.Proofs.Lays.n145 Tryz.prog Tryz.lays145_ren := {
 mixed := by kernel_rfl
 f145 := Tryz.func153.trans (congrArg some (by kernel_rfl))
 f217 := Tryz.func203.trans (congrArg some (by kernel_rfl))
 f219 := Tryz.func196.trans (congrArg some (by kernel_rfl))
 f220 := Tryz.func185.trans (congrArg some (by kernel_rfl))
 f224 := Tryz.func205.trans (congrArg some (by kernel_rfl))
 f225 := Tryz.func204.trans (congrArg some (by kernel_rfl))
 f266 := Tryz.func214.trans (congrArg some (by kernel_rfl))
 f267 := Tryz.func206.trans (congrArg some (by kernel_rfl))
 f314 := Tryz.func215.trans (congrArg some (by kernel_rfl))
 t3 := Tryz.underlying3
 a3 := Tryz.isAgg3
 z3 := Tryz.sizeOf3
 v3 := Tryz.zeroValue3
 t4 := Tryz.underlying4
 a4 := Tryz.isAgg4
 z4 := Tryz.sizeOf4
 v4 := Tryz.zeroValue4
 t5 := Tryz.underlying5
 a5 := Tryz.isAgg5
 z5 := Tryz.sizeOf5
 v5 := Tryz.zeroValue5
 t9 := Tryz.underlying9
 a9 := Tryz.isAgg9
 z9 := Tryz.sizeOf9
 v9 := Tryz.zeroValue9
 t46 := Tryz.underlying98
 a46 := Tryz.isAgg98
 z46 := Tryz.sizeOf98
 v46 := Tryz.zeroValue98
 t51 := Tryz.underlying275
 a51 := Tryz.isAgg275
 z51 := Tryz.sizeOf275
 v51 := Tryz.zeroValue275
 t59 := Tryz.underlying216
 a59 := Tryz.isAgg216
 z59 := Tryz.sizeOf216
 v59 := Tryz.zeroValue216
 t146 := Tryz.underlying280
 a146 := Tryz.isAgg280
 z146 := Tryz.sizeOf280
 v146 := Tryz.zeroValue280
 g1 := by kernel_rfl }
open Go.RowKit Go.Lib in
theorem Tryz.strings_Cut (s sep : ByteArray) (m : Int) (w : World) (hs : s.size < 4294967281) (hm : w.cell? ⟨2, 0, none⟩ = some (.int .i64 m)) :
  Calls Tryz.prog 153 #[.string s, .string sep] w fun e w' => e = .returned (.tuple #[.string ⟨(Lib.cut s.data.toList sep.data.toList).1.toArray⟩, .string ⟨(Lib.cut s.data.toList sep.data.toList).2.1.toArray⟩, .bool (Lib.cut s.data.toList sep.data.toList).2.2]) ∧ ∃ n, w' = w.drewN n := Any.strings_Cut Tryz.lays145 s sep m w hs hm
def Tryz.laysM145_ren : Go.Shelf.Ren := ⟨fun | 145 => 153 | 220 => 185 | 219 => 196 | 217 => 203 | 225 => 204 | 224 => 205 | 267 => 206 | 266 => 214 | 314 => 215 | n => n, fun | 9 => 9 | 4 => 4 | 59 => 216 | 3 => 3 | 5 => 5 | 46 => 98 | 146 => 280 | 51 => 275 | n => n, fun | 1 => 2 | n => n⟩
theorem Tryz.laysM145 : Go.Proofs.LaysM.n145 Tryz.prog Tryz.laysM145_ren := {
 mixed := by kernel_rfl
 f145 := Tryz.func153.trans (congrArg some (by kernel_rfl))
 f217 := Tryz.func203.trans (congrArg some (by kernel_rfl))
 f219 := Tryz.func196.trans (congrArg some (by kernel_rfl))
 f220 := Tryz.func185.trans (congrArg some (by kernel_rfl))
 f224 := Tryz.func205.trans (congrArg some (by kernel_rfl))
 f225 := Tryz.func204.trans (congrArg some (by kernel_rfl))
 f266 := Tryz.func214.trans (congrArg some (by kernel_rfl))
 f267 := Tryz.func206.trans (congrArg some (by kernel_rfl))
 f314 := Tryz.func215.trans (congrArg some (by kernel_rfl))
 t3 := Tryz.underlying3
 a3 := Tryz.isAgg3
 z3 := Tryz.sizeOf3
 v3 := Tryz.zeroValue3
 t4 := Tryz.underlying4
 a4 := Tryz.isAgg4
 z4 := Tryz.sizeOf4
 v4 := Tryz.zeroValue4
 t5 := Tryz.underlying5
 a5 := Tryz.isAgg5
 z5 := Tryz.sizeOf5
 v5 := Tryz.zeroValue5
 t9 := Tryz.underlying9
 a9 := Tryz.isAgg9
 z9 := Tryz.sizeOf9
 v9 := Tryz.zeroValue9
 t46 := Tryz.underlying98
 a46 := Tryz.isAgg98
 z46 := Tryz.sizeOf98
 v46 := Tryz.zeroValue98
 t51 := Tryz.underlying275
 a51 := Tryz.isAgg275
 z51 := Tryz.sizeOf275
 v51 := Tryz.zeroValue275
 t59 := Tryz.underlying216
 a59 := Tryz.isAgg216
 z59 := Tryz.sizeOf216
 v59 := Tryz.zeroValue216
 t146 := Tryz.underlying280
 a146 := Tryz.isAgg280
 z146 := Tryz.sizeOf280
 v146 := Tryz.zeroValue280
 g1 := by kernel_rfl
 i3 := by kernel_rfl
 i4 := by kernel_rfl
 i5 := by kernel_rfl
 i9 := by kernel_rfl
 i46 := by kernel_rfl
 i51 := by kernel_rfl
 i59 := by kernel_rfl
 i146 := by kernel_rfl
 m1 := by kernel_rfl
 s1_3 := fun w h => Go.Proofs.cell_of_shapedOpen_int (zero := #[.int .i64 0]) (t := 3) h (of_decide_eq_true (by kernel_rfl)) (by kernel_rfl) rfl (by kernel_rfl) (by kernel_rfl) Tryz.underlying3 }
end Go.Proofs
