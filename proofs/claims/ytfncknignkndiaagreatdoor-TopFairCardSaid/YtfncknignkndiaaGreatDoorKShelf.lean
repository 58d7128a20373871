/- what this seat needs of the shelf's laid contracts, without comments -/
import Derived.Shelf.Strings.Builder1
import Derived.Shelf.Strings.Builder2
import Derived.Shelf.Strings.BuilderF
import Derived.Shelf.Strings.BuilderK
import Derived.Shelf.Strings.Builder2Cap
import Derived.Shelf.Strings.Prefix
import Derived.Shelf.Bits.Mul64
import Derived.Shelf.Strings.Repeat
import Derived.Test.YtfncknignkndiaaGreatDoorProg
namespace Go.Proofs
open Go.Shelf
def Tryz.lays105_ren : Go.Shelf.Ren := ⟨fun | 105 => 111 | 212 => 156 | 99 => 157 | 165 => 158 | 166 => 159 | 170 => 160 | 169 => 161 | 263 => 203 | 264 => 204 | 206 => 205 | 240 => 206 | 241 => 207 | 276 => 225 | 277 => 226 | n => n, fun | 9 => 9 | 3 => 3 | 4 => 4 | 20 => 20 | 0 => 0 | 46 => 257 | 109 => 258 | 5 => 5 | 72 => 264 | 76 => 268 | 51 => 109 | 146 => 296 | 53 => 35 | 148 => 298 | 70 => 261 | 37 => 262 | 75 => 267 | 127 => 300 | 164 => 320 | 80 => 271 | n => n, fun | n => n⟩
theorem Tryz.lays105 : Go.Proofs.Lays.n105 Tryz.prog Tryz.lays105_ren := {
  mixed := by kernel_rfl
  f99 := Tryz.func157.trans (congrArg some (by kernel_rfl))
  f105 := Tryz.func111.trans (congrArg some (by kernel_rfl))
  f165 := Tryz.func158.trans (congrArg some (by kernel_rfl))
  f166 := Tryz.func159.trans (congrArg some (by kernel_rfl))
  f169 := Tryz.func161.trans (congrArg some (by kernel_rfl))
  f170 := Tryz.func160.trans (congrArg some (by kernel_rfl))
  f206 := Tryz.func205.trans (congrArg some (by kernel_rfl))
  f212 := Tryz.func156.trans (congrArg some (by kernel_rfl))
  f240 := Tryz.func206.trans (congrArg some (by kernel_rfl))
  f241 := Tryz.func207.trans (congrArg some (by kernel_rfl))
  f263 := Tryz.func203.trans (congrArg some (by kernel_rfl))
  f264 := Tryz.func204.trans (congrArg some (by kernel_rfl))
  f276 := Tryz.func225.trans (congrArg some (by kernel_rfl))
  f277 := Tryz.func226.trans (congrArg some (by kernel_rfl))
  t0 := Tryz.underlying0
  a0 := Tryz.isAgg0
  z0 := Tryz.sizeOf0
  v0 := Tryz.zeroValue0
  t3 := Tryz.underlying3
  a3 := Tryz.isAgg3
  z3 := Tryz.sizeOf3
  v3 := Tryz.zeroValue3
  t4 := Tryz.underlying4
  a4 := Tryz.isAgg4
  z4 := Tryz.sizeOf4
  v4 := Tryz.zeroValue4
  t5 := Tryz.underlying5
  a5 := Tryz.isAgg5
  z5 := Tryz.sizeOf5
  v5 := Tryz.zeroValue5
  t9 := Tryz.underlying9
  a9 := Tryz.isAgg9
  z9 := Tryz.sizeOf9
  v9 := Tryz.zeroValue9
  t20 := Tryz.underlying20
  a20 := Tryz.isAgg20
  z20 := Tryz.sizeOf20
  v20 := Tryz.zeroValue20
  t37 := Tryz.underlying262
  a37 := Tryz.isAgg262
  z37 := Tryz.sizeOf262
  v37 := Tryz.zeroValue262
  t46 := Tryz.underlying257
  a46 := Tryz.isAgg257
  z46 := Tryz.sizeOf257
  v46 := Tryz.zeroValue257
  t51 := Tryz.underlying109
  a51 := Tryz.isAgg109
  z51 := Tryz.sizeOf109
  v51 := Tryz.zeroValue109
  t53 := Tryz.underlying35
  a53 := Tryz.isAgg35
  z53 := Tryz.sizeOf35
  v53 := Tryz.zeroValue35
  t70 := Tryz.underlying261
  a70 := Tryz.isAgg261
  z70 := Tryz.sizeOf261
  v70 := Tryz.zeroValue261
  t72 := Tryz.underlying264
  a72 := Tryz.isAgg264
  z72 := Tryz.sizeOf264
  v72 := Tryz.zeroValue264
  t75 := Tryz.underlying267
  a75 := Tryz.isAgg267
  z75 := Tryz.sizeOf267
  v75 := Tryz.zeroValue267
  t76 := Tryz.underlying268
  a76 := Tryz.isAgg268
  z76 := Tryz.sizeOf268
  v76 := Tryz.zeroValue268
  t109 := Tryz.underlying258
  a109 := Tryz.isAgg258
  z109 := Tryz.sizeOf258
  v109 := Tryz.zeroValue258
  t127 := Tryz.underlying300
  a127 := Tryz.isAgg300
  z127 := Tryz.sizeOf300
  v127 := Tryz.zeroValue300
  t146 := Tryz.underlying296
  a146 := Tryz.isAgg296
  z146 := Tryz.sizeOf296
  v146 := Tryz.zeroValue296
  t148 := Tryz.underlying298
  a148 := Tryz.isAgg298
  z148 := Tryz.sizeOf298
  v148 := Tryz.zeroValue298
  t164 := Tryz.underlying320
  a164 := Tryz.isAgg320
  z164 := Tryz.sizeOf320
  v164 := Tryz.zeroValue320 }
theorem Tryz.Builder_Extra_105 : Builder.Extra Tryz.prog Tryz.lays105_ren := {
  sizeBuilder := by kernel_rfl
  liesBuilder := by kernel_rfl
  t5 := Tryz.underlying5
  a5 := Tryz.isAgg5
  z5 := Tryz.sizeOf5
  v5 := Tryz.zeroValue5
  infoByte := by kernel_rfl
  cellsByte := by kernel_rfl
  sizeByte := by kernel_rfl
  neB5 := by decide }
open Go.RowKit Go.Lib in
theorem Tryz.strings_Repeat (s : ByteArray) (c : Nat) (w : World) (hc : c ≤ 9223372036854775807) (hlen : s.size * c ≤ 140737488355328) :
    Calls Tryz.prog 111 #[.string s, .int .i64 c] w fun e w' => e = .returned (.string ⟨(Lib.repeatL s.data.toList c).toArray⟩) ∧ Below w.heap.size w w' := Any.strings_Repeat Tryz.lays105 Tryz.Builder_Extra_105 s c w hc hlen
end Go.Proofs
