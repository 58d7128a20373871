/- what this seat needs of the shelf's laid contracts, without comments -/
import Derived.Shelf.Strings.Builder1
import Derived.Shelf.Strings.Builder2
import Derived.Shelf.Strings.BuilderF
import Derived.Shelf.Strings.BuilderK
import Derived.Shelf.Strings.Builder2Cap
import Derived.Shelf.Strings.Prefix
import Derived.Shelf.Bits.Mul64
import Derived.Shelf.Strings.Repeat
import Derived.Test.YtkepkcjjenidgaaGreatDoorProg
namespace Go.Proofs
open Go.Shelf
def Tryz.lays105_ren : Go.Shelf.Ren := ⟨fun | 105 => 175 | 212 => 216 | 99 => 217 | 165 => 218 | 166 => 219 | 170 => 220 | 169 => 221 | 263 => 242 | 264 => 243 | 206 => 244 | 240 => 245 | 241 => 246 | 276 => 255 | 277 => 256 | n => n, fun | 9 => 9 | 3 => 3 | 4 => 4 | 20 => 20 | 0 => 0 | 46 => 279 | 109 => 298 | 5 => 5 | 72 => 303 | 76 => 307 | 51 => 119 | 146 => 331 | 53 => 32 | 148 => 333 | 70 => 301 | 37 => 277 | 75 => 306 | 127 => 335 | 164 => 345 | 80 => 310 | n => n, fun | n => n⟩
theorem Tryz.lays105 : Go.Proofs.Lays.n105 Tryz.prog Tryz.lays105_ren := {
  mixed := by kernel_rfl
  f99 := Tryz.func217.trans (congrArg some (by kernel_rfl))
  f105 := Tryz.func175.trans (congrArg some (by kernel_rfl))
  f165 := Tryz.func218.trans (congrArg some (by kernel_rfl))
  f166 := Tryz.func219.trans (congrArg some (by kernel_rfl))
  f169 := Tryz.func221.trans (congrArg some (by kernel_rfl))
  f170 := Tryz.func220.trans (congrArg some (by kernel_rfl))
  f206 := Tryz.func244.trans (congrArg some (by kernel_rfl))
  f212 := Tryz.func216.trans (congrArg some (by kernel_rfl))
  f240 := Tryz.func245.trans (congrArg some (by kernel_rfl))
  f241 := Tryz.func246.trans (congrArg some (by kernel_rfl))
  f263 := Tryz.func242.trans (congrArg some (by kernel_rfl))
  f264 := Tryz.func243.trans (congrArg some (by kernel_rfl))
  f276 := Tryz.func255.trans (congrArg some (by kernel_rfl))
  f277 := Tryz.func256.trans (congrArg some (by kernel_rfl))
  t0 := Tryz.underlying0
  a0 := Tryz.isAgg0
  z0 := Tryz.sizeOf0
  v0 := Tryz.zeroValue0
  t3 := Tryz.underlying3
  a3 := Tryz.isAgg3
  z3 := Tryz.sizeOf3
  v3 := Tryz.zeroValue3
  t4 := Tryz.underlying4
  a4 := Tryz.isAgg4
  z4 := Tryz.sizeOf4
  v4 := Tryz.zeroValue4
  t5 := Tryz.underlying5
  a5 := Tryz.isAgg5
  z5 := Tryz.sizeOf5
  v5 := Tryz.zeroValue5
  t9 := Tryz.underlying9
  a9 := Tryz.isAgg9
  z9 := Tryz.sizeOf9
  v9 := Tryz.zeroValue9
  t20 := Tryz.underlying20
  a20 := Tryz.isAgg20
  z20 := Tryz.sizeOf20
  v20 := Tryz.zeroValue20
  t37 := Tryz.underlying277
  a37 := Tryz.isAgg277
  z37 := Tryz.sizeOf277
  v37 := Tryz.zeroValue277
  t46 := Tryz.underlying279
  a46 := Tryz.isAgg279
  z46 := Tryz.sizeOf279
  v46 := Tryz.zeroValue279
  t51 := Tryz.underlying119
  a51 := Tryz.isAgg119
  z51 := Tryz.sizeOf119
  v51 := Tryz.zeroValue119
  t53 := Tryz.underlying32
  a53 := Tryz.isAgg32
  z53 := Tryz.sizeOf32
  v53 := Tryz.zeroValue32
  t70 := Tryz.underlying301
  a70 := Tryz.isAgg301
  z70 := Tryz.sizeOf301
  v70 := Tryz.zeroValue301
  t72 := Tryz.underlying303
  a72 := Tryz.isAgg303
  z72 := Tryz.sizeOf303
  v72 := Tryz.zeroValue303
  t75 := Tryz.underlying306
  a75 := Tryz.isAgg306
  z75 := Tryz.sizeOf306
  v75 := Tryz.zeroValue306
  t76 := Tryz.underlying307
  a76 := Tryz.isAgg307
  z76 := Tryz.sizeOf307
  v76 := Tryz.zeroValue307
  t109 := Tryz.underlying298
  a109 := Tryz.isAgg298
  z109 := Tryz.sizeOf298
  v109 := Tryz.zeroValue298
  t127 := Tryz.underlying335
  a127 := Tryz.isAgg335
  z127 := Tryz.sizeOf335
  v127 := Tryz.zeroValue335
  t146 := Tryz.underlying331
  a146 := Tryz.isAgg331
  z146 := Tryz.sizeOf331
  v146 := Tryz.zeroValue331
  t148 := Tryz.underlying333
  a148 := Tryz.isAgg333
  z148 := Tryz.sizeOf333
  v148 := Tryz.zeroValue333
  t164 := Tryz.underlying345
  a164 := Tryz.isAgg345
  z164 := Tryz.sizeOf345
  v164 := Tryz.zeroValue345 }
theorem Tryz.Builder_Extra_105 : Builder.Extra Tryz.prog Tryz.lays105_ren := {
  sizeBuilder := by kernel_rfl
  liesBuilder := by kernel_rfl
  t5 := Tryz.underlying5
  a5 := Tryz.isAgg5
  z5 := Tryz.sizeOf5
  v5 := Tryz.zeroValue5
  infoByte := by kernel_rfl
  cellsByte := by kernel_rfl
  sizeByte := by kernel_rfl
  neB5 := by decide }
open Go.RowKit Go.Lib in
theorem Tryz.strings_Repeat (s : ByteArray) (c : Nat) (w : World) (hc : c ≤ 9223372036854775807) (hlen : s.size * c ≤ 140737488355328) :
    Calls Tryz.prog 175 #[.string s, .int .i64 c] w fun e w' => e = .returned (.string ⟨(Lib.repeatL s.data.toList c).toArray⟩) ∧ Below w.heap.size w w' := Any.strings_Repeat Tryz.lays105 Tryz.Builder_Extra_105 s c w hc hlen
end Go.Proofs
