/- what this seat needs of the shelf's laid contracts, without comments -/
import Derived.Shelf.Strings.Builder1
import Derived.Shelf.Strings.Builder2
import Derived.Shelf.Strings.BuilderF
import Derived.Shelf.Strings.BuilderK
import Derived.Shelf.Strings.Builder2Cap
import Derived.Shelf.Strings.Prefix
import Derived.Shelf.Bits.Mul64
import Derived.Shelf.Strings.Repeat
import Derived.Shelf.Slices.Turned
import Derived.Shelf.Slices.Equal
import Derived.Ground.Names2Prog
import Derived.Shelf.Slices.Clone
import Derived.Shelf.Slices.Empties2
import Derived.Ground.SlgnProg
import Derived.Shelf.SlicesE.Clone
import Derived.Test.YtbhecddpnpkdpaaGreatDoorProg
namespace Go.Proofs
open Go.Shelf
def Tryz.lays105_ren : Go.Shelf.Ren := ⟨fun | 105 => 115 | 212 => 157 | 99 => 158 | 165 => 159 | 166 => 160 | 170 => 161 | 169 => 162 | 263 => 183 | 264 => 184 | 206 => 185 | 240 => 186 | 241 => 187 | 276 => 196 | 277 => 197 | n => n, fun | 9 => 9 | 3 => 3 | 4 => 4 | 20 => 20 | 0 => 0 | 46 => 213 | 109 => 234 | 5 => 5 | 72 => 239 | 76 => 243 | 51 => 88 | 146 => 267 | 53 => 43 | 148 => 269 | 70 => 237 | 37 => 211 | 75 => 242 | 127 => 271 | 164 => 281 | 80 => 246 | n => n, fun | n => n⟩
theorem Tryz.lays105 : Go.Proofs.Lays.n105 Tryz.prog Tryz.lays105_ren := {
  mixed := by kernel_rfl
  f99 := Tryz.func158.trans (congrArg some (by kernel_rfl))
  f105 := Tryz.func115.trans (congrArg some (by kernel_rfl))
  f165 := Tryz.func159.trans (congrArg some (by kernel_rfl))
  f166 := Tryz.func160.trans (congrArg some (by kernel_rfl))
  f169 := Tryz.func162.trans (congrArg some (by kernel_rfl))
  f170 := Tryz.func161.trans (congrArg some (by kernel_rfl))
  f206 := Tryz.func185.trans (congrArg some (by kernel_rfl))
  f212 := Tryz.func157.trans (congrArg some (by kernel_rfl))
  f240 := Tryz.func186.trans (congrArg some (by kernel_rfl))
  f241 := Tryz.func187.trans (congrArg some (by kernel_rfl))
  f263 := Tryz.func183.trans (congrArg some (by kernel_rfl))
  f264 := Tryz.func184.trans (congrArg some (by kernel_rfl))
  f276 := Tryz.func196.trans (congrArg some (by kernel_rfl))
  f277 := Tryz.func197.trans (congrArg some (by kernel_rfl))
  t0 := Tryz.underlying0
  a0 := Tryz.isAgg0
  z0 := Tryz.sizeOf0
  v0 := Tryz.zeroValue0
  t3 := Tryz.underlying3
  a3 := Tryz.isAgg3
  z3 := Tryz.sizeOf3
  v3 := Tryz.zeroValue3
  t4 := Tryz.underlying4
  a4 := Tryz.isAgg4
  z4 := Tryz.sizeOf4
  v4 := Tryz.zeroValue4
  t5 := Tryz.underlying5
  a5 := Tryz.isAgg5
  z5 := Tryz.sizeOf5
  v5 := Tryz.zeroValue5
  t9 := Tryz.underlying9
  a9 := Tryz.isAgg9
  z9 := Tryz.sizeOf9
  v9 := Tryz.zeroValue9
  t20 := Tryz.underlying20
  a20 := Tryz.isAgg20
  z20 := Tryz.sizeOf20
  v20 := Tryz.zeroValue20
  t37 := Tryz.underlying211
  a37 := Tryz.isAgg211
  z37 := Tryz.sizeOf211
  v37 := Tryz.zeroValue211
  t46 := Tryz.underlying213
  a46 := Tryz.isAgg213
  z46 := Tryz.sizeOf213
  v46 := Tryz.zeroValue213
  t51 := Tryz.underlying88
  a51 := Tryz.isAgg88
  z51 := Tryz.sizeOf88
  v51 := Tryz.zeroValue88
  t53 := Tryz.underlying43
  a53 := Tryz.isAgg43
  z53 := Tryz.sizeOf43
  v53 := Tryz.zeroValue43
  t70 := Tryz.underlying237
  a70 := Tryz.isAgg237
  z70 := Tryz.sizeOf237
  v70 := Tryz.zeroValue237
  t72 := Tryz.underlying239
  a72 := Tryz.isAgg239
  z72 := Tryz.sizeOf239
  v72 := Tryz.zeroValue239
  t75 := Tryz.underlying242
  a75 := Tryz.isAgg242
  z75 := Tryz.sizeOf242
  v75 := Tryz.zeroValue242
  t76 := Tryz.underlying243
  a76 := Tryz.isAgg243
  z76 := Tryz.sizeOf243
  v76 := Tryz.zeroValue243
  t109 := Tryz.underlying234
  a109 := Tryz.isAgg234
  z109 := Tryz.sizeOf234
  v109 := Tryz.zeroValue234
  t127 := Tryz.underlying271
  a127 := Tryz.isAgg271
  z127 := Tryz.sizeOf271
  v127 := Tryz.zeroValue271
  t146 := Tryz.underlying267
  a146 := Tryz.isAgg267
  z146 := Tryz.sizeOf267
  v146 := Tryz.zeroValue267
  t148 := Tryz.underlying269
  a148 := Tryz.isAgg269
  z148 := Tryz.sizeOf269
  v148 := Tryz.zeroValue269
  t164 := Tryz.underlying281
  a164 := Tryz.isAgg281
  z164 := Tryz.sizeOf281
  v164 := Tryz.zeroValue281 }
theorem Tryz.Builder_Extra_105 : Builder.Extra Tryz.prog Tryz.lays105_ren := {
  sizeBuilder := by kernel_rfl
  liesBuilder := by kernel_rfl
  t5 := Tryz.underlying5
  a5 := Tryz.isAgg5
  z5 := Tryz.sizeOf5
  v5 := Tryz.zeroValue5
  infoByte := by kernel_rfl
  cellsByte := by kernel_rfl
  sizeByte := by kernel_rfl
  neB5 := by decide }
open Go.RowKit Go.Lib in
theorem Tryz.strings_Repeat (s : ByteArray) (c : Nat) (w : World) (hc : c ≤ 9223372036854775807) (hlen : s.size * c ≤ 140737488355328) :
    Calls Tryz.prog 115 #[.string s, .int .i64 c] w fun e w' => e = .returned (.string ⟨(Lib.repeatL s.data.toList c).toArray⟩) ∧ Below w.heap.size w w' := Any.strings_Repeat Tryz.lays105 Tryz.Builder_Extra_105 s c w hc hlen
end Go.Proofs
