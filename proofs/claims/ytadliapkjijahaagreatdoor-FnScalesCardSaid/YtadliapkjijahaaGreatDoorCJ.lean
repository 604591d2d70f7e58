/- The library's joining of texts, laid at this program (the kit's command wrote it); no condition. -/
import Derived.Test.YtadliapkjijahaaGreatDoorAb
import Derived.Test.YtadliapkjijahaaGreatDoorProg
import Derived.Shelf.Strings.OnBuilder
import Derived.Ground.NamesProg
set_option linter.unusedVariables false
set_option linter.unusedSimpArgs false
namespace Go.Proofs.YtadliapkjijahaaGreatDoor
open Ab

open Go.Shelf
def joinF_ren : Go.Shelf.Ren := ⟨fun | 156 => 114 | 165 => 127 | 166 => 128 | 169 => 129 | 240 => 150 | 241 => 151 | 276 => 169 | 277 => 170 | n => n, fun | 31 => 86 | 9 => 9 | 3 => 3 | 4 => 4 | 0 => 0 | 20 => 20 | 72 => 140 | 76 => 142 | 70 => 138 | 37 => 22 | 75 => 128 | 127 => 162 | 164 => 182 | 5 => 5 | 80 => 144 | n => n, fun | n => n⟩
theorem joinF : Go.Proofs.Lays.n156 Tryz.prog joinF_ren := {
  mixed := by kernel_rfl
  f156 := Tryz.func114.trans (congrArg some (by kernel_rfl))
  f165 := Tryz.func127.trans (congrArg some (by kernel_rfl))
  f166 := Tryz.func128.trans (congrArg some (by kernel_rfl))
  f169 := Tryz.func129.trans (congrArg some (by kernel_rfl))
  f240 := Tryz.func150.trans (congrArg some (by kernel_rfl))
  f241 := Tryz.func151.trans (congrArg some (by kernel_rfl))
  f276 := Tryz.func169.trans (congrArg some (by kernel_rfl))
  f277 := Tryz.func170.trans (congrArg some (by kernel_rfl))
  t0 := Tryz.underlying0
  a0 := Tryz.isAgg0
  z0 := Tryz.sizeOf0
  v0 := Tryz.zeroValue0
  t3 := Tryz.underlying3
  a3 := Tryz.isAgg3
  z3 := Tryz.sizeOf3
  v3 := Tryz.zeroValue3
  t4 := Tryz.underlying4
  a4 := Tryz.isAgg4
  z4 := Tryz.sizeOf4
  v4 := Tryz.zeroValue4
  t9 := Tryz.underlying9
  a9 := Tryz.isAgg9
  z9 := Tryz.sizeOf9
  v9 := Tryz.zeroValue9
  t20 := Tryz.underlying20
  a20 := Tryz.isAgg20
  z20 := Tryz.sizeOf20
  v20 := Tryz.zeroValue20
  t31 := Tryz.underlying86
  a31 := Tryz.isAgg86
  z31 := Tryz.sizeOf86
  v31 := Tryz.zeroValue86
  t37 := Tryz.underlying22
  a37 := Tryz.isAgg22
  z37 := Tryz.sizeOf22
  v37 := Tryz.zeroValue22
  t70 := Tryz.underlying138
  a70 := Tryz.isAgg138
  z70 := Tryz.sizeOf138
  v70 := Tryz.zeroValue138
  t72 := Tryz.underlying140
  a72 := Tryz.isAgg140
  z72 := Tryz.sizeOf140
  v72 := Tryz.zeroValue140
  t75 := Tryz.underlying128
  a75 := Tryz.isAgg128
  z75 := Tryz.sizeOf128
  v75 := Tryz.zeroValue128
  t76 := Tryz.underlying142
  a76 := Tryz.isAgg142
  z76 := Tryz.sizeOf142
  v76 := Tryz.zeroValue142
  t127 := Tryz.underlying162
  a127 := Tryz.isAgg162
  z127 := Tryz.sizeOf162
  v127 := Tryz.zeroValue162
  t164 := Tryz.underlying182
  a164 := Tryz.isAgg182
  z164 := Tryz.sizeOf182
  v164 := Tryz.zeroValue182 }
theorem joinX : Builder.Extra Tryz.prog joinF_ren where
  sizeBuilder := by kernel_rfl
  liesBuilder := by kernel_rfl
  t5 := Tryz.underlying5
  a5 := Tryz.isAgg5
  z5 := Tryz.sizeOf5
  v5 := Tryz.zeroValue5
  infoByte := by kernel_rfl
  cellsByte := by kernel_rfl
  sizeByte := by kernel_rfl
  neB5 := by decide

end Go.Proofs.YtadliapkjijahaaGreatDoor
