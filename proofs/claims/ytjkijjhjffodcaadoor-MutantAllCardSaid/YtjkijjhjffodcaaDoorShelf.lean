/- Contracts of the library's functions, laid at this program by the shelf's plain mode. -/
import Derived.Shelf.Strings.Builder1
import Derived.Shelf.Small.Strs
import Derived.Shelf.Strconv.Itoa0
import Derived.Shelf.Strconv.Itoa1
import Derived.Shelf.LaysM
import Derived.Shelf.Strconv.Itoa2
import Derived.Shelf.Strconv.Itoa3
import Derived.Shelf.Strings.Search1
import Derived.Shelf.Strings.Search2
import Derived.Shelf.Strings.Search3
import Derived.Shelf.Strings.Shaped
import Derived.Shelf.Strings.Prefix
import Derived.Shelf.Slices.Equal
import Derived.Shelf.Slices.Empties2
import Derived.Ground.SlgnProg
import Derived.Shelf.SlicesG.Turned
import Derived.Test.YtjkijjhjffodcaaDoorProg
namespace Go.Proofs
open Go.Shelf
def Tryd.lays171_ren : Go.Shelf.Ren := ⟨fun | 171 => 68 | 243 => 112 | 246 => 167 | 283 => 221 | 284 => 222 | 285 => 223 | 286 => 224 | 129 => 250 | 317 => 249 | 318 => 251 | 319 => 252 | 320 => 253 | 337 => 267 | 338 => 268 | n => n, fun | 3 => 3 | 9 => 9 | 2 => 2 | 4 => 4 | 171 => 295 | 0 => 0 | 53 => 296 | 37 => 103 | 5 => 5 | 173 => 299 | 212 => 319 | 51 => 142 | 20 => 20 | 213 => 320 | 46 => 292 | 232 => 334 | 233 => 335 | n => n, fun | 17 => 3 | 18 => 4 | 19 => 5 | n => n⟩
theorem Tryd.lays171 : Go.Proofs.Lays.n171 Tryd.prog Tryd.lays171_ren := {
  mixed := by kernel_rfl
  f129 := Tryd.func250.trans (congrArg some (by kernel_rfl))
  f171 := Tryd.func68.trans (congrArg some (by kernel_rfl))
  f243 := Tryd.func112.trans (congrArg some (by kernel_rfl))
  f246 := Tryd.func167.trans (congrArg some (by kernel_rfl))
  f283 := Tryd.func221.trans (congrArg some (by kernel_rfl))
  f284 := Tryd.func222.trans (congrArg some (by kernel_rfl))
  f285 := Tryd.func223.trans (congrArg some (by kernel_rfl))
  f286 := Tryd.func224.trans (congrArg some (by kernel_rfl))
  f317 := Tryd.func249.trans (congrArg some (by kernel_rfl))
  f318 := Tryd.func251.trans (congrArg some (by kernel_rfl))
  f319 := Tryd.func252.trans (congrArg some (by kernel_rfl))
  f320 := Tryd.func253.trans (congrArg some (by kernel_rfl))
  f337 := Tryd.func267.trans (congrArg some (by kernel_rfl))
  f338 := Tryd.func268.trans (congrArg some (by kernel_rfl))
  t0 := Tryd.underlying0
  a0 := Tryd.isAgg0
  z0 := Tryd.sizeOf0
  v0 := Tryd.zeroValue0
  t2 := Tryd.underlying2
  a2 := Tryd.isAgg2
  z2 := Tryd.sizeOf2
  v2 := Tryd.zeroValue2
  t3 := Tryd.underlying3
  a3 := Tryd.isAgg3
  z3 := Tryd.sizeOf3
  v3 := Tryd.zeroValue3
  t4 := Tryd.underlying4
  a4 := Tryd.isAgg4
  z4 := Tryd.sizeOf4
  v4 := Tryd.zeroValue4
  t5 := Tryd.underlying5
  a5 := Tryd.isAgg5
  z5 := Tryd.sizeOf5
  v5 := Tryd.zeroValue5
  t9 := Tryd.underlying9
  a9 := Tryd.isAgg9
  z9 := Tryd.sizeOf9
  v9 := Tryd.zeroValue9
  t20 := Tryd.underlying20
  a20 := Tryd.isAgg20
  z20 := Tryd.sizeOf20
  v20 := Tryd.zeroValue20
  t37 := Tryd.underlying103
  a37 := Tryd.isAgg103
  z37 := Tryd.sizeOf103
  v37 := Tryd.zeroValue103
  t46 := Tryd.underlying292
  a46 := Tryd.isAgg292
  z46 := Tryd.sizeOf292
  v46 := Tryd.zeroValue292
  t51 := Tryd.underlying142
  a51 := Tryd.isAgg142
  z51 := Tryd.sizeOf142
  v51 := Tryd.zeroValue142
  t53 := Tryd.underlying296
  a53 := Tryd.isAgg296
  z53 := Tryd.sizeOf296
  v53 := Tryd.zeroValue296
  t171 := Tryd.underlying295
  a171 := Tryd.isAgg295
  z171 := Tryd.sizeOf295
  v171 := Tryd.zeroValue295
  t173 := Tryd.underlying299
  a173 := Tryd.isAgg299
  z173 := Tryd.sizeOf299
  v173 := Tryd.zeroValue299
  t212 := Tryd.underlying319
  a212 := Tryd.isAgg319
  z212 := Tryd.sizeOf319
  v212 := Tryd.zeroValue319
  t213 := Tryd.underlying320
  a213 := Tryd.isAgg320
  z213 := Tryd.sizeOf320
  t232 := Tryd.underlying334
  a232 := Tryd.isAgg334
  z232 := Tryd.sizeOf334
  v232 := Tryd.zeroValue334
  t233 := Tryd.underlying335
  a233 := Tryd.isAgg335
  z233 := Tryd.sizeOf335
  v233 := Tryd.zeroValue335
  g17 := by kernel_rfl
  g18 := by kernel_rfl
  g19 := by kernel_rfl }
open Go.RowKit Go.Sort Go.Lib in
theorem Tryd.strconv_Itoa_small (i : Nat) (hi : i < 100) (w : World) :
    Calls Tryd.prog 68 #[.int .i64 i] w fun e w' => e = .returned (.string ⟨(Lib.decDigits i).toArray⟩) ∧ w' = w := Any.strconv_Itoa_small Tryd.lays171 i hi w
end Go.Proofs
