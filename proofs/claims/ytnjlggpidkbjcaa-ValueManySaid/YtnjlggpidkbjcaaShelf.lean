/- Contracts of Go's library, proved once on the shelf, laid at this program's numbers: records of numbers, then one application each. -/
import Derived.Shelf.Lays
import Derived.Shelf.Strconv.Itoa4
import Derived.Shelf.Strings.OnBuilder
import Derived.KernelRfl
import Derived.Test.YtnjlggpidkbjcaaProg
namespace Go.Proofs
open Go.Shelf
def Try.lays156_ren : Go.Shelf.Ren := ⟨fun | 156 => 79 | 165 => 80 | 166 => 81 | 169 => 82 | 240 => 83 | 241 => 84 | 276 => 85 | 277 => 86 | n => n, fun | 31 => 72 | 37 => 53 | 70 => 111 | 72 => 113 | 75 => 116 | 76 => 117 | 80 => 60 | 127 => 104 | 164 => 119 | n => n, fun n => n⟩
theorem Try.lays156 : Go.Proofs.Lays.n156 Try.prog Try.lays156_ren := {
  mixed := by kernel_rfl
  f156 := Try.func79.trans (congrArg some (by kernel_rfl))
  f165 := Try.func80.trans (congrArg some (by kernel_rfl))
  f166 := Try.func81.trans (congrArg some (by kernel_rfl))
  f169 := Try.func82.trans (congrArg some (by kernel_rfl))
  f240 := Try.func83.trans (congrArg some (by kernel_rfl))
  f241 := Try.func84.trans (congrArg some (by kernel_rfl))
  f276 := Try.func85.trans (congrArg some (by kernel_rfl))
  f277 := Try.func86.trans (congrArg some (by kernel_rfl))
  t0 := Try.underlying0
  a0 := Try.isAgg0
  z0 := Try.sizeOf0
  v0 := Try.zeroValue0
  t3 := Try.underlying3
  a3 := Try.isAgg3
  z3 := Try.sizeOf3
  v3 := Try.zeroValue3
  t4 := Try.underlying4
  a4 := Try.isAgg4
  z4 := Try.sizeOf4
  v4 := Try.zeroValue4
  t9 := Try.underlying9
  a9 := Try.isAgg9
  z9 := Try.sizeOf9
  v9 := Try.zeroValue9
  t20 := Try.underlying20
  a20 := Try.isAgg20
  z20 := Try.sizeOf20
  v20 := Try.zeroValue20
  t31 := Try.underlying72
  a31 := Try.isAgg72
  z31 := Try.sizeOf72
  v31 := Try.zeroValue72
  t37 := Try.underlying53
  a37 := Try.isAgg53
  z37 := Try.sizeOf53
  v37 := Try.zeroValue53
  t70 := Try.underlying111
  a70 := Try.isAgg111
  z70 := Try.sizeOf111
  v70 := Try.zeroValue111
  t72 := Try.underlying113
  a72 := Try.isAgg113
  z72 := Try.sizeOf113
  v72 := Try.zeroValue113
  t75 := Try.underlying116
  a75 := Try.isAgg116
  z75 := Try.sizeOf116
  v75 := Try.zeroValue116
  t76 := Try.underlying117
  a76 := Try.isAgg117
  z76 := Try.sizeOf117
  v76 := Try.zeroValue117
  t127 := Try.underlying104
  a127 := Try.isAgg104
  z127 := Try.sizeOf104
  v127 := Try.zeroValue104
  t164 := Try.underlying119
  a164 := Try.isAgg119
  z164 := Try.sizeOf119
  v164 := Try.zeroValue119 }
theorem Try.Builder_Extra_156 : Builder.Extra Try.prog Try.lays156_ren where
  sizeBuilder := by kernel_rfl
  liesBuilder := by kernel_rfl
  t5 := Try.underlying5
  a5 := Try.isAgg5
  z5 := Try.sizeOf5
  v5 := Try.zeroValue5
  infoByte := by kernel_rfl
  cellsByte := by kernel_rfl
  sizeByte := by kernel_rfl
  neB5 := by decide
open Go.RowKit in
/-- strings.Join: "Join concatenates the elements of its first argument to create a single string. The separator string sep is placed between elements in the resulting string.": HOWEVER MANY ELEMENTS. Below the heap's end the world is as it was. (LAID: no walk: one application.) -/
theorem Try.strings_Join (bk o c : Nat) (xs : List ByteArray) (sep : ByteArray) (w : World) (hcells : ∀ (j : Nat) x, xs[j]? = some x → w.cell? ⟨bk, o + j, none⟩ = some (.string x)) (hbk : bk < w.heap.size) (hN : xs.length ≤ 140737488355328) (hcap : xs.length ≤ c) (hlen : (Lib.join (xs.map (·.data.toList)) sep.data.toList).length ≤ 140737488355328) :
    Calls Try.prog 79 #[.slice (some ⟨bk, o, none⟩) xs.length c, .string sep] w fun e w' => e = .returned (.string ⟨(Lib.join (xs.map (·.data.toList)) sep.data.toList).toArray⟩) ∧ Below w.heap.size w w' := Any.strings_Join Try.lays156 Try.Builder_Extra_156 bk o c xs sep w hcells hbk hN hcap hlen
def Try.lays173_ren : Go.Shelf.Ren := ⟨fun | 129 => 107 | 173 => 98 | 246 => 101 | 283 => 102 | 284 => 103 | 285 => 104 | 286 => 105 | 317 => 106 | 318 => 108 | 319 => 109 | 320 => 110 | 337 => 111 | 338 => 112 | n => n, fun | 37 => 53 | 46 => 81 | 51 => 100 | 53 => 86 | 171 => 131 | 173 => 134 | 212 => 138 | 213 => 139 | 232 => 142 | 233 => 143 | n => n, fun | 17 => 3 | 18 => 4 | 19 => 5 | n => n⟩
theorem Try.lays173 : Go.Proofs.Lays.n173 Try.prog Try.lays173_ren := {
  mixed := by kernel_rfl
  f129 := Try.func107.trans (congrArg some (by kernel_rfl))
  f173 := Try.func98.trans (congrArg some (by kernel_rfl))
  f246 := Try.func101.trans (congrArg some (by kernel_rfl))
  f283 := Try.func102.trans (congrArg some (by kernel_rfl))
  f284 := Try.func103.trans (congrArg some (by kernel_rfl))
  f285 := Try.func104.trans (congrArg some (by kernel_rfl))
  f286 := Try.func105.trans (congrArg some (by kernel_rfl))
  f317 := Try.func106.trans (congrArg some (by kernel_rfl))
  f318 := Try.func108.trans (congrArg some (by kernel_rfl))
  f319 := Try.func109.trans (congrArg some (by kernel_rfl))
  f320 := Try.func110.trans (congrArg some (by kernel_rfl))
  f337 := Try.func111.trans (congrArg some (by kernel_rfl))
  f338 := Try.func112.trans (congrArg some (by kernel_rfl))
  t0 := Try.underlying0
  a0 := Try.isAgg0
  z0 := Try.sizeOf0
  v0 := Try.zeroValue0
  t2 := Try.underlying2
  a2 := Try.isAgg2
  z2 := Try.sizeOf2
  v2 := Try.zeroValue2
  t3 := Try.underlying3
  a3 := Try.isAgg3
  z3 := Try.sizeOf3
  v3 := Try.zeroValue3
  t4 := Try.underlying4
  a4 := Try.isAgg4
  z4 := Try.sizeOf4
  v4 := Try.zeroValue4
  t5 := Try.underlying5
  a5 := Try.isAgg5
  z5 := Try.sizeOf5
  v5 := Try.zeroValue5
  t9 := Try.underlying9
  a9 := Try.isAgg9
  z9 := Try.sizeOf9
  v9 := Try.zeroValue9
  t20 := Try.underlying20
  a20 := Try.isAgg20
  z20 := Try.sizeOf20
  v20 := Try.zeroValue20
  t37 := Try.underlying53
  a37 := Try.isAgg53
  z37 := Try.sizeOf53
  v37 := Try.zeroValue53
  t46 := Try.underlying81
  a46 := Try.isAgg81
  z46 := Try.sizeOf81
  v46 := Try.zeroValue81
  t51 := Try.underlying100
  a51 := Try.isAgg100
  z51 := Try.sizeOf100
  v51 := Try.zeroValue100
  t53 := Try.underlying86
  a53 := Try.isAgg86
  z53 := Try.sizeOf86
  v53 := Try.zeroValue86
  t171 := Try.underlying131
  a171 := Try.isAgg131
  z171 := Try.sizeOf131
  v171 := Try.zeroValue131
  t173 := Try.underlying134
  a173 := Try.isAgg134
  z173 := Try.sizeOf134
  v173 := Try.zeroValue134
  t212 := Try.underlying138
  a212 := Try.isAgg138
  z212 := Try.sizeOf138
  v212 := Try.zeroValue138
  t213 := Try.underlying139
  a213 := Try.isAgg139
  z213 := Try.sizeOf139
  t232 := Try.underlying142
  a232 := Try.isAgg142
  z232 := Try.sizeOf142
  v232 := Try.zeroValue142
  t233 := Try.underlying143
  a233 := Try.isAgg143
  z233 := Try.sizeOf143
  v233 := Try.zeroValue143
  g17 := by kernel_rfl
  g18 := by kernel_rfl
  g19 := by kernel_rfl }
open Go.RowKit Go.Sort Go.Lib in
/-- THE ROAD WITHOUT THE TABLE: 0 <= i < 100. (LAID: no walk: one application.) -/
theorem Try.strconv_FormatInt_10_small (i : Nat) (hi : i < 100) (w : World) :
    Calls Try.prog 98 #[.int .i64 i, .int .i64 10] w fun e w' => e = .returned (.string ⟨(Lib.decDigits i).toArray⟩) ∧ w' = w := Any.strconv_FormatInt_10_small Try.lays173 i hi w
end Go.Proofs
