/- The shelf's contracts of slices.Sort and slices.Compact, laid at this seat (the kit's lay-plain), and on rows that are owned. -/
import Derived.Shelf.Sort.Plain
import Derived.Shelf.Slices.CompactS
import Derived.Shelf.Slices.CompactI
import Derived.Shelf.Slices.In.SortNone
import Derived.Test.YtjoigmbapnjhhaaProg
import Derived.Test.YtjoigmbapnjhhaaSort
set_option linter.unusedVariables false
namespace Go.Proofs.Ytjoigmbapnjhhaa
open Go.Shelf Go.RowKit
def lays189_ren : Go.Shelf.Ren := ⟨fun | 189 => 35 | 125 => 44 | 257 => 43 | 128 => 58 | 129 => 59 | 294 => 49 | 295 => 50 | 296 => 51 | 297 => 52 | 298 => 53 | 299 => 54 | 216 => 55 | 300 => 56 | 301 => 57 | 328 => 68 | 329 => 69 | 330 => 70 | 331 => 71 | 332 => 72 | 215 => 47 | 343 => 76 | n => n, fun | 28 => 66 | 3 => 3 | 46 => 87 | 0 => 0 | 51 => 102 | 53 => 28 | 4 => 4 | 183 => 94 | 182 => 93 | 131 => 99 | 5 => 5 | 9 => 9 | 218 => 109 | 222 => 113 | 228 => 117 | 229 => 118 | n => n, fun | n => n⟩
theorem lays189 : Go.Proofs.Lays.n189 Try.prog lays189_ren := {
  mixed := by kernel_rfl
  f125 := Try.func44.trans (congrArg some (by kernel_rfl))
  f128 := Try.func58.trans (congrArg some (by kernel_rfl))
  f129 := Try.func59.trans (congrArg some (by kernel_rfl))
  f189 := Try.func35.trans (congrArg some (by kernel_rfl))
  f215 := Try.func47.trans (congrArg some (by kernel_rfl))
  f216 := Try.func55.trans (congrArg some (by kernel_rfl))
  f257 := Try.func43.trans (congrArg some (by kernel_rfl))
  f294 := Try.func49.trans (congrArg some (by kernel_rfl))
  f295 := Try.func50.trans (congrArg some (by kernel_rfl))
  f296 := Try.func51.trans (congrArg some (by kernel_rfl))
  f297 := Try.func52.trans (congrArg some (by kernel_rfl))
  f298 := Try.func53.trans (congrArg some (by kernel_rfl))
  f299 := Try.func54.trans (congrArg some (by kernel_rfl))
  f300 := Try.func56.trans (congrArg some (by kernel_rfl))
  f301 := Try.func57.trans (congrArg some (by kernel_rfl))
  f328 := Try.func68.trans (congrArg some (by kernel_rfl))
  f329 := Try.func69.trans (congrArg some (by kernel_rfl))
  f330 := Try.func70.trans (congrArg some (by kernel_rfl))
  f331 := Try.func71.trans (congrArg some (by kernel_rfl))
  f332 := Try.func72.trans (congrArg some (by kernel_rfl))
  f343 := Try.func76.trans (congrArg some (by kernel_rfl))
  t0 := Try.underlying0
  a0 := Try.isAgg0
  z0 := Try.sizeOf0
  v0 := Try.zeroValue0
  t3 := Try.underlying3
  a3 := Try.isAgg3
  z3 := Try.sizeOf3
  v3 := Try.zeroValue3
  t4 := Try.underlying4
  a4 := Try.isAgg4
  z4 := Try.sizeOf4
  v4 := Try.zeroValue4
  t5 := Try.underlying5
  a5 := Try.isAgg5
  z5 := Try.sizeOf5
  v5 := Try.zeroValue5
  t9 := Try.underlying9
  a9 := Try.isAgg9
  z9 := Try.sizeOf9
  v9 := Try.zeroValue9
  t28 := Try.underlying66
  a28 := Try.isAgg66
  z28 := Try.sizeOf66
  v28 := Try.zeroValue66
  t46 := Try.underlying87
  a46 := Try.isAgg87
  z46 := Try.sizeOf87
  v46 := Try.zeroValue87
  t51 := Try.underlying102
  a51 := Try.isAgg102
  z51 := Try.sizeOf102
  v51 := Try.zeroValue102
  t53 := Try.underlying28
  a53 := Try.isAgg28
  z53 := Try.sizeOf28
  v53 := Try.zeroValue28
  t131 := Try.underlying99
  a131 := Try.isAgg99
  z131 := Try.sizeOf99
  v131 := Try.zeroValue99
  t182 := Try.underlying93
  a182 := Try.isAgg93
  z182 := Try.sizeOf93
  v182 := Try.zeroValue93
  t183 := Try.underlying94
  a183 := Try.isAgg94
  z183 := Try.sizeOf94
  v183 := Try.zeroValue94
  t218 := Try.underlying109
  a218 := Try.isAgg109
  z218 := Try.sizeOf109
  v218 := Try.zeroValue109
  t222 := Try.underlying113
  a222 := Try.isAgg113
  z222 := Try.sizeOf113
  v222 := Try.zeroValue113
  t228 := Try.underlying117
  a228 := Try.isAgg117
  z228 := Try.sizeOf117
  v228 := Try.zeroValue117
  t229 := Try.underlying118
  a229 := Try.isAgg118
  z229 := Try.sizeOf118
  v229 := Try.zeroValue118 }
def laysNm220_ren : Go.Shelf.Ren := ⟨fun | 20 => 36 | n => n, fun | 22 => 66 | 3 => 3 | 4 => 4 | 0 => 0 | n => n, fun | n => n⟩
theorem laysNm220 : Go.Proofs.Lays2.n20 Try.prog laysNm220_ren := {
  mixed := by kernel_rfl
  f20 := Try.func36.trans (congrArg some (by kernel_rfl))
  t0 := Try.underlying0
  a0 := Try.isAgg0
  z0 := Try.sizeOf0
  v0 := Try.zeroValue0
  t3 := Try.underlying3
  a3 := Try.isAgg3
  z3 := Try.sizeOf3
  v3 := Try.zeroValue3
  t4 := Try.underlying4
  a4 := Try.isAgg4
  z4 := Try.sizeOf4
  v4 := Try.zeroValue4
  t22 := Try.underlying66
  a22 := Try.isAgg66
  z22 := Try.sizeOf66
  v22 := Try.zeroValue66
  i3 := by kernel_rfl }
theorem sortI {W : World} {L : List Res} {e : Enc Int} (hc : e.cells = fun x => [.int .i64 x]) (hz : e.sz = 1) {a : Option Addr} {c : Nat} {xs : List Int} (hl : xs.length < 4611686018427387904) :
    CS Try.prog 35 #[.slice a xs.length c] W (row e.T e.sz a xs.length c (flat e xs) :: L) fun v L' => ∃ ys, ys.Perm xs ∧ ys.Pairwise (fun a b => ¬ ilt b a) ∧ v = .tuple #[] ∧ L' = row e.T e.sz a ys.length c (flat e ys) :: L :=
  cs_sort (κ := Int) (encK := Value.int .i64) (ψ := id) (φ := id) (le := fun x y => decide (x ≤ y)) hc hz (fun x => rfl) (fun k => rfl) (fun a b h => le_int h) le_tr_int le_tot_int (fun blk off cap ss w => Any.slices_Sort_int lays189 blk off cap ss w) (fun p cap w => Any.slices_Sort_int_none lays189 p cap w) hl
theorem compactI {W : World} {L : List Res} {e : Enc Int} (hc : e.cells = fun x => [.int .i64 x]) (hz : e.sz = 1) {a : Option Addr} {c : Nat} {xs : List Int} (hs : xs.Pairwise fun a b => ¬ ilt b a) (hl : xs.length ≤ 9223372036854775807) :
    CS Try.prog 36 #[.slice a xs.length c] W (row e.T e.sz a xs.length c (flat e xs) :: L) fun v L' => v = .slice a (setOf ilt xs).length c ∧ L' = row e.T e.sz a (setOf ilt xs).length c (flat e (setOf ilt xs)) :: L :=
  cs_compact (κ := Int) (encK := Value.int .i64) (ψ := id) (φ := id) (z := 0) ilt_sto hc hz (fun x => rfl) (fun k => rfl) (fun blk off cap zs w => Any.slices_Compact_int laysNm220 blk off cap zs w) (fun p cap w => Any.slices_Compact_int_empty laysNm220 p cap w) hs hl
end Go.Proofs.Ytjoigmbapnjhhaa
