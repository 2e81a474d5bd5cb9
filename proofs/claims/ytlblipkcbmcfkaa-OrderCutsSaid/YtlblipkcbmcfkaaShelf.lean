/- The shelf's contracts of slices.Sort and slices.Compact, laid at this seat (the kit's lay-plain), and on rows that are owned. -/
import Derived.Shelf.Sort.Plain
import Derived.Shelf.Slices.CompactS
import Derived.Shelf.Slices.CompactI
import Derived.Shelf.Slices.In.SortNone
import Derived.Test.YtlblipkcbmcfkaaProg
import Derived.Test.YtlblipkcbmcfkaaSort
set_option linter.unusedVariables false
namespace Go.Proofs.Ytlblipkcbmcfkaa
open Go.Shelf Go.RowKit
def lays189_ren : Go.Shelf.Ren := ⟨fun | 189 => 24 | 125 => 40 | 257 => 39 | 128 => 74 | 129 => 75 | 294 => 65 | 295 => 66 | 296 => 67 | 297 => 68 | 298 => 69 | 299 => 70 | 216 => 71 | 300 => 72 | 301 => 73 | 328 => 85 | 329 => 86 | 330 => 87 | 331 => 88 | 332 => 89 | 215 => 90 | 343 => 102 | n => n, fun | 28 => 37 | 3 => 3 | 46 => 80 | 0 => 0 | 51 => 113 | 53 => 22 | 4 => 4 | 183 => 105 | 182 => 104 | 131 => 110 | 5 => 5 | 9 => 9 | 218 => 124 | 222 => 127 | 228 => 138 | 229 => 139 | n => n, fun | n => n⟩
theorem lays189 : Go.Proofs.Lays.n189 Try.prog lays189_ren := {
  mixed := by kernel_rfl
  f125 := Try.func40.trans (congrArg some (by kernel_rfl))
  f128 := Try.func74.trans (congrArg some (by kernel_rfl))
  f129 := Try.func75.trans (congrArg some (by kernel_rfl))
  f189 := Try.func24.trans (congrArg some (by kernel_rfl))
  f215 := Try.func90.trans (congrArg some (by kernel_rfl))
  f216 := Try.func71.trans (congrArg some (by kernel_rfl))
  f257 := Try.func39.trans (congrArg some (by kernel_rfl))
  f294 := Try.func65.trans (congrArg some (by kernel_rfl))
  f295 := Try.func66.trans (congrArg some (by kernel_rfl))
  f296 := Try.func67.trans (congrArg some (by kernel_rfl))
  f297 := Try.func68.trans (congrArg some (by kernel_rfl))
  f298 := Try.func69.trans (congrArg some (by kernel_rfl))
  f299 := Try.func70.trans (congrArg some (by kernel_rfl))
  f300 := Try.func72.trans (congrArg some (by kernel_rfl))
  f301 := Try.func73.trans (congrArg some (by kernel_rfl))
  f328 := Try.func85.trans (congrArg some (by kernel_rfl))
  f329 := Try.func86.trans (congrArg some (by kernel_rfl))
  f330 := Try.func87.trans (congrArg some (by kernel_rfl))
  f331 := Try.func88.trans (congrArg some (by kernel_rfl))
  f332 := Try.func89.trans (congrArg some (by kernel_rfl))
  f343 := Try.func102.trans (congrArg some (by kernel_rfl))
  t0 := Try.underlying0
  a0 := Try.isAgg0
  z0 := Try.sizeOf0
  v0 := Try.zeroValue0
  t3 := Try.underlying3
  a3 := Try.isAgg3
  z3 := Try.sizeOf3
  v3 := Try.zeroValue3
  t4 := Try.underlying4
  a4 := Try.isAgg4
  z4 := Try.sizeOf4
  v4 := Try.zeroValue4
  t5 := Try.underlying5
  a5 := Try.isAgg5
  z5 := Try.sizeOf5
  v5 := Try.zeroValue5
  t9 := Try.underlying9
  a9 := Try.isAgg9
  z9 := Try.sizeOf9
  v9 := Try.zeroValue9
  t28 := Try.underlying37
  a28 := Try.isAgg37
  z28 := Try.sizeOf37
  v28 := Try.zeroValue37
  t46 := Try.underlying80
  a46 := Try.isAgg80
  z46 := Try.sizeOf80
  v46 := Try.zeroValue80
  t51 := Try.underlying113
  a51 := Try.isAgg113
  z51 := Try.sizeOf113
  v51 := Try.zeroValue113
  t53 := Try.underlying22
  a53 := Try.isAgg22
  z53 := Try.sizeOf22
  v53 := Try.zeroValue22
  t131 := Try.underlying110
  a131 := Try.isAgg110
  z131 := Try.sizeOf110
  v131 := Try.zeroValue110
  t182 := Try.underlying104
  a182 := Try.isAgg104
  z182 := Try.sizeOf104
  v182 := Try.zeroValue104
  t183 := Try.underlying105
  a183 := Try.isAgg105
  z183 := Try.sizeOf105
  v183 := Try.zeroValue105
  t218 := Try.underlying124
  a218 := Try.isAgg124
  z218 := Try.sizeOf124
  v218 := Try.zeroValue124
  t222 := Try.underlying127
  a222 := Try.isAgg127
  z222 := Try.sizeOf127
  v222 := Try.zeroValue127
  t228 := Try.underlying138
  a228 := Try.isAgg138
  z228 := Try.sizeOf138
  v228 := Try.zeroValue138
  t229 := Try.underlying139
  a229 := Try.isAgg139
  z229 := Try.sizeOf139
  v229 := Try.zeroValue139 }
def lays190_ren : Go.Shelf.Ren := ⟨fun | 190 => 42 | 125 => 40 | 258 => 77 | 128 => 74 | 129 => 75 | 302 => 91 | 303 => 92 | 304 => 93 | 305 => 94 | 306 => 95 | 307 => 96 | 308 => 97 | 309 => 98 | 310 => 99 | 333 => 103 | 329 => 86 | 330 => 87 | 334 => 104 | 335 => 105 | 336 => 106 | 344 => 107 | n => n, fun | 31 => 27 | 9 => 9 | 3 => 3 | 46 => 80 | 0 => 0 | 51 => 113 | 53 => 22 | 4 => 4 | 183 => 105 | 182 => 104 | 131 => 110 | 5 => 5 | 218 => 124 | 222 => 127 | 228 => 138 | 229 => 139 | n => n, fun | n => n⟩
theorem lays190 : Go.Proofs.Lays.n190 Try.prog lays190_ren := {
  mixed := by kernel_rfl
  f125 := Try.func40.trans (congrArg some (by kernel_rfl))
  f128 := Try.func74.trans (congrArg some (by kernel_rfl))
  f129 := Try.func75.trans (congrArg some (by kernel_rfl))
  f190 := Try.func42.trans (congrArg some (by kernel_rfl))
  f258 := Try.func77.trans (congrArg some (by kernel_rfl))
  f302 := Try.func91.trans (congrArg some (by kernel_rfl))
  f303 := Try.func92.trans (congrArg some (by kernel_rfl))
  f304 := Try.func93.trans (congrArg some (by kernel_rfl))
  f305 := Try.func94.trans (congrArg some (by kernel_rfl))
  f306 := Try.func95.trans (congrArg some (by kernel_rfl))
  f307 := Try.func96.trans (congrArg some (by kernel_rfl))
  f308 := Try.func97.trans (congrArg some (by kernel_rfl))
  f309 := Try.func98.trans (congrArg some (by kernel_rfl))
  f310 := Try.func99.trans (congrArg some (by kernel_rfl))
  f329 := Try.func86.trans (congrArg some (by kernel_rfl))
  f330 := Try.func87.trans (congrArg some (by kernel_rfl))
  f333 := Try.func103.trans (congrArg some (by kernel_rfl))
  f334 := Try.func104.trans (congrArg some (by kernel_rfl))
  f335 := Try.func105.trans (congrArg some (by kernel_rfl))
  f336 := Try.func106.trans (congrArg some (by kernel_rfl))
  f344 := Try.func107.trans (congrArg some (by kernel_rfl))
  t0 := Try.underlying0
  a0 := Try.isAgg0
  z0 := Try.sizeOf0
  v0 := Try.zeroValue0
  t3 := Try.underlying3
  a3 := Try.isAgg3
  z3 := Try.sizeOf3
  v3 := Try.zeroValue3
  t4 := Try.underlying4
  a4 := Try.isAgg4
  z4 := Try.sizeOf4
  v4 := Try.zeroValue4
  t5 := Try.underlying5
  a5 := Try.isAgg5
  z5 := Try.sizeOf5
  v5 := Try.zeroValue5
  t9 := Try.underlying9
  a9 := Try.isAgg9
  z9 := Try.sizeOf9
  v9 := Try.zeroValue9
  t31 := Try.underlying27
  a31 := Try.isAgg27
  z31 := Try.sizeOf27
  v31 := Try.zeroValue27
  t46 := Try.underlying80
  a46 := Try.isAgg80
  z46 := Try.sizeOf80
  v46 := Try.zeroValue80
  t51 := Try.underlying113
  a51 := Try.isAgg113
  z51 := Try.sizeOf113
  v51 := Try.zeroValue113
  t53 := Try.underlying22
  a53 := Try.isAgg22
  z53 := Try.sizeOf22
  v53 := Try.zeroValue22
  t131 := Try.underlying110
  a131 := Try.isAgg110
  z131 := Try.sizeOf110
  v131 := Try.zeroValue110
  t182 := Try.underlying104
  a182 := Try.isAgg104
  z182 := Try.sizeOf104
  v182 := Try.zeroValue104
  t183 := Try.underlying105
  a183 := Try.isAgg105
  z183 := Try.sizeOf105
  v183 := Try.zeroValue105
  t218 := Try.underlying124
  a218 := Try.isAgg124
  z218 := Try.sizeOf124
  v218 := Try.zeroValue124
  t222 := Try.underlying127
  a222 := Try.isAgg127
  z222 := Try.sizeOf127
  v222 := Try.zeroValue127
  t228 := Try.underlying138
  a228 := Try.isAgg138
  z228 := Try.sizeOf138
  v228 := Try.zeroValue138
  t229 := Try.underlying139
  a229 := Try.isAgg139
  z229 := Try.sizeOf139
  v229 := Try.zeroValue139 }
def laysNm220_ren : Go.Shelf.Ren := ⟨fun | 20 => 25 | n => n, fun | 22 => 37 | 3 => 3 | 4 => 4 | 0 => 0 | n => n, fun | n => n⟩
theorem laysNm220 : Go.Proofs.Lays2.n20 Try.prog laysNm220_ren := {
  mixed := by kernel_rfl
  f20 := Try.func25.trans (congrArg some (by kernel_rfl))
  t0 := Try.underlying0
  a0 := Try.isAgg0
  z0 := Try.sizeOf0
  v0 := Try.zeroValue0
  t3 := Try.underlying3
  a3 := Try.isAgg3
  z3 := Try.sizeOf3
  v3 := Try.zeroValue3
  t4 := Try.underlying4
  a4 := Try.isAgg4
  z4 := Try.sizeOf4
  v4 := Try.zeroValue4
  t22 := Try.underlying37
  a22 := Try.isAgg37
  z22 := Try.sizeOf37
  v22 := Try.zeroValue37
  i3 := by kernel_rfl }
def lays194_ren : Go.Shelf.Ren := ⟨fun | 194 => 43 | n => n, fun | 31 => 27 | 9 => 9 | 3 => 3 | 4 => 4 | 0 => 0 | n => n, fun | n => n⟩
theorem lays194 : Go.Proofs.Lays.n194 Try.prog lays194_ren := {
  mixed := by kernel_rfl
  f194 := Try.func43.trans (congrArg some (by kernel_rfl))
  t0 := Try.underlying0
  a0 := Try.isAgg0
  z0 := Try.sizeOf0
  v0 := Try.zeroValue0
  t3 := Try.underlying3
  a3 := Try.isAgg3
  z3 := Try.sizeOf3
  v3 := Try.zeroValue3
  t4 := Try.underlying4
  a4 := Try.isAgg4
  z4 := Try.sizeOf4
  v4 := Try.zeroValue4
  t9 := Try.underlying9
  a9 := Try.isAgg9
  z9 := Try.sizeOf9
  v9 := Try.zeroValue9
  t31 := Try.underlying27
  a31 := Try.isAgg27
  z31 := Try.sizeOf27
  v31 := Try.zeroValue27 }
theorem sortS {W : World} {L : List Res} {e : Enc ByteArray} (hc : e.cells = fun x => [.string x]) (hz : e.sz = 1) {a : Option Addr} {c : Nat} {xs : List ByteArray} (hl : xs.length < 4611686018427387904) :
    CS Try.prog 42 #[.slice a xs.length c] W (row e.T e.sz a xs.length c (flat e xs) :: L) fun v L' => ∃ ys, ys.Perm xs ∧ ys.Pairwise (fun a b => ¬ strlt b a) ∧ v = .tuple #[] ∧ L' = row e.T e.sz a ys.length c (flat e ys) :: L :=
  cs_sort (κ := List UInt8) (encK := encStr) (ψ := fun b => b.data.toList) (φ := fun l => ⟨l.toArray⟩) (le := fun x y => decide (x ≤ y)) hc hz (fun x => rfl) (fun k => rfl) (fun a b h => slt_le h) le_tr_str le_tot_str (fun blk off cap ss w => Any.slices_Sort_string lays190 blk off cap ss w) (fun p cap w => Any.slices_Sort_string_none lays190 p cap w) hl
theorem compactS {W : World} {L : List Res} {e : Enc ByteArray} (hc : e.cells = fun x => [.string x]) (hz : e.sz = 1) {a : Option Addr} {c : Nat} {xs : List ByteArray} (hs : xs.Pairwise fun a b => ¬ strlt b a) (hl : xs.length ≤ 9223372036854775807) :
    CS Try.prog 43 #[.slice a xs.length c] W (row e.T e.sz a xs.length c (flat e xs) :: L) fun v L' => v = .slice a (setOf strlt xs).length c ∧ L' = row e.T e.sz a (setOf strlt xs).length c (flat e (setOf strlt xs)) :: L :=
  cs_compact (κ := List UInt8) (encK := encStr) (ψ := fun b => b.data.toList) (φ := fun l => ⟨l.toArray⟩) (z := []) strlt_sto hc hz (fun x => rfl) (fun k => rfl) (fun blk off cap zs w => Any.slices_Compact_string lays194 blk off cap zs w) (fun p cap w => Any.slices_Compact_string_empty lays194 p cap w) hs hl
theorem sortI {W : World} {L : List Res} {e : Enc Int} (hc : e.cells = fun x => [.int .i64 x]) (hz : e.sz = 1) {a : Option Addr} {c : Nat} {xs : List Int} (hl : xs.length < 4611686018427387904) :
    CS Try.prog 24 #[.slice a xs.length c] W (row e.T e.sz a xs.length c (flat e xs) :: L) fun v L' => ∃ ys, ys.Perm xs ∧ ys.Pairwise (fun a b => ¬ ilt b a) ∧ v = .tuple #[] ∧ L' = row e.T e.sz a ys.length c (flat e ys) :: L :=
  cs_sort (κ := Int) (encK := Value.int .i64) (ψ := id) (φ := id) (le := fun x y => decide (x ≤ y)) hc hz (fun x => rfl) (fun k => rfl) (fun a b h => le_int h) le_tr_int le_tot_int (fun blk off cap ss w => Any.slices_Sort_int lays189 blk off cap ss w) (fun p cap w => Any.slices_Sort_int_none lays189 p cap w) hl
theorem compactI {W : World} {L : List Res} {e : Enc Int} (hc : e.cells = fun x => [.int .i64 x]) (hz : e.sz = 1) {a : Option Addr} {c : Nat} {xs : List Int} (hs : xs.Pairwise fun a b => ¬ ilt b a) (hl : xs.length ≤ 9223372036854775807) :
    CS Try.prog 25 #[.slice a xs.length c] W (row e.T e.sz a xs.length c (flat e xs) :: L) fun v L' => v = .slice a (setOf ilt xs).length c ∧ L' = row e.T e.sz a (setOf ilt xs).length c (flat e (setOf ilt xs)) :: L :=
  cs_compact (κ := Int) (encK := Value.int .i64) (ψ := id) (φ := id) (z := 0) ilt_sto hc hz (fun x => rfl) (fun k => rfl) (fun blk off cap zs w => Any.slices_Compact_int laysNm220 blk off cap zs w) (fun p cap w => Any.slices_Compact_int_empty laysNm220 p cap w) hs hl
end Go.Proofs.Ytlblipkcbmcfkaa
