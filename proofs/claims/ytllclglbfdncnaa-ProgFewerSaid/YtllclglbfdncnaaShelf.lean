/- The shelf's contracts of slices.Sort and slices.Compact, laid at this seat (the kit's lay-plain), and on rows that are owned. -/
import Derived.Shelf.Sort.Plain
import Derived.Shelf.Slices.CompactS
import Derived.Shelf.Slices.CompactI
import Derived.Shelf.Slices.In.SortNone
import Derived.Test.YtllclglbfdncnaaProg
import Derived.Test.YtllclglbfdncnaaSort
set_option linter.unusedVariables false
namespace Go.Proofs.Ytllclglbfdncnaa
open Go.Shelf Go.RowKit
def lays190_ren : Go.Shelf.Ren := ⟨fun | 190 => 37 | 125 => 46 | 258 => 45 | 128 => 58 | 129 => 59 | 302 => 49 | 303 => 50 | 304 => 51 | 305 => 52 | 306 => 53 | 307 => 54 | 308 => 55 | 309 => 56 | 310 => 57 | 333 => 60 | 329 => 61 | 330 => 62 | 334 => 63 | 335 => 64 | 336 => 65 | 344 => 66 | n => n, fun | 31 => 23 | 9 => 9 | 3 => 3 | 46 => 60 | 0 => 0 | 51 => 73 | 53 => 75 | 4 => 4 | 183 => 65 | 182 => 64 | 131 => 70 | 5 => 5 | 218 => 76 | 222 => 80 | 228 => 82 | 229 => 83 | n => n, fun | n => n⟩
theorem lays190 : Go.Proofs.Lays.n190 Try.prog lays190_ren := {
  mixed := by kernel_rfl
  f125 := Try.func46.trans (congrArg some (by kernel_rfl))
  f128 := Try.func58.trans (congrArg some (by kernel_rfl))
  f129 := Try.func59.trans (congrArg some (by kernel_rfl))
  f190 := Try.func37.trans (congrArg some (by kernel_rfl))
  f258 := Try.func45.trans (congrArg some (by kernel_rfl))
  f302 := Try.func49.trans (congrArg some (by kernel_rfl))
  f303 := Try.func50.trans (congrArg some (by kernel_rfl))
  f304 := Try.func51.trans (congrArg some (by kernel_rfl))
  f305 := Try.func52.trans (congrArg some (by kernel_rfl))
  f306 := Try.func53.trans (congrArg some (by kernel_rfl))
  f307 := Try.func54.trans (congrArg some (by kernel_rfl))
  f308 := Try.func55.trans (congrArg some (by kernel_rfl))
  f309 := Try.func56.trans (congrArg some (by kernel_rfl))
  f310 := Try.func57.trans (congrArg some (by kernel_rfl))
  f329 := Try.func61.trans (congrArg some (by kernel_rfl))
  f330 := Try.func62.trans (congrArg some (by kernel_rfl))
  f333 := Try.func60.trans (congrArg some (by kernel_rfl))
  f334 := Try.func63.trans (congrArg some (by kernel_rfl))
  f335 := Try.func64.trans (congrArg some (by kernel_rfl))
  f336 := Try.func65.trans (congrArg some (by kernel_rfl))
  f344 := Try.func66.trans (congrArg some (by kernel_rfl))
  t0 := Try.underlying0
  a0 := Try.isAgg0
  z0 := Try.sizeOf0
  v0 := Try.zeroValue0
  t3 := Try.underlying3
  a3 := Try.isAgg3
  z3 := Try.sizeOf3
  v3 := Try.zeroValue3
  t4 := Try.underlying4
  a4 := Try.isAgg4
  z4 := Try.sizeOf4
  v4 := Try.zeroValue4
  t5 := Try.underlying5
  a5 := Try.isAgg5
  z5 := Try.sizeOf5
  v5 := Try.zeroValue5
  t9 := Try.underlying9
  a9 := Try.isAgg9
  z9 := Try.sizeOf9
  v9 := Try.zeroValue9
  t31 := Try.underlying23
  a31 := Try.isAgg23
  z31 := Try.sizeOf23
  v31 := Try.zeroValue23
  t46 := Try.underlying60
  a46 := Try.isAgg60
  z46 := Try.sizeOf60
  v46 := Try.zeroValue60
  t51 := Try.underlying73
  a51 := Try.isAgg73
  z51 := Try.sizeOf73
  v51 := Try.zeroValue73
  t53 := Try.underlying75
  a53 := Try.isAgg75
  z53 := Try.sizeOf75
  v53 := Try.zeroValue75
  t131 := Try.underlying70
  a131 := Try.isAgg70
  z131 := Try.sizeOf70
  v131 := Try.zeroValue70
  t182 := Try.underlying64
  a182 := Try.isAgg64
  z182 := Try.sizeOf64
  v182 := Try.zeroValue64
  t183 := Try.underlying65
  a183 := Try.isAgg65
  z183 := Try.sizeOf65
  v183 := Try.zeroValue65
  t218 := Try.underlying76
  a218 := Try.isAgg76
  z218 := Try.sizeOf76
  v218 := Try.zeroValue76
  t222 := Try.underlying80
  a222 := Try.isAgg80
  z222 := Try.sizeOf80
  v222 := Try.zeroValue80
  t228 := Try.underlying82
  a228 := Try.isAgg82
  z228 := Try.sizeOf82
  v228 := Try.zeroValue82
  t229 := Try.underlying83
  a229 := Try.isAgg83
  z229 := Try.sizeOf83
  v229 := Try.zeroValue83 }
def lays194_ren : Go.Shelf.Ren := ⟨fun | 194 => 38 | n => n, fun | 31 => 23 | 9 => 9 | 3 => 3 | 4 => 4 | 0 => 0 | n => n, fun | n => n⟩
theorem lays194 : Go.Proofs.Lays.n194 Try.prog lays194_ren := {
  mixed := by kernel_rfl
  f194 := Try.func38.trans (congrArg some (by kernel_rfl))
  t0 := Try.underlying0
  a0 := Try.isAgg0
  z0 := Try.sizeOf0
  v0 := Try.zeroValue0
  t3 := Try.underlying3
  a3 := Try.isAgg3
  z3 := Try.sizeOf3
  v3 := Try.zeroValue3
  t4 := Try.underlying4
  a4 := Try.isAgg4
  z4 := Try.sizeOf4
  v4 := Try.zeroValue4
  t9 := Try.underlying9
  a9 := Try.isAgg9
  z9 := Try.sizeOf9
  v9 := Try.zeroValue9
  t31 := Try.underlying23
  a31 := Try.isAgg23
  z31 := Try.sizeOf23
  v31 := Try.zeroValue23 }
theorem sortS {W : World} {L : List Res} {e : Enc ByteArray} (hc : e.cells = fun x => [.string x]) (hz : e.sz = 1) {a : Option Addr} {c : Nat} {xs : List ByteArray} (hl : xs.length < 4611686018427387904) :
    CS Try.prog 37 #[.slice a xs.length c] W (row e.T e.sz a xs.length c (flat e xs) :: L) fun v L' => ∃ ys, ys.Perm xs ∧ ys.Pairwise (fun a b => ¬ strlt b a) ∧ v = .tuple #[] ∧ L' = row e.T e.sz a ys.length c (flat e ys) :: L :=
  cs_sort (κ := List UInt8) (encK := encStr) (ψ := fun b => b.data.toList) (φ := fun l => ⟨l.toArray⟩) (le := fun x y => decide (x ≤ y)) hc hz (fun x => rfl) (fun k => rfl) (fun a b h => slt_le h) le_tr_str le_tot_str (fun blk off cap ss w => Any.slices_Sort_string lays190 blk off cap ss w) (fun p cap w => Any.slices_Sort_string_none lays190 p cap w) hl
theorem compactS {W : World} {L : List Res} {e : Enc ByteArray} (hc : e.cells = fun x => [.string x]) (hz : e.sz = 1) {a : Option Addr} {c : Nat} {xs : List ByteArray} (hs : xs.Pairwise fun a b => ¬ strlt b a) (hl : xs.length ≤ 9223372036854775807) :
    CS Try.prog 38 #[.slice a xs.length c] W (row e.T e.sz a xs.length c (flat e xs) :: L) fun v L' => v = .slice a (setOf strlt xs).length c ∧ L' = row e.T e.sz a (setOf strlt xs).length c (flat e (setOf strlt xs)) :: L :=
  cs_compact (κ := List UInt8) (encK := encStr) (ψ := fun b => b.data.toList) (φ := fun l => ⟨l.toArray⟩) (z := []) strlt_sto hc hz (fun x => rfl) (fun k => rfl) (fun blk off cap zs w => Any.slices_Compact_string lays194 blk off cap zs w) (fun p cap w => Any.slices_Compact_string_empty lays194 p cap w) hs hl
end Go.Proofs.Ytllclglbfdncnaa
