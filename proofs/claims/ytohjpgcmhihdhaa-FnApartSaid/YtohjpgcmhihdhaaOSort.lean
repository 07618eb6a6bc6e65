/- The library's sort of whole numbers, laid at this program out of the shelf; its contract in the walks' words. No conditions beyond each theorem's own. -/
import Derived.Shelf.SortM.Plain
import Derived.Test.YtohjpgcmhihdhaaQ0
import Derived.Shelf.SortM.SortNone
import Derived.Sort.OwnSortedInts
import Derived.Test.YtohjpgcmhihdhaaOwnWords
namespace Go.Proofs.YtohjpgcmhihdhaaW.PrintMore
open Go.Shelf
def Try.sortL_ren : Go.Shelf.Ren := ⟨fun | 5 => 49 | 8 => 65 | 7 => 64 | 19 => 80 | 20 => 81 | 10 => 71 | 11 => 72 | 12 => 73 | 13 => 74 | 14 => 75 | 15 => 76 | 16 => 77 | 17 => 78 | 18 => 79 | 30 => 85 | 31 => 86 | 32 => 87 | 33 => 88 | 34 => 89 | 35 => 90 | 40 => 92 | n => n, fun | 23 => 36 | 25 => 2 | 3 => 3 | 32 => 74 | 22 => 36 | 0 => 0 | 44 => 110 | 46 => 66 | 4 => 4 | 36 => 102 | 35 => 101 | 41 => 107 | 5 => 5 | 9 => 9 | 53 => 119 | 57 => 123 | 63 => 125 | 64 => 126 | n => n, fun | n => n⟩
theorem Try.sortL : Go.Proofs.SlLaysM.n5 Try.prog Try.sortL_ren := {
  mixed := by kernel_rfl
  f5 := ⟨Try.f49.name, by decide, Try.func49.trans (congrArg some (by kernel_rfl))⟩
  f7 := ⟨Try.f64.name, by decide, Try.func64.trans (congrArg some (by kernel_rfl))⟩
  f8 := Try.func65.trans (congrArg some (by kernel_rfl))
  f10 := ⟨Try.f71.name, by decide, Try.func71.trans (congrArg some (by kernel_rfl))⟩
  f11 := ⟨Try.f72.name, by decide, Try.func72.trans (congrArg some (by kernel_rfl))⟩
  f12 := ⟨Try.f73.name, by decide, Try.func73.trans (congrArg some (by kernel_rfl))⟩
  f13 := ⟨Try.f74.name, by decide, Try.func74.trans (congrArg some (by kernel_rfl))⟩
  f14 := ⟨Try.f75.name, by decide, Try.func75.trans (congrArg some (by kernel_rfl))⟩
  f15 := ⟨Try.f76.name, by decide, Try.func76.trans (congrArg some (by kernel_rfl))⟩
  f16 := ⟨Try.f77.name, by decide, Try.func77.trans (congrArg some (by kernel_rfl))⟩
  f17 := ⟨Try.f78.name, by decide, Try.func78.trans (congrArg some (by kernel_rfl))⟩
  f18 := ⟨Try.f79.name, by decide, Try.func79.trans (congrArg some (by kernel_rfl))⟩
  f19 := Try.func80.trans (congrArg some (by kernel_rfl))
  f20 := Try.func81.trans (congrArg some (by kernel_rfl))
  f30 := ⟨Try.f85.name, by decide, Try.func85.trans (congrArg some (by kernel_rfl))⟩
  f31 := Try.func86.trans (congrArg some (by kernel_rfl))
  f32 := Try.func87.trans (congrArg some (by kernel_rfl))
  f33 := ⟨Try.f88.name, by decide, Try.func88.trans (congrArg some (by kernel_rfl))⟩
  f34 := ⟨Try.f89.name, by decide, Try.func89.trans (congrArg some (by kernel_rfl))⟩
  f35 := ⟨Try.f90.name, by decide, Try.func90.trans (congrArg some (by kernel_rfl))⟩
  f40 := ⟨Try.f92.name, by decide, Try.func92.trans (congrArg some (by kernel_rfl))⟩
  t0 := Try.underlying0
  a0 := Try.isAgg0
  z0 := Try.sizeOf0
  v0 := Try.zeroValue0
  t3 := Try.underlying3
  a3 := Try.isAgg3
  z3 := Try.sizeOf3
  v3 := Try.zeroValue3
  t4 := Try.underlying4
  a4 := Try.isAgg4
  z4 := Try.sizeOf4
  v4 := Try.zeroValue4
  t5 := Try.underlying5
  a5 := Try.isAgg5
  z5 := Try.sizeOf5
  v5 := Try.zeroValue5
  t9 := Try.underlying9
  a9 := Try.isAgg9
  z9 := Try.sizeOf9
  v9 := Try.zeroValue9
  t22 := Try.underlying36
  a22 := Try.isAgg36
  z22 := Try.sizeOf36
  v22 := Try.zeroValue36
  t23 := Try.underlying36
  a23 := Try.isAgg36
  z23 := Try.sizeOf36
  v23 := Try.zeroValue36
  t25 := Try.underlying2
  a25 := Try.isAgg2
  z25 := Try.sizeOf2
  v25 := Try.zeroValue2
  t32 := Try.underlying74
  a32 := Try.isAgg74
  z32 := Try.sizeOf74
  v32 := Try.zeroValue74
  t35 := Try.underlying101
  a35 := Try.isAgg101
  z35 := Try.sizeOf101
  v35 := Try.zeroValue101
  t36 := Try.underlying102
  a36 := Try.isAgg102
  z36 := Try.sizeOf102
  v36 := Try.zeroValue102
  t41 := Try.underlying107
  a41 := Try.isAgg107
  z41 := Try.sizeOf107
  v41 := Try.zeroValue107
  t44 := Try.underlying110
  a44 := Try.isAgg110
  z44 := Try.sizeOf110
  v44 := Try.zeroValue110
  t46 := Try.underlying66
  a46 := Try.isAgg66
  z46 := Try.sizeOf66
  v46 := Try.zeroValue66
  t53 := Try.underlying119
  a53 := Try.isAgg119
  z53 := Try.sizeOf119
  v53 := Try.zeroValue119
  t57 := Try.underlying123
  a57 := Try.isAgg123
  z57 := Try.sizeOf123
  v57 := Try.zeroValue123
  t63 := Try.underlying125
  a63 := Try.isAgg125
  z63 := Try.sizeOf125
  v63 := Try.zeroValue125
  t64 := Try.underlying126
  a64 := Try.isAgg126
  z64 := Try.sizeOf126
  v64 := Try.zeroValue126 }
open Go.RowKit Go.Sort Go.Proofs.YtohjpgcmhihdhaaW.PrintWords Go.Proofs.YtohjpgcmhihdhaaW.PrintLast
/-- the numbers, rising -/
def sortI (l : List Int) : List Int := l.mergeSort fun x y => decide (x ≤ y)
theorem sortI_length (l : List Int) : (sortI l).length = l.length := List.length_mergeSort _
theorem reps_int {w : World} {base : Nat} {ok : Nat → Prop} {l : List Int} {inner : List Value} (h : Reps ((Kd.int .i64).M w base ok) 1 l inner) : inner = l.map (Value.int .i64) := by
  obtain ⟨h1, h2⟩ := h
  apply List.ext_getElem (by simpa using h1)
  intro i hi hi2
  have hl : i < l.length := by simpa using hi2
  have h3 : [inner[i]] = [Value.int .i64 l[i]] := by
    have := h2 i l[i] (List.getElem?_eq_getElem hl)
    rw [Nat.mul_one, List.drop_eq_getElem_cons (by omega)] at this
    exact this
  simpa using h3
theorem int_reps {w : World} {base : Nat} {ok : Nat → Prop} (l : List Int) : Reps ((Kd.int .i64).M w base ok) 1 l (l.map (Value.int .i64)) := by
  refine ⟨by simp, fun j p hj => ?_⟩
  obtain ⟨hl, rfl⟩ := List.getElem?_eq_some_iff.1 hj
  rw [Nat.mul_one, List.drop_eq_getElem_cons (by simpa using hl)]
  show [_] = [_]
  simp
/-- a slice of the call's own is sorted in place -/
theorem sortOwn.calls {base : Nat} {ok : Nat → Prop} {v : Value} {l : List Int} (w : World) (h : Kd.R (Kd.int .i64) 2 w base ok v l) (hn : l.length ≤ 1048576) :
    Calls Try.prog 49 #[v] w fun e w' => e = .returned (.tuple #[]) ∧ Kd.R (Kd.int .i64) 2 w' base ok v (sortI l) ∧ w.grownBy w' v.ownBlock := by
  obtain ⟨h0, inner, ho, hr⟩ := h
  have hi := reps_int hr
  subst hi
  obtain ⟨h1, h2⟩ := ho
  rcases h2 with ⟨rfl, h2⟩ | ⟨g, cap, cur, rfl, hg, hb, hl, hc, hs, ht⟩
  · have hl : l = [] := List.eq_nil_of_length_eq_zero h2
    subst hl
    refine (AnyM.slices_Sort_int_none Try.sortL none 0 w).mono ?_
    rintro e w' ⟨rfl, rfl⟩
    have e : sortI [] = [] := by simp [sortI]
    rw [e]
    exact ⟨rfl, ⟨h0, [], ⟨rfl, .inl ⟨rfl, rfl⟩⟩, int_reps (w := w') (base := base) []⟩, grown_of_below (Below.refl _ _) _⟩
  · have hmm := AnyM.slices_Sort_int Try.sortL g 0 cap l w (holds_of_blockI hb (by have ht : List.take (l.length * 1) cur.toList = _ := ht; rw [Nat.mul_one] at ht; exact ht)) (blk_lt hb) (by omega)
    refine hmm.mono ?_
    rintro e w' ⟨rfl, n, os, rfl⟩
    refine ⟨rfl, ⟨h0, (sortI l).map (Value.int .i64), ?_, int_reps _⟩, grownBy_sortedI _⟩
    have := ownsRow_sortedI (w := w) (base := base) (g := g) (cap := cap) (n := n) (e := 2) (os := os) (cur := cur) (ss := l) (ts := sortI l) (sortI_length l) hg hb hl hc hs
    rw [sortI_length]
    exact this
end Go.Proofs.YtohjpgcmhihdhaaW.PrintMore
