/- The library's sort of whole numbers, laid at this program out of the shelf; its contract in the walks' words. No conditions beyond each theorem's own. -/
import Derived.Shelf.SortM.Plain
import Derived.Shelf.SortM.SortNone
import Derived.Sort.OwnSortedInts
import Derived.Test.YtkadeelplnkpgaaOwnWords
namespace Go.Proofs.YtkadeelplnkpgaaW.PrintMore
open Go.Shelf
def Try.sortL_ren : Go.Shelf.Ren := ⟨fun | 5 => 122 | 8 => 140 | 7 => 139 | 19 => 153 | 20 => 154 | 10 => 144 | 11 => 145 | 12 => 146 | 13 => 147 | 14 => 148 | 15 => 149 | 16 => 150 | 17 => 151 | 18 => 152 | 30 => 160 | 31 => 161 | 32 => 162 | 33 => 163 | 34 => 164 | 35 => 165 | 40 => 168 | n => n, fun | 23 => 34 | 25 => 2 | 3 => 3 | 32 => 125 | 22 => 34 | 0 => 0 | 44 => 159 | 46 => 120 | 4 => 4 | 36 => 151 | 35 => 150 | 41 => 156 | 5 => 5 | 9 => 9 | 53 => 166 | 57 => 170 | 63 => 172 | 64 => 173 | n => n, fun | n => n⟩
theorem Try.sortL : Go.Proofs.SlLaysM.n5 Try.prog Try.sortL_ren := {
  mixed := by kernel_rfl
  f5 := ⟨Try.f122.name, by decide, Try.func122.trans (congrArg some (by kernel_rfl))⟩
  f7 := ⟨Try.f139.name, by decide, Try.func139.trans (congrArg some (by kernel_rfl))⟩
  f8 := Try.func140.trans (congrArg some (by kernel_rfl))
  f10 := ⟨Try.f144.name, by decide, Try.func144.trans (congrArg some (by kernel_rfl))⟩
  f11 := ⟨Try.f145.name, by decide, Try.func145.trans (congrArg some (by kernel_rfl))⟩
  f12 := ⟨Try.f146.name, by decide, Try.func146.trans (congrArg some (by kernel_rfl))⟩
  f13 := ⟨Try.f147.name, by decide, Try.func147.trans (congrArg some (by kernel_rfl))⟩
  f14 := ⟨Try.f148.name, by decide, Try.func148.trans (congrArg some (by kernel_rfl))⟩
  f15 := ⟨Try.f149.name, by decide, Try.func149.trans (congrArg some (by kernel_rfl))⟩
  f16 := ⟨Try.f150.name, by decide, Try.func150.trans (congrArg some (by kernel_rfl))⟩
  f17 := ⟨Try.f151.name, by decide, Try.func151.trans (congrArg some (by kernel_rfl))⟩
  f18 := ⟨Try.f152.name, by decide, Try.func152.trans (congrArg some (by kernel_rfl))⟩
  f19 := Try.func153.trans (congrArg some (by kernel_rfl))
  f20 := Try.func154.trans (congrArg some (by kernel_rfl))
  f30 := ⟨Try.f160.name, by decide, Try.func160.trans (congrArg some (by kernel_rfl))⟩
  f31 := Try.func161.trans (congrArg some (by kernel_rfl))
  f32 := Try.func162.trans (congrArg some (by kernel_rfl))
  f33 := ⟨Try.f163.name, by decide, Try.func163.trans (congrArg some (by kernel_rfl))⟩
  f34 := ⟨Try.f164.name, by decide, Try.func164.trans (congrArg some (by kernel_rfl))⟩
  f35 := ⟨Try.f165.name, by decide, Try.func165.trans (congrArg some (by kernel_rfl))⟩
  f40 := ⟨Try.f168.name, by decide, Try.func168.trans (congrArg some (by kernel_rfl))⟩
  t0 := Try.underlying0
  a0 := Try.isAgg0
  z0 := Try.sizeOf0
  v0 := Try.zeroValue0
  t3 := Try.underlying3
  a3 := Try.isAgg3
  z3 := Try.sizeOf3
  v3 := Try.zeroValue3
  t4 := Try.underlying4
  a4 := Try.isAgg4
  z4 := Try.sizeOf4
  v4 := Try.zeroValue4
  t5 := Try.underlying5
  a5 := Try.isAgg5
  z5 := Try.sizeOf5
  v5 := Try.zeroValue5
  t9 := Try.underlying9
  a9 := Try.isAgg9
  z9 := Try.sizeOf9
  v9 := Try.zeroValue9
  t22 := Try.underlying34
  a22 := Try.isAgg34
  z22 := Try.sizeOf34
  v22 := Try.zeroValue34
  t23 := Try.underlying34
  a23 := Try.isAgg34
  z23 := Try.sizeOf34
  v23 := Try.zeroValue34
  t25 := Try.underlying2
  a25 := Try.isAgg2
  z25 := Try.sizeOf2
  v25 := Try.zeroValue2
  t32 := Try.underlying125
  a32 := Try.isAgg125
  z32 := Try.sizeOf125
  v32 := Try.zeroValue125
  t35 := Try.underlying150
  a35 := Try.isAgg150
  z35 := Try.sizeOf150
  v35 := Try.zeroValue150
  t36 := Try.underlying151
  a36 := Try.isAgg151
  z36 := Try.sizeOf151
  v36 := Try.zeroValue151
  t41 := Try.underlying156
  a41 := Try.isAgg156
  z41 := Try.sizeOf156
  v41 := Try.zeroValue156
  t44 := Try.underlying159
  a44 := Try.isAgg159
  z44 := Try.sizeOf159
  v44 := Try.zeroValue159
  t46 := Try.underlying120
  a46 := Try.isAgg120
  z46 := Try.sizeOf120
  v46 := Try.zeroValue120
  t53 := Try.underlying166
  a53 := Try.isAgg166
  z53 := Try.sizeOf166
  v53 := Try.zeroValue166
  t57 := Try.underlying170
  a57 := Try.isAgg170
  z57 := Try.sizeOf170
  v57 := Try.zeroValue170
  t63 := Try.underlying172
  a63 := Try.isAgg172
  z63 := Try.sizeOf172
  v63 := Try.zeroValue172
  t64 := Try.underlying173
  a64 := Try.isAgg173
  z64 := Try.sizeOf173
  v64 := Try.zeroValue173 }
open Go.RowKit Go.Sort Go.Proofs.YtkadeelplnkpgaaW.PrintWords Go.Proofs.YtkadeelplnkpgaaW.PrintLast
/-- the numbers, rising -/
def sortI (l : List Int) : List Int := l.mergeSort fun x y => decide (x ≤ y)
theorem sortI_length (l : List Int) : (sortI l).length = l.length := List.length_mergeSort _
theorem reps_int {w : World} {base : Nat} {ok : Nat → Prop} {l : List Int} {inner : List Value} (h : Reps ((Kd.int .i64).M w base ok) 1 l inner) : inner = l.map (Value.int .i64) := by
  obtain ⟨h1, h2⟩ := h
  apply List.ext_getElem (by simpa using h1)
  intro i hi hi2
  have hl : i < l.length := by simpa using hi2
  have h3 : [inner[i]] = [Value.int .i64 l[i]] := by
    have := h2 i l[i] (List.getElem?_eq_getElem hl)
    rw [Nat.mul_one, List.drop_eq_getElem_cons (by omega)] at this
    exact this
  simpa using h3
theorem int_reps {w : World} {base : Nat} {ok : Nat → Prop} (l : List Int) : Reps ((Kd.int .i64).M w base ok) 1 l (l.map (Value.int .i64)) := by
  refine ⟨by simp, fun j p hj => ?_⟩
  obtain ⟨hl, rfl⟩ := List.getElem?_eq_some_iff.1 hj
  rw [Nat.mul_one, List.drop_eq_getElem_cons (by simpa using hl)]
  show [_] = [_]
  simp
/-- a slice of the call's own is sorted in place -/
theorem sortOwn.calls {base : Nat} {ok : Nat → Prop} {v : Value} {l : List Int} (w : World) (h : Kd.R (Kd.int .i64) 2 w base ok v l) (hn : l.length ≤ 1048576) :
    Calls Try.prog 122 #[v] w fun e w' => e = .returned (.tuple #[]) ∧ Kd.R (Kd.int .i64) 2 w' base ok v (sortI l) ∧ w.grownBy w' v.ownBlock := by
  obtain ⟨h0, inner, ho, hr⟩ := h
  have hi := reps_int hr
  subst hi
  obtain ⟨h1, h2⟩ := ho
  rcases h2 with ⟨rfl, h2⟩ | ⟨g, cap, cur, rfl, hg, hb, hl, hc, hs, ht⟩
  · have hl : l = [] := List.eq_nil_of_length_eq_zero h2
    subst hl
    refine (AnyM.slices_Sort_int_none Try.sortL none 0 w).mono ?_
    rintro e w' ⟨rfl, rfl⟩
    have e : sortI [] = [] := by simp [sortI]
    rw [e]
    exact ⟨rfl, ⟨h0, [], ⟨rfl, .inl ⟨rfl, rfl⟩⟩, int_reps (w := w') (base := base) []⟩, grown_of_below (Below.refl _ _) _⟩
  · have hmm := AnyM.slices_Sort_int Try.sortL g 0 cap l w (holds_of_blockI hb (by have ht : List.take (l.length * 1) cur.toList = _ := ht; rw [Nat.mul_one] at ht; exact ht)) (blk_lt hb) (by omega)
    refine hmm.mono ?_
    rintro e w' ⟨rfl, n, os, rfl⟩
    refine ⟨rfl, ⟨h0, (sortI l).map (Value.int .i64), ?_, int_reps _⟩, grownBy_sortedI _⟩
    have := ownsRow_sortedI (w := w) (base := base) (g := g) (cap := cap) (n := n) (e := 2) (os := os) (cur := cur) (ss := l) (ts := sortI l) (sortI_length l) hg hb hl hc hs
    rw [sortI_length]
    exact this
end Go.Proofs.YtkadeelplnkpgaaW.PrintMore
