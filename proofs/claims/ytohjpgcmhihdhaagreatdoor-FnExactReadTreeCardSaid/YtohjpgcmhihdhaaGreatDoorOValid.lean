/- Plain laws of valid topologies: what holds in one. Conditions: the topology is valid. -/
import Derived.Test.YtohjpgcmhihdhaaGreatDoorOTreeOk
import Derived.Test.YtohjpgcmhihdhaaGreatDoorQ0
namespace Go.Proofs.YtohjpgcmhihdhaaGreatDoor.Pure
open Go.RowKit Go.Proofs.YtohjpgcmhihdhaaGreatDoor.Q Go.Proofs.YtohjpgcmhihdhaaGreatDoorW.PrintWords Go.Proofs.YtohjpgcmhihdhaaGreatDoorW.PrintLast Go.Proofs.YtohjpgcmhihdhaaGreatDoorW.PrintMore
set_option linter.unusedVariables false
set_option linter.unusedSimpArgs false

/-- what a valid topology holds -/
structure Valid (D : List S57) (B : List S49) : Prop where
  dev : D.length ≤ 16
  bkt : B.length ≤ 12
  devs : ∀ i (h : i < D.length), 0 ≤ D[i].f0 ∧ D[i].f0 ≤ 15 ∧ 0 ≤ D[i].f1 ∧ D[i].f1 ≤ 8
  bkts : ∀ i (h : i < B.length), (-12 ≤ B[i].f0 ∧ B[i].f0 ≤ -1) ∧ (1 ≤ B[i].f1 ∧ B[i].f1 ≤ 3) ∧ B[i].f2.length ≤ 8
  down : ∀ i (h : i + 1 < B.length), B[i + 1].f0 < B[i].f0
  up : ∀ i (h : i + 1 < D.length), D[i].f0 < D[i + 1].f0
  fits : ∀ i (h : i < B.length), ∀ x ∈ B[i].f2, fitOne D B B[i].f1 B[i].f2 x = true
  once : onceB B = true
theorem valid_of (D : List S57) (B : List S49) (h : treeOkB D B = true) : Valid D B := by
  unfold treeOkB at h
  rw [Bool.and_eq_true, Bool.and_eq_true] at h
  obtain ⟨hd, h12, ht⟩ := h
  have h12 := of_decide_eq_true h12
  unfold devsB at hd
  rw [Bool.and_eq_true, List.all_eq_true] at hd
  have h16 := of_decide_eq_true hd.2
  have hparts : treeB D B = (allB D B B.length 0 && onceB B) := treeGo_parts D B B.length 0 []
  rw [hparts, Bool.and_eq_true] at ht
  have hall := (allB_all D B B.length 0).1 ht.1
  have hS : ∀ j, j < B.length → bktStep B j = true ∧ itemsOkB D B (rd_T49 B j).f1 (rd_T49 B j).f2 = true := fun j hj => by
    have := hall j (by omega) (by omega)
    rw [bktB_parts, Bool.and_eq_true] at this
    exact this
  have hdv : ∀ j, j < D.length → devStep D j = true := fun j hj => hd.1 j (by simpa using hj)
  have hk : ∀ i (h : i < B.length), (-12 ≤ B[i].f0 ∧ B[i].f0 ≤ -1) ∧ (1 ≤ B[i].f1 ∧ B[i].f1 ≤ 3) ∧ B[i].f2.length ≤ 8 := fun i h => by
    have := (hS i h).1
    unfold bktStep inB at this
    simp only [Bool.and_eq_true, decide_eq_true_eq] at this
    rw [rd_bkt B i h] at this
    exact ⟨this.1.1.1, this.1.1.2, this.1.2⟩
  refine ⟨h16, h12, ?_, hk, ?_, ?_, ?_, ht.2⟩
  · intro i h
    have := hdv i h
    unfold devStep inB at this
    simp only [Bool.and_eq_true, decide_eq_true_eq] at this
    rw [rd_dev D i h] at this
    exact ⟨this.1.1.1, this.1.1.2, this.1.2.1, this.1.2.2⟩
  · intro i h
    have := (hS (i + 1) h).1
    unfold bktStep at this
    rw [show (((i + 1 : Nat) : Int) - 1) = (i : Int) from by omega, rd_bkt B i (by omega), rd_bkt B (i + 1) h] at this
    simp at this
    omega
  · intro i h
    have := hdv (i + 1) h
    unfold devStep at this
    rw [show (((i + 1 : Nat) : Int) - 1) = (i : Int) from by omega, rd_dev D i (by omega), rd_dev D (i + 1) h] at this
    simp at this
    omega
  · intro i h x hx
    have h2 := (hS i h).2
    rw [rd_bkt B i h] at h2
    have hb := (hk i h).2.1
    rw [← fits_items D B _ _ hb.1 hb.2] at h2
    unfold fitsB at h2
    rw [range_all B[i].f2 (fitOne D B B[i].f1 B[i].f2), List.all_eq_true] at h2
    exact h2 x hx
theorem idx_none {α : Type} (p : α → Bool) (l : List α) (h : ∀ x ∈ l, p x = false) : ∀ (d i : Nat), i + d = l.length → idxFrom p (l.drop i) i = -1
  | 0, i, hd => by
    rw [List.drop_of_length_le (by omega)]; rfl
  | d + 1, i, hd => by
    rw [idx_step p l i (by omega), if_neg (by rw [h _ (List.getElem_mem (by omega))]; decide)]
    exact idx_none p l h d (i + 1) (by omega)
theorem idx_first {α : Type} (p : α → Bool) (l : List α) (n : Nat) (hn : n < l.length) (hp : p l[n] = true) (hb : ∀ j (h : j < n), p l[j] = false) : ∀ (d i : Nat), i + d = n → idxFrom p (l.drop i) i = (n : Int)
  | 0, i, hd => by
    obtain rfl : i = n := by omega
    rw [idx_step p l i hn, if_pos hp]
  | d + 1, i, hd => by
    rw [idx_step p l i (by omega), if_neg (by rw [hb i (by omega)]; decide)]
    exact idx_first p l n hn hp hb d (i + 1) (by omega)
/-- the index found is one that answers -/
theorem idx_hit {α : Type} (p : α → Bool) (l : List α) : ∀ (d i : Nat), i + d = l.length → idxFrom p (l.drop i) i = -1 ∨ ∃ n, ∃ (h : n < l.length), idxFrom p (l.drop i) i = (n : Int) ∧ p l[n] = true
  | 0, i, hd => by
    left
    rw [List.drop_of_length_le (by omega)]; rfl
  | d + 1, i, hd => by
    rw [idx_step p l i (by omega)]
    by_cases c : p (l[i]'(by omega)) = true
    · rw [if_pos c]
      exact .inr ⟨i, by omega, rfl, c⟩
    · rw [if_neg c]
      exact idx_hit p l d (i + 1) (by omega)
theorem bucketAt_hit (B : List S49) (id : Int) : bucketAt B id = -1 ∨ ∃ n, ∃ (h : n < B.length), bucketAt B id = (n : Int) ∧ B[n].f0 = id := by
  rcases idx_hit (fun x : S49 => x.f0 == id) B B.length 0 (by omega) with h | ⟨n, hn, h1, h2⟩
  · exact .inl h
  · exact .inr ⟨n, hn, h1, by simpa using h2⟩
theorem devAt_hit (D : List S57) (id : Int) : devAt D id = -1 ∨ ∃ n, ∃ (h : n < D.length), devAt D id = (n : Int) ∧ D[n].f0 = id := by
  rcases idx_hit (fun x : S57 => x.f0 == id) D D.length 0 (by omega) with h | ⟨n, hn, h1, h2⟩
  · exact .inl h
  · exact .inr ⟨n, hn, h1, by simpa using h2⟩
theorem down_lt {D : List S57} {B : List S49} (V : Valid D B) : ∀ (d i : Nat) (h : i + d + 1 < B.length), B[i + d + 1].f0 < B[i].f0
  | 0, i, h => V.down i h
  | d + 1, i, h => by
    have h1 := down_lt V d i (by omega)
    have h2 := V.down (i + d + 1) h
    exact Int.lt_trans h2 h1
theorem down_of {D : List S57} {B : List S49} (V : Valid D B) (i j : Nat) (hij : i < j) (h : j < B.length) : B[j].f0 < B[i].f0 := by
  obtain ⟨d, rfl⟩ : ∃ d, j = i + d + 1 := ⟨j - i - 1, by omega⟩
  exact down_lt V d i h
theorem bucketAt_own {D : List S57} {B : List S49} (V : Valid D B) (n : Nat) (hn : n < B.length) : bucketAt B B[n].f0 = (n : Int) :=
  idx_first (fun x : S49 => x.f0 == B[n].f0) B n hn (by simp) (fun j hj => by
    have := down_of V j n hj hn
    have : ¬ B[j].f0 = B[n].f0 := by omega
    simpa using this) n 0 (by omega)
theorem devAt_none {D : List S57} {B : List S49} (V : Valid D B) (id : Int) (h : id < 0) : devAt D id = -1 := by
  rcases devAt_hit D id with e | ⟨n, hn, _, e⟩
  · exact e
  · have := V.devs n hn
    omega
theorem kindAt_own {D : List S57} {B : List S49} (V : Valid D B) (n : Nat) (hn : n < B.length) : kindAt D B B[n].f0 = B[n].f1 := by
  have hk : kindAt D B B[n].f0 = if 0 ≤ devAt D B[n].f0 then 0 else if bucketAt B B[n].f0 < 0 then -1 else (rd_T49 B (bucketAt B B[n].f0)).f1 := rfl
  rw [hk, devAt_none V _ (by have := V.bkts n hn; omega), bucketAt_own V n hn, if_neg (by omega), if_neg (by omega), rd_bkt B n hn]
theorem kindAt_le {D : List S57} {B : List S49} (V : Valid D B) (id : Int) : -1 ≤ kindAt D B id ∧ kindAt D B id ≤ 3 := by
  have hk : kindAt D B id = if 0 ≤ devAt D id then 0 else if bucketAt B id < 0 then -1 else (rd_T49 B (bucketAt B id)).f1 := rfl
  rw [hk]
  split
  · omega
  · split
    · omega
    · rcases bucketAt_hit B id with e | ⟨n, hn, e, _⟩
      · omega
      · rw [e, rd_bkt B n hn]
        have := V.bkts n hn
        omega
/-- a kind of a bucket is a bucket's -/
theorem kindAt_bucket {D : List S57} {B : List S49} (V : Valid D B) (id : Int) (h : 1 ≤ kindAt D B id) : ∃ n, ∃ (h : n < B.length), bucketAt B id = (n : Int) ∧ B[n].f0 = id ∧ id < 0 ∧ kindAt D B id = B[n].f1 := by
  have hk : kindAt D B id = if 0 ≤ devAt D id then 0 else if bucketAt B id < 0 then -1 else (rd_T49 B (bucketAt B id)).f1 := rfl
  rw [hk] at h
  split at h
  · omega
  · split at h
    · omega
    · rcases bucketAt_hit B id with e | ⟨n, hn, e, e2⟩
      · omega
      · refine ⟨n, hn, e, e2, ?_, ?_⟩
        · have := V.bkts n hn; omega
        · rw [← e2]; exact kindAt_own V n hn
/-- what lies in a bucket is of a lower kind -/
theorem item_kind {D : List S57} {B : List S49} (V : Valid D B) (n : Nat) (hn : n < B.length) (x : Int) (hx : x ∈ B[n].f2) : 0 ≤ kindAt D B x ∧ kindAt D B x < B[n].f1 := by
  have h := V.fits n hn x hx
  have hb := (V.bkts n hn).2.1
  unfold fitOne at h
  by_cases c : B[n].f1 < 3
  · rw [if_pos c] at h
    have := eq_of_beq h
    omega
  · rw [if_neg c, Bool.and_eq_true, Bool.or_eq_true] at h
    rcases h.2 with h | h
    · have := eq_of_beq h; omega
    · have := eq_of_beq h; omega
end Go.Proofs.YtohjpgcmhihdhaaGreatDoor.Pure
