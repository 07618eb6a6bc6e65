/- Walks and plain laws of one claim, several texts in one. -/
import Derived.Test.YtkadeelplnkpgaaWBMore
import Derived.Test.YtkadeelplnkpgaaQf19
import Derived.Test.YtkadeelplnkpgaaQf21
import Derived.Test.YtkadeelplnkpgaaOTypes
import Derived.Test.YtkadeelplnkpgaaQf54
import Derived.Test.YtkadeelplnkpgaaQf13
import Derived.Test.YtkadeelplnkpgaaQf15
import Derived.Test.YtkadeelplnkpgaaQf17
import Derived.Test.YtkadeelplnkpgaaQf62
import Derived.Test.YtkadeelplnkpgaaQf83
import Derived.Test.YtkadeelplnkpgaaQf58
import Derived.Test.YtkadeelplnkpgaaQf50
import Derived.Test.YtkadeelplnkpgaaQf51
import Derived.Test.YtkadeelplnkpgaaQf55
import Derived.Test.YtkadeelplnkpgaaQf3
-- text OLoop
namespace Go.Proofs.Ytkadeelplnkpgaa.Pure
open Go.RowKit Go.Proofs.YtkadeelplnkpgaaW.PrintWords Go.Proofs.YtkadeelplnkpgaaW.PrintLast Go.Proofs.YtkadeelplnkpgaaW.PrintMore
set_option linter.unusedVariables false
set_option linter.unusedSimpArgs false

theorem up64 (i n : Nat) (h : i < n) (hn : n ≤ 9223372036854775807) : wrap64 ((i : Int) + 1) = ((i + 1 : Nat) : Int) := by unfold wrap64; omega
/-- A loop over i from 0 to n: an invariant, and what is known of the answer. -/
theorem loop_from {σ ρ : Type} (n : Nat) (L : Nat → σ → Int → Option ρ) (I : Nat → σ → Prop) (Post : ρ → Prop)
    (hs : ∀ (i : Nat) s, i < n → I i s → (∃ r, Post r ∧ Ev (fun k => L k s (i : Int)) r) ∨ ∃ s', I (i + 1) s' ∧ ∀ r, Ev (fun k => L k s' ((i + 1 : Nat) : Int)) r → Ev (fun k => L k s (i : Int)) r)
    (he : ∀ s, I n s → ∃ r, Post r ∧ Ev (fun k => L k s (n : Int)) r) : ∀ (d i : Nat) s, i + d = n → I i s → ∃ r, Post r ∧ Ev (fun k => L k s (i : Int)) r
  | 0, i, s, hd, hI => by
    obtain rfl : i = n := by omega
    exact he s hI
  | d + 1, i, s, hd, hI => by
    rcases hs i s (by omega) hI with h | ⟨s', hI', h⟩
    · exact h
    · obtain ⟨r, hr, hE⟩ := loop_from n L I Post hs he d (i + 1) s' (by omega) hI'
      exact ⟨r, hr, h r hE⟩
theorem loop_up {σ ρ : Type} (n : Nat) (L : Nat → σ → Int → Option ρ) (I : Nat → σ → Prop) (Post : ρ → Prop)
    (hs : ∀ (i : Nat) s, i < n → I i s → (∃ r, Post r ∧ Ev (fun k => L k s (i : Int)) r) ∨ ∃ s', I (i + 1) s' ∧ ∀ r, Ev (fun k => L k s' ((i + 1 : Nat) : Int)) r → Ev (fun k => L k s (i : Int)) r)
    (he : ∀ s, I n s → ∃ r, Post r ∧ Ev (fun k => L k s (n : Int)) r) (s : σ) (h0 : I 0 s) : ∃ r, Post r ∧ Ev (fun k => L k s 0) r :=
  loop_from n L I Post hs he n 0 s (by omega) h0
/-- The same where one answer is told. -/
theorem loop_is {σ ρ : Type} (n : Nat) (L : Nat → σ → Int → Option ρ) (I : Nat → σ → Prop) (a : ρ)
    (hs : ∀ (i : Nat) s, i < n → I i s → Ev (fun k => L k s (i : Int)) a ∨ ∃ s', I (i + 1) s' ∧ ∀ r, Ev (fun k => L k s' ((i + 1 : Nat) : Int)) r → Ev (fun k => L k s (i : Int)) r)
    (he : ∀ s, I n s → Ev (fun k => L k s (n : Int)) a) (s : σ) (h0 : I 0 s) : Ev (fun k => L k s 0) a := by
  obtain ⟨r, hr, hE⟩ := loop_up n L I (· = a) (fun i s hi hI => (hs i s hi hI).imp (fun h => ⟨a, rfl, h⟩) id) (fun s hI => ⟨a, rfl, he s hI⟩) s h0
  exact hr ▸ hE
theorem ev_some {α : Type} {g : Nat → Option α} {r : α} (h : ∀ k, g k = some r) : Ev g r := ⟨0, fun k _ => h k⟩
theorem ev_next {α : Type} {g f : Nat → Option α} (h : ∀ k, g (k + 1) = f k) : ∀ r, Ev f r → Ev g r := fun _ k => Ev.step h k
theorem ev_end {α : Type} {g : Nat → Option α} {r : α} (h : ∀ k, g (k + 1) = some r) : Ev g r := Ev.step h (Ev.now r)
theorem ev_of {α : Type} {g : Nat → Option α} {r : α} {K : Nat} (h : ∀ k, K ≤ k → g k = some r) : Ev g r := ⟨K, h⟩
theorem ev_then1 {α : Type} {g : Nat → Option α} {r : α} (h : Ev g r) : Ev (fun k => (g k).bind fun t => some t) r := Ev.bind h (Ev.now r)
/-- what is bound comes to the same -/
theorem ev_bind_some {α β : Type} {a : α} {f : Nat → α → Option β} {r : β} (k : Ev (fun n => f n a) r) : Ev (fun n => (some a).bind (f n)) r := k

theorem take_set {α : Type} (l y : List α) (i : Nat) (v : α) (hl : y.length = l.length) (hi : i < l.length) (hv : v = l[i]) (h : y.take i = l.take i) : (y.set i v).take (i + 1) = l.take (i + 1) := by
  rw [List.take_succ_eq_append_getElem (by rw [List.length_set]; omega), List.take_succ_eq_append_getElem hi]
  congr 1
  · rw [List.take_set_of_le (by omega)]; exact h
  · simp [hv]
theorem take_all {α : Type} (l y : List α) (n : Nat) (hl : y.length = n) (hn : l.length = n) (h : y.take n = l.take n) : y = l := by
  rw [List.take_of_length_le (by omega), List.take_of_length_le (by omega)] at h
  exact h
theorem getD_get {α : Type} (l : List α) (i : Nat) (z : α) (h : i < l.length) : l.getD i z = l[i] := by
  rw [List.getD_eq_getElem?_getD, List.getElem?_eq_getElem h]; rfl
theorem map_loop {α β : Type} (L : Nat → List β → Int → Option (List β)) (l : List α) (c : α → β)
    (hs : ∀ (i : Nat) (h : i < l.length) y, y.length = l.length → ∀ r, Ev (fun k => L k (y.set i (c l[i])) ((i + 1 : Nat) : Int)) r → Ev (fun k => L k y (i : Int)) r)
    (he : ∀ k y, L (k + 1) y (l.length : Int) = some y) (y : List β) (hy : y.length = l.length) : Ev (fun k => L k y 0) (l.map c) := by
  refine loop_is l.length L (fun i y => y.length = l.length ∧ y.take i = (l.map c).take i) _ ?_ ?_ y ⟨hy, by simp⟩
  · intro i s hi ⟨h1, h2⟩
    exact .inr ⟨s.set i (c l[i]), ⟨by rw [List.length_set]; exact h1, take_set (l.map c) s i _ (by simpa using h1) (by simpa using hi) (by simp) h2⟩, hs i hi s h1⟩
  · intro s ⟨h1, h2⟩
    have e := take_all (l.map c) s l.length h1 (by simp) h2
    exact e ▸ ev_end (fun k => he k s)
theorem eq_loop (n : Nat) (L : Nat → Int → Option Bool) (hs : ∀ i : Nat, i < n → ∀ r, Ev (fun k => L k ((i + 1 : Nat) : Int)) r → Ev (fun k => L k (i : Int)) r) (he : ∀ k, L (k + 1) (n : Int) = some true) : Ev (fun k => L k 0) true :=
  loop_is n (fun k (_ : Unit) i => L k i) (fun _ _ => True) true (fun i _ hi _ => .inr ⟨(), trivial, hs i hi⟩) (fun _ _ => ev_end he) () trivial
theorem same_loop {α : Type} [DecidableEq α] (a b : List α) (hl : a.length = b.length) (L : Nat → Int → Option Bool)
    (hs : ∀ k (i : Nat) (h : i < a.length) (h' : i < b.length), L (k + 1) (i : Int) = if a[i] = b[i] then L k ((i + 1 : Nat) : Int) else some false) (he : ∀ k, L (k + 1) (a.length : Int) = some true) : Ev (fun k => L k 0) (decide (a = b)) := by
  refine loop_is a.length (fun k (_ : Unit) i => L k i) (fun i _ => a.take i = b.take i) _ ?_ ?_ () (by simp)
  · intro i _ hi hI
    have hi' : i < b.length := by omega
    by_cases c : a[i] = b[i]
    · refine .inr ⟨(), ?_, ev_next (fun k => ?_)⟩
      · rw [List.take_succ_eq_append_getElem hi, List.take_succ_eq_append_getElem hi', hI, c]
      · rw [hs k i hi hi', if_pos c]
    · left
      rw [decide_eq_false (fun e => c (by subst e; rfl))]
      exact ev_end (fun k => by rw [hs k i hi hi', if_neg c])
  · intro _ hI
    rw [List.take_length, hl, List.take_length] at hI
    rw [decide_eq_true hI]
    exact ev_end he
/-- numbers from c on -/
def cnt (c n : Nat) : List Int := (List.range n).map fun j => ((c + j : Nat) : Int)
theorem cnt_length (c n : Nat) : (cnt c n).length = n := by simp [cnt]
theorem cnt_get (c n i : Nat) (h : i < (cnt c n).length) : (cnt c n)[i] = ((c + i : Nat) : Int) := by simp [cnt]
theorem mark_loop (n c : Nat) (hc : c + n ≤ 4611686018427387904) (L : Nat → List Int × Int → Int → Option (Int × List Int))
    (hs : ∀ k (i : Nat) x (m : Nat), i < n → x.length = n → m ≤ 4611686018427387904 → L (k + 1) (x, (m : Int)) (i : Int) = L k (x.set i (m : Int), ((m + 1 : Nat) : Int)) ((i + 1 : Nat) : Int))
    (he : ∀ k x m, x.length = n → L (k + 1) (x, m) (n : Int) = some (m, x)) (x : List Int) (hx : x.length = n) : Ev (fun k => L k (x, (c : Int)) 0) (((c + n : Nat) : Int), cnt c n) := by
  refine loop_is n L (fun i s => s.1.length = n ∧ s.2 = ((c + i : Nat) : Int) ∧ s.1.take i = (cnt c n).take i) _ ?_ ?_ (x, (c : Int)) ⟨hx, by simp, by simp⟩
  · rintro i ⟨x, m⟩ hi ⟨h1, h2, h3⟩
    simp only at h1 h2 h3
    subst h2
    exact .inr ⟨(x.set i ((c + i : Nat) : Int), ((c + i + 1 : Nat) : Int)), ⟨by simpa using h1, rfl, take_set (cnt c n) x i _ (by rw [cnt_length]; exact h1) (by rw [cnt_length]; exact hi) (by rw [cnt_get]) h3⟩, ev_next (fun k => hs k i x (c + i) hi h1 (by omega))⟩
  · rintro ⟨x, m⟩ ⟨h1, h2, h3⟩
    simp only at h1 h2 h3
    have e := take_all (cnt c n) x n h1 (cnt_length c n) h3
    subst h2 e
    exact ev_end (fun k => he k _ _ h1)
theorem held_loop (n c : Nat) (hc : c + n ≤ 4611686018427387904) (L : Nat → Int → Int → Option Int)
    (hs : ∀ k (i : Nat), i < n → L (k + 1) ((c + i : Nat) : Int) (i : Int) = L k ((c + i + 1 : Nat) : Int) ((i + 1 : Nat) : Int))
    (he : ∀ k m, L (k + 1) m (n : Int) = some m) : Ev (fun k => L k (c : Int) 0) ((c + n : Nat) : Int) := by
  refine loop_is n L (fun i s => s = ((c + i : Nat) : Int)) _ ?_ ?_ (c : Int) (by simp)
  · rintro i _ hi rfl
    exact .inr ⟨((c + i + 1 : Nat) : Int), rfl, ev_next (fun k => hs k i hi)⟩
  · rintro _ rfl
    exact ev_end (fun k => he k _)
/-- marking rows of several numbers: how far it counts -/
theorem count_loop {α : Type} (n c w : Nat) (L : Nat → List α × Int → Int → Option (Int × List α))
    (hs : ∀ (i : Nat) x (m : Nat), i < n → x.length = n → m ≤ c + w * n → ∃ x' : List α, x'.length = n ∧ ∀ k, L (k + 1) (x, (m : Int)) (i : Int) = L k (x', ((m + w : Nat) : Int)) ((i + 1 : Nat) : Int))
    (he : ∀ k x m, x.length = n → L (k + 1) (x, m) (n : Int) = some (m, x)) (x : List α) (hx : x.length = n) : ∃ x', Ev (fun k => L k (x, (c : Int)) 0) (((c + w * n : Nat) : Int), x') := by
  obtain ⟨r, hr, hE⟩ := loop_up n L (fun i s => s.1.length = n ∧ s.2 = ((c + w * i : Nat) : Int)) (fun r : Int × List α => r.1 = ((c + w * n : Nat) : Int)) (by
    rintro i ⟨x, m⟩ hi ⟨h1, h2⟩
    simp only at h1 h2
    subst h2
    have hle : w * i ≤ w * n := Nat.mul_le_mul_left _ (by omega)
    obtain ⟨x', g1, g2⟩ := hs i x (c + w * i) hi h1 (by omega)
    exact .inr ⟨(x', ((c + w * i + w : Nat) : Int)), ⟨g1, by simp only [Nat.mul_add, Nat.mul_one, Nat.add_assoc]⟩, ev_next g2⟩) (by
    rintro ⟨x, m⟩ ⟨h1, h2⟩
    simp only at h1 h2
    subst h2
    exact ⟨_, rfl, ev_end (fun k => he k _ _ h1)⟩) (x, (c : Int)) ⟨hx, by simp⟩
  obtain ⟨a, b⟩ := r
  simp only at hr
  subst hr
  exact ⟨b, hE⟩

end Go.Proofs.Ytkadeelplnkpgaa.Pure

-- text OLInt
namespace Go.Proofs.Ytkadeelplnkpgaa.Pure
open Go.RowKit Go.Proofs.Ytkadeelplnkpgaa.Q Go.Proofs.YtkadeelplnkpgaaW.PrintWords Go.Proofs.YtkadeelplnkpgaaW.PrintLast Go.Proofs.YtkadeelplnkpgaaW.PrintMore
set_option linter.unusedVariables false
set_option linter.unusedSimpArgs false

theorem rd_get (l : List Int) (i : Nat) (h : i < l.length) : rd l (i : Int) = l[i] := by
  unfold rd
  rw [Int.toNat_natCast, getD_get l i 0 h]
theorem toInt64S_ev (l : List Int) (hl : l.length ≤ 1048576) : Ev (fun k => laws_toInt64S.f k l) l := by
  have h := map_loop (fun k y i => laws_toInt64S.l0 k l y i) l id (fun i hi y hy => ev_next (fun k => by
    simp only [laws_toInt64S.l0]
    rw [if_pos (by omega), if_pos (by omega), if_pos (by omega), up64 i l.length hi (by omega), Int.toNat_natCast, rd_get l i hi]
    rfl)) (fun k y => by simp only [laws_toInt64S.l0]; rw [if_neg (by omega)]) (List.replicate ((l.length : Int) : Int).toNat 0) (by simp)
  rw [List.map_id] at h
  refine Ev.congr (fun k => ?_) h
  unfold laws_toInt64S.f
  rw [if_pos (by omega), if_pos (by omega)]
theorem eqInt64S_ev (l : List Int) (hl : l.length ≤ 9223372036854775807) : Ev (fun k => laws_eqInt64S.f k l l) true := by
  refine Ev.congr (fun k => ?_) (eq_loop l.length (fun k i => laws_eqInt64S.l0 k l l i) (fun i hi => ev_next (fun k => by
    simp only [laws_eqInt64S.l0]
    rw [if_pos (by omega), if_pos (by omega), if_pos (by omega), if_pos trivial, up64 i l.length hi hl])) (fun k => by simp only [laws_eqInt64S.l0]; rw [if_neg (by omega)]))
  unfold laws_eqInt64S.f
  rw [if_pos rfl]

end Go.Proofs.Ytkadeelplnkpgaa.Pure

-- text OLTree
namespace Go.Proofs.Ytkadeelplnkpgaa.Pure
open Go.RowKit Go.Proofs.Ytkadeelplnkpgaa.Q Go.Proofs.Ytkadeelplnkpgaa.Opens Go.Proofs.YtkadeelplnkpgaaW.PrintWords Go.Proofs.YtkadeelplnkpgaaW.PrintLast Go.Proofs.YtkadeelplnkpgaaW.PrintMore
set_option linter.unusedVariables false
set_option linter.unusedSimpArgs false

def devOf (x : S110) : S50 := ⟨x.f0, x.f1⟩
def bktOf (x : S106) : S108 := ⟨x.f0, x.f1, x.f2⟩
theorem rd_devL (l : List S110) (i : Nat) (h : i < l.length) : rd_T110 l (i : Int) = l[i] := by
  unfold rd_T110
  rw [Int.toNat_natCast, getD_get l i _ h]
theorem rd_dev (l : List S50) (i : Nat) (h : i < l.length) : rd_T50 l (i : Int) = l[i] := by
  unfold rd_T50
  rw [Int.toNat_natCast, getD_get l i _ h]
theorem rd_bktL (l : List S106) (i : Nat) (h : i < l.length) : rd_T106 l (i : Int) = l[i] := by
  unfold rd_T106
  rw [Int.toNat_natCast, getD_get l i _ h]
theorem rd_bkt (l : List S108) (i : Nat) (h : i < l.length) : rd_T108 l (i : Int) = l[i] := by
  unfold rd_T108
  rw [Int.toNat_natCast, getD_get l i _ h]
theorem toDeviceS_ev (l : List S110) (hl : l.length ≤ 1048576) : Ev (fun k => laws_toDeviceS.f k l) (l.map devOf) := by
  have h := map_loop (fun k y i => laws_toDeviceS.l0 k l y i) l devOf (fun i hi y hy => ev_next (fun k => by
    simp only [laws_toDeviceS.l0, laws_toDevice.f, Option.bind_some]
    rw [if_pos (by omega), if_pos (by omega), if_pos (by omega), up64 i l.length hi (by omega), Int.toNat_natCast, rd_devL l i hi]
    all_goals exact rfl)) (fun k y => by simp only [laws_toDeviceS.l0]; rw [if_neg (by omega)]) (List.replicate ((l.length : Int) : Int).toNat z50) (by simp)
  refine Ev.congr (fun k => ?_) h
  unfold laws_toDeviceS.f
  rw [if_pos (by omega), if_pos (by omega)]
theorem toBucketS_ev (l : List S106) (hl : l.length ≤ 1048576) (hb : ∀ x ∈ l, x.f2.length ≤ 1048576) : Ev (fun k => laws_toBucketS.f k l) (l.map bktOf) := by
  have h := map_loop (fun k y i => laws_toBucketS.l0 k l y i) l bktOf (fun i hi y hy => fun r hr => by
    refine Ev.step (f := ?f) (fun k => ?_) ?_
    rotate_left
    · simp only [laws_toBucketS.l0]
      rw [if_pos (by omega), if_pos (by omega), rd_bktL l i hi, up64 i l.length hi (by omega), Int.toNat_natCast]
      all_goals exact rfl
    · refine Ev.bind (a := (l[i].f0, l[i].f1, l[i].f2)) ?_ ?_
      · unfold laws_toBucket.f
        exact Ev.bind (toInt64S_ev _ (hb _ (List.getElem_mem hi))) (Ev.now _)
      · refine Ev.congr (fun k => ?_) hr
        rw [if_pos (by omega)]
        rfl) (fun k y => by simp only [laws_toBucketS.l0]; rw [if_neg (by omega)]) (List.replicate ((l.length : Int) : Int).toNat z108) (by simp)
  refine Ev.congr (fun k => ?_) h
  unfold laws_toBucketS.f
  rw [if_pos (by omega), if_pos (by omega)]
theorem eqDeviceS_ev (l : List S50) (hl : l.length ≤ 9223372036854775807) : Ev (fun k => laws_eqDeviceS.f k l l) true := by
  refine Ev.congr (fun k => ?_) (eq_loop l.length (fun k i => laws_eqDeviceS.l0 k l l i) (fun i hi => ev_next (fun k => by
    simp only [laws_eqDeviceS.l0, laws_eqDevice.f, Option.bind_some, if_true]
    rw [if_pos (by omega), if_pos (by omega), if_pos (by omega), up64 i l.length hi hl])) (fun k => by simp only [laws_eqDeviceS.l0]; rw [if_neg (by omega)]))
  unfold laws_eqDeviceS.f
  rw [if_pos rfl]
theorem eqBucketS_ev (l : List S108) (hl : l.length ≤ 9223372036854775807) (hb : ∀ x ∈ l, x.f2.length ≤ 9223372036854775807) : Ev (fun k => laws_eqBucketS.f k l l) true := by
  refine Ev.congr (fun k => ?_) (eq_loop l.length (fun k i => laws_eqBucketS.l0 k l l i) (fun i hi => fun r hr => by
    refine Ev.step (f := ?f) (fun k => ?_) ?_
    rotate_left
    · simp only [laws_eqBucketS.l0]
      rw [if_pos (by omega), if_pos (by omega), if_pos (by omega), up64 i l.length hi hl, rd_bkt l i hi]
      all_goals exact rfl
    · refine Ev.bind (a := true) ?_ (Ev.congr (fun k => if_pos rfl) hr)
      unfold laws_eqBucket.f
      simp only [if_true]
      exact Ev.bind (eqInt64S_ev _ (hb _ (List.getElem_mem hi))) (ev_some fun k => if_pos rfl)) (fun k => by simp only [laws_eqBucketS.l0]; rw [if_neg (by omega)]))
  unfold laws_eqBucketS.f
  rw [if_pos rfl]
theorem szInt64S_left (l : List Int) (left : Int) (hl : l.length ≤ 9223372036854775807) (h0 : 0 ≤ left) (h1 : left ≤ 1048576) : laws_szInt64S.f l left = some (if (l.length : Int) ≤ left then left - (l.length : Int) else -1) := by
  have e : wrap64 (left - (l.length : Int)) = left - (l.length : Int) := by unfold wrap64; omega
  unfold laws_szInt64S.f
  rw [e]
  by_cases h : (l.length : Int) ≤ left
  · rw [if_neg (by omega), if_pos h]
  · rw [if_pos (by omega), if_neg h]
theorem szDeviceS_left (l : List S110) (left : Int) (hl : l.length ≤ 9223372036854775807) (h0 : 0 ≤ left) (h1 : left ≤ 1048576) : laws_szDeviceS.f l left = some (if (l.length : Int) ≤ left then left - (l.length : Int) else -1) := by
  have e : wrap64 (left - (l.length : Int)) = left - (l.length : Int) := by unfold wrap64; omega
  unfold laws_szDeviceS.f
  rw [e]
  by_cases h : (l.length : Int) ≤ left
  · rw [if_neg (by omega), if_pos h]
  · rw [if_pos (by omega), if_neg h]
/-- the sizes are small -/
def Small (d : List S110) (b : List S106) : Prop := d.length ≤ 1048576 ∧ b.length ≤ 1048576 ∧ ∀ x ∈ b, x.f2.length ≤ 1048576
theorem szBucketS_ev (l : List S106) (left : Int) (hl : l.length ≤ 9223372036854775807) (hb : ∀ x ∈ l, x.f2.length ≤ 9223372036854775807) (h0 : 0 ≤ left) (h1 : left ≤ 1048576) :
    ∃ t, (0 ≤ t → t ≤ 1048576 ∧ l.length ≤ 1048576 ∧ ∀ x ∈ l, x.f2.length ≤ 1048576) ∧ Ev (fun k => laws_szBucketS.f k l left) t := by
  have e : wrap64 (left - (l.length : Int)) = left - (l.length : Int) := by unfold wrap64; omega
  unfold laws_szBucketS.f
  simp only [e]
  by_cases h : (left - (l.length : Int)) < 0
  · simp only [if_pos h]
    exact ⟨-1, by omega, Ev.now _⟩
  · simp only [if_neg h]
    refine loop_up l.length (fun k s i => laws_szBucketS.l0 k l s i) (fun i s => 0 ≤ s ∧ s ≤ 1048576 ∧ ∀ x ∈ l.take i, x.f2.length ≤ 1048576) _ ?_ ?_ _ ⟨by omega, by omega, by simp⟩
    · intro i s hi ⟨g0, g1, g2⟩
      have hsz := hb l[i] (List.getElem_mem hi)
      have hz := szInt64S_left l[i].f2 s hsz g0 g1
      have hu : ∀ k, laws_szBucketS.l0 (k + 1) l s i = (laws_szBucket.f l[i].f0 l[i].f1 l[i].f2 s).bind fun t => if t < 0 then some (-1) else laws_szBucketS.l0 k l t ((i + 1 : Nat) : Int) := fun k => by
        simp only [laws_szBucketS.l0]
        rw [if_pos (by omega), if_pos (by omega), rd_bktL l i hi, up64 i l.length hi hl]
      unfold laws_szBucket.f at hu
      by_cases c : (l[i].f2.length : Int) ≤ s
      · refine .inr ⟨s - (l[i].f2.length : Int), ⟨by omega, by omega, fun x hx => ?_⟩, ev_next (fun k => ?_)⟩
        · rw [List.take_succ_eq_append_getElem hi] at hx
          rcases List.mem_append.1 hx with hx | hx
          · exact g2 x hx
          · simp only [List.mem_singleton] at hx
            subst hx
            omega
        · rw [hu k, hz, if_pos c]
          simp only [Option.bind_some]
          rw [if_neg (by omega), Option.bind_some, if_neg (by omega)]
      · refine .inl ⟨-1, by omega, ev_end (fun k => ?_)⟩
        rw [hu k, hz, if_neg c]
        simp
    · intro s ⟨g0, g1, g2⟩
      rw [List.take_length] at g2
      refine ⟨s, fun _ => ⟨by omega, by omega, g2⟩, ev_end (fun k => ?_)⟩
      simp only [laws_szBucketS.l0]
      rw [if_neg (by omega)]
theorem szTree_ev (d : List S110) (b : List S106) (left : Int) (hd : d.length ≤ 9223372036854775807) (hl : b.length ≤ 9223372036854775807) (hb : ∀ x ∈ b, x.f2.length ≤ 9223372036854775807) (h0 : 0 ≤ left) (h1 : left ≤ 1048576) :
    ∃ t, (0 ≤ t → t ≤ 1048576 ∧ Small d b) ∧ Ev (fun k => laws_szTree.f k d b left) t := by
  unfold laws_szTree.f
  simp only [szDeviceS_left d left hd h0 h1, Option.bind_some]
  by_cases c : (d.length : Int) ≤ left
  · simp only [if_pos c, show ¬ (left - (d.length : Int) < 0) by omega, if_false]
    obtain ⟨t, ht, hE⟩ := szBucketS_ev b (left - (d.length : Int)) hl hb (by omega) (by omega)
    by_cases c2 : t < 0
    · exact ⟨-1, by omega, Ev.bind hE (ev_some fun k => if_pos c2)⟩
    · have := ht (by omega)
      exact ⟨t, fun _ => ⟨this.1, by omega, this.2.1, this.2.2⟩, Ev.bind hE (ev_some fun k => if_neg c2)⟩
  · simp only [if_neg c]
    exact ⟨-1, by omega, ev_some fun k => by simp⟩
theorem toTree_ev (d : List S110) (b : List S106) (h : Small d b) : Ev (fun k => laws_toTree.f k d b) (d.map devOf, b.map bktOf) := by
  unfold laws_toTree.f
  exact Ev.bind (toDeviceS_ev d h.1) (Ev.bind (toBucketS_ev b h.2.1 h.2.2) (Ev.now _))
theorem eqTree_ev (d : List S110) (b : List S106) (h : Small d b) : Ev (fun k => laws_eqTree.f k (d.map devOf) (b.map bktOf) (d.map devOf) (b.map bktOf)) true := by
  obtain ⟨h1, h2, h3⟩ := h
  unfold laws_eqTree.f
  refine Ev.bind (eqDeviceS_ev _ (by rw [List.length_map]; omega)) ?_
  simp only [if_true]
  refine Ev.bind (eqBucketS_ev _ (by rw [List.length_map]; omega) (fun x hx => ?_)) (ev_some fun k => if_pos rfl)
  obtain ⟨y, hy, rfl⟩ := List.mem_map.1 hx
  have := h3 y hy
  show y.f2.length ≤ _
  omega
/-- the numbers of a law's topology are of their kind -/
theorem wf_of_good (d : List S110) (b : List S106) (hd : good_t22 d) (hb : good_t23 b) : wfTree (d.map devOf) (b.map bktOf) = true := by
  unfold wfTree
  rw [Bool.and_eq_true, List.all_eq_true, List.all_eq_true]
  constructor
  · intro x hx
    obtain ⟨y, hy, rfl⟩ := List.mem_map.1 hx
    have := hd.2 y hy
    rw [Bool.and_eq_true]
    exact ⟨wf_wfI this.1, wf_wfI this.2⟩
  · intro x hx
    obtain ⟨y, hy, rfl⟩ := List.mem_map.1 hx
    have := hb.2 y hy
    rw [Bool.and_eq_true, Bool.and_eq_true]
    refine ⟨⟨wf_wfI this.1, wf_wfI this.2.1⟩, ?_⟩
    rw [List.all_eq_true]
    intro z hz
    exact wf_wfI (this.2.2.2 z hz)
theorem small_of_good (d : List S110) (b : List S106) (hd : good_t22 d) (hb : good_t23 b) : d.length ≤ 9223372036854775807 ∧ b.length ≤ 9223372036854775807 ∧ ∀ x ∈ b, x.f2.length ≤ 9223372036854775807 :=
  ⟨hd.1, hb.1, fun x hx => (hb.2 x hx).2.2.1⟩

end Go.Proofs.Ytkadeelplnkpgaa.Pure

-- text OTree
namespace Go.Proofs.Ytkadeelplnkpgaa.Pure
open Go.RowKit Go.Proofs.Ytkadeelplnkpgaa.Q Go.Proofs.YtkadeelplnkpgaaW.PrintWords Go.Proofs.YtkadeelplnkpgaaW.PrintLast Go.Proofs.YtkadeelplnkpgaaW.PrintMore
set_option linter.unusedVariables false
set_option linter.unusedSimpArgs false

theorem in_inB (a b c : Int) : spec_l00In.f a b c = some (inB a b c) := between_inB a b c
/-- a loop that asks each place in turn -/
theorem all_loop (n : Nat) (L : Nat → Int → Option Bool) (c : Nat → Bool) (ht : ∀ i : Nat, i < n → c i = true → ∀ r, Ev (fun k => L k ((i + 1 : Nat) : Int)) r → Ev (fun k => L k (i : Int)) r)
    (hf : ∀ i : Nat, i < n → c i = false → Ev (fun k => L k (i : Int)) false) (he : ∀ k, L (k + 1) (n : Int) = some true) : Ev (fun k => L k 0) ((List.range n).all c) := by
  refine loop_is n (fun k (_ : Unit) i => L k i) (fun i _ => ∀ j, j < i → c j = true) _ ?_ ?_ () (fun j hj => absurd hj (Nat.not_lt_zero j))
  · intro i _ hi hI
    cases hc : c i with
    | true =>
      refine .inr ⟨(), fun j hj => ?_, ht i hi hc⟩
      rcases Nat.lt_succ_iff_lt_or_eq.1 hj with h | h
      · exact hI j h
      · rw [h]; exact hc
    | false =>
      left
      have e : (List.range n).all c = false := by
        rw [List.all_eq_false]
        exact ⟨i, by simpa using hi, by simp [hc]⟩
      rw [e]
      exact hf i hi hc
  · intro _ hI
    have e : (List.range n).all c = true := by
      rw [List.all_eq_true]
      intro j hj
      exact hI j (by simpa using hj)
    rw [e]
    exact ev_end he
theorem has_ev (l : List Int) (x : Int) (hl : l.length ≤ 9223372036854775807) : Ev (fun k => spec_l00Has.f k l x) (l.any fun y => y == x) := by
  refine loop_is l.length (fun k (_ : Unit) i => spec_l00Has.l0 k l x i) (fun i _ => (l.take i).any (fun y => y == x) = false) _ ?_ ?_ () (by simp)
  · intro i _ hi hI
    have hu : ∀ k, spec_l00Has.l0 (k + 1) l x i = if l[i] = x then some true else spec_l00Has.l0 k l x ((i + 1 : Nat) : Int) := fun k => by
      simp only [spec_l00Has.l0]
      rw [if_pos (by omega), if_pos (by omega), rd_get l i hi, up64 i l.length hi hl]
    by_cases c : l[i] = x
    · left
      have e : l.any (fun y => y == x) = true := by
        rw [List.any_eq_true]
        exact ⟨l[i], List.getElem_mem hi, by simpa using c⟩
      rw [e]
      exact ev_end (fun k => by rw [hu k, if_pos c])
    · refine .inr ⟨(), ?_, ev_next (fun k => by rw [hu k, if_neg c])⟩
      rw [List.take_succ_eq_append_getElem hi, List.any_append, hI]
      simpa using c
  · intro _ hI
    rw [List.take_length] at hI
    rw [hI]
    exact ev_end (fun k => by simp only [spec_l00Has.l0]; rw [if_neg (by omega)])
/-- the index of a device -/
def devAt (D : List S50) (id : Int) : Int := idxFrom (fun x : S50 => x.f0 == id) D 0
theorem idx_step {α : Type} (p : α → Bool) (l : List α) (i : Nat) (hi : i < l.length) : idxFrom p (l.drop i) i = if p l[i] = true then (i : Int) else idxFrom p (l.drop (i + 1)) ((i + 1 : Nat) : Int) := by
  rw [List.drop_eq_getElem_cons hi]
  rfl
theorem specDevice_ev (D : List S50) (B : List S108) (id : Int) (hD : D.length ≤ 9223372036854775807) : Ev (fun k => spec_l06Device.f k D B id) (devAt D id) := by
  refine loop_is D.length (fun k (_ : Unit) i => spec_l06Device.l0 k id i D B) (fun i _ => devAt D id = idxFrom (fun x : S50 => x.f0 == id) (D.drop i) i) _ ?_ ?_ () rfl
  · intro i _ hi hI
    have hu : ∀ k, spec_l06Device.l0 (k + 1) id i D B = if D[i].f0 = id then some (i : Int) else spec_l06Device.l0 k id ((i + 1 : Nat) : Int) D B := fun k => by
      simp only [spec_l06Device.l0]
      rw [if_pos (by omega), if_pos (by omega), rd_dev D i hi, up64 i D.length hi hD]
    rw [idx_step _ D i hi] at hI
    by_cases c : D[i].f0 = id
    · left
      rw [if_pos (by simpa using c)] at hI
      rw [hI]
      exact ev_end (fun k => by rw [hu k, if_pos c])
    · rw [if_neg (by simpa using c)] at hI
      exact .inr ⟨(), hI, ev_next (fun k => by rw [hu k, if_neg c])⟩
  · intro _ hI
    rw [List.drop_length] at hI
    rw [hI]
    exact ev_end (fun k => by simp only [spec_l06Device.l0]; rw [if_neg (by omega)]; rfl)
theorem specBucket_ev (D : List S50) (B : List S108) (id : Int) (hB : B.length ≤ 9223372036854775807) : Ev (fun k => spec_l06Bucket.f k D B id) (bucketAt B id) := by
  refine loop_is B.length (fun k (_ : Unit) i => spec_l06Bucket.l0 k id i D B) (fun i _ => bucketAt B id = idxFrom (fun x : S108 => x.f0 == id) (B.drop i) i) _ ?_ ?_ () rfl
  · intro i _ hi hI
    have hu : ∀ k, spec_l06Bucket.l0 (k + 1) id i D B = if B[i].f0 = id then some (i : Int) else spec_l06Bucket.l0 k id ((i + 1 : Nat) : Int) D B := fun k => by
      simp only [spec_l06Bucket.l0]
      rw [if_pos (by omega), if_pos (by omega), rd_bkt B i hi, up64 i B.length hi hB]
    rw [idx_step _ B i hi] at hI
    by_cases c : B[i].f0 = id
    · left
      rw [if_pos (by simpa using c)] at hI
      rw [hI]
      exact ev_end (fun k => by rw [hu k, if_pos c])
    · rw [if_neg (by simpa using c)] at hI
      exact .inr ⟨(), hI, ev_next (fun k => by rw [hu k, if_neg c])⟩
  · intro _ hI
    rw [List.drop_length] at hI
    rw [hI]
    exact ev_end (fun k => by simp only [spec_l06Bucket.l0]; rw [if_neg (by omega)]; rfl)
theorem specKind_ev (D : List S50) (B : List S108) (id : Int) (hD : D.length ≤ 9223372036854775807) (hB : B.length ≤ 9223372036854775807) : Ev (fun k => spec_l06Kind.f k D B id) (kindAt D B id) := by
  unfold spec_l06Kind.f
  have hk : kindAt D B id = if 0 ≤ devAt D id then 0 else if bucketAt B id < 0 then -1 else (rd_T108 B (bucketAt B id)).f1 := rfl
  refine Ev.bind (specDevice_ev D B id hD) ?_
  by_cases c : 0 ≤ devAt D id
  · rw [hk, if_pos c]
    simp only [show devAt D id ≥ 0 from c, if_true]
    exact Ev.now _
  · rw [hk, if_neg c]
    simp only [show ¬ (devAt D id ≥ 0) from c, if_false]
    refine Ev.bind (specBucket_ev D B id hB) ?_
    by_cases c2 : bucketAt B id < 0
    · rw [if_pos c2]
      simp only [show ¬ (bucketAt B id ≥ 0) by omega, if_false]
      exact Ev.now _
    · rw [if_neg c2]
      have := bucketAt_lt B id (by omega)
      simp only [show bucketAt B id ≥ 0 by omega, show 0 ≤ bucketAt B id by omega, this, if_true]
      exact Ev.now _
/-! numbers, each once -/
theorem mem_addOnce (acc : List Int) (x y : Int) : y ∈ addOnce acc x ↔ y ∈ acc ∨ y = x := by
  unfold addOnce
  split
  · rename_i h
    rw [List.any_eq_true] at h
    obtain ⟨z, hz, he⟩ := h
    have : z = x := by simpa using he
    subst this
    constructor
    · exact .inl
    · rintro (h | rfl)
      · exact h
      · exact hz
  · simp
theorem mem_fold_once : ∀ (S acc : List Int) (y : Int), y ∈ S.foldl addOnce acc ↔ y ∈ acc ∨ y ∈ S
  | [], acc, y => by simp
  | x :: S, acc, y => by
    rw [List.foldl_cons, mem_fold_once S, mem_addOnce]
    simp only [List.mem_cons]
    constructor
    · rintro ((h | h) | h)
      · exact .inl h
      · exact .inr (.inl h)
      · exact .inr (.inr h)
    · rintro (h | h | h)
      · exact .inl (.inl h)
      · exact .inl (.inr h)
      · exact .inr h
theorem nodup_addOnce (acc : List Int) (x : Int) (h : acc.Nodup) : (addOnce acc x).Nodup := by
  unfold addOnce
  split
  · exact h
  · rename_i hn
    rw [List.nodup_append]
    refine ⟨h, by simp, fun a ha b hb => ?_⟩
    simp only [List.mem_singleton] at hb
    subst hb
    intro e
    subst e
    exact hn (by rw [List.any_eq_true]; exact ⟨a, ha, by simp⟩)
theorem nodup_fold_once : ∀ (S acc : List Int), acc.Nodup → (S.foldl addOnce acc).Nodup
  | [], _, h => h
  | x :: S, acc, h => nodup_fold_once S _ (nodup_addOnce acc x h)
theorem mem_once (S : List Int) (y : Int) : y ∈ onceOf S ↔ y ∈ S := by
  unfold onceOf
  rw [mem_fold_once]
  simp
theorem nodup_once (S : List Int) : (onceOf S).Nodup := nodup_fold_once S [] List.nodup_nil
theorem once_one (S : List Int) : (onceOf S).length ≤ 1 ↔ ∀ x ∈ S, ∀ y ∈ S, x = y := by
  have hm := mem_once S
  have hn := nodup_once S
  generalize onceOf S = T at hm hn
  constructor
  · intro h x hx y hy
    match T, h with
    | [], _ => have := (hm x).2 hx; simp at this
    | [z], _ =>
      have h1 := (hm x).2 hx
      have h2 := (hm y).2 hy
      simp only [List.mem_singleton] at h1 h2
      rw [h1, h2]
  · intro h
    match T, hn with
    | [], _ => simp
    | [z], _ => simp
    | z :: z' :: T', hn =>
      have h1 := (hm z).1 (by simp)
      have h2 := (hm z').1 (by simp)
      have e := h z h1 z' h2
      subst e
      simp at hn

end Go.Proofs.Ytkadeelplnkpgaa.Pure

-- text OTreeOk
namespace Go.Proofs.Ytkadeelplnkpgaa.Pure
open Go.RowKit Go.Proofs.Ytkadeelplnkpgaa.Q Go.Proofs.YtkadeelplnkpgaaW.PrintWords Go.Proofs.YtkadeelplnkpgaaW.PrintLast Go.Proofs.YtkadeelplnkpgaaW.PrintMore
set_option linter.unusedVariables false
set_option linter.unusedSimpArgs false

/-! devices -/
def devStep (D : List S50) (i : Nat) : Bool := inB (rd_T50 D i).f0 0 15 && inB (rd_T50 D i).f1 0 8 && !(decide (0 < i) && decide ((rd_T50 D i).f0 ≤ (rd_T50 D ((i : Int) - 1)).f0))
def devsB (D : List S50) : Bool := (List.range D.length).all (devStep D) && decide (D.length ≤ 16)
theorem wrap_down (i : Nat) (h : 0 < i) (hn : i ≤ 9223372036854775807) : wrap64 ((i : Int) - 1) = (i : Int) - 1 := by unfold wrap64; omega
theorem spec_devs_ev (D : List S50) (B : List S108) : Ev (fun k => spec_l06Devices.f k D B) (devsB D) := by
  unfold spec_l06Devices.f devsB
  by_cases h : (D.length : Int) > 16
  · simp only [if_pos h, decide_eq_false (show ¬ (D.length ≤ 16) by omega), Bool.and_false]
    exact Ev.now _
  · simp only [if_neg h, decide_eq_true (show D.length ≤ 16 by omega), Bool.and_true]
    have hu : ∀ (i : Nat), i < D.length → ∀ k, spec_l06Devices.l0 (k + 1) i D B = if devStep D i = true then spec_l06Devices.l0 k ((i + 1 : Nat) : Int) D B else some false := fun i hi k => by
      simp only [spec_l06Devices.l0]
      rw [if_pos (by omega), if_pos (by omega), in_inB, in_inB, up64 i D.length hi (by omega)]
      simp only [Option.bind_some]
      unfold devStep
      cases inB (rd_T50 D i).f0 0 15 with
      | false => simp
      | true =>
        cases inB (rd_T50 D i).f1 0 8 with
        | false => simp
        | true =>
          by_cases c : 0 < i
          · rw [if_pos rfl, if_pos rfl, if_pos (by omega), wrap_down i c (by omega), if_pos (by omega), if_pos (by omega)]
            by_cases c2 : (rd_T50 D i).f0 ≤ (rd_T50 D ((i : Int) - 1)).f0 <;> simp [c, c2]
          · rw [if_pos rfl, if_pos rfl, if_neg (by omega)]
            simp [c]
    exact all_loop D.length (fun k i => spec_l06Devices.l0 k i D B) (devStep D) (fun i hi hc => ev_next (fun k => by rw [hu i hi k, if_pos hc])) (fun i hi hc => ev_end (fun k => by rw [hu i hi k, if_neg (by rw [hc]; decide)])) (fun k => by simp only [spec_l06Devices.l0]; rw [if_neg (by omega)])
theorem isNode_inB (a : Int) : impl_isNode.f a = some (inB a 0 15) := by
  unfold impl_isNode.f
  rw [between_inB]; rfl
theorem impl_devs_ev (D : List S50) (B : List S108) (hD : D.length ≤ 9223372036854775807) : Ev (fun k => impl_Tree_devicesOk.f k D B) (devsB D) := by
  have hu : ∀ (i : Nat), i < D.length → ∀ k, impl_Tree_devicesOk.l0 (k + 1) D D.length i D B = if devStep D i = true then impl_Tree_devicesOk.l0 k D D.length ((i + 1 : Nat) : Int) D B else some false := fun i hi k => by
    simp only [impl_Tree_devicesOk.l0]
    rw [if_pos (by omega), if_pos (by omega), if_pos (by omega), isNode_inB, up64 i D.length hi hD]
    simp only [Option.bind_some, between_inB]
    unfold devStep
    cases inB (rd_T50 D i).f0 0 15 with
    | false => simp
    | true =>
      by_cases c : 0 < i
      · rw [if_pos rfl, if_pos (by omega), wrap_down i c (by omega), if_pos (by omega), if_pos (by omega)]
        by_cases c2 : (rd_T50 D i).f0 ≤ (rd_T50 D ((i : Int) - 1)).f0
        · simp [c, c2]
        · cases inB (rd_T50 D i).f1 0 8 <;> simp [c, c2]
      · rw [if_pos rfl, if_neg (by omega)]
        cases inB (rd_T50 D i).f1 0 8 <;> simp [c]
  refine loop_is D.length (fun k (_ : Unit) i => impl_Tree_devicesOk.l0 k D D.length i D B) (fun i _ => ∀ j, j < i → devStep D j = true) _ ?_ ?_ () (fun j hj => absurd hj (Nat.not_lt_zero j))
  · intro i _ hi hI
    cases hc : devStep D i with
    | true =>
      refine .inr ⟨(), fun j hj => ?_, ev_next (fun k => by rw [hu i hi k, if_pos hc])⟩
      rcases Nat.lt_succ_iff_lt_or_eq.1 hj with h | h
      · exact hI j h
      · rw [h]; exact hc
    | false =>
      left
      have e : devsB D = false := by
        unfold devsB
        have : (List.range D.length).all (devStep D) = false := by
          rw [List.all_eq_false]
          exact ⟨i, by simpa using hi, by simp [hc]⟩
        rw [this, Bool.false_and]
      rw [e]
      exact ev_end (fun k => by rw [hu i hi k, if_neg (by rw [hc]; decide)])
  · intro _ hI
    have e : devsB D = decide ((D.length : Int) ≤ 16) := by
      unfold devsB
      have : (List.range D.length).all (devStep D) = true := by
        rw [List.all_eq_true]
        intro j hj
        exact hI j (by simpa using hj)
      rw [this, Bool.true_and]
      exact decide_eq_decide.2 (by omega)
    rw [e]
    exact ev_end (fun k => by simp only [impl_Tree_devicesOk.l0]; rw [if_neg (by omega)])
/-! buckets -/
def bktStep (B : List S108) (i : Nat) : Bool := inB (rd_T108 B i).f0 (-12) (-1) && inB (rd_T108 B i).f1 1 3 && decide ((rd_T108 B i).f2.length ≤ 8) && !(decide (0 < i) && decide ((rd_T108 B ((i : Int) - 1)).f0 ≤ (rd_T108 B i).f0))
def bktsB (B : List S108) : Bool := (List.range B.length).all (bktStep B) && decide (B.length ≤ 12)
theorem spec_bkts_ev (D : List S50) (B : List S108) : Ev (fun k => spec_l06Buckets.f k D B) (bktsB B) := by
  unfold spec_l06Buckets.f bktsB
  by_cases h : (B.length : Int) > 12
  · simp only [if_pos h, decide_eq_false (show ¬ (B.length ≤ 12) by omega), Bool.and_false]
    exact Ev.now _
  · simp only [if_neg h, decide_eq_true (show B.length ≤ 12 by omega), Bool.and_true]
    have hu : ∀ (i : Nat), i < B.length → ∀ k, spec_l06Buckets.l0 (k + 1) i D B = if bktStep B i = true then spec_l06Buckets.l0 k ((i + 1 : Nat) : Int) D B else some false := fun i hi k => by
      simp only [spec_l06Buckets.l0]
      rw [if_pos (by omega), if_pos (by omega), in_inB, in_inB, up64 i B.length hi (by omega)]
      simp only [Option.bind_some]
      unfold bktStep
      cases inB (rd_T108 B i).f0 (-12) (-1) with
      | false => simp
      | true =>
        cases inB (rd_T108 B i).f1 1 3 with
        | false => simp
        | true =>
          rw [if_pos rfl, if_pos rfl]
          by_cases c8 : (rd_T108 B i).f2.length ≤ 8
          · rw [if_neg (by omega)]
            by_cases c : 0 < i
            · rw [if_pos (by omega), wrap_down i c (by omega), if_pos (by omega), if_pos (by omega)]
              by_cases c2 : (rd_T108 B ((i : Int) - 1)).f0 ≤ (rd_T108 B i).f0 <;> simp [c, c2, c8]
            · rw [if_neg (by omega)]
              simp [c, c8]
          · rw [if_pos (by omega)]
            simp [c8]
    exact all_loop B.length (fun k i => spec_l06Buckets.l0 k i D B) (bktStep B) (fun i hi hc => ev_next (fun k => by rw [hu i hi k, if_pos hc])) (fun i hi hc => ev_end (fun k => by rw [hu i hi k, if_neg (by rw [hc]; decide)])) (fun k => by simp only [spec_l06Buckets.l0]; rw [if_neg (by omega)])
/-! nothing twice -/
def onceGo (B : List S108) : Nat → Int → List Int → Bool
  | 0, _, _ => true
  | d + 1, i, u => match useGo u (rd_T108 B i).f2 with | some u' => onceGo B d (i + 1) u' | none => false
def onceTail (B : List S108) (d : Nat) (i : Int) (u items : List Int) : Bool := match useGo u items with | some u' => onceGo B d (i + 1) u' | none => false
def onceB (B : List S108) : Bool := onceGo B B.length 0 []
theorem useGo_cons (u : List Int) (x : Int) (xs : List Int) : useGo u (x :: xs) = if (u.any fun y => y == x) = true then none else useGo (u ++ [x]) xs := rfl
theorem useGo_length : ∀ (items u u' : List Int), useGo u items = some u' → u' = u ++ items
  | [], u, u', h => by simp only [useGo, Option.some.injEq] at h; simp [h]
  | x :: xs, u, u', h => by
    unfold useGo at h
    split at h
    · cases h
    · rw [useGo_length xs _ _ h]; simp
theorem spec_once_ev (D : List S50) (B : List S108) (hB : B.length ≤ 12) (hI : ∀ x ∈ B, x.f2.length ≤ 8) : Ev (fun k => spec_l06Once.f k D B) (onceB B) := by
  refine loop_is B.length (fun k (u : List Int) i => spec_l06Once.l0 k u i D B) (fun i u => u.length ≤ 8 * i ∧ onceB B = onceGo B (B.length - i) i u) _ ?_ ?_ [] ⟨by simp, rfl⟩
  · rintro i u hi ⟨hu, hT⟩
    have hx := hI B[i] (List.getElem_mem hi)
    have hT1 : onceB B = onceTail B (B.length - (i + 1)) i u B[i].f2 := by
      rw [hT, show B.length - i = (B.length - (i + 1)) + 1 from by omega]
      unfold onceTail
      rw [← rd_bkt B i hi]
      rfl
    -- the inner loop
    have hinner : ∀ (r : Bool), (∀ u', useGo u B[i].f2 = some u' → Ev (fun k => spec_l06Once.l0 k u' ((i + 1 : Nat) : Int) D B) r) → (useGo u B[i].f2 = none → r = false) → Ev (fun k => spec_l06Once.l1 k u i 0 D B) r := by
      intro r hgood hbad
      refine loop_is B[i].f2.length (fun k (v : List Int) j => spec_l06Once.l1 k v i j D B) (fun j v => v.length = u.length + j ∧ useGo u B[i].f2 = useGo v (B[i].f2.drop j)) _ ?_ ?_ u ⟨by simp, by simp⟩
      · rintro j v hj ⟨hv, hG⟩
        have hd : B[i].f2.drop j = B[i].f2[j] :: B[i].f2.drop (j + 1) := List.drop_eq_getElem_cons hj
        have hstep : ∀ q, Ev (fun k => if (v.any fun y => y == B[i].f2[j]) = true then some false else (if v.length < 17592186044416 then spec_l06Once.l1 k (v ++ [B[i].f2[j]]) i ((j + 1 : Nat) : Int) D B else none)) q → Ev (fun k => spec_l06Once.l1 k v i j D B) q := fun q hq => by
          refine Ev.step (f := ?f) (fun k => ?_) ?_
          rotate_left
          · simp only [spec_l06Once.l1]
            rw [if_pos (by omega), if_pos (by omega), rd_bkt B i hi, if_pos (by omega), if_pos (by omega), rd_get _ j hj, up64 j B[i].f2.length hj (by omega)]
            all_goals exact rfl
          · exact Ev.bind (has_ev v _ (by omega)) hq
        rw [hd] at hG
        rw [useGo_cons] at hG
        by_cases c : (v.any fun y => y == B[i].f2[j]) = true
        · left
          rw [if_pos c] at hG
          rw [hbad hG]
          exact hstep _ (ev_some fun k => if_pos c)
        · rw [if_neg c] at hG
          exact .inr ⟨v ++ [B[i].f2[j]], ⟨by simp; omega, hG⟩, fun q hq => hstep q (Ev.congr (fun k => by rw [if_neg c, if_pos (by omega)]) hq)⟩
      · rintro v ⟨hv, hG⟩
        rw [List.drop_length] at hG
        refine Ev.step (fun k => ?_) (hgood v hG)
        simp only [spec_l06Once.l1]
        rw [if_pos (by omega), if_pos (by omega), rd_bkt B i hi, if_neg (by omega), up64 i B.length hi (by omega)]
    have hout : ∀ q, Ev (fun k => spec_l06Once.l1 k u i 0 D B) q → Ev (fun k => spec_l06Once.l0 k u i D B) q := fun q hq => Ev.step (fun k => by
      simp only [spec_l06Once.l0]
      rw [if_pos (by omega)]) hq
    cases hc : useGo u B[i].f2 with
    | none =>
      left
      have e : onceB B = false := by rw [hT1]; unfold onceTail; rw [hc]
      rw [e]
      refine hout _ (hinner false (fun u' h => ?_) (fun _ => rfl))
      rw [hc] at h; cases h
    | some u' =>
      have hl := useGo_length _ _ _ hc
      refine .inr ⟨u', ⟨by rw [hl, List.length_append]; omega, ?_⟩, fun q hq => hout q (hinner q (fun v h => ?_) (fun h => ?_))⟩
      · rw [hT1]; unfold onceTail; rw [hc]; rfl
      · rw [hc] at h
        obtain rfl := Option.some.inj h
        exact hq
      · rw [hc] at h; cases h
  · rintro u ⟨hu, hT⟩
    rw [hT, Nat.sub_self]
    exact ev_end (fun k => by simp only [spec_l06Once.l0]; rw [if_neg (by omega)]; rfl)

/-! what lies in a bucket -/
def fitOne (D : List S50) (B : List S108) (kd : Int) (items : List Int) (x : Int) : Bool := if kd < 3 then kindAt D B x == kd - 1 else kindAt D B x == kindAt D B (rd items 0) && (kindAt D B x == 1 || kindAt D B x == 2)
def fitsB (D : List S50) (B : List S108) (kd : Int) (items : List Int) : Bool := (List.range items.length).all fun j => fitOne D B kd items (rd items j)
theorem spec_fits_ev (D : List S50) (B : List S108) (hD : D.length ≤ 9223372036854775807) (hB : B.length ≤ 9223372036854775807) (id kd : Int) (items : List Int) (h1 : 1 ≤ kd) (h3 : kd ≤ 3) (hl : items.length ≤ 9223372036854775807) : Ev (fun k => spec_l06Fits.f k D B id kd items) (fitsB D B kd items) := by
  have hmain : ∀ (j : Nat), j < items.length → ∀ r, (fitOne D B kd items (rd items j) = true → Ev (fun k => spec_l06Fits.l0 k ((j + 1 : Nat) : Int) D B id kd items) r) → (fitOne D B kd items (rd items j) = false → r = false) → Ev (fun k => spec_l06Fits.l0 k j D B id kd items) r := by
    intro j hj r hgood hbad
    have hw : wrap64 (kd - 1) = kd - 1 := by unfold wrap64; omega
    refine Ev.step (f := ?f) (fun k => ?_) ?_
    rotate_left
    · simp only [spec_l06Fits.l0]
      rw [if_pos (by omega), if_pos (by omega)]
      all_goals exact rfl
    · refine Ev.bind (specKind_ev D B _ hD hB) ?_
      by_cases ck : kd < 3
      · simp only [if_pos ck, hw]
        refine Ev.step (f := ?g) (fun k => ?_) ?_
        rotate_left
        · simp only [spec_l06Fits.j1]
          exact rfl
        · unfold fitOne at hgood hbad
          rw [if_pos ck] at hgood hbad
          by_cases c : kindAt D B (rd items j) = kd - 1
          · refine Ev.congr (fun k => ?_) (hgood (by simpa using c))
            rw [if_neg (by simp [c]), if_neg (by omega), up64 j items.length hj hl]
          · have e := hbad (by simpa using c)
            subst e
            refine ev_some (fun k => ?_)
            rw [if_pos (by simpa using c)]
      · simp only [if_neg ck]
        refine Ev.step (f := ?g2) (fun k => ?_) ?_
        rotate_left
        · simp only [spec_l06Fits.j1]
          exact rfl
        · simp only [Bool.false_eq_true, if_false, show kd = 3 by omega, if_true, show (0 : Int) < (items.length : Int) by omega]
          unfold fitOne at hgood hbad
          rw [if_neg ck] at hgood hbad
          refine Ev.bind (specKind_ev D B _ hD hB) ?_
          by_cases c0 : kindAt D B (rd items j) = kindAt D B (rd items 0)
          · by_cases c1 : kindAt D B (rd items j) = 1
            · refine Ev.congr (fun k => ?_) (hgood (by simp [← c0, c1]))
              rw [if_pos c0, if_pos c1, up64 j items.length hj hl, show kd = 3 by omega]
            · by_cases c2 : kindAt D B (rd items j) = 2
              · refine Ev.congr (fun k => ?_) (hgood (by simp [← c0, c2]))
                rw [if_pos c0, if_neg c1, if_pos c2, up64 j items.length hj hl, show kd = 3 by omega]
              · have e := hbad (by simp [c1, c2])
                subst e
                exact ev_some fun k => by rw [if_pos c0, if_neg c1, if_neg c2]
          · have e := hbad (by simp [c0])
            subst e
            exact ev_some fun k => by rw [if_neg c0]
  exact all_loop items.length (fun k j => spec_l06Fits.l0 k j D B id kd items) (fun j => fitOne D B kd items (rd items j)) (fun j hj hc r hr => hmain j hj r (fun _ => hr) (fun h => by rw [hc] at h; cases h)) (fun j hj hc => hmain j hj false (fun h => by rw [hc] at h; cases h) (fun _ => rfl)) (fun k => by simp only [spec_l06Fits.l0]; rw [if_neg (by omega)])
theorem range_all (items : List Int) (p : Int → Bool) : ((List.range items.length).all fun j => p (rd items j)) = items.all p := by
  rw [Bool.eq_iff_iff, List.all_eq_true, List.all_eq_true]
  constructor
  · intro h x hx
    obtain ⟨j, hj, rfl⟩ := List.mem_iff_getElem.1 hx
    have := h j (by simpa using hj)
    rwa [rd_get items j hj] at this
  · intro h j hj
    have hj' : j < items.length := by simpa using hj
    rw [rd_get items j hj']
    exact h _ (List.getElem_mem hj')
theorem fits_items (D : List S50) (B : List S108) (kd : Int) (items : List Int) (h1 : 1 ≤ kd) (h3 : kd ≤ 3) : fitsB D B kd items = itemsOkB D B kd items := by
  unfold fitsB itemsOkB
  rw [range_all items (fitOne D B kd items)]
  have hw : wrap64 (kd - 1) = kd - 1 := by unfold wrap64; omega
  rw [hw]
  match items with
  | [] => simp
  | x :: xs =>
    rw [if_neg (by simp)]
    have ho := once_one ((x :: xs).map (kindAt D B))
    have hhead : rd (x :: xs) 0 = x := rfl
    unfold fitOne
    rw [hhead]
    have hm : ∀ y, y ∈ (x :: xs).map (kindAt D B) ↔ ∃ z ∈ x :: xs, kindAt D B z = y := fun y => List.mem_map
    generalize hS : (x :: xs).map (kindAt D B) = S at ho hm
    by_cases c1 : 1 < (onceOf S).length
    · rw [if_pos c1]
      rw [Bool.eq_false_iff]
      intro hall
      rw [List.all_eq_true] at hall
      refine absurd (ho.2 ?_) (by omega)
      intro a ha b hb
      obtain ⟨p, hp, rfl⟩ := (hm a).1 ha
      obtain ⟨q, hq, rfl⟩ := (hm b).1 hb
      have h1 := hall p hp
      have h2 := hall q hq
      by_cases ck : kd < 3
      · rw [if_pos ck] at h1 h2
        rw [eq_of_beq h1, eq_of_beq h2]
      · rw [if_neg ck, Bool.and_eq_true] at h1 h2
        rw [eq_of_beq h1.1, eq_of_beq h2.1]
    · rw [if_neg c1]
      have hsame := ho.1 (by omega)
      have hx : kindAt D B x ∈ S := (hm _).2 ⟨x, by simp, rfl⟩
      have hall : ∀ z ∈ x :: xs, kindAt D B z = kindAt D B x := fun z hz => hsame _ ((hm _).2 ⟨z, hz, rfl⟩) _ hx
      have hany : ∀ v : Int, (S.any fun y => y == v) = (kindAt D B x == v) := fun v => by
        rw [Bool.eq_iff_iff, List.any_eq_true]
        constructor
        · rintro ⟨y, hy, e⟩
          rw [hsame _ hx y hy]; exact e
        · intro e
          exact ⟨_, hx, e⟩
      rw [hany, hany, hany]
      by_cases ck : kd < 3
      · rw [if_neg (show ¬ kd = 3 by omega), Bool.eq_iff_iff, List.all_eq_true]
        constructor
        · intro h
          have := h x (by simp)
          rwa [if_pos ck] at this
        · intro h z hz
          rw [if_pos ck, hall z hz]; exact h
      · rw [if_pos (show kd = 3 by omega), Bool.eq_iff_iff, List.all_eq_true]
        constructor
        · intro h
          have := h x (by simp)
          rw [if_neg ck, Bool.and_eq_true] at this
          exact this.2
        · intro h z hz
          rw [if_neg ck, hall z hz, Bool.and_eq_true]
          exact ⟨by simp, h⟩
/-! the whole -/
def allB (D : List S50) (B : List S108) : Nat → Int → Bool
  | 0, _ => true
  | d + 1, i => bktB D B i && allB D B d (i + 1)
theorem treeGo_parts (D : List S50) (B : List S108) : ∀ (d : Nat) (i : Int) (u : List Int), treeGo D B d i u = (allB D B d i && onceGo B d i u)
  | 0, _, _ => rfl
  | d + 1, i, u => by
    have ht : treeGo D B (d + 1) i u = if bktB D B i = true then (match useGo u (rd_T108 B i).f2 with | some u' => treeGo D B d (i + 1) u' | none => false) else false := rfl
    have ho : onceGo B (d + 1) i u = match useGo u (rd_T108 B i).f2 with | some u' => onceGo B d (i + 1) u' | none => false := rfl
    have ha : allB D B (d + 1) i = (bktB D B i && allB D B d (i + 1)) := rfl
    rw [ht, ho, ha]
    cases bktB D B i with
    | false => rfl
    | true =>
      cases useGo u (rd_T108 B i).f2 with
      | none => simp
      | some u' => simp [treeGo_parts D B d (i + 1) u']
theorem allB_all (D : List S50) (B : List S108) : ∀ (d i : Nat), allB D B d i = true ↔ ∀ j, i ≤ j → j < i + d → bktB D B j = true
  | 0, i => by simp [allB]; intro j h1 h2; omega
  | d + 1, i => by
    have ha : allB D B (d + 1) i = (bktB D B i && allB D B d ((i + 1 : Nat) : Int)) := rfl
    rw [ha, Bool.and_eq_true, allB_all D B d (i + 1)]
    constructor
    · rintro ⟨h1, h2⟩ j hj1 hj2
      by_cases e : j = i
      · subst e; exact h1
      · exact h2 j (by omega) (by omega)
    · intro h
      exact ⟨h i (by omega) (by omega), fun j h1 h2 => h j (by omega) (by omega)⟩
theorem bktB_parts (D : List S50) (B : List S108) (i : Nat) : bktB D B i = (bktStep B i && itemsOkB D B (rd_T108 B i).f1 (rd_T108 B i).f2) := by
  unfold bktB bktStep
  have e : decide ((0 : Int) < (i : Int)) = decide (0 < i) := decide_eq_decide.2 (by omega)
  rw [e]
  cases inB (rd_T108 B i).f0 (-12) (-1) <;> cases inB (rd_T108 B i).f1 1 3 <;> cases decide (0 < i) <;> cases decide ((rd_T108 B ((i : Int) - 1)).f0 ≤ (rd_T108 B i).f0) <;> cases decide ((rd_T108 B i).f2.length ≤ 8) <;> rfl
/-- is a topology valid? -/
def treeOkB (D : List S50) (B : List S108) : Bool := devsB D && (decide (B.length ≤ 12) && treeB D B)
theorem fits_all_ev (D : List S50) (B : List S108) (hD : D.length ≤ 16) (hB : B.length ≤ 12) (hS : ∀ j, j < B.length → bktStep B j = true) : Ev (fun k => spec_l06OK.l0 k 0 D B) ((List.range B.length).all fun i => fitsB D B (rd_T108 B i).f1 (rd_T108 B i).f2) := by
  have hst : ∀ (i : Nat), i < B.length → (1 ≤ (rd_T108 B i).f1 ∧ (rd_T108 B i).f1 ≤ 3) ∧ (rd_T108 B i).f2.length ≤ 8 := fun i hi => by
    have := hS i hi
    unfold bktStep inB at this
    simp only [Bool.and_eq_true, decide_eq_true_eq] at this
    exact ⟨this.1.1.2, this.1.2⟩
  have hu : ∀ (i : Nat), i < B.length → ∀ r, Ev (fun k => if fitsB D B (rd_T108 B i).f1 (rd_T108 B i).f2 = true then spec_l06OK.l0 k ((i + 1 : Nat) : Int) D B else some false) r → Ev (fun k => spec_l06OK.l0 k i D B) r := fun i hi r hr => by
    obtain ⟨⟨h1, h3⟩, h8⟩ := hst i hi
    refine Ev.step (f := ?f) (fun k => ?_) ?_
    rotate_left
    · simp only [spec_l06OK.l0]
      rw [if_pos (by omega), if_pos (by omega), up64 i B.length hi (by omega)]
      all_goals exact rfl
    · exact Ev.bind (spec_fits_ev D B (by omega) (by omega) _ _ _ h1 h3 (by omega)) hr
  exact all_loop B.length (fun k i => spec_l06OK.l0 k i D B) _ (fun i hi hc r hr => hu i hi r (Ev.congr (fun k => by rw [if_pos hc]) hr)) (fun i hi hc => hu i hi false (ev_some fun k => by rw [if_neg (by rw [hc]; decide)])) (fun k => by simp only [spec_l06OK.l0]; rw [if_neg (by omega)])
theorem spec_ok_ev (D : List S50) (B : List S108) : Ev (fun k => spec_l06OK.f k D B) (treeOkB D B) := by
  unfold spec_l06OK.f
  refine Ev.bind (spec_devs_ev D B) ?_
  have hj : ∀ r, r = false → Ev (fun k => spec_l06OK.j0 k true D B) r := fun r hr => by
    subst hr
    exact ev_end fun k => by simp only [spec_l06OK.j0]; rw [if_pos trivial]
  unfold treeOkB
  cases hd : devsB D with
  | false =>
    simp only [Bool.false_eq_true, if_false, Bool.false_and]
    exact hj _ rfl
  | true =>
    simp only [if_true, Bool.true_and]
    refine Ev.bind (spec_bkts_ev D B) ?_
    have hparts : treeB D B = (allB D B B.length 0 && onceB B) := treeGo_parts D B B.length 0 []
    have hall := allB_all D B B.length 0
    rw [show ((0 : Nat) : Int) = 0 from rfl] at hall
    have hD : D.length ≤ 16 := by
      unfold devsB at hd
      rw [Bool.and_eq_true] at hd
      exact of_decide_eq_true hd.2
    cases hb : bktsB B with
    | false =>
      simp only [Bool.false_eq_true, if_false]
      refine hj _ ?_
      by_cases c : B.length ≤ 12
      · have : allB D B B.length 0 = false := by
          rw [Bool.eq_false_iff]
          intro h
          have h2 := hall.1 h
          have : bktsB B = true := by
            unfold bktsB
            rw [decide_eq_true c, Bool.and_true, List.all_eq_true]
            intro j hj
            have := h2 j (by omega) (by simpa using hj)
            rw [bktB_parts, Bool.and_eq_true] at this
            exact this.1
          rw [this] at hb; cases hb
        rw [hparts, this]; simp
      · rw [decide_eq_false c, Bool.false_and]
    | true =>
      unfold bktsB at hb
      rw [Bool.and_eq_true, List.all_eq_true] at hb
      have h12 := of_decide_eq_true hb.2
      have hS : ∀ j, j < B.length → bktStep B j = true := fun j hj => hb.1 j (by simpa using hj)
      have h8 : ∀ x ∈ B, x.f2.length ≤ 8 := fun x hx => by
        obtain ⟨j, hj, rfl⟩ := List.mem_iff_getElem.1 hx
        have := hS j hj
        unfold bktStep at this
        simp only [Bool.and_eq_true, decide_eq_true_eq] at this
        rw [rd_bkt B j hj] at this
        exact this.1.2
      simp only [if_true]
      refine Ev.bind (spec_once_ev D B h12 h8) ?_
      rw [decide_eq_true h12, Bool.true_and, hparts]
      cases onceB B with
      | false =>
        rw [Bool.and_false]
        exact hj _ rfl
      | true =>
        rw [Bool.and_true]
        refine Ev.step (f := ?f) (fun k => ?_) ?_
        rotate_left
        · simp only [spec_l06OK.j0]
          exact rfl
        · simp only [Bool.not_true, Bool.false_eq_true, if_false]
          have hf := fits_all_ev D B hD h12 hS
          have e : ((List.range B.length).all fun i => fitsB D B (rd_T108 B i).f1 (rd_T108 B i).f2) = allB D B B.length 0 := by
            rw [Bool.eq_iff_iff, hall, List.all_eq_true]
            have hk : ∀ j, j < B.length → (fitsB D B (rd_T108 B j).f1 (rd_T108 B j).f2 = true ↔ bktB D B j = true) := fun j hj => by
              have hs := hS j hj
              rw [bktB_parts, hs, Bool.true_and]
              unfold bktStep inB at hs
              simp only [Bool.and_eq_true, decide_eq_true_eq] at hs
              rw [fits_items D B _ _ hs.1.1.2.1 hs.1.1.2.2]
            constructor
            · intro h j _ hj
              exact (hk j (by omega)).1 (h j (by simp; omega))
            · intro h j hj
              have hj' : j < B.length := by simpa using hj
              exact (hk j hj').2 (h j (by omega) (by omega))
          rw [e] at hf
          exact hf
theorem impl_ok_ev (D : List S50) (B : List S108) (hD : D.length ≤ 9223372036854775807) (hw : wfTree D B = true) : Ev (fun k => impl_TreeOk.f k D B) (treeOkB D B) := by
  unfold impl_TreeOk.f treeOkB
  simp only [if_pos hw]
  refine Ev.bind (impl_devs_ev D B hD) ?_
  cases devsB D <;> simp <;> first | exact Ev.now _ | exact ev_some fun k => rfl

end Go.Proofs.Ytkadeelplnkpgaa.Pure

-- text OSame
namespace Go.Proofs.Ytkadeelplnkpgaa.Pure
open Go.RowKit Go.Proofs.Ytkadeelplnkpgaa.Q Go.Proofs.YtkadeelplnkpgaaW.PrintWords Go.Proofs.YtkadeelplnkpgaaW.PrintLast Go.Proofs.YtkadeelplnkpgaaW.PrintMore
set_option linter.unusedVariables false
set_option linter.unusedSimpArgs false

def dkey (x : S50) : Int × Int := (x.f0, x.f1)
def bkey (x : S108) : Int × Int × List Int := (x.f0, x.f1, x.f2)
theorem dev_ne {x y : S50} (e : ¬ dkey x = dkey y) : (!(x.f0 == y.f0) || !(x.f1 == y.f1)) = true := by
  simp only [dkey, Prod.mk.injEq] at e
  by_cases c : x.f0 = y.f0
  · simp [c, show ¬ x.f1 = y.f1 from fun e2 => e ⟨c, e2⟩]
  · simp [c]
/-- a loop over pairs, and what comes behind it -/
theorem same_then {α β : Type} [DecidableEq β] (key : α → β) (a b : List α) (hl : a.length = b.length) (L : Nat → Int → Option Bool) (r : Bool)
    (hs : ∀ (i : Nat) (h : i < a.length) (h' : i < b.length), (key a[i] = key b[i] → ∀ r, Ev (fun k => L k ((i + 1 : Nat) : Int)) r → Ev (fun k => L k (i : Int)) r) ∧ (¬ key a[i] = key b[i] → Ev (fun k => L k (i : Int)) false))
    (he : Ev (fun k => L k (a.length : Int)) r) : Ev (fun k => L k 0) (decide (a.map key = b.map key) && r) := by
  refine loop_is a.length (fun k (_ : Unit) i => L k i) (fun i _ => (a.take i).map key = (b.take i).map key) _ ?_ ?_ () (by simp)
  · intro i _ hi hI
    have hi' : i < b.length := by omega
    by_cases c : key a[i] = key b[i]
    · refine .inr ⟨(), ?_, (hs i hi hi').1 c⟩
      rw [List.take_succ_eq_append_getElem hi, List.take_succ_eq_append_getElem hi', List.map_append, List.map_append, hI]
      simp [c]
    · left
      have e : decide (a.map key = b.map key) = false := decide_eq_false (fun e => c (by
        have h1 : (a.map key)[i]? = (b.map key)[i]? := by rw [e]
        rw [List.getElem?_map, List.getElem?_map, List.getElem?_eq_getElem hi, List.getElem?_eq_getElem hi'] at h1
        simpa using h1))
      rw [e, Bool.false_and]
      exact (hs i hi hi').2 c
  · intro _ hI
    rw [List.take_length, hl, List.take_length] at hI
    rw [decide_eq_true hI, Bool.true_and]
    exact he
theorem same_ev (a b : List Int) (hl : a.length ≤ 9223372036854775807) : Ev (fun k => spec_l00Same.f k a b) (decide (a = b)) := by
  unfold spec_l00Same.f
  by_cases h : a.length = b.length
  · simp only [show (a.length : Int) = (b.length : Int) by omega, if_true]
    exact same_loop a b h (fun k i => spec_l00Same.l0 k a b i) (fun k i h1 h2 => by
      simp only [spec_l00Same.l0]
      rw [if_pos (by omega), if_pos (by omega), if_pos (by omega), rd_get a i h1, rd_get b i h2, up64 i a.length h1 hl]) (fun k => by simp only [spec_l00Same.l0]; rw [if_neg (by omega)])
  · rw [decide_eq_false (fun e => h (by rw [e]))]
    simp only [show ¬ ((a.length : Int) = (b.length : Int)) by omega, if_false]
    exact Ev.now _
theorem equal64_ev (a b : List Int) (hl : a.length ≤ 9223372036854775807) : Ev (fun k => slices_Equal_int64_int64.f k a b) (decide (a = b)) := by
  unfold slices_Equal_int64_int64.f
  by_cases h : a.length = b.length
  · simp only [show (a.length : Int) = (b.length : Int) by omega, if_true]
    exact same_loop a b h (fun k i => slices_Equal_int64_int64.l0 k a b b.length i) (fun k i h1 h2 => by
      simp only [slices_Equal_int64_int64.l0]
      rw [if_pos (by omega), if_pos (by omega), if_pos (by omega), if_pos (by omega), rd_get a i h1, rd_get b i h2, up64 i a.length h1 hl]) (fun k => by simp only [slices_Equal_int64_int64.l0]; rw [if_neg (by omega)])
  · rw [decide_eq_false (fun e => h (by rw [e]))]
    simp only [show ¬ ((a.length : Int) = (b.length : Int)) by omega, if_false]
    exact Ev.now _
theorem devEq_ev (a b : List S50) (ha : a.length ≤ 1048576) : Ev (fun k => impl_Device.f k a b) (decide (a.map dkey = b.map dkey)) := by
  unfold impl_Device.f
  by_cases h : a.length = b.length
  · simp only [show (a.length : Int) = (b.length : Int) by omega, if_true]
    have := same_then dkey a b h (fun k i => impl_Device.l0 k a b b.length i) true (fun i h1 h2 => by
      have hu : ∀ k, impl_Device.l0 (k + 1) a b b.length i = if (!(a[i].f0 == b[i].f0) || !(a[i].f1 == b[i].f1)) = true then some false else impl_Device.l0 k a b b.length ((i + 1 : Nat) : Int) := fun k => by
        simp only [impl_Device.l0]
        rw [if_pos (by omega), if_pos (by omega), if_pos (by omega), if_pos (by omega), rd_dev a i h1, rd_dev b i h2, up64 i a.length h1 (by omega)]
      constructor
      · intro e
        simp only [dkey, Prod.mk.injEq] at e
        exact ev_next (fun k => by rw [hu k, if_neg (by simp [e.1, e.2])])
      · intro e
        exact ev_end (fun k => by rw [hu k, if_pos (dev_ne e)])) (ev_end (fun k => by simp only [impl_Device.l0]; rw [if_neg (by omega)]))
    rw [Bool.and_true] at this
    exact this
  · rw [decide_eq_false (fun e => h (by have := congrArg List.length e; simpa using this))]
    simp only [show ¬ ((a.length : Int) = (b.length : Int)) by omega, if_false]
    exact Ev.now _
theorem bktF_ev (x y : S108) (h : x.f2.length ≤ 1048576) : Ev (fun k => bktF k x y) (decide (bkey x = bkey y)) := by
  unfold bktF impl_sameBucket.f bkey
  by_cases c1 : x.f0 = y.f0
  · simp only [if_pos c1]
    by_cases c2 : x.f1 = y.f1
    · simp only [if_pos c2]
      have := ev_then1 (equal64_ev x.f2 y.f2 (by omega))
      have e : decide ((x.f0, x.f1, x.f2) = (y.f0, y.f1, y.f2)) = decide (x.f2 = y.f2) := by rw [c1, c2]; simp
      rw [e]
      exact this
    · simp only [if_neg c2]
      rw [decide_eq_false (fun e => c2 (by simp only [Prod.mk.injEq] at e; exact e.2.1))]
      exact Ev.now _
  · simp only [if_neg c1]
    rw [decide_eq_false (fun e => c1 (by simp only [Prod.mk.injEq] at e; exact e.1))]
    exact Ev.now _
theorem pairs_ev : ∀ (a b : List S108), a.length = b.length → (∀ x ∈ a, x.f2.length ≤ 1048576) → Ev (fun k => pairGo (bktF k) a b) (decide (a.map bkey = b.map bkey))
  | [], [], _, _ => Ev.now _
  | x :: xs, y :: ys, h, hb => by
    refine Ev.bind (bktF_ev x y (hb x (by simp))) ?_
    by_cases c : bkey x = bkey y
    · have e : decide ((x :: xs).map bkey = (y :: ys).map bkey) = decide (xs.map bkey = ys.map bkey) := by simp [c]
      rw [e]
      simp only [decide_eq_true c, if_true]
      exact pairs_ev xs ys (by simpa using h) (fun z hz => hb z (by simp [hz]))
    · rw [decide_eq_false c, decide_eq_false (fun e => c (by simp only [List.map_cons, List.cons.injEq] at e; exact e.1))]
      exact Ev.now _
  | [], _ :: _, h, _ => by simp at h
  | _ :: _, [], h, _ => by simp at h
/-- are two topologies alike, field by field? -/
def sameTr (D1 : List S50) (B1 : List S108) (D2 : List S50) (B2 : List S108) : Bool := decide (D1.map dkey = D2.map dkey) && decide (B1.map bkey = B2.map bkey)
theorem impl_same_ev (D1 : List S50) (B1 : List S108) (D2 : List S50) (B2 : List S108) (hD : D1.length ≤ 1048576) (hb : ∀ x ∈ B1, x.f2.length ≤ 1048576) : Ev (fun k => impl_sameTree.f k D1 B1 D2 B2) (sameTr D1 B1 D2 B2) := by
  unfold impl_sameTree.f sameTr
  refine Ev.bind (devEq_ev D1 D2 hD) ?_
  cases decide (D1.map dkey = D2.map dkey) with
  | false => exact Ev.now _
  | true =>
    simp only [if_true, Bool.true_and]
    by_cases h : B1.length = B2.length
    · simp only [if_pos h]
      exact pairs_ev B1 B2 h hb
    · simp only [if_neg h]
      rw [decide_eq_false (fun e => h (by have := congrArg List.length e; simpa using this))]
      exact Ev.now _
theorem spec_same_ev (D1 : List S50) (B1 : List S108) (D2 : List S50) (B2 : List S108) (hD : D1.length ≤ 1048576) (hB : B1.length ≤ 1048576) (hb : ∀ x ∈ B1, x.f2.length ≤ 1048576) : Ev (fun k => spec_l06Same.f k D1 B1 D2 B2) (sameTr D1 B1 D2 B2) := by
  unfold spec_l06Same.f sameTr
  by_cases h : D1.length = D2.length
  · simp only [show (D1.length : Int) = (D2.length : Int) by omega, if_true]
    refine Ev.step (f := ?f) (fun k => ?_) ?_
    rotate_left
    · simp only [spec_l06Same.j0]
      exact rfl
    · by_cases h2 : B1.length = B2.length
      · have e : ((B1.length : Int) != (B2.length : Int)) = false := by simp [h2]
        simp only [e, Bool.false_eq_true, if_false]
        refine same_then dkey D1 D2 h (fun k i => spec_l06Same.l0 k i D1 B1 D2 B2) _ (fun i h1 h2 => ?_) ?_
        · have hu : ∀ k, spec_l06Same.l0 (k + 1) i D1 B1 D2 B2 = if (!(D1[i].f0 == D2[i].f0) || !(D1[i].f1 == D2[i].f1)) = true then some false else spec_l06Same.l0 k ((i + 1 : Nat) : Int) D1 B1 D2 B2 := fun k => by
            simp only [spec_l06Same.l0]
            rw [if_pos (by omega), if_pos (by omega), if_pos (by omega), rd_dev D1 i h1, rd_dev D2 i h2, up64 i D1.length h1 (by omega)]
          constructor
          · intro e
            simp only [dkey, Prod.mk.injEq] at e
            exact ev_next (fun k => by rw [hu k, if_neg (by simp [e.1, e.2])])
          · intro e
            exact ev_end (fun k => by rw [hu k, if_pos (dev_ne e)])
        · refine Ev.step (f := fun k => spec_l06Same.l1 k 0 D1 B1 D2 B2) (fun k => by simp only [spec_l06Same.l0]; rw [if_neg (by omega)]) ?_
          have := same_then bkey B1 B2 h2 (fun k i => spec_l06Same.l1 k i D1 B1 D2 B2) true (fun i h1 h2 => by
            have hsz := hb B1[i] (List.getElem_mem h1)
            constructor
            · intro e
              simp only [bkey, Prod.mk.injEq] at e
              intro r hr
              refine Ev.step (f := ?g) (fun k => ?_) ?_
              rotate_left
              · simp only [spec_l06Same.l1]
                rw [if_pos (by omega), if_pos (by omega), if_pos (by omega), rd_bkt B1 i h1, rd_bkt B2 i h2, if_pos e.1, if_pos e.2.1, up64 i B1.length h1 (by omega)]
                all_goals exact rfl
              · refine Ev.bind (same_ev B1[i].f2 B2[i].f2 (by omega)) ?_
                rw [decide_eq_true e.2.2]
                exact hr
            · intro e
              simp only [bkey, Prod.mk.injEq] at e
              refine Ev.step (f := ?h) (fun k => ?_) ?_
              rotate_left
              · simp only [spec_l06Same.l1]
                rw [if_pos (by omega), if_pos (by omega), if_pos (by omega), rd_bkt B1 i h1, rd_bkt B2 i h2]
                all_goals exact rfl
              · by_cases c : B1[i].f0 = B2[i].f0
                · simp only [if_pos c]
                  by_cases c2 : B1[i].f1 = B2[i].f1
                  · simp only [if_pos c2]
                    refine Ev.bind (same_ev B1[i].f2 B2[i].f2 (by omega)) ?_
                    rw [decide_eq_false (fun e2 => e ⟨c, c2, e2⟩)]
                    exact Ev.now _
                  · simp only [if_neg c2]; exact Ev.now _
                · simp only [if_neg c]; exact Ev.now _) (ev_end (fun k => by simp only [spec_l06Same.l1]; rw [if_neg (by omega)]))
          rw [Bool.and_true] at this
          exact this
      · have e : ((B1.length : Int) != (B2.length : Int)) = true := by simp; omega
        simp only [e, if_true]
        rw [decide_eq_false (p := B1.map bkey = B2.map bkey) (fun e => h2 (by have := congrArg List.length e; simpa using this)), Bool.and_false]
        exact Ev.now _
  · simp only [show ¬ ((D1.length : Int) = (D2.length : Int)) by omega, if_false]
    rw [decide_eq_false (p := D1.map dkey = D2.map dkey) (fun e => h (by have := congrArg List.length e; simpa using this)), Bool.false_and]
    exact ev_end (fun k => by simp only [spec_l06Same.j0, if_true])

end Go.Proofs.Ytkadeelplnkpgaa.Pure

-- text PureFnExactSameTree
namespace Go.Proofs.Ytkadeelplnkpgaa.Pure
open Go.RowKit Go.Proofs.Ytkadeelplnkpgaa.Q Go.Proofs.Ytkadeelplnkpgaa.Opens Go.Proofs.YtkadeelplnkpgaaW.PrintWords Go.Proofs.YtkadeelplnkpgaaW.PrintLast Go.Proofs.YtkadeelplnkpgaaW.PrintMore
set_option linter.unusedVariables false
set_option linter.unusedSimpArgs false

def sameAns (D1 : List S50) (B1 : List S108) (D2 : List S50) (B2 : List S108) : Bool := treeOkB D1 B1 && (treeOkB D2 B2 && sameTr D1 B1 D2 B2)
theorem FnExactSameTree (l0_0 : List S110) (l0_1 : List S106) (l1_0 : List S110) (l1_1 : List S106) (hd : good_t22 l0_0) (hb : good_t23 l0_1) (hd1 : good_t22 l1_0) (hb1 : good_t23 l1_1) : ∃ k, laws_FnExactSameTree.f k l0_0 l0_1 l1_0 l1_1 = some true := by
  obtain ⟨g1, g2, g3⟩ := small_of_good l0_0 l0_1 hd hb
  obtain ⟨t, ht, hsz⟩ := szTree_ev l0_0 l0_1 1048576 g1 g2 g3 (by omega) (by omega)
  have hwf := wf_of_good l0_0 l0_1 hd hb
  have hwf1 := wf_of_good l1_0 l1_1 hd1 hb1
  refine Ev.rounds (r := true) ?_
  unfold laws_FnExactSameTree.f
  refine Ev.bind hsz ?_
  by_cases c : t < 0
  · exact ev_some fun k => if_pos c
  · simp only [if_neg c]
    obtain ⟨ht1, hs⟩ := ht (by omega)
    obtain ⟨q1, q2, q3⟩ := small_of_good l1_0 l1_1 hd1 hb1
    obtain ⟨t2, ht2, hsz2⟩ := szTree_ev l1_0 l1_1 t q1 q2 q3 (by omega) ht1
    refine Ev.bind hsz2 ?_
    by_cases c2 : t2 < 0
    · exact ev_some fun k => if_pos c2
    · simp only [if_neg c2]
      have hs1 := (ht2 (by omega)).2
      have hto := toTree_ev l0_0 l0_1 hs
      have hto1 := toTree_ev l1_0 l1_1 hs1
      have heq := eqTree_ev l0_0 l0_1 hs
      have heq1 := eqTree_ev l1_0 l1_1 hs1
      have hD : (l0_0.map devOf).length ≤ 1048576 := by rw [List.length_map]; exact hs.1
      have hB : (l0_1.map bktOf).length ≤ 1048576 := by rw [List.length_map]; exact hs.2.1
      have hD1 : (l1_0.map devOf).length ≤ 1048576 := by rw [List.length_map]; exact hs1.1
      have hI : ∀ x ∈ l0_1.map bktOf, x.f2.length ≤ 1048576 := fun x hx => by
        obtain ⟨y, hy, rfl⟩ := List.mem_map.1 hx
        exact hs.2.2 y hy
      generalize l0_0.map devOf = D at *
      generalize l0_1.map bktOf = B at *
      generalize l1_0.map devOf = D1 at *
      generalize l1_1.map bktOf = B1 at *
      have hspec : Ev (fun k => spec_SameTree.f k D B D1 B1) (sameAns D B D1 B1) := by
        unfold spec_SameTree.f sameAns
        refine Ev.bind (spec_ok_ev D B) ?_
        cases treeOkB D B with
        | false => exact Ev.now _
        | true =>
          simp only [if_true, Bool.true_and]
          refine Ev.bind (spec_ok_ev D1 B1) ?_
          cases treeOkB D1 B1 with
          | false => exact Ev.now _
          | true =>
            simp only [if_true, Bool.true_and]
            exact ev_then1 (spec_same_ev D B D1 B1 hD hB hI)
      have himpl : Ev (fun k => impl_SameTree.f k D B D1 B1) (sameAns D B D1 B1) := by
        unfold impl_SameTree.f sameAns
        refine Ev.bind (impl_ok_ev D B (by omega) hwf) ?_
        cases treeOkB D B with
        | false => exact Ev.now _
        | true =>
          simp only [if_true, Bool.true_and]
          refine Ev.bind (impl_ok_ev D1 B1 (by omega) hwf1) ?_
          cases treeOkB D1 B1 with
          | false => exact Ev.now _
          | true =>
            simp only [if_true, Bool.true_and]
            exact ev_then1 (impl_same_ev D B D1 B1 hD hI)
      refine Ev.bind hto (Ev.bind hto1 (Ev.bind hspec (Ev.bind hto (Ev.bind hto1 (Ev.bind himpl ?_)))))
      simp only [bne_self_eq_false, Bool.false_eq_true, if_false]
      refine Ev.bind hto (Ev.bind heq ?_)
      simp only [if_true]
      exact Ev.bind hto1 (Ev.bind heq1 (ev_some fun k => if_pos rfl))

end Go.Proofs.Ytkadeelplnkpgaa.Pure
