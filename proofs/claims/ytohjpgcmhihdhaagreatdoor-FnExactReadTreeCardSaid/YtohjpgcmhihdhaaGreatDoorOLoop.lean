/- Plain laws of loops that count up: what they come to with enough rounds. Conditions: each theorem's own. -/
import Derived.Test.YtohjpgcmhihdhaaGreatDoorWBMore
import Derived.Test.YtohjpgcmhihdhaaGreatDoorQ0
namespace Go.Proofs.YtohjpgcmhihdhaaGreatDoor.Pure
open Go.RowKit Go.Proofs.YtohjpgcmhihdhaaGreatDoorW.PrintWords Go.Proofs.YtohjpgcmhihdhaaGreatDoorW.PrintLast Go.Proofs.YtohjpgcmhihdhaaGreatDoorW.PrintMore
set_option linter.unusedVariables false
set_option linter.unusedSimpArgs false

theorem up64 (i n : Nat) (h : i < n) (hn : n ≤ 9223372036854775807) : wrap64 ((i : Int) + 1) = ((i + 1 : Nat) : Int) := by unfold wrap64; omega
/-- A loop over i from 0 to n: an invariant, and what is known of the answer. -/
theorem loop_from {σ ρ : Type} (n : Nat) (L : Nat → σ → Int → Option ρ) (I : Nat → σ → Prop) (Post : ρ → Prop)
    (hs : ∀ (i : Nat) s, i < n → I i s → (∃ r, Post r ∧ Ev (fun k => L k s (i : Int)) r) ∨ ∃ s', I (i + 1) s' ∧ ∀ r, Ev (fun k => L k s' ((i + 1 : Nat) : Int)) r → Ev (fun k => L k s (i : Int)) r)
    (he : ∀ s, I n s → ∃ r, Post r ∧ Ev (fun k => L k s (n : Int)) r) : ∀ (d i : Nat) s, i + d = n → I i s → ∃ r, Post r ∧ Ev (fun k => L k s (i : Int)) r
  | 0, i, s, hd, hI => by
    obtain rfl : i = n := by omega
    exact he s hI
  | d + 1, i, s, hd, hI => by
    rcases hs i s (by omega) hI with h | ⟨s', hI', h⟩
    · exact h
    · obtain ⟨r, hr, hE⟩ := loop_from n L I Post hs he d (i + 1) s' (by omega) hI'
      exact ⟨r, hr, h r hE⟩
theorem loop_up {σ ρ : Type} (n : Nat) (L : Nat → σ → Int → Option ρ) (I : Nat → σ → Prop) (Post : ρ → Prop)
    (hs : ∀ (i : Nat) s, i < n → I i s → (∃ r, Post r ∧ Ev (fun k => L k s (i : Int)) r) ∨ ∃ s', I (i + 1) s' ∧ ∀ r, Ev (fun k => L k s' ((i + 1 : Nat) : Int)) r → Ev (fun k => L k s (i : Int)) r)
    (he : ∀ s, I n s → ∃ r, Post r ∧ Ev (fun k => L k s (n : Int)) r) (s : σ) (h0 : I 0 s) : ∃ r, Post r ∧ Ev (fun k => L k s 0) r :=
  loop_from n L I Post hs he n 0 s (by omega) h0
/-- The same where one answer is told. -/
theorem loop_is {σ ρ : Type} (n : Nat) (L : Nat → σ → Int → Option ρ) (I : Nat → σ → Prop) (a : ρ)
    (hs : ∀ (i : Nat) s, i < n → I i s → Ev (fun k => L k s (i : Int)) a ∨ ∃ s', I (i + 1) s' ∧ ∀ r, Ev (fun k => L k s' ((i + 1 : Nat) : Int)) r → Ev (fun k => L k s (i : Int)) r)
    (he : ∀ s, I n s → Ev (fun k => L k s (n : Int)) a) (s : σ) (h0 : I 0 s) : Ev (fun k => L k s 0) a := by
  obtain ⟨r, hr, hE⟩ := loop_up n L I (· = a) (fun i s hi hI => (hs i s hi hI).imp (fun h => ⟨a, rfl, h⟩) id) (fun s hI => ⟨a, rfl, he s hI⟩) s h0
  exact hr ▸ hE
theorem ev_some {α : Type} {g : Nat → Option α} {r : α} (h : ∀ k, g k = some r) : Ev g r := ⟨0, fun k _ => h k⟩
theorem ev_next {α : Type} {g f : Nat → Option α} (h : ∀ k, g (k + 1) = f k) : ∀ r, Ev f r → Ev g r := fun _ k => Ev.step h k
theorem ev_end {α : Type} {g : Nat → Option α} {r : α} (h : ∀ k, g (k + 1) = some r) : Ev g r := Ev.step h (Ev.now r)
theorem ev_of {α : Type} {g : Nat → Option α} {r : α} {K : Nat} (h : ∀ k, K ≤ k → g k = some r) : Ev g r := ⟨K, h⟩
theorem ev_then1 {α : Type} {g : Nat → Option α} {r : α} (h : Ev g r) : Ev (fun k => (g k).bind fun t => some t) r := Ev.bind h (Ev.now r)
/-- what is bound comes to the same -/
theorem ev_bind_some {α β : Type} {a : α} {f : Nat → α → Option β} {r : β} (k : Ev (fun n => f n a) r) : Ev (fun n => (some a).bind (f n)) r := k

theorem take_set {α : Type} (l y : List α) (i : Nat) (v : α) (hl : y.length = l.length) (hi : i < l.length) (hv : v = l[i]) (h : y.take i = l.take i) : (y.set i v).take (i + 1) = l.take (i + 1) := by
  rw [List.take_succ_eq_append_getElem (by rw [List.length_set]; omega), List.take_succ_eq_append_getElem hi]
  congr 1
  · rw [List.take_set_of_le (by omega)]; exact h
  · simp [hv]
theorem take_all {α : Type} (l y : List α) (n : Nat) (hl : y.length = n) (hn : l.length = n) (h : y.take n = l.take n) : y = l := by
  rw [List.take_of_length_le (by omega), List.take_of_length_le (by omega)] at h
  exact h
theorem getD_get {α : Type} (l : List α) (i : Nat) (z : α) (h : i < l.length) : l.getD i z = l[i] := by
  rw [List.getD_eq_getElem?_getD, List.getElem?_eq_getElem h]; rfl
theorem map_loop {α β : Type} (L : Nat → List β → Int → Option (List β)) (l : List α) (c : α → β)
    (hs : ∀ (i : Nat) (h : i < l.length) y, y.length = l.length → ∀ r, Ev (fun k => L k (y.set i (c l[i])) ((i + 1 : Nat) : Int)) r → Ev (fun k => L k y (i : Int)) r)
    (he : ∀ k y, L (k + 1) y (l.length : Int) = some y) (y : List β) (hy : y.length = l.length) : Ev (fun k => L k y 0) (l.map c) := by
  refine loop_is l.length L (fun i y => y.length = l.length ∧ y.take i = (l.map c).take i) _ ?_ ?_ y ⟨hy, by simp⟩
  · intro i s hi ⟨h1, h2⟩
    exact .inr ⟨s.set i (c l[i]), ⟨by rw [List.length_set]; exact h1, take_set (l.map c) s i _ (by simpa using h1) (by simpa using hi) (by simp) h2⟩, hs i hi s h1⟩
  · intro s ⟨h1, h2⟩
    have e := take_all (l.map c) s l.length h1 (by simp) h2
    exact e ▸ ev_end (fun k => he k s)
theorem eq_loop (n : Nat) (L : Nat → Int → Option Bool) (hs : ∀ i : Nat, i < n → ∀ r, Ev (fun k => L k ((i + 1 : Nat) : Int)) r → Ev (fun k => L k (i : Int)) r) (he : ∀ k, L (k + 1) (n : Int) = some true) : Ev (fun k => L k 0) true :=
  loop_is n (fun k (_ : Unit) i => L k i) (fun _ _ => True) true (fun i _ hi _ => .inr ⟨(), trivial, hs i hi⟩) (fun _ _ => ev_end he) () trivial
theorem same_loop {α : Type} [DecidableEq α] (a b : List α) (hl : a.length = b.length) (L : Nat → Int → Option Bool)
    (hs : ∀ k (i : Nat) (h : i < a.length) (h' : i < b.length), L (k + 1) (i : Int) = if a[i] = b[i] then L k ((i + 1 : Nat) : Int) else some false) (he : ∀ k, L (k + 1) (a.length : Int) = some true) : Ev (fun k => L k 0) (decide (a = b)) := by
  refine loop_is a.length (fun k (_ : Unit) i => L k i) (fun i _ => a.take i = b.take i) _ ?_ ?_ () (by simp)
  · intro i _ hi hI
    have hi' : i < b.length := by omega
    by_cases c : a[i] = b[i]
    · refine .inr ⟨(), ?_, ev_next (fun k => ?_)⟩
      · rw [List.take_succ_eq_append_getElem hi, List.take_succ_eq_append_getElem hi', hI, c]
      · rw [hs k i hi hi', if_pos c]
    · left
      rw [decide_eq_false (fun e => c (by subst e; rfl))]
      exact ev_end (fun k => by rw [hs k i hi hi', if_neg c])
  · intro _ hI
    rw [List.take_length, hl, List.take_length] at hI
    rw [decide_eq_true hI]
    exact ev_end he
/-- numbers from c on -/
def cnt (c n : Nat) : List Int := (List.range n).map fun j => ((c + j : Nat) : Int)
theorem cnt_length (c n : Nat) : (cnt c n).length = n := by simp [cnt]
theorem cnt_get (c n i : Nat) (h : i < (cnt c n).length) : (cnt c n)[i] = ((c + i : Nat) : Int) := by simp [cnt]
theorem mark_loop (n c : Nat) (hc : c + n ≤ 4611686018427387904) (L : Nat → List Int × Int → Int → Option (Int × List Int))
    (hs : ∀ k (i : Nat) x (m : Nat), i < n → x.length = n → m ≤ 4611686018427387904 → L (k + 1) (x, (m : Int)) (i : Int) = L k (x.set i (m : Int), ((m + 1 : Nat) : Int)) ((i + 1 : Nat) : Int))
    (he : ∀ k x m, x.length = n → L (k + 1) (x, m) (n : Int) = some (m, x)) (x : List Int) (hx : x.length = n) : Ev (fun k => L k (x, (c : Int)) 0) (((c + n : Nat) : Int), cnt c n) := by
  refine loop_is n L (fun i s => s.1.length = n ∧ s.2 = ((c + i : Nat) : Int) ∧ s.1.take i = (cnt c n).take i) _ ?_ ?_ (x, (c : Int)) ⟨hx, by simp, by simp⟩
  · rintro i ⟨x, m⟩ hi ⟨h1, h2, h3⟩
    simp only at h1 h2 h3
    subst h2
    exact .inr ⟨(x.set i ((c + i : Nat) : Int), ((c + i + 1 : Nat) : Int)), ⟨by simpa using h1, rfl, take_set (cnt c n) x i _ (by rw [cnt_length]; exact h1) (by rw [cnt_length]; exact hi) (by rw [cnt_get]) h3⟩, ev_next (fun k => hs k i x (c + i) hi h1 (by omega))⟩
  · rintro ⟨x, m⟩ ⟨h1, h2, h3⟩
    simp only at h1 h2 h3
    have e := take_all (cnt c n) x n h1 (cnt_length c n) h3
    subst h2 e
    exact ev_end (fun k => he k _ _ h1)
theorem held_loop (n c : Nat) (hc : c + n ≤ 4611686018427387904) (L : Nat → Int → Int → Option Int)
    (hs : ∀ k (i : Nat), i < n → L (k + 1) ((c + i : Nat) : Int) (i : Int) = L k ((c + i + 1 : Nat) : Int) ((i + 1 : Nat) : Int))
    (he : ∀ k m, L (k + 1) m (n : Int) = some m) : Ev (fun k => L k (c : Int) 0) ((c + n : Nat) : Int) := by
  refine loop_is n L (fun i s => s = ((c + i : Nat) : Int)) _ ?_ ?_ (c : Int) (by simp)
  · rintro i _ hi rfl
    exact .inr ⟨((c + i + 1 : Nat) : Int), rfl, ev_next (fun k => hs k i hi)⟩
  · rintro _ rfl
    exact ev_end (fun k => he k _)
/-- marking rows of several numbers: how far it counts -/
theorem count_loop {α : Type} (n c w : Nat) (L : Nat → List α × Int → Int → Option (Int × List α))
    (hs : ∀ (i : Nat) x (m : Nat), i < n → x.length = n → m ≤ c + w * n → ∃ x' : List α, x'.length = n ∧ ∀ k, L (k + 1) (x, (m : Int)) (i : Int) = L k (x', ((m + w : Nat) : Int)) ((i + 1 : Nat) : Int))
    (he : ∀ k x m, x.length = n → L (k + 1) (x, m) (n : Int) = some (m, x)) (x : List α) (hx : x.length = n) : ∃ x', Ev (fun k => L k (x, (c : Int)) 0) (((c + w * n : Nat) : Int), x') := by
  obtain ⟨r, hr, hE⟩ := loop_up n L (fun i s => s.1.length = n ∧ s.2 = ((c + w * i : Nat) : Int)) (fun r : Int × List α => r.1 = ((c + w * n : Nat) : Int)) (by
    rintro i ⟨x, m⟩ hi ⟨h1, h2⟩
    simp only at h1 h2
    subst h2
    have hle : w * i ≤ w * n := Nat.mul_le_mul_left _ (by omega)
    obtain ⟨x', g1, g2⟩ := hs i x (c + w * i) hi h1 (by omega)
    exact .inr ⟨(x', ((c + w * i + w : Nat) : Int)), ⟨g1, by simp only [Nat.mul_add, Nat.mul_one, Nat.add_assoc]⟩, ev_next g2⟩) (by
    rintro ⟨x, m⟩ ⟨h1, h2⟩
    simp only at h1 h2
    subst h2
    exact ⟨_, rfl, ev_end (fun k => he k _ _ h1)⟩) (x, (c : Int)) ⟨hx, by simp⟩
  obtain ⟨a, b⟩ := r
  simp only at hr
  subst hr
  exact ⟨b, hE⟩

end Go.Proofs.YtohjpgcmhihdhaaGreatDoor.Pure
