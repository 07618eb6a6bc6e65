/- Walks and plain laws of one claim, several texts in one. -/
import Derived.Test.YtohjpgcmhihdhaaWBMore
import Derived.Test.YtohjpgcmhihdhaaQ0
import Derived.Test.YtohjpgcmhihdhaaQf33
import Derived.Test.YtohjpgcmhihdhaaQf53
import Derived.Test.YtohjpgcmhihdhaaQf68
import Derived.Laws.BitsLemmas
import Derived.Test.YtohjpgcmhihdhaaQf36
import Derived.Test.YtohjpgcmhihdhaaQf41
import Derived.Test.YtohjpgcmhihdhaaQf10
import Derived.Test.YtohjpgcmhihdhaaMFnAparta
import Derived.Test.YtohjpgcmhihdhaaQf21
import Derived.Test.YtohjpgcmhihdhaaQf37
import Derived.Test.YtohjpgcmhihdhaaQf24
import Derived.Test.YtohjpgcmhihdhaaQf40
import Derived.Test.YtohjpgcmhihdhaaMFnApartc
import Derived.Test.YtohjpgcmhihdhaaQf51
import Derived.Test.YtohjpgcmhihdhaaQf31
import Derived.Test.YtohjpgcmhihdhaaQf52
import Derived.Test.YtohjpgcmhihdhaaQf30
import Derived.Test.YtohjpgcmhihdhaaQf50
import Derived.Test.YtohjpgcmhihdhaaOSort
import Derived.Test.YtohjpgcmhihdhaaQf29
import Derived.Test.YtohjpgcmhihdhaaQf32
import Derived.Test.YtohjpgcmhihdhaaQf94
import Derived.Test.YtohjpgcmhihdhaaQf93
import Derived.Test.YtohjpgcmhihdhaaQf82
import Derived.Test.YtohjpgcmhihdhaaQf91
import Derived.Test.YtohjpgcmhihdhaaQf69
import Derived.Test.YtohjpgcmhihdhaaQf58
import Derived.Test.YtohjpgcmhihdhaaQf55
import Derived.Test.YtohjpgcmhihdhaaQf70
import Derived.Test.YtohjpgcmhihdhaaQf59
import Derived.Test.YtohjpgcmhihdhaaQf44
import Derived.Test.YtohjpgcmhihdhaaQf45
import Derived.Test.YtohjpgcmhihdhaaQf60
import Derived.Test.YtohjpgcmhihdhaaQf26
import Derived.Test.YtohjpgcmhihdhaaQf43
import Derived.Test.YtohjpgcmhihdhaaQf42
import Derived.Test.YtohjpgcmhihdhaaQf18
import Derived.Test.YtohjpgcmhihdhaaQf34
import Derived.Test.YtohjpgcmhihdhaaMFnApartb
namespace Go.Proofs.Ytohjpgcmhihdhaa.Pure
open Go.RowKit Go.Proofs.YtohjpgcmhihdhaaW.PrintWords Go.Proofs.YtohjpgcmhihdhaaW.PrintLast Go.Proofs.YtohjpgcmhihdhaaW.PrintMore
set_option linter.unusedVariables false
set_option linter.unusedSimpArgs false
theorem up64 (i n : Nat) (h : i < n) (hn : n ≤ 9223372036854775807) : wrap64 ((i : Int) + 1) = ((i + 1 : Nat) : Int) := by unfold wrap64; omega
/-- A loop over i from 0 to n: an invariant, and what is known of the answer. -/
theorem loop_from {σ ρ : Type} (n : Nat) (L : Nat → σ → Int → Option ρ) (I : Nat → σ → Prop) (Post : ρ → Prop)
    (hs : ∀ (i : Nat) s, i < n → I i s → (∃ r, Post r ∧ Ev (fun k => L k s (i : Int)) r) ∨ ∃ s', I (i + 1) s' ∧ ∀ r, Ev (fun k => L k s' ((i + 1 : Nat) : Int)) r → Ev (fun k => L k s (i : Int)) r)
    (he : ∀ s, I n s → ∃ r, Post r ∧ Ev (fun k => L k s (n : Int)) r) : ∀ (d i : Nat) s, i + d = n → I i s → ∃ r, Post r ∧ Ev (fun k => L k s (i : Int)) r
  | 0, i, s, hd, hI => by
    obtain rfl : i = n := by omega
    exact he s hI
  | d + 1, i, s, hd, hI => by
    rcases hs i s (by omega) hI with h | ⟨s', hI', h⟩
    · exact h
    · obtain ⟨r, hr, hE⟩ := loop_from n L I Post hs he d (i + 1) s' (by omega) hI'
      exact ⟨r, hr, h r hE⟩
theorem loop_up {σ ρ : Type} (n : Nat) (L : Nat → σ → Int → Option ρ) (I : Nat → σ → Prop) (Post : ρ → Prop)
    (hs : ∀ (i : Nat) s, i < n → I i s → (∃ r, Post r ∧ Ev (fun k => L k s (i : Int)) r) ∨ ∃ s', I (i + 1) s' ∧ ∀ r, Ev (fun k => L k s' ((i + 1 : Nat) : Int)) r → Ev (fun k => L k s (i : Int)) r)
    (he : ∀ s, I n s → ∃ r, Post r ∧ Ev (fun k => L k s (n : Int)) r) (s : σ) (h0 : I 0 s) : ∃ r, Post r ∧ Ev (fun k => L k s 0) r :=
  loop_from n L I Post hs he n 0 s (by omega) h0
/-- The same where one answer is told. -/
theorem loop_is {σ ρ : Type} (n : Nat) (L : Nat → σ → Int → Option ρ) (I : Nat → σ → Prop) (a : ρ)
    (hs : ∀ (i : Nat) s, i < n → I i s → Ev (fun k => L k s (i : Int)) a ∨ ∃ s', I (i + 1) s' ∧ ∀ r, Ev (fun k => L k s' ((i + 1 : Nat) : Int)) r → Ev (fun k => L k s (i : Int)) r)
    (he : ∀ s, I n s → Ev (fun k => L k s (n : Int)) a) (s : σ) (h0 : I 0 s) : Ev (fun k => L k s 0) a := by
  obtain ⟨r, hr, hE⟩ := loop_up n L I (· = a) (fun i s hi hI => (hs i s hi hI).imp (fun h => ⟨a, rfl, h⟩) id) (fun s hI => ⟨a, rfl, he s hI⟩) s h0
  exact hr ▸ hE
theorem ev_some {α : Type} {g : Nat → Option α} {r : α} (h : ∀ k, g k = some r) : Ev g r := ⟨0, fun k _ => h k⟩
theorem ev_next {α : Type} {g f : Nat → Option α} (h : ∀ k, g (k + 1) = f k) : ∀ r, Ev f r → Ev g r := fun _ k => Ev.step h k
theorem ev_end {α : Type} {g : Nat → Option α} {r : α} (h : ∀ k, g (k + 1) = some r) : Ev g r := Ev.step h (Ev.now r)
theorem ev_of {α : Type} {g : Nat → Option α} {r : α} {K : Nat} (h : ∀ k, K ≤ k → g k = some r) : Ev g r := ⟨K, h⟩
theorem ev_then1 {α : Type} {g : Nat → Option α} {r : α} (h : Ev g r) : Ev (fun k => (g k).bind fun t => some t) r := Ev.bind h (Ev.now r)
/-- what is bound comes to the same -/
theorem ev_bind_some {α β : Type} {a : α} {f : Nat → α → Option β} {r : β} (k : Ev (fun n => f n a) r) : Ev (fun n => (some a).bind (f n)) r := k

theorem take_set {α : Type} (l y : List α) (i : Nat) (v : α) (hl : y.length = l.length) (hi : i < l.length) (hv : v = l[i]) (h : y.take i = l.take i) : (y.set i v).take (i + 1) = l.take (i + 1) := by
  rw [List.take_succ_eq_append_getElem (by rw [List.length_set]; omega), List.take_succ_eq_append_getElem hi]
  congr 1
  · rw [List.take_set_of_le (by omega)]; exact h
  · simp [hv]
theorem take_all {α : Type} (l y : List α) (n : Nat) (hl : y.length = n) (hn : l.length = n) (h : y.take n = l.take n) : y = l := by
  rw [List.take_of_length_le (by omega), List.take_of_length_le (by omega)] at h
  exact h
theorem getD_get {α : Type} (l : List α) (i : Nat) (z : α) (h : i < l.length) : l.getD i z = l[i] := by
  rw [List.getD_eq_getElem?_getD, List.getElem?_eq_getElem h]; rfl
theorem map_loop {α β : Type} (L : Nat → List β → Int → Option (List β)) (l : List α) (c : α → β)
    (hs : ∀ (i : Nat) (h : i < l.length) y, y.length = l.length → ∀ r, Ev (fun k => L k (y.set i (c l[i])) ((i + 1 : Nat) : Int)) r → Ev (fun k => L k y (i : Int)) r)
    (he : ∀ k y, L (k + 1) y (l.length : Int) = some y) (y : List β) (hy : y.length = l.length) : Ev (fun k => L k y 0) (l.map c) := by
  refine loop_is l.length L (fun i y => y.length = l.length ∧ y.take i = (l.map c).take i) _ ?_ ?_ y ⟨hy, by simp⟩
  · intro i s hi ⟨h1, h2⟩
    exact .inr ⟨s.set i (c l[i]), ⟨by rw [List.length_set]; exact h1, take_set (l.map c) s i _ (by simpa using h1) (by simpa using hi) (by simp) h2⟩, hs i hi s h1⟩
  · intro s ⟨h1, h2⟩
    have e := take_all (l.map c) s l.length h1 (by simp) h2
    exact e ▸ ev_end (fun k => he k s)
theorem eq_loop (n : Nat) (L : Nat → Int → Option Bool) (hs : ∀ i : Nat, i < n → ∀ r, Ev (fun k => L k ((i + 1 : Nat) : Int)) r → Ev (fun k => L k (i : Int)) r) (he : ∀ k, L (k + 1) (n : Int) = some true) : Ev (fun k => L k 0) true :=
  loop_is n (fun k (_ : Unit) i => L k i) (fun _ _ => True) true (fun i _ hi _ => .inr ⟨(), trivial, hs i hi⟩) (fun _ _ => ev_end he) () trivial
theorem same_loop {α : Type} [DecidableEq α] (a b : List α) (hl : a.length = b.length) (L : Nat → Int → Option Bool)
    (hs : ∀ k (i : Nat) (h : i < a.length) (h' : i < b.length), L (k + 1) (i : Int) = if a[i] = b[i] then L k ((i + 1 : Nat) : Int) else some false) (he : ∀ k, L (k + 1) (a.length : Int) = some true) : Ev (fun k => L k 0) (decide (a = b)) := by
  refine loop_is a.length (fun k (_ : Unit) i => L k i) (fun i _ => a.take i = b.take i) _ ?_ ?_ () (by simp)
  · intro i _ hi hI
    have hi' : i < b.length := by omega
    by_cases c : a[i] = b[i]
    · refine .inr ⟨(), ?_, ev_next (fun k => ?_)⟩
      · rw [List.take_succ_eq_append_getElem hi, List.take_succ_eq_append_getElem hi', hI, c]
      · rw [hs k i hi hi', if_pos c]
    · left
      rw [decide_eq_false (fun e => c (by subst e; rfl))]
      exact ev_end (fun k => by rw [hs k i hi hi', if_neg c])
  · intro _ hI
    rw [List.take_length, hl, List.take_length] at hI
    rw [decide_eq_true hI]
    exact ev_end he
/-- numbers from c on -/
def cnt (c n : Nat) : List Int := (List.range n).map fun j => ((c + j : Nat) : Int)
theorem cnt_length (c n : Nat) : (cnt c n).length = n := by simp [cnt]
theorem cnt_get (c n i : Nat) (h : i < (cnt c n).length) : (cnt c n)[i] = ((c + i : Nat) : Int) := by simp [cnt]
theorem mark_loop (n c : Nat) (hc : c + n ≤ 4611686018427387904) (L : Nat → List Int × Int → Int → Option (Int × List Int))
    (hs : ∀ k (i : Nat) x (m : Nat), i < n → x.length = n → m ≤ 4611686018427387904 → L (k + 1) (x, (m : Int)) (i : Int) = L k (x.set i (m : Int), ((m + 1 : Nat) : Int)) ((i + 1 : Nat) : Int))
    (he : ∀ k x m, x.length = n → L (k + 1) (x, m) (n : Int) = some (m, x)) (x : List Int) (hx : x.length = n) : Ev (fun k => L k (x, (c : Int)) 0) (((c + n : Nat) : Int), cnt c n) := by
  refine loop_is n L (fun i s => s.1.length = n ∧ s.2 = ((c + i : Nat) : Int) ∧ s.1.take i = (cnt c n).take i) _ ?_ ?_ (x, (c : Int)) ⟨hx, by simp, by simp⟩
  · rintro i ⟨x, m⟩ hi ⟨h1, h2, h3⟩
    simp only at h1 h2 h3
    subst h2
    exact .inr ⟨(x.set i ((c + i : Nat) : Int), ((c + i + 1 : Nat) : Int)), ⟨by simpa using h1, rfl, take_set (cnt c n) x i _ (by rw [cnt_length]; exact h1) (by rw [cnt_length]; exact hi) (by rw [cnt_get]) h3⟩, ev_next (fun k => hs k i x (c + i) hi h1 (by omega))⟩
  · rintro ⟨x, m⟩ ⟨h1, h2, h3⟩
    simp only at h1 h2 h3
    have e := take_all (cnt c n) x n h1 (cnt_length c n) h3
    subst h2 e
    exact ev_end (fun k => he k _ _ h1)
theorem held_loop (n c : Nat) (hc : c + n ≤ 4611686018427387904) (L : Nat → Int → Int → Option Int)
    (hs : ∀ k (i : Nat), i < n → L (k + 1) ((c + i : Nat) : Int) (i : Int) = L k ((c + i + 1 : Nat) : Int) ((i + 1 : Nat) : Int))
    (he : ∀ k m, L (k + 1) m (n : Int) = some m) : Ev (fun k => L k (c : Int) 0) ((c + n : Nat) : Int) := by
  refine loop_is n L (fun i s => s = ((c + i : Nat) : Int)) _ ?_ ?_ (c : Int) (by simp)
  · rintro i _ hi rfl
    exact .inr ⟨((c + i + 1 : Nat) : Int), rfl, ev_next (fun k => hs k i hi)⟩
  · rintro _ rfl
    exact ev_end (fun k => he k _)
/-- marking rows of several numbers: how far it counts -/
theorem count_loop {α : Type} (n c w : Nat) (L : Nat → List α × Int → Int → Option (Int × List α))
    (hs : ∀ (i : Nat) x (m : Nat), i < n → x.length = n → m ≤ c + w * n → ∃ x' : List α, x'.length = n ∧ ∀ k, L (k + 1) (x, (m : Int)) (i : Int) = L k (x', ((m + w : Nat) : Int)) ((i + 1 : Nat) : Int))
    (he : ∀ k x m, x.length = n → L (k + 1) (x, m) (n : Int) = some (m, x)) (x : List α) (hx : x.length = n) : ∃ x', Ev (fun k => L k (x, (c : Int)) 0) (((c + w * n : Nat) : Int), x') := by
  obtain ⟨r, hr, hE⟩ := loop_up n L (fun i s => s.1.length = n ∧ s.2 = ((c + w * i : Nat) : Int)) (fun r : Int × List α => r.1 = ((c + w * n : Nat) : Int)) (by
    rintro i ⟨x, m⟩ hi ⟨h1, h2⟩
    simp only at h1 h2
    subst h2
    have hle : w * i ≤ w * n := Nat.mul_le_mul_left _ (by omega)
    obtain ⟨x', g1, g2⟩ := hs i x (c + w * i) hi h1 (by omega)
    exact .inr ⟨(x', ((c + w * i + w : Nat) : Int)), ⟨g1, by simp only [Nat.mul_add, Nat.mul_one, Nat.add_assoc]⟩, ev_next g2⟩) (by
    rintro ⟨x, m⟩ ⟨h1, h2⟩
    simp only at h1 h2
    subst h2
    exact ⟨_, rfl, ev_end (fun k => he k _ _ h1)⟩) (x, (c : Int)) ⟨hx, by simp⟩
  obtain ⟨a, b⟩ := r
  simp only at hr
  subst hr
  exact ⟨b, hE⟩

end Go.Proofs.Ytohjpgcmhihdhaa.Pure

namespace Go.Proofs.Ytohjpgcmhihdhaa.Pure
open Go.RowKit Go.Proofs.Ytohjpgcmhihdhaa.Q Go.Proofs.YtohjpgcmhihdhaaW.PrintWords Go.Proofs.YtohjpgcmhihdhaaW.PrintLast Go.Proofs.YtohjpgcmhihdhaaW.PrintMore
set_option linter.unusedVariables false
set_option linter.unusedSimpArgs false
theorem rd_get (l : List Int) (i : Nat) (h : i < l.length) : rd l (i : Int) = l[i] := by
  unfold rd
  rw [Int.toNat_natCast, getD_get l i 0 h]

theorem rd_dev (l : List S34) (i : Nat) (h : i < l.length) : rd_T34 l (i : Int) = l[i] := by
  unfold rd_T34
  rw [Int.toNat_natCast, getD_get l i _ h]
theorem rd_bkt (l : List S70) (i : Nat) (h : i < l.length) : rd_T70 l (i : Int) = l[i] := by
  unfold rd_T70
  rw [Int.toNat_natCast, getD_get l i _ h]

/-- a loop that asks each place in turn -/
theorem all_loop (n : Nat) (L : Nat → Int → Option Bool) (c : Nat → Bool) (ht : ∀ i : Nat, i < n → c i = true → ∀ r, Ev (fun k => L k ((i + 1 : Nat) : Int)) r → Ev (fun k => L k (i : Int)) r)
    (hf : ∀ i : Nat, i < n → c i = false → Ev (fun k => L k (i : Int)) false) (he : ∀ k, L (k + 1) (n : Int) = some true) : Ev (fun k => L k 0) ((List.range n).all c) := by
  refine loop_is n (fun k (_ : Unit) i => L k i) (fun i _ => ∀ j, j < i → c j = true) _ ?_ ?_ () (fun j hj => absurd hj (Nat.not_lt_zero j))
  · intro i _ hi hI
    cases hc : c i with
    | true =>
      refine .inr ⟨(), fun j hj => ?_, ht i hi hc⟩
      rcases Nat.lt_succ_iff_lt_or_eq.1 hj with h | h
      · exact hI j h
      · rw [h]; exact hc
    | false =>
      left
      have e : (List.range n).all c = false := by
        rw [List.all_eq_false]
        exact ⟨i, by simpa using hi, by simp [hc]⟩
      rw [e]
      exact hf i hi hc
  · intro _ hI
    have e : (List.range n).all c = true := by
      rw [List.all_eq_true]
      intro j hj
      exact hI j (by simpa using hj)
    rw [e]
    exact ev_end he
/-- the index of a device -/
def devAt (D : List S34) (id : Int) : Int := idxFrom (fun x : S34 => x.f0 == id) D 0
theorem idx_step {α : Type} (p : α → Bool) (l : List α) (i : Nat) (hi : i < l.length) : idxFrom p (l.drop i) i = if p l[i] = true then (i : Int) else idxFrom p (l.drop (i + 1)) ((i + 1 : Nat) : Int) := by
  rw [List.drop_eq_getElem_cons hi]
  rfl
/-! numbers, each once -/
theorem mem_addOnce (acc : List Int) (x y : Int) : y ∈ addOnce acc x ↔ y ∈ acc ∨ y = x := by
  unfold addOnce
  split
  · rename_i h
    rw [List.any_eq_true] at h
    obtain ⟨z, hz, he⟩ := h
    have : z = x := by simpa using he
    subst this
    constructor
    · exact .inl
    · rintro (h | rfl)
      · exact h
      · exact hz
  · simp
theorem mem_fold_once : ∀ (S acc : List Int) (y : Int), y ∈ S.foldl addOnce acc ↔ y ∈ acc ∨ y ∈ S
  | [], acc, y => by simp
  | x :: S, acc, y => by
    rw [List.foldl_cons, mem_fold_once S, mem_addOnce]
    simp only [List.mem_cons]
    constructor
    · rintro ((h | h) | h)
      · exact .inl h
      · exact .inr (.inl h)
      · exact .inr (.inr h)
    · rintro (h | h | h)
      · exact .inl (.inl h)
      · exact .inl (.inr h)
      · exact .inr h
theorem nodup_addOnce (acc : List Int) (x : Int) (h : acc.Nodup) : (addOnce acc x).Nodup := by
  unfold addOnce
  split
  · exact h
  · rename_i hn
    rw [List.nodup_append]
    refine ⟨h, by simp, fun a ha b hb => ?_⟩
    simp only [List.mem_singleton] at hb
    subst hb
    intro e
    subst e
    exact hn (by rw [List.any_eq_true]; exact ⟨a, ha, by simp⟩)
theorem nodup_fold_once : ∀ (S acc : List Int), acc.Nodup → (S.foldl addOnce acc).Nodup
  | [], _, h => h
  | x :: S, acc, h => nodup_fold_once S _ (nodup_addOnce acc x h)
theorem mem_once (S : List Int) (y : Int) : y ∈ onceOf S ↔ y ∈ S := by
  unfold onceOf
  rw [mem_fold_once]
  simp
theorem nodup_once (S : List Int) : (onceOf S).Nodup := nodup_fold_once S [] List.nodup_nil
theorem once_one (S : List Int) : (onceOf S).length ≤ 1 ↔ ∀ x ∈ S, ∀ y ∈ S, x = y := by
  have hm := mem_once S
  have hn := nodup_once S
  generalize onceOf S = T at hm hn
  constructor
  · intro h x hx y hy
    match T, h with
    | [], _ => have := (hm x).2 hx; simp at this
    | [z], _ =>
      have h1 := (hm x).2 hx
      have h2 := (hm y).2 hy
      simp only [List.mem_singleton] at h1 h2
      rw [h1, h2]
  · intro h
    match T, hn with
    | [], _ => simp
    | [z], _ => simp
    | z :: z' :: T', hn =>
      have h1 := (hm z).1 (by simp)
      have h2 := (hm z').1 (by simp)
      have e := h z h1 z' h2
      subst e
      simp at hn

/-! devices -/
def devStep (D : List S34) (i : Nat) : Bool := inB (rd_T34 D i).f0 0 15 && inB (rd_T34 D i).f1 0 8 && !(decide (0 < i) && decide ((rd_T34 D i).f0 ≤ (rd_T34 D ((i : Int) - 1)).f0))
def devsB (D : List S34) : Bool := (List.range D.length).all (devStep D) && decide (D.length ≤ 16)
theorem wrap_down (i : Nat) (h : 0 < i) (hn : i ≤ 9223372036854775807) : wrap64 ((i : Int) - 1) = (i : Int) - 1 := by unfold wrap64; omega
theorem isNode_inB (a : Int) : impl_isNode.f a = some (inB a 0 15) := by
  unfold impl_isNode.f
  rw [between_inB]; rfl
theorem impl_devs_ev (D : List S34) (B : List S70) (hD : D.length ≤ 9223372036854775807) : Ev (fun k => impl_Tree_devicesOk.f k D B) (devsB D) := by
  have hu : ∀ (i : Nat), i < D.length → ∀ k, impl_Tree_devicesOk.l0 (k + 1) D D.length i D B = if devStep D i = true then impl_Tree_devicesOk.l0 k D D.length ((i + 1 : Nat) : Int) D B else some false := fun i hi k => by
    simp only [impl_Tree_devicesOk.l0]
    rw [if_pos (by omega), if_pos (by omega), if_pos (by omega), isNode_inB, up64 i D.length hi hD]
    simp only [Option.bind_some, between_inB]
    unfold devStep
    cases inB (rd_T34 D i).f0 0 15 with
    | false => simp
    | true =>
      by_cases c : 0 < i
      · rw [if_pos rfl, if_pos (by omega), wrap_down i c (by omega), if_pos (by omega), if_pos (by omega)]
        by_cases c2 : (rd_T34 D i).f0 ≤ (rd_T34 D ((i : Int) - 1)).f0
        · simp [c, c2]
        · cases inB (rd_T34 D i).f1 0 8 <;> simp [c, c2]
      · rw [if_pos rfl, if_neg (by omega)]
        cases inB (rd_T34 D i).f1 0 8 <;> simp [c]
  refine loop_is D.length (fun k (_ : Unit) i => impl_Tree_devicesOk.l0 k D D.length i D B) (fun i _ => ∀ j, j < i → devStep D j = true) _ ?_ ?_ () (fun j hj => absurd hj (Nat.not_lt_zero j))
  · intro i _ hi hI
    cases hc : devStep D i with
    | true =>
      refine .inr ⟨(), fun j hj => ?_, ev_next (fun k => by rw [hu i hi k, if_pos hc])⟩
      rcases Nat.lt_succ_iff_lt_or_eq.1 hj with h | h
      · exact hI j h
      · rw [h]; exact hc
    | false =>
      left
      have e : devsB D = false := by
        unfold devsB
        have : (List.range D.length).all (devStep D) = false := by
          rw [List.all_eq_false]
          exact ⟨i, by simpa using hi, by simp [hc]⟩
        rw [this, Bool.false_and]
      rw [e]
      exact ev_end (fun k => by rw [hu i hi k, if_neg (by rw [hc]; decide)])
  · intro _ hI
    have e : devsB D = decide ((D.length : Int) ≤ 16) := by
      unfold devsB
      have : (List.range D.length).all (devStep D) = true := by
        rw [List.all_eq_true]
        intro j hj
        exact hI j (by simpa using hj)
      rw [this, Bool.true_and]
      exact decide_eq_decide.2 (by omega)
    rw [e]
    exact ev_end (fun k => by simp only [impl_Tree_devicesOk.l0]; rw [if_neg (by omega)])
/-! buckets -/
def bktStep (B : List S70) (i : Nat) : Bool := inB (rd_T70 B i).f0 (-12) (-1) && inB (rd_T70 B i).f1 1 3 && decide ((rd_T70 B i).f2.length ≤ 8) && !(decide (0 < i) && decide ((rd_T70 B ((i : Int) - 1)).f0 ≤ (rd_T70 B i).f0))
def bktsB (B : List S70) : Bool := (List.range B.length).all (bktStep B) && decide (B.length ≤ 12)
/-! nothing twice -/
def onceGo (B : List S70) : Nat → Int → List Int → Bool
  | 0, _, _ => true
  | d + 1, i, u => match useGo u (rd_T70 B i).f2 with | some u' => onceGo B d (i + 1) u' | none => false
def onceTail (B : List S70) (d : Nat) (i : Int) (u items : List Int) : Bool := match useGo u items with | some u' => onceGo B d (i + 1) u' | none => false
def onceB (B : List S70) : Bool := onceGo B B.length 0 []
theorem useGo_cons (u : List Int) (x : Int) (xs : List Int) : useGo u (x :: xs) = if (u.any fun y => y == x) = true then none else useGo (u ++ [x]) xs := rfl
theorem useGo_length : ∀ (items u u' : List Int), useGo u items = some u' → u' = u ++ items
  | [], u, u', h => by simp only [useGo, Option.some.injEq] at h; simp [h]
  | x :: xs, u, u', h => by
    unfold useGo at h
    split at h
    · cases h
    · rw [useGo_length xs _ _ h]; simp
/-! what lies in a bucket -/
def fitOne (D : List S34) (B : List S70) (kd : Int) (items : List Int) (x : Int) : Bool := if kd < 3 then kindAt D B x == kd - 1 else kindAt D B x == kindAt D B (rd items 0) && (kindAt D B x == 1 || kindAt D B x == 2)
def fitsB (D : List S34) (B : List S70) (kd : Int) (items : List Int) : Bool := (List.range items.length).all fun j => fitOne D B kd items (rd items j)
theorem range_all (items : List Int) (p : Int → Bool) : ((List.range items.length).all fun j => p (rd items j)) = items.all p := by
  rw [Bool.eq_iff_iff, List.all_eq_true, List.all_eq_true]
  constructor
  · intro h x hx
    obtain ⟨j, hj, rfl⟩ := List.mem_iff_getElem.1 hx
    have := h j (by simpa using hj)
    rwa [rd_get items j hj] at this
  · intro h j hj
    have hj' : j < items.length := by simpa using hj
    rw [rd_get items j hj']
    exact h _ (List.getElem_mem hj')
theorem fits_items (D : List S34) (B : List S70) (kd : Int) (items : List Int) (h1 : 1 ≤ kd) (h3 : kd ≤ 3) : fitsB D B kd items = itemsOkB D B kd items := by
  unfold fitsB itemsOkB
  rw [range_all items (fitOne D B kd items)]
  have hw : wrap64 (kd - 1) = kd - 1 := by unfold wrap64; omega
  rw [hw]
  match items with
  | [] => simp
  | x :: xs =>
    rw [if_neg (by simp)]
    have ho := once_one ((x :: xs).map (kindAt D B))
    have hhead : rd (x :: xs) 0 = x := rfl
    unfold fitOne
    rw [hhead]
    have hm : ∀ y, y ∈ (x :: xs).map (kindAt D B) ↔ ∃ z ∈ x :: xs, kindAt D B z = y := fun y => List.mem_map
    generalize hS : (x :: xs).map (kindAt D B) = S at ho hm
    by_cases c1 : 1 < (onceOf S).length
    · rw [if_pos c1]
      rw [Bool.eq_false_iff]
      intro hall
      rw [List.all_eq_true] at hall
      refine absurd (ho.2 ?_) (by omega)
      intro a ha b hb
      obtain ⟨p, hp, rfl⟩ := (hm a).1 ha
      obtain ⟨q, hq, rfl⟩ := (hm b).1 hb
      have h1 := hall p hp
      have h2 := hall q hq
      by_cases ck : kd < 3
      · rw [if_pos ck] at h1 h2
        rw [eq_of_beq h1, eq_of_beq h2]
      · rw [if_neg ck, Bool.and_eq_true] at h1 h2
        rw [eq_of_beq h1.1, eq_of_beq h2.1]
    · rw [if_neg c1]
      have hsame := ho.1 (by omega)
      have hx : kindAt D B x ∈ S := (hm _).2 ⟨x, by simp, rfl⟩
      have hall : ∀ z ∈ x :: xs, kindAt D B z = kindAt D B x := fun z hz => hsame _ ((hm _).2 ⟨z, hz, rfl⟩) _ hx
      have hany : ∀ v : Int, (S.any fun y => y == v) = (kindAt D B x == v) := fun v => by
        rw [Bool.eq_iff_iff, List.any_eq_true]
        constructor
        · rintro ⟨y, hy, e⟩
          rw [hsame _ hx y hy]; exact e
        · intro e
          exact ⟨_, hx, e⟩
      rw [hany, hany, hany]
      by_cases ck : kd < 3
      · rw [if_neg (show ¬ kd = 3 by omega), Bool.eq_iff_iff, List.all_eq_true]
        constructor
        · intro h
          have := h x (by simp)
          rwa [if_pos ck] at this
        · intro h z hz
          rw [if_pos ck, hall z hz]; exact h
      · rw [if_pos (show kd = 3 by omega), Bool.eq_iff_iff, List.all_eq_true]
        constructor
        · intro h
          have := h x (by simp)
          rw [if_neg ck, Bool.and_eq_true] at this
          exact this.2
        · intro h z hz
          rw [if_neg ck, hall z hz, Bool.and_eq_true]
          exact ⟨by simp, h⟩
/-! the whole -/
def allB (D : List S34) (B : List S70) : Nat → Int → Bool
  | 0, _ => true
  | d + 1, i => bktB D B i && allB D B d (i + 1)
theorem treeGo_parts (D : List S34) (B : List S70) : ∀ (d : Nat) (i : Int) (u : List Int), treeGo D B d i u = (allB D B d i && onceGo B d i u)
  | 0, _, _ => rfl
  | d + 1, i, u => by
    have ht : treeGo D B (d + 1) i u = if bktB D B i = true then (match useGo u (rd_T70 B i).f2 with | some u' => treeGo D B d (i + 1) u' | none => false) else false := rfl
    have ho : onceGo B (d + 1) i u = match useGo u (rd_T70 B i).f2 with | some u' => onceGo B d (i + 1) u' | none => false := rfl
    have ha : allB D B (d + 1) i = (bktB D B i && allB D B d (i + 1)) := rfl
    rw [ht, ho, ha]
    cases bktB D B i with
    | false => rfl
    | true =>
      cases useGo u (rd_T70 B i).f2 with
      | none => simp
      | some u' => simp [treeGo_parts D B d (i + 1) u']
theorem allB_all (D : List S34) (B : List S70) : ∀ (d i : Nat), allB D B d i = true ↔ ∀ j, i ≤ j → j < i + d → bktB D B j = true
  | 0, i => by simp [allB]; intro j h1 h2; omega
  | d + 1, i => by
    have ha : allB D B (d + 1) i = (bktB D B i && allB D B d ((i + 1 : Nat) : Int)) := rfl
    rw [ha, Bool.and_eq_true, allB_all D B d (i + 1)]
    constructor
    · rintro ⟨h1, h2⟩ j hj1 hj2
      by_cases e : j = i
      · subst e; exact h1
      · exact h2 j (by omega) (by omega)
    · intro h
      exact ⟨h i (by omega) (by omega), fun j h1 h2 => h j (by omega) (by omega)⟩
theorem bktB_parts (D : List S34) (B : List S70) (i : Nat) : bktB D B i = (bktStep B i && itemsOkB D B (rd_T70 B i).f1 (rd_T70 B i).f2) := by
  unfold bktB bktStep
  have e : decide ((0 : Int) < (i : Int)) = decide (0 < i) := decide_eq_decide.2 (by omega)
  rw [e]
  cases inB (rd_T70 B i).f0 (-12) (-1) <;> cases inB (rd_T70 B i).f1 1 3 <;> cases decide (0 < i) <;> cases decide ((rd_T70 B ((i : Int) - 1)).f0 ≤ (rd_T70 B i).f0) <;> cases decide ((rd_T70 B i).f2.length ≤ 8) <;> rfl
/-- is a topology valid? -/
def treeOkB (D : List S34) (B : List S70) : Bool := devsB D && (decide (B.length ≤ 12) && treeB D B)
theorem impl_ok_ev (D : List S34) (B : List S70) (hD : D.length ≤ 9223372036854775807) (hw : wfTree D B = true) : Ev (fun k => impl_TreeOk.f k D B) (treeOkB D B) := by
  unfold impl_TreeOk.f treeOkB
  simp only [if_pos hw]
  refine Ev.bind (impl_devs_ev D B hD) ?_
  cases devsB D <;> simp <;> first | exact Ev.now _ | exact ev_some fun k => rfl

/-- numbers that are bytes -/
def IsBytes (l : List Int) : Prop := ∀ x ∈ l, 0 ≤ x ∧ x ≤ 255
theorem bytes_of_wf {l : List Int} (h : ∀ x ∈ l, (Lit.int .u8 x).wf = true) : IsBytes l := by
  intro x hx
  have h' : (decide (IntKind.u8.min ≤ x) && decide (x ≤ IntKind.u8.max)) = true := h x hx
  rw [Bool.and_eq_true] at h'
  have h1 := of_decide_eq_true h'.1
  have h2 := of_decide_eq_true h'.2
  have e1 : IntKind.u8.min = 0 := by decide
  have e2 : IntKind.u8.max = 255 := by decide
  omega
theorem rd_bytes {l : List Int} (h : IsBytes l) (i : Int) : 0 ≤ rd l i ∧ rd l i ≤ 255 := by
  unfold rd
  rw [List.getD_eq_getElem?_getD]
  cases e : l[i.toNat]? with
  | none => simp
  | some x => exact h x (List.mem_of_getElem? e)
theorem and255 (x : Int) : 0 ≤ Go.bits .and .u64 x 255 ∧ Go.bits .and .u64 x 255 ≤ 255 := by
  have h : (BitVec.ofInt 64 x &&& BitVec.ofInt 64 255).toNat ≤ 255 := by
    rw [BitVec.toNat_and]
    have e1 : (BitVec.ofInt 64 255).toNat = 255 := by decide
    rw [e1]
    exact Nat.and_le_right
  show 0 ≤ IntKind.u64.wrap ((BitVec.ofInt 64 x &&& BitVec.ofInt 64 255).toNat : Int) ∧ IntKind.u64.wrap ((BitVec.ofInt 64 x &&& BitVec.ofInt 64 255).toNat : Int) ≤ 255
  rw [IntKind.wrap_u64]
  omega
theorem wrap_byte (x : Int) (h : 0 ≤ x ∧ x ≤ 255) : wrap64 x = x := by unfold wrap64; omega
theorem next_is (l : List Int) (hb : IsBytes l) (p sd : Int) (h0 : 0 ≤ p) (h1 : p ≤ 4611686018427387904) : ∃ v sd', spec_l00Src_next.f l p sd = some (v, p + 1, sd') ∧ 0 ≤ v ∧ v ≤ 255 := by
  have ew : wrap64 (p + 1) = p + 1 := by unfold wrap64; omega
  have er := wrap_byte _ (rd_bytes hb p)
  have hr := rd_bytes hb p
  unfold spec_l00Src_next.f
  rw [ew, er]
  by_cases c1 : p < (l.length : Int)
  · rw [if_pos c1, if_pos h0]
    by_cases c2 : p + 1 ≤ (l.length : Int)
    · rw [if_pos c2]
      exact ⟨_, _, rfl, hr⟩
    · rw [if_neg c2]
      have h := and255 ((IntKind.u64.wrap ((IntKind.u64.wrap ((IntKind.u64.wrap (sd * 6364136223846793005)) + (IntKind.u64.wrap (rd l p)))) + 1442695040888963407)) / 1099511627776)
      refine ⟨_, _, rfl, ?_⟩
      rw [wrap_byte _ h]
      exact h
  · rw [if_neg c1]
    by_cases c2 : p + 1 ≤ (l.length : Int)
    · rw [if_pos c2]
      exact ⟨_, _, rfl, by omega, by omega⟩
    · rw [if_neg c2]
      have h := and255 ((IntKind.u64.wrap ((IntKind.u64.wrap ((IntKind.u64.wrap (sd * 6364136223846793005)) + 0)) + 1442695040888963407)) / 1099511627776)
      refine ⟨_, _, rfl, ?_⟩
      rw [wrap_byte _ h]
      exact h
theorem tmod_in (x n : Int) (hx : 0 ≤ x) (hn : 1 < n) : 0 ≤ Int.tmod x n ∧ Int.tmod x n < n := by
  rw [Int.tmod_eq_emod_of_nonneg hx]
  exact ⟨Int.emod_nonneg _ (by omega), Int.emod_lt_of_pos _ (by omega)⟩
/-- a pick of n: from 0 to n - 1, or 0 -/
theorem pick_is (l : List Int) (hb : IsBytes l) (p sd n : Int) (h0 : 0 ≤ p) (h1 : p ≤ 4611686018427387000) : ∃ v p' sd', spec_l00Src_pick.f l p sd n = some (v, p', sd') ∧ p ≤ p' ∧ p' ≤ p + 2 ∧ 0 ≤ v ∧ (v < n ∨ (n ≤ 1 ∧ v = 0)) := by
  unfold spec_l00Src_pick.f
  by_cases c1 : n ≤ 1
  · rw [if_pos c1]
    exact ⟨_, _, _, rfl, by omega, by omega, by omega, .inr ⟨c1, rfl⟩⟩
  · rw [if_neg c1]
    obtain ⟨v, sd1, e1, v0, v1⟩ := next_is l hb p sd h0 (by omega)
    rw [e1, Option.bind_some]
    by_cases c2 : n > 200
    · rw [if_pos c2]
      obtain ⟨u, sd2, e2, u0, u1⟩ := next_is l hb (p + 1) sd1 (by omega) (by omega)
      simp only
      rw [e2, Option.bind_some, if_neg (by omega)]
      have ew : wrap64 (wrap64 (v * 256) + u) = v * 256 + u := by unfold wrap64; omega
      simp only
      rw [ew]
      have h := tmod_in (v * 256 + u) n (by omega) (by omega)
      exact ⟨_, _, _, rfl, by omega, by omega, h.1, .inl h.2⟩
    · rw [if_neg c2]
      simp only
      rw [if_neg (by omega)]
      have h := tmod_in v n (by omega) (by omega)
      exact ⟨_, _, _, rfl, by omega, by omega, h.1, .inl h.2⟩
theorem pick_pos (l : List Int) (hb : IsBytes l) (p sd n : Int) (h0 : 0 ≤ p) (h1 : p ≤ 4611686018427387000) (hn : 1 ≤ n) : ∃ v p' sd', spec_l00Src_pick.f l p sd n = some (v, p', sd') ∧ p ≤ p' ∧ p' ≤ p + 2 ∧ 0 ≤ v ∧ v < n := by
  obtain ⟨v, p', sd', e, a, b, c, d⟩ := pick_is l hb p sd n h0 h1
  exact ⟨v, p', sd', e, a, b, c, by omega⟩

theorem among_is (l : List Int) (hb : IsBytes l) (p sd : Int) (xs : List Int) (hx : 1 ≤ xs.length) (h0 : 0 ≤ p) (h1 : p ≤ 4611686018427387000) : ∃ i p' sd', spec_l00Src_among.f l p sd xs = some (rd xs i, p', sd') ∧ p ≤ p' ∧ p' ≤ p + 2 ∧ 0 ≤ i ∧ i < xs.length := by
  obtain ⟨v, p', sd', e, a, b, c, d⟩ := pick_pos l hb p sd (xs.length : Int) h0 h1 (by omega)
  refine ⟨v, p', sd', ?_, a, b, c, d⟩
  unfold spec_l00Src_among.f
  rw [e, Option.bind_some]
  simp only
  rw [if_pos c, if_pos d]
theorem among_bind (l : List Int) (hb : IsBytes l) (p sd : Int) (xs : List Int) (h0 : 0 ≤ p) (h1 : p ≤ 4611686018427387000) (hx : 1 ≤ xs.length) : ∃ v p' sd', ((spec_l00Src_among.f l p sd xs).bind fun b => some (b.1, b.2.1, b.2.2)) = some (v, p', sd') ∧ p ≤ p' ∧ p' ≤ p + 2 := by
  obtain ⟨i, p', sd', e, a, b, _, _⟩ := among_is l hb p sd xs hx h0 h1
  rw [e, Option.bind_some]
  exact ⟨_, _, _, rfl, a, b⟩
theorem odd_is (l : List Int) (hb : IsBytes l) (p sd : Int) (h0 : 0 ≤ p) (h1 : p ≤ 4611686018427387000) : ∃ v p' sd', spec_l01Odd.f l p sd = some (v, p', sd') ∧ p ≤ p' ∧ p' ≤ p + 2 := by
  unfold spec_l01Odd.f
  exact among_bind l hb p sd _ h0 h1 (by decide)
theorem number_loop (l : List Int) (hb : IsBytes l) : ∀ (c : Nat) (x p sd : Int), c ≤ 100 → 0 ≤ p → p + c ≤ 4611686018427380000 → ∃ v p' sd', (∀ k, c < k → spec_l01Number.l0 k x c l p sd = some (v, p', sd')) ∧ p ≤ p' ∧ p' ≤ p + c
  | 0, x, p, sd, _, _, _ => by
    refine ⟨x, p, sd, fun k hk => ?_, by omega, by omega⟩
    obtain ⟨k, rfl⟩ : ∃ m, k = m + 1 := ⟨k - 1, by omega⟩
    simp only [spec_l01Number.l0]
    rw [if_neg (by omega)]
  | c + 1, x, p, sd, hc, h0, h1 => by
    obtain ⟨v, sd1, e1, _, _⟩ := next_is l hb p sd h0 (by omega)
    obtain ⟨w, p', sd', hw, a, b⟩ := number_loop l hb c (Go.bits .or .i64 (wrap64 (x * 256)) v) (p + 1) sd1 (by omega) (by omega) (by omega)
    refine ⟨w, p', sd', fun k hk => ?_, by omega, by omega⟩
    obtain ⟨k, rfl⟩ : ∃ m, k = m + 1 := ⟨k - 1, by omega⟩
    simp only [spec_l01Number.l0]
    have ec : wrap64 (((c + 1 : Nat) : Int) - 1) = (c : Int) := by unfold wrap64; omega
    rw [if_pos (by omega), e1, Option.bind_some, ec]
    exact hw k (by omega)
theorem number_is (l : List Int) (hb : IsBytes l) (p sd : Int) (h0 : 0 ≤ p) (h1 : p ≤ 4611686018427370000) : ∃ v p' sd', (∀ k, 10 ≤ k → spec_l01Number.f k l p sd = some (v, p', sd')) ∧ p ≤ p' ∧ p' ≤ p + 20 := by
  obtain ⟨c, p1, sd1, e1, a1, b1, c1, d1⟩ := pick_pos l hb p sd 3 h0 (by omega) (by omega)
  by_cases g0 : c = 0
  · obtain ⟨v, p', sd', e2, a2, b2⟩ := odd_is l hb p1 sd1 (by omega) (by omega)
    refine ⟨v, p', sd', fun k _ => ?_, by omega, by omega⟩
    unfold spec_l01Number.f
    rw [e1, Option.bind_some]
    simp only
    rw [if_pos g0, e2, Option.bind_some]
  · by_cases g1 : c = 1
    · obtain ⟨v, p', sd', e2, a2, b2, _, _⟩ := pick_pos l hb p1 sd1 300 (by omega) (by omega) (by omega)
      refine ⟨v, p', sd', fun k _ => ?_, by omega, by omega⟩
      unfold spec_l01Number.f
      rw [e1, Option.bind_some]
      simp only
      rw [if_neg g0, if_pos g1, e2, Option.bind_some]
    · obtain ⟨n, p2, sd2, e2, a2, b2, n0, n1⟩ := pick_pos l hb p1 sd1 9 (by omega) (by omega) (by omega)
      obtain ⟨m, rfl⟩ := Int.eq_ofNat_of_zero_le n0
      obtain ⟨v, p', sd', e3, a3, b3⟩ := number_loop l hb m 0 p2 sd2 (by omega) (by omega) (by omega)
      refine ⟨v, p', sd', fun k hk => ?_, by omega, by omega⟩
      unfold spec_l01Number.f
      rw [e1, Option.bind_some]
      simp only
      rw [if_neg g0, if_neg g1, e2, Option.bind_some]
      exact e3 k (by omega)
theorem A8Number_is (l : List Int) (hb : IsBytes l) : ∃ v, ∀ k, 10 ≤ k → spec_A8Number.f k l = some v := by
  obtain ⟨v, p', sd', e, _, _⟩ := number_is l hb 0 0 (by omega) (by omega)
  refine ⟨v, fun k hk => ?_⟩
  unfold spec_A8Number.f spec_l00From.f
  simp only [Option.bind_some]
  rw [e k hk, Option.bind_some]
theorem a8At_is (l : List Int) (hb : IsBytes l) (hl : l.length ≤ 1048576) (i n : Int) (h0 : 0 ≤ i) (h1 : i ≤ 1000000000) (hn : n ≤ 1000000000) : ∃ v, laws_a8At.f l i n = some v ∧ 0 ≤ v ∧ (v < n ∨ (n ≤ 1 ∧ v = 0)) := by
  unfold laws_a8At.f
  by_cases c1 : n ≤ 1
  · rw [if_pos c1]; exact ⟨0, rfl, by omega, .inr ⟨c1, rfl⟩⟩
  · rw [if_neg c1]
    by_cases c2 : (l.length : Int) = 0
    · rw [if_pos c2, if_neg (by omega)]
      have ew : wrap64 (i * 7) = i * 7 := by unfold wrap64; omega
      have h := tmod_in (i * 7) n (by omega) (by omega)
      rw [ew]
      exact ⟨_, rfl, h.1, .inl h.2⟩
    · rw [if_neg c2]
      have hp : (0 : Int) < (l.length : Int) := by omega
      have t0 : ∀ x : Int, 0 ≤ x → 0 ≤ Int.tmod x (l.length : Int) ∧ Int.tmod x (l.length : Int) < (l.length : Int) := fun x hx => by
        rw [Int.tmod_eq_emod_of_nonneg hx]
        exact ⟨Int.emod_nonneg _ (by omega), Int.emod_lt_of_pos _ hp⟩
      have e1 : wrap64 (i + 1) = i + 1 := by unfold wrap64; omega
      have s0 := t0 i h0
      have s1 := t0 (i + 1) (by omega)
      rw [if_pos s0.1, if_pos s0.2, e1, if_pos s1.1, if_pos s1.2, if_neg (by omega)]
      have r0 := rd_bytes hb (Int.tmod i (l.length : Int))
      have r1 := rd_bytes hb (Int.tmod (i + 1) (l.length : Int))
      generalize rd l (Int.tmod i (l.length : Int)) = x at r0
      generalize rd l (Int.tmod (i + 1) (l.length : Int)) = y at r1
      have q0 : 0 ≤ Int.tdiv i (l.length : Int) ∧ Int.tdiv i (l.length : Int) ≤ i := by
        rw [Int.tdiv_eq_ediv_of_nonneg h0]
        exact ⟨Int.ediv_nonneg h0 (by omega), Int.ediv_le_self _ h0⟩
      generalize Int.tdiv i (l.length : Int) = z at q0
      have ew : wrap64 (wrap64 (wrap64 (wrap64 x * 31) + wrap64 y) + wrap64 z) = x * 31 + y + z := by unfold wrap64; omega
      have h := tmod_in (x * 31 + y + z) n (by omega) (by omega)
      rw [ew]
      exact ⟨_, rfl, h.1, .inl h.2⟩
theorem a8At_pos (l : List Int) (hb : IsBytes l) (hl : l.length ≤ 1048576) (i n : Int) (h0 : 0 ≤ i) (h1 : i ≤ 1000000000) (hn : n ≤ 1000000000) (hp : 1 ≤ n) : ∃ v, laws_a8At.f l i n = some v ∧ 0 ≤ v ∧ v < n := by
  obtain ⟨v, e, a, b⟩ := a8At_is l hb hl i n h0 h1 hn
  exact ⟨v, e, a, by omega⟩

/-- devices with the Ids n, n + 1, .. and these weights -/
def dvs : Nat → List Int → List S34
  | _, [] => []
  | n, w :: ws => ⟨(n : Int), w⟩ :: dvs (n + 1) ws
/-- n, n + 1, .., n + c - 1 -/
def idsN : Nat → Nat → List Int
  | _, 0 => []
  | n, c + 1 => (n : Int) :: idsN (n + 1) c
/-- a, a - 1, .., a - c + 1 -/
def dn : Int → Nat → List Int
  | _, 0 => []
  | a, c + 1 => a :: dn (a - 1) c
/-- hosts with so many devices each -/
def hostsOf : Int → Nat → List Nat → List S70
  | _, _, [] => []
  | id, n, m :: ms => ⟨id, 1, idsN n m⟩ :: hostsOf (id - 1) (n + m) ms
/-- racks of two hosts each -/
def racksOf : Int → List Int → List S70
  | _, [] => []
  | id, [a] => [⟨id, 2, [a]⟩]
  | id, a :: b :: t => ⟨id, 2, [a, b]⟩ :: racksOf (id - 1) t
/-- the racks, if there are any, and the root -/
def topOf (b : Bool) (id : Int) (hs : List Int) : List S70 := if b = true then racksOf id hs ++ [⟨id - ((hs.length + 1) / 2 : Nat), 3, dn id ((hs.length + 1) / 2)⟩] else [⟨id, 3, hs⟩]
def shapeB (b : Bool) (ns : List Nat) : List S70 := hostsOf (-1) 0 ns ++ topOf b (-1 - (ns.length : Int)) (dn (-1) ns.length)
theorem dvs_length : ∀ (ws : List Int) (n : Nat), (dvs n ws).length = ws.length
  | [], n => rfl
  | w :: ws, n => by simp [dvs, dvs_length ws (n + 1)]
theorem dvs_app : ∀ (ws vs : List Int) (n : Nat), dvs n (ws ++ vs) = dvs n ws ++ dvs (n + ws.length) vs
  | [], vs, n => by simp [dvs]
  | w :: ws, vs, n => by
    simp only [List.cons_append, dvs, dvs_app ws vs (n + 1), List.length_cons]
    rw [show n + 1 + ws.length = n + (ws.length + 1) by omega]
theorem dn_length : ∀ (c : Nat) (a : Int), (dn a c).length = c
  | 0, a => rfl
  | c + 1, a => by simp [dn, dn_length c (a - 1)]

theorem own_some (l : List Int) (h : l.length < 17592186044416) : spec_l00Own.f l = some l := by
  unfold spec_l00Own.f
  rw [Option.bind_some, if_pos (by simpa using h)]
  rfl

/-! the loops of the draw -/
theorem racks_loop (l : List Int) (p sd : Int) (dv : List S34) : ∀ (rest pre top : List Int) (id : Int) (bk : List S70), pre.length + rest.length ≤ 5 → top.length + rest.length ≤ 10 → bk.length + rest.length ≤ 10 → -100 ≤ id - (rest.length : Int) → id ≤ 0 →
    Ev (fun k => spec_l06Draw.l2 k id (pre ++ rest) top (pre.length : Int) l p sd dv bk) (dv, bk ++ racksOf id rest ++ [⟨id - ((rest.length + 1) / 2 : Nat), 3, top ++ dn id ((rest.length + 1) / 2)⟩], p, sd)
  | [], pre, top, id, bk, h1, h2, h3, h4, h5 => by
    refine Ev.step (f := ?zf6) (fun k => ?_) ?_
    rotate_left
    · simp only [spec_l06Draw.l2, List.append_nil]
      simp only [List.length_nil] at h2 h3
      rw [if_neg (by omega), own_some top (by omega), Option.bind_some, if_pos (by omega)]
    · simp only [racksOf, List.append_nil, List.length_nil, dn, Nat.zero_add, Nat.reduceDiv, Int.ofNat_zero, Int.sub_zero]
      exact Ev.now _
  | [a], pre, top, id, bk, h1, h2, h3, h4, h5 => by
    simp only [List.length_cons, List.length_nil] at h1 h2 h3
    have el : ((pre ++ [a]).length : Int) = (pre.length : Int) + 1 := by simp
    refine Ev.step (f := ?zf7) (fun k => ?_) ?_
    rotate_left
    · simp only [spec_l06Draw.l2]
      rw [if_pos (by omega), show wrap64 ((pre.length : Int) + 2) = (pre.length : Int) + 2 from by unfold wrap64; omega, if_pos (by omega), if_pos (by omega), if_pos (by omega), if_pos (by omega), Int.toNat_natCast, Int.toNat_natCast, List.take_length, List.drop_left, own_some [a] (by simp), Option.bind_some, if_pos (by omega), if_pos (by omega), show wrap64 (id - 1) = id - 1 from by unfold wrap64; omega]
    · refine Ev.step (f := ?zf8) (fun k => ?_) ?_
      rotate_left
      · simp only [spec_l06Draw.l2]
        rw [if_neg (by omega), own_some _ (by simp; omega), Option.bind_some, if_pos (by simp; omega)]
      · simp only [racksOf, List.length_cons, List.length_nil, dn, List.append_assoc]
        exact Ev.now _
  | a :: b :: t, pre, top, id, bk, h1, h2, h3, h4, h5 => by
    simp only [List.length_cons] at h1 h2 h3
    have el : (pre ++ a :: b :: t).length = pre.length + t.length + 2 := by simp; omega
    have ih := racks_loop l p sd dv t (pre ++ [a, b]) (top ++ [id]) (id - 1) (bk ++ [⟨id, 2, [a, b]⟩]) (by simp; omega) (by simp; omega) (by simp; omega) (by simp only [List.length_cons] at h4; omega) (by omega)
    have ed : ((pre ++ a :: b :: t).take ((pre.length : Int) + 2).toNat).drop (pre.length : Int).toNat = [a, b] := by
      rw [show ((pre.length : Int) + 2).toNat = pre.length + 2 by omega, Int.toNat_natCast, List.take_append, List.take_of_length_le (by omega), show pre.length + 2 - pre.length = 2 by omega, List.drop_left]
      rfl
    refine Ev.step (f := ?zf9) (fun k => ?_) ?_
    rotate_left
    · simp only [spec_l06Draw.l2]
      rw [if_pos (by omega), show wrap64 ((pre.length : Int) + 2) = (pre.length : Int) + 2 from by unfold wrap64; omega, if_neg (by rw [el]; omega), if_pos (by omega), if_pos (by omega), if_pos (by rw [el]; omega), ed, own_some [a, b] (by simp), Option.bind_some, if_pos (by omega), if_pos (by omega), show wrap64 (id - 1) = id - 1 from by unfold wrap64; omega]
    · rw [show (pre.length : Int) + 2 = ((pre ++ [a, b]).length : Int) from by simp, show pre ++ a :: b :: t = (pre ++ [a, b]) ++ t from by simp]
      rw [show ((a :: b :: t).length + 1) / 2 = (t.length + 1) / 2 + 1 from by simp; omega]
      simp only [List.append_assoc, List.cons_append, List.nil_append, racksOf, dn] at ih ⊢
      rw [show id - (((t.length + 1) / 2 + 1 : Nat) : Int) = id - 1 - (((t.length + 1) / 2 : Nat) : Int) by omega]
      exact ih
section
variable (l : List Int) (hb : IsBytes l)
include hb
theorem devs_loop (x4 : Int) (x5 : List Int) (x6 b0 b1 : Int) (bk : List S70) (h5 : x5.length ≤ 10) (hk : bk.length ≤ 20) : ∀ (c : Nat) (dv : List S34) (it : List Int) (p sd : Int), dv.length + c < 16 → it.length + c ≤ 20 → 0 ≤ p → p + 4 * c ≤ 4611686018427380000 →
    ∃ ws p' sd', ws.length = c ∧ (∀ w ∈ ws, 0 ≤ w ∧ w ≤ 8) ∧ p ≤ p' ∧ p' ≤ p + 4 * c ∧ ∀ r, Ev (fun k => spec_l06Draw.l0 k (wrap64 (x4 - 1)) (x5 ++ [x4]) (wrap64 (x6 - 1)) l p' sd' (dv ++ dvs dv.length ws) (bk ++ [⟨b0, b1, it ++ idsN dv.length c⟩])) r → Ev (fun k => spec_l06Draw.l1 k x4 x5 x6 c l p sd dv bk b0 b1 it) r
  | 0, dv, it, p, sd, hd, hi, h0, h1 => by
    refine ⟨[], p, sd, rfl, by simp, by omega, by omega, fun r hr => ?_⟩
    refine Ev.step (f := ?zf1) (fun k => ?_) ?_
    rotate_left
    · simp only [spec_l06Draw.l1]
      rw [if_neg (by omega)]
    · refine Ev.step (f := ?zf2) (fun k => ?_) ?_
      rotate_left
      · simp only [spec_l06Draw.j2]
        rw [if_neg (by decide), if_pos (by omega), if_pos (by omega)]
      · simpa [dvs, idsN] using hr
  | c + 1, dv, it, p, sd, hd, hi, h0, h1 => by
    obtain ⟨v, p1, sd1, e1, a1, b1', v0, v1⟩ := pick_pos l hb p sd 9 h0 (by omega) (by omega)
    obtain ⟨i, p2, sd2, e2, a2, b2, i0, i1⟩ := among_is l hb p1 sd1 [1, 1, 2, 3, v] (by simp) (by omega) (by omega)
    have hw : 0 ≤ rd [1, 1, 2, 3, v] i ∧ rd [1, 1, 2, 3, v] i ≤ 8 := by
      have h : i = 0 ∨ i = 1 ∨ i = 2 ∨ i = 3 ∨ i = 4 := by simp at i1; omega
      rcases h with rfl | rfl | rfl | rfl | rfl <;> simp [rd] <;> omega
    generalize rd [1, 1, 2, 3, v] i = w at e2 hw
    obtain ⟨ws, p', sd', hl, hws, a3, b3, hr⟩ := devs_loop x4 x5 x6 b0 b1 bk h5 hk c (dv ++ [⟨(dv.length : Int), w⟩]) (it ++ [(dv.length : Int)]) p2 sd2 (by simp; omega) (by simp; omega) (by omega) (by omega)
    refine ⟨w :: ws, p', sd', by simp [hl], fun x hx => ?_, by omega, by omega, fun r h => ?_⟩
    · rcases List.mem_cons.1 hx with rfl | hx
      · exact hw
      · exact hws x hx
    · refine Ev.step (f := ?zf3) (fun k => ?_) ?_
      rotate_left
      · simp only [spec_l06Draw.l1]
        rw [if_pos (by omega), decide_eq_true (show (dv.length : Int) < 16 by omega)]
      · refine Ev.step (f := ?zf4) (fun k => ?_) ?_
        rotate_left
        · simp only [spec_l06Draw.j2, if_true, e1, e2, Option.bind_some]
          rw [if_pos (by omega), if_pos (by omega), show wrap64 (((c + 1 : Nat) : Int) - 1) = (c : Int) from by unfold wrap64; omega]
        · refine hr r ?_
          simp only [List.length_append, List.length_cons, List.length_nil, List.append_assoc, List.cons_append, List.nil_append] at h ⊢
          exact h
theorem hosts_loop : ∀ (c : Nat) (id : Int) (hs : List Int) (p sd : Int) (dv : List S34) (bk : List S70), dv.length + 3 * c < 16 → hs.length + c ≤ 5 → bk.length + c ≤ 10 → -100 ≤ id - c → id ≤ 0 → 0 ≤ p → p + 14 * c ≤ 4611686018427380000 →
    ∃ ns ws p' sd', ns.length = c ∧ (∀ n ∈ ns, 1 ≤ n ∧ n ≤ 3) ∧ ws.length = ns.sum ∧ (∀ w ∈ ws, 0 ≤ w ∧ w ≤ 8) ∧ p ≤ p' ∧ p' ≤ p + 14 * c ∧ ∀ r, Ev (fun k => spec_l06Draw.l0 k (id - c) (hs ++ dn id c) 0 l p' sd' (dv ++ dvs dv.length ws) (bk ++ hostsOf id dv.length ns)) r → Ev (fun k => spec_l06Draw.l0 k id hs c l p sd dv bk) r
  | 0, id, hs, p, sd, dv, bk, hd, hh, hk, hi, hi0, h0, h1 => by
    refine ⟨[], [], p, sd, rfl, by simp, rfl, by simp, by omega, by omega, fun r hr => ?_⟩
    simpa [dvs, dn, hostsOf] using hr
  | c + 1, id, hs, p, sd, dv, bk, hd, hh, hk, hi, hi0, h0, h1 => by
    obtain ⟨m, p1, sd1, e1, a1, b1, m0, m1⟩ := pick_pos l hb p sd 3 h0 (by omega) (by omega)
    obtain ⟨m, rfl⟩ := Int.eq_ofNat_of_zero_le m0
    obtain ⟨ws, p2, sd2, hl, hws, a2, b2, hr⟩ := devs_loop l hb id hs ((c + 1 : Nat) : Int) id 1 bk (by omega) (by omega) (m + 1) dv [] p1 sd1 (by omega) (by simp; omega) (by omega) (by omega)
    obtain ⟨ns, vs, p', sd', hn, hns, hvl, hvs, a3, b3, hq⟩ := hosts_loop c (id - 1) (hs ++ [id]) p2 sd2 (dv ++ dvs dv.length ws) (bk ++ [⟨id, 1, idsN dv.length (m + 1)⟩]) (by simp [dvs_length]; omega) (by simp; omega) (by simp; omega) (by omega) (by omega) (by omega) (by omega)
    refine ⟨(m + 1) :: ns, ws ++ vs, p', sd', by simp [hn], fun x hx => ?_, by simp [hl, hvl], fun x hx => ?_, by omega, by omega, fun r h => ?_⟩
    · rcases List.mem_cons.1 hx with rfl | hx
      · omega
      · exact hns x hx
    · rcases List.mem_append.1 hx with hx | hx
      · exact hws x hx
      · exact hvs x hx
    · refine Ev.step (f := ?zf5) (fun k => ?_) ?_
      rotate_left
      · simp only [spec_l06Draw.l0, e1, Option.bind_some]
        rw [if_pos (by omega), show wrap64 (1 + (m : Int)) = ((m + 1 : Nat) : Int) from by unfold wrap64; omega]
      · refine hr r ?_
        rw [show wrap64 (id - 1) = id - 1 from by unfold wrap64; omega, show wrap64 (((c + 1 : Nat) : Int) - 1) = (c : Int) from by unfold wrap64; omega, List.nil_append]
        refine hq r ?_
        have e : id - ((c + 1 : Nat) : Int) = id - 1 - (c : Int) := by omega
        rw [e] at h
        simp only [List.append_assoc, List.length_append, dvs_length, hl, dvs_app, dn, hostsOf, List.cons_append, List.nil_append] at h ⊢
        exact h
/-- the law's own topology, by its shape -/
theorem A8Tree_shape : ∃ ns ws b, 2 ≤ ns.length ∧ ns.length ≤ 5 ∧ (∀ n ∈ ns, 1 ≤ n ∧ n ≤ 3) ∧ ws.length = ns.sum ∧ (∀ w ∈ ws, 0 ≤ w ∧ w ≤ 8) ∧ Ev (fun k => spec_A8Tree.f k l) (dvs 0 ws, shapeB b ns) := by
  obtain ⟨c, p1, sd1, e1, a1, b1, c0, c1⟩ := pick_pos l hb 0 0 4 (by omega) (by omega) (by omega)
  obtain ⟨c, rfl⟩ := Int.eq_ofNat_of_zero_le c0
  obtain ⟨ns, ws, p2, sd2, hn, hns, hwl, hws, a2, b2, hr⟩ := hosts_loop l hb (c + 2) (-1) [] p1 sd1 [] [] (by simp; omega) (by simp; omega) (by simp; omega) (by omega) (by omega) (by omega) (by omega)
  obtain ⟨v, p3, sd3, e3, a3, b3, v0, v1⟩ := pick_pos l hb p2 sd2 2 (by omega) (by omega) (by omega)
  have hbl : ∀ (id : Int) (n : Nat) (ms : List Nat), (hostsOf id n ms).length = ms.length := fun id n ms => by
    induction ms generalizing id n with
    | nil => rfl
    | cons m ms ih => simp [hostsOf, ih]
  refine ⟨ns, ws, v == 0, by omega, by omega, hns, hwl, hws, ?_⟩
  have hfin : Ev (fun k => spec_l06Draw.f k l 0 0) (dvs 0 ws, shapeB (v == 0) ns, p3, sd3) := by
    unfold spec_l06Draw.f
    simp only [e1, Option.bind_some]
    rw [show wrap64 (2 + (c : Int)) = ((c + 2 : Nat) : Int) from by unfold wrap64; omega]
    refine hr _ ?_
    simp only [List.nil_append, List.length_nil]
    have hone : spec_l00Src_one.f l p2 sd2 2 = some (v == 0, p3, sd3) := by
      unfold spec_l00Src_one.f
      rw [e3, Option.bind_some]
    refine Ev.step (f := ?zf10) (fun k => ?_) ?_
    rotate_left
    · simp only [spec_l06Draw.l0]
      rw [if_neg (by omega), hone, Option.bind_some]
    · unfold shapeB topOf
      simp only [hn, dn_length]
      by_cases h : (v == 0) = true
      · simp only [if_pos h]
        have := racks_loop l p3 sd3 (dvs 0 ws) (dn (-1) (c + 2)) [] [] (-1 - ((c + 2 : Nat) : Int)) (hostsOf (-1) 0 ns) (by simp [dn_length]; omega) (by simp [dn_length]; omega) (by simp [dn_length, hbl]; omega) (by rw [dn_length]; omega) (by omega)
        simp only [List.nil_append, dn_length, List.length_nil, List.append_assoc] at this
        exact this
      · simp only [if_neg h, own_some (dn (-1) (c + 2)) (by rw [dn_length]; omega), Option.bind_some]
        rw [if_pos (by rw [hbl]; omega)]
        exact Ev.now _
  unfold spec_A8Tree.f spec_l00From.f
  simp only [Option.bind_some]
  exact Ev.bind hfin (Ev.now _)
end

/-! the shapes are valid -/
/-- the lists of c numbers 1 to 3 -/
def shapes : Nat → List (List Nat)
  | 0 => [[]]
  | c + 1 => (shapes c).flatMap fun t => [1 :: t, 2 :: t, 3 :: t]
theorem mem_shapes : ∀ (ns : List Nat), (∀ n ∈ ns, 1 ≤ n ∧ n ≤ 3) → ns ∈ shapes ns.length
  | [], _ => by simp [shapes]
  | n :: ns, h => by
    have h1 := mem_shapes ns (fun m hm => h m (by simp [hm]))
    have h2 := h n (by simp)
    simp only [shapes, List.length_cons, List.mem_flatMap]
    refine ⟨ns, h1, ?_⟩
    have : n = 1 ∨ n = 2 ∨ n = 3 := by omega
    rcases this with rfl | rfl | rfl <;> simp
def shapeOk (b : Bool) (ns : List Nat) : Bool := treeB (dvs 0 (List.replicate ns.sum 0)) (shapeB b ns) && (wfTree [] (shapeB b ns) && (decide ((shapeB b ns).length ≤ 12) && (decide (1 ≤ ns.sum) && (decide (ns.sum ≤ 15) && (decide (1 ≤ (shapeB b ns).length) && decide (kindAt (dvs 0 (List.replicate ns.sum 0)) (shapeB b ns) (rd_T70 (shapeB b ns) ((shapeB b ns).length - 1 : Nat)).f0 = 3))))))
theorem shapes_ok : ((shapes 2 ++ shapes 3 ++ shapes 4 ++ shapes 5).all fun ns => shapeOk true ns && shapeOk false ns) = true := by kernel_rfl
theorem shape_ok (b : Bool) (ns : List Nat) (h2 : 2 ≤ ns.length) (h5 : ns.length ≤ 5) (h : ∀ n ∈ ns, 1 ≤ n ∧ n ≤ 3) : shapeOk b ns = true := by
  have h1 := mem_shapes ns h
  have h3 : ns ∈ shapes 2 ++ shapes 3 ++ shapes 4 ++ shapes 5 := by
    have : ns.length = 2 ∨ ns.length = 3 ∨ ns.length = 4 ∨ ns.length = 5 := by omega
    simp only [List.mem_append]
    rcases this with e | e | e | e <;> rw [e] at h1 <;> simp [h1]
  have := List.all_eq_true.1 shapes_ok ns h3
  rw [Bool.and_eq_true] at this
  cases b
  · exact this.2
  · exact this.1
theorem idx_dvs (id : Int) : ∀ (ws vs : List Int) (n : Nat) (i : Int), ws.length = vs.length → idxFrom (fun x : S34 => x.f0 == id) (dvs n ws) i = idxFrom (fun x : S34 => x.f0 == id) (dvs n vs) i
  | [], [], n, i, _ => rfl
  | w :: ws, v :: vs, n, i, h => by
    simp only [dvs, idxFrom]
    rw [idx_dvs id ws vs (n + 1) (i + 1) (by simpa using h)]
  | [], v :: vs, n, i, h => by simp at h
  | w :: ws, [], n, i, h => by simp at h
theorem kind_dvs (B : List S70) (ws vs : List Int) (h : ws.length = vs.length) : kindAt (dvs 0 ws) B = kindAt (dvs 0 vs) B := by
  funext id
  unfold kindAt
  rw [idx_dvs id ws vs 0 0 h]
theorem items_dvs (B : List S70) (ws vs : List Int) (h : ws.length = vs.length) : itemsOkB (dvs 0 ws) B = itemsOkB (dvs 0 vs) B := by
  funext kd it
  unfold itemsOkB
  rw [kind_dvs B ws vs h]
theorem bktB_dvs (B : List S70) (ws vs : List Int) (h : ws.length = vs.length) : bktB (dvs 0 ws) B = bktB (dvs 0 vs) B := by
  funext i
  unfold bktB
  rw [items_dvs B ws vs h]
theorem tree_dvs (B : List S70) (ws vs : List Int) (h : ws.length = vs.length) : treeB (dvs 0 ws) B = treeB (dvs 0 vs) B := by
  have : ∀ d i u, treeGo (dvs 0 ws) B d i u = treeGo (dvs 0 vs) B d i u := fun d => by
    induction d with
    | zero => intro i u; rfl
    | succ d ih =>
      intro i u
      simp only [treeGo, bktB_dvs B ws vs h, ih]
  exact this _ _ _
theorem dvs_get : ∀ (ws : List Int) (n i : Nat) (h : i < (dvs n ws).length) (h' : i < ws.length), (dvs n ws)[i] = ⟨((n + i : Nat) : Int), ws[i]⟩
  | [], n, i, h, h' => by simp at h'
  | w :: ws, n, 0, h, h' => rfl
  | w :: ws, n, i + 1, h, h' => by
    simp only [dvs, List.getElem_cons_succ]
    rw [dvs_get ws (n + 1) i (by simpa [dvs] using h) (by simpa using h'), show n + 1 + i = n + (i + 1) by omega]
theorem devs_dvs (ws : List Int) (h : ∀ w ∈ ws, 0 ≤ w ∧ w ≤ 8) (hl : ws.length ≤ 15) : devsB (dvs 0 ws) = true := by
  have hlen := dvs_length ws 0
  unfold devsB
  rw [Bool.and_eq_true, List.all_eq_true]
  refine ⟨fun i hi => ?_, decide_eq_true (by omega)⟩
  have hi : i < (dvs 0 ws).length := by simpa using hi
  have hw := h ws[i] (List.getElem_mem (by omega))
  unfold devStep inB
  rw [rd_dev _ i hi, dvs_get ws 0 i hi (by omega)]
  simp only [Nat.zero_add]
  by_cases c : 0 < i
  · rw [show ((i : Int) - 1) = ((i - 1 : Nat) : Int) by omega, rd_dev _ (i - 1) (by omega), dvs_get ws 0 (i - 1) (by omega) (by omega)]
    simp
    omega
  · simp [c]
    omega
theorem wf_dvs : ∀ (ws : List Int) (n : Nat), (∀ w ∈ ws, 0 ≤ w ∧ w ≤ 8) → n + ws.length ≤ 100 → (dvs n ws).all (fun d => wfI d.f0 && wfI d.f1) = true
  | [], n, _, _ => rfl
  | w :: ws, n, h, hl => by
    have hw := h w (by simp)
    simp only [List.length_cons] at hl
    simp only [dvs, List.all_cons, wf_dvs ws (n + 1) (fun x hx => h x (by simp [hx])) (by omega), Bool.and_true]
    have e : ∀ x : Int, 0 ≤ x → x ≤ 100 → wfI x = true := fun x h0 h1 => by
      unfold wfI
      exact decide_eq_true (by omega)
    rw [e _ (by omega) (by omega), e w (by omega) (by omega)]
    rfl
/-- the law's own topology is valid; its last bucket is a root -/
theorem A8Tree_is (l : List Int) (hb : IsBytes l) : ∃ D B, Ev (fun k => spec_A8Tree.f k l) (D, B) ∧ treeOkB D B = true ∧ wfTree D B = true ∧ 1 ≤ D.length ∧ D.length ≤ 16 ∧ 1 ≤ B.length ∧ B.length ≤ 12 ∧ kindAt D B (rd_T70 B (B.length - 1 : Nat)).f0 = 3 := by
  obtain ⟨ns, ws, b, h2, h5, hns, hwl, hws, he⟩ := A8Tree_shape l hb
  have h := shape_ok b ns h2 h5 hns
  unfold shapeOk at h
  simp only [Bool.and_eq_true, decide_eq_true_eq] at h
  obtain ⟨ht, hw, h12, hs1, hs15, hB1, hk⟩ := h
  have hz : ws.length = (List.replicate ns.sum (0 : Int)).length := by simpa using hwl
  refine ⟨_, _, he, ?_, ?_, by rw [dvs_length]; omega, by rw [dvs_length]; omega, hB1, h12, ?_⟩
  · unfold treeOkB
    rw [devs_dvs ws hws (by omega), decide_eq_true h12, tree_dvs _ ws _ hz, ht]
    rfl
  · unfold wfTree at hw ⊢
    rw [wf_dvs ws 0 hws (by omega)]
    simpa using hw
  · rw [kind_dvs _ ws _ hz]
    exact hk

/-- what a valid topology holds -/
structure Valid (D : List S34) (B : List S70) : Prop where
  dev : D.length ≤ 16
  bkt : B.length ≤ 12
  devs : ∀ i (h : i < D.length), 0 ≤ D[i].f0 ∧ D[i].f0 ≤ 15 ∧ 0 ≤ D[i].f1 ∧ D[i].f1 ≤ 8
  bkts : ∀ i (h : i < B.length), (-12 ≤ B[i].f0 ∧ B[i].f0 ≤ -1) ∧ (1 ≤ B[i].f1 ∧ B[i].f1 ≤ 3) ∧ B[i].f2.length ≤ 8
  down : ∀ i (h : i + 1 < B.length), B[i + 1].f0 < B[i].f0
  up : ∀ i (h : i + 1 < D.length), D[i].f0 < D[i + 1].f0
  fits : ∀ i (h : i < B.length), ∀ x ∈ B[i].f2, fitOne D B B[i].f1 B[i].f2 x = true
  once : onceB B = true
theorem valid_of (D : List S34) (B : List S70) (h : treeOkB D B = true) : Valid D B := by
  unfold treeOkB at h
  rw [Bool.and_eq_true, Bool.and_eq_true] at h
  obtain ⟨hd, h12, ht⟩ := h
  have h12 := of_decide_eq_true h12
  unfold devsB at hd
  rw [Bool.and_eq_true, List.all_eq_true] at hd
  have h16 := of_decide_eq_true hd.2
  have hparts : treeB D B = (allB D B B.length 0 && onceB B) := treeGo_parts D B B.length 0 []
  rw [hparts, Bool.and_eq_true] at ht
  have hall := (allB_all D B B.length 0).1 ht.1
  have hS : ∀ j, j < B.length → bktStep B j = true ∧ itemsOkB D B (rd_T70 B j).f1 (rd_T70 B j).f2 = true := fun j hj => by
    have := hall j (by omega) (by omega)
    rw [bktB_parts, Bool.and_eq_true] at this
    exact this
  have hdv : ∀ j, j < D.length → devStep D j = true := fun j hj => hd.1 j (by simpa using hj)
  have hk : ∀ i (h : i < B.length), (-12 ≤ B[i].f0 ∧ B[i].f0 ≤ -1) ∧ (1 ≤ B[i].f1 ∧ B[i].f1 ≤ 3) ∧ B[i].f2.length ≤ 8 := fun i h => by
    have := (hS i h).1
    unfold bktStep inB at this
    simp only [Bool.and_eq_true, decide_eq_true_eq] at this
    rw [rd_bkt B i h] at this
    exact ⟨this.1.1.1, this.1.1.2, this.1.2⟩
  refine ⟨h16, h12, ?_, hk, ?_, ?_, ?_, ht.2⟩
  · intro i h
    have := hdv i h
    unfold devStep inB at this
    simp only [Bool.and_eq_true, decide_eq_true_eq] at this
    rw [rd_dev D i h] at this
    exact ⟨this.1.1.1, this.1.1.2, this.1.2.1, this.1.2.2⟩
  · intro i h
    have := (hS (i + 1) h).1
    unfold bktStep at this
    rw [show (((i + 1 : Nat) : Int) - 1) = (i : Int) from by omega, rd_bkt B i (by omega), rd_bkt B (i + 1) h] at this
    simp at this
    omega
  · intro i h
    have := hdv (i + 1) h
    unfold devStep at this
    rw [show (((i + 1 : Nat) : Int) - 1) = (i : Int) from by omega, rd_dev D i (by omega), rd_dev D (i + 1) h] at this
    simp at this
    omega
  · intro i h x hx
    have h2 := (hS i h).2
    rw [rd_bkt B i h] at h2
    have hb := (hk i h).2.1
    rw [← fits_items D B _ _ hb.1 hb.2] at h2
    unfold fitsB at h2
    rw [range_all B[i].f2 (fitOne D B B[i].f1 B[i].f2), List.all_eq_true] at h2
    exact h2 x hx
theorem idx_none {α : Type} (p : α → Bool) (l : List α) (h : ∀ x ∈ l, p x = false) : ∀ (d i : Nat), i + d = l.length → idxFrom p (l.drop i) i = -1
  | 0, i, hd => by
    rw [List.drop_of_length_le (by omega)]; rfl
  | d + 1, i, hd => by
    rw [idx_step p l i (by omega), if_neg (by rw [h _ (List.getElem_mem (by omega))]; decide)]
    exact idx_none p l h d (i + 1) (by omega)
theorem idx_first {α : Type} (p : α → Bool) (l : List α) (n : Nat) (hn : n < l.length) (hp : p l[n] = true) (hb : ∀ j (h : j < n), p l[j] = false) : ∀ (d i : Nat), i + d = n → idxFrom p (l.drop i) i = (n : Int)
  | 0, i, hd => by
    obtain rfl : i = n := by omega
    rw [idx_step p l i hn, if_pos hp]
  | d + 1, i, hd => by
    rw [idx_step p l i (by omega), if_neg (by rw [hb i (by omega)]; decide)]
    exact idx_first p l n hn hp hb d (i + 1) (by omega)
/-- the index found is one that answers -/
theorem idx_hit {α : Type} (p : α → Bool) (l : List α) : ∀ (d i : Nat), i + d = l.length → idxFrom p (l.drop i) i = -1 ∨ ∃ n, ∃ (h : n < l.length), idxFrom p (l.drop i) i = (n : Int) ∧ p l[n] = true
  | 0, i, hd => by
    left
    rw [List.drop_of_length_le (by omega)]; rfl
  | d + 1, i, hd => by
    rw [idx_step p l i (by omega)]
    by_cases c : p (l[i]'(by omega)) = true
    · rw [if_pos c]
      exact .inr ⟨i, by omega, rfl, c⟩
    · rw [if_neg c]
      exact idx_hit p l d (i + 1) (by omega)
theorem bucketAt_hit (B : List S70) (id : Int) : bucketAt B id = -1 ∨ ∃ n, ∃ (h : n < B.length), bucketAt B id = (n : Int) ∧ B[n].f0 = id := by
  rcases idx_hit (fun x : S70 => x.f0 == id) B B.length 0 (by omega) with h | ⟨n, hn, h1, h2⟩
  · exact .inl h
  · exact .inr ⟨n, hn, h1, by simpa using h2⟩
theorem devAt_hit (D : List S34) (id : Int) : devAt D id = -1 ∨ ∃ n, ∃ (h : n < D.length), devAt D id = (n : Int) ∧ D[n].f0 = id := by
  rcases idx_hit (fun x : S34 => x.f0 == id) D D.length 0 (by omega) with h | ⟨n, hn, h1, h2⟩
  · exact .inl h
  · exact .inr ⟨n, hn, h1, by simpa using h2⟩
theorem down_lt {D : List S34} {B : List S70} (V : Valid D B) : ∀ (d i : Nat) (h : i + d + 1 < B.length), B[i + d + 1].f0 < B[i].f0
  | 0, i, h => V.down i h
  | d + 1, i, h => by
    have h1 := down_lt V d i (by omega)
    have h2 := V.down (i + d + 1) h
    exact Int.lt_trans h2 h1
theorem down_of {D : List S34} {B : List S70} (V : Valid D B) (i j : Nat) (hij : i < j) (h : j < B.length) : B[j].f0 < B[i].f0 := by
  obtain ⟨d, rfl⟩ : ∃ d, j = i + d + 1 := ⟨j - i - 1, by omega⟩
  exact down_lt V d i h
theorem bucketAt_own {D : List S34} {B : List S70} (V : Valid D B) (n : Nat) (hn : n < B.length) : bucketAt B B[n].f0 = (n : Int) :=
  idx_first (fun x : S70 => x.f0 == B[n].f0) B n hn (by simp) (fun j hj => by
    have := down_of V j n hj hn
    have : ¬ B[j].f0 = B[n].f0 := by omega
    simpa using this) n 0 (by omega)
theorem devAt_none {D : List S34} {B : List S70} (V : Valid D B) (id : Int) (h : id < 0) : devAt D id = -1 := by
  rcases devAt_hit D id with e | ⟨n, hn, _, e⟩
  · exact e
  · have := V.devs n hn
    omega
theorem kindAt_own {D : List S34} {B : List S70} (V : Valid D B) (n : Nat) (hn : n < B.length) : kindAt D B B[n].f0 = B[n].f1 := by
  have hk : kindAt D B B[n].f0 = if 0 ≤ devAt D B[n].f0 then 0 else if bucketAt B B[n].f0 < 0 then -1 else (rd_T70 B (bucketAt B B[n].f0)).f1 := rfl
  rw [hk, devAt_none V _ (by have := V.bkts n hn; omega), bucketAt_own V n hn, if_neg (by omega), if_neg (by omega), rd_bkt B n hn]
theorem kindAt_le {D : List S34} {B : List S70} (V : Valid D B) (id : Int) : -1 ≤ kindAt D B id ∧ kindAt D B id ≤ 3 := by
  have hk : kindAt D B id = if 0 ≤ devAt D id then 0 else if bucketAt B id < 0 then -1 else (rd_T70 B (bucketAt B id)).f1 := rfl
  rw [hk]
  split
  · omega
  · split
    · omega
    · rcases bucketAt_hit B id with e | ⟨n, hn, e, _⟩
      · omega
      · rw [e, rd_bkt B n hn]
        have := V.bkts n hn
        omega
/-- a kind of a bucket is a bucket's -/
theorem kindAt_bucket {D : List S34} {B : List S70} (V : Valid D B) (id : Int) (h : 1 ≤ kindAt D B id) : ∃ n, ∃ (h : n < B.length), bucketAt B id = (n : Int) ∧ B[n].f0 = id ∧ id < 0 ∧ kindAt D B id = B[n].f1 := by
  have hk : kindAt D B id = if 0 ≤ devAt D id then 0 else if bucketAt B id < 0 then -1 else (rd_T70 B (bucketAt B id)).f1 := rfl
  rw [hk] at h
  split at h
  · omega
  · split at h
    · omega
    · rcases bucketAt_hit B id with e | ⟨n, hn, e, e2⟩
      · omega
      · refine ⟨n, hn, e, e2, ?_, ?_⟩
        · have := V.bkts n hn; omega
        · rw [← e2]; exact kindAt_own V n hn
/-- what lies in a bucket is of a lower kind -/
theorem item_kind {D : List S34} {B : List S70} (V : Valid D B) (n : Nat) (hn : n < B.length) (x : Int) (hx : x ∈ B[n].f2) : 0 ≤ kindAt D B x ∧ kindAt D B x < B[n].f1 := by
  have h := V.fits n hn x hx
  have hb := (V.bkts n hn).2.1
  unfold fitOne at h
  by_cases c : B[n].f1 < 3
  · rw [if_pos c] at h
    have := eq_of_beq h
    omega
  · rw [if_neg c, Bool.and_eq_true, Bool.or_eq_true] at h
    rcases h.2 with h | h
    · have := eq_of_beq h; omega
    · have := eq_of_beq h; omega

/-- the first place that answers -/
def firstR {ρ : Type} (c : Nat → Bool) (g : Nat → ρ) (z : ρ) : Nat → Nat → ρ
  | 0, _ => z
  | d + 1, i => if c i = true then g i else firstR c g z d (i + 1)
theorem first_loop {ρ : Type} (n : Nat) (L : Nat → Int → Option ρ) (c : Nat → Bool) (g : Nat → ρ) (z : ρ) (ht : ∀ i : Nat, i < n → c i = true → Ev (fun k => L k (i : Int)) (g i))
    (hf : ∀ i : Nat, i < n → c i = false → ∀ r, Ev (fun k => L k ((i + 1 : Nat) : Int)) r → Ev (fun k => L k (i : Int)) r) (he : ∀ k, L (k + 1) (n : Int) = some z) : Ev (fun k => L k 0) (firstR c g z n 0) := by
  refine loop_is n (fun k (_ : Unit) i => L k i) (fun i _ => firstR c g z n 0 = firstR c g z (n - i) i) _ ?_ ?_ () rfl
  · intro i _ hi hI
    have hs : firstR c g z (n - i) i = if c i = true then g i else firstR c g z (n - (i + 1)) (i + 1) := by
      rw [show n - i = (n - (i + 1)) + 1 from by omega]; rfl
    rw [hs] at hI
    cases hc : c i with
    | true =>
      left
      rw [hc, if_pos rfl] at hI
      rw [hI]
      exact ht i hi hc
    | false =>
      rw [hc, if_neg (by decide)] at hI
      exact .inr ⟨(), hI, hf i hi hc⟩
  · intro _ hI
    rw [hI, Nat.sub_self]
    exact ev_end he
theorem idx64_ev (l : List Int) (x : Int) (hl : l.length ≤ 9223372036854775807) : Ev (fun k => slices_Contains_int64_int64.f k l x) (l.any fun y => y == x) := by
  have h : ∃ r, (decide (r ≥ 0) = l.any fun y => y == x) ∧ Ev (fun k => slices_Index_int64_int64.l0 k l x l.length 0) r := by
    refine loop_up l.length (fun k (_ : Unit) i => slices_Index_int64_int64.l0 k l x l.length i) (fun i _ => (l.take i).any (fun y => y == x) = false) (fun r => decide (r ≥ 0) = l.any fun y => y == x) ?_ ?_ () (by simp)
    · intro i _ hi hI
      have hu : ∀ k, slices_Index_int64_int64.l0 (k + 1) l x l.length i = if x = l[i] then some (i : Int) else slices_Index_int64_int64.l0 k l x l.length ((i + 1 : Nat) : Int) := fun k => by
        simp only [slices_Index_int64_int64.l0]
        rw [if_pos (by omega), if_pos (by omega), if_pos (by omega), rd_get l i hi, up64 i l.length hi hl]
      by_cases c : x = l[i]
      · refine .inl ⟨(i : Int), ?_, ev_end (fun k => by rw [hu k, if_pos c])⟩
        have e : l.any (fun y => y == x) = true := by
          rw [List.any_eq_true]
          exact ⟨l[i], List.getElem_mem hi, by simpa using c.symm⟩
        rw [e]; simp
      · refine .inr ⟨(), ?_, ev_next (fun k => by rw [hu k, if_neg c])⟩
        rw [List.take_succ_eq_append_getElem hi, List.any_append, hI]
        simpa using fun e => c e.symm
    · intro _ hI
      rw [List.take_length] at hI
      exact ⟨-1, by rw [hI]; rfl, ev_end (fun k => by simp only [slices_Index_int64_int64.l0]; rw [if_neg (by omega)])⟩
  obtain ⟨r, hr, hE⟩ := h
  unfold slices_Contains_int64_int64.f slices_Index_int64_int64.f
  rw [← hr]
  exact Ev.bind hE (Ev.now _)
/-- the bucket of a kind above -/
def aboveN (B : List S70) : Nat → Int → Int → Int
  | 0, _, _ => 0
  | n + 1, id, kd => firstR (fun i => (rd_T70 B i).f2.any fun y => y == id) (fun i => if (rd_T70 B i).f1 = kd then (rd_T70 B i).f0 else aboveN B n (rd_T70 B i).f0 kd) 0 B.length 0
theorem above_kind {D : List S34} {B : List S70} (V : Valid D B) (i : Nat) (hi : i < B.length) (id : Int) (hc : ((rd_T70 B i).f2.any fun y => y == id) = true) : kindAt D B id < kindAt D B B[i].f0 := by
  rw [rd_bkt B i hi, List.any_eq_true] at hc
  obtain ⟨x, hx, e⟩ := hc
  obtain rfl := eq_of_beq e
  rw [kindAt_own V i hi]
  exact (item_kind V i hi x hx).2
theorem impl_above_ev {D : List S34} {B : List S70} (V : Valid D B) (kd : Int) : ∀ (n : Nat) (id : Int), 3 < kindAt D B id + n → Ev (fun k => impl_Tree_above.f k D B id kd) (aboveN B n id kd)
  | 0, id, h => by have := kindAt_le V id; omega
  | n + 1, id, h => by
    have hB := V.bkt
    refine Ev.step (f := fun k => impl_Tree_above.l0 k id kd B B.length 0 D B) (fun k => rfl) ?_
    have hu : ∀ (i : Nat), i < B.length → ∀ r, Ev (fun k => if ((rd_T70 B i).f2.any fun y => y == id) = true then (if (rd_T70 B i).f1 = kd then some (rd_T70 B i).f0 else ((impl_Tree_above.f k D B (rd_T70 B i).f0 kd).bind fun t => some t)) else impl_Tree_above.l0 k id kd B B.length ((i + 1 : Nat) : Int) D B) r → Ev (fun k => impl_Tree_above.l0 k id kd B B.length i D B) r := fun i hi r hr => by
      refine Ev.step (f := ?f) (fun k => ?_) ?_
      rotate_left
      · simp only [impl_Tree_above.l0]
        rw [if_pos (by omega), if_pos (by omega), if_pos (by omega), up64 i B.length hi (by omega)]
        all_goals exact rfl
      · refine Ev.bind (idx64_ev _ id ?_) hr
        rw [rd_bkt B i hi]
        have := V.bkts i hi
        omega
    refine first_loop B.length (fun k i => impl_Tree_above.l0 k id kd B B.length i D B) _ _ 0 (fun i hi hc => hu i hi _ ?_) (fun i hi hc r hr => hu i hi _ (Ev.congr (fun k => by rw [if_neg (by rw [hc]; decide)]) hr)) (fun k => by simp only [impl_Tree_above.l0]; rw [if_neg (by omega)])
    simp only [if_pos hc]
    by_cases c : (rd_T70 B i).f1 = kd
    · simp only [if_pos c]
      exact Ev.now _
    · simp only [if_neg c]
      refine ev_then1 (impl_above_ev V kd n _ ?_)
      have := above_kind V i hi id hc
      rw [rd_bkt B i hi]
      omega
def aboveB (B : List S70) (id kd : Int) : Int := aboveN B 5 id kd
theorem impl_above {D : List S34} {B : List S70} (V : Valid D B) (id kd : Int) : Ev (fun k => impl_Tree_above.f k D B id kd) (aboveB B id kd) := impl_above_ev V kd 5 id (by have := kindAt_le V id; omega)

/-- the domain of a device; 0: none -/
def domN (B : List S70) (kd id : Int) : Int := if kd = 0 then id else aboveB B id kd
/-- the domain and whether there is one, as the program tells it -/
def domP (D : List S34) (B : List S70) (kd id : Int) : Int × Bool := if devAt D id < 0 then (0, false) else if kd = 0 then (id, true) else (aboveB B id kd, (aboveB B id kd != 0))
theorem impl_domain {D : List S34} {B : List S70} (V : Valid D B) (kd id : Int) : Ev (fun k => impl_Tree_domain.f k D B kd id) (domP D B kd id) := by
  unfold impl_Tree_domain.f impl_Tree_device.f domP
  simp only [Option.bind_some]
  have e : idxFrom (fun x : S34 => x.f0 == id) D 0 = devAt D id := rfl
  rw [e]
  by_cases c : devAt D id < 0
  · simp only [if_pos c]
    exact Ev.now _
  · simp only [if_neg c]
    by_cases c2 : kd = 0
    · simp only [if_pos c2]
      exact Ev.now _
    · simp only [if_neg c2]
      exact Ev.bind (impl_above V id kd) (Ev.now _)
theorem firstR_prop {ρ : Type} (P : ρ → Prop) (c : Nat → Bool) (g : Nat → ρ) (z : ρ) (N : Nat) (hz : P z) (hg : ∀ i, i < N → c i = true → P (g i)) : ∀ d i, i + d ≤ N → P (firstR c g z d i)
  | 0, i, _ => hz
  | d + 1, i, h => by
    unfold firstR
    cases e : c i with
    | true => rw [if_pos rfl]; exact hg i (by omega) e
    | false => rw [if_neg (by decide)]; exact firstR_prop P c g z N hz hg d (i + 1) (by omega)
theorem aboveN_range {D : List S34} {B : List S70} (V : Valid D B) (kd : Int) : ∀ (n : Nat) (id : Int), -12 ≤ aboveN B n id kd ∧ aboveN B n id kd ≤ 0
  | 0, id => by simp [aboveN]
  | n + 1, id => by
    unfold aboveN
    refine firstR_prop (fun x : Int => -12 ≤ x ∧ x ≤ 0) _ _ 0 B.length (by omega) (fun i hi _ => ?_) B.length 0 (by omega)
    by_cases c : (rd_T70 B i).f1 = kd
    · rw [if_pos c, rd_bkt B i hi]
      have := V.bkts i hi
      omega
    · rw [if_neg c]
      exact aboveN_range V kd n _
theorem aboveB_range {D : List S34} {B : List S70} (V : Valid D B) (kd id : Int) : -12 ≤ aboveB B id kd ∧ aboveB B id kd ≤ 0 := aboveN_range V kd 5 id
/-- what is found is a device: its Id -/
theorem dev_range {D : List S34} {B : List S70} (V : Valid D B) (id : Int) (h : ¬ devAt D id < 0) : 0 ≤ id ∧ id ≤ 15 := by
  rcases devAt_hit D id with e | ⟨n, hn, e, e2⟩
  · omega
  · have := V.devs n hn
    omega
theorem domP_range {D : List S34} {B : List S70} (V : Valid D B) (kd id : Int) : -12 ≤ (domP D B kd id).1 ∧ (domP D B kd id).1 ≤ 15 := by
  unfold domP
  split
  · simp
  · rename_i c
    have := dev_range V id c
    have := aboveB_range V kd id
    split <;> simp only <;> omega
theorem domP_wf {D : List S34} {B : List S70} (V : Valid D B) (kd id : Int) : wfI (domP D B kd id).1 = true := by
  have := domP_range V kd id
  unfold wfI
  exact decide_eq_true (by omega)
theorem domP_ok {D : List S34} {B : List S70} (V : Valid D B) (kd id : Int) (h : (domP D B kd id).2 = true) : 0 ≤ id ∧ (domP D B kd id).1 = domN B kd id ∧ ¬ devAt D id < 0 := by
  unfold domP at h ⊢
  by_cases c : devAt D id < 0
  · rw [if_pos c] at h; cases h
  · have := dev_range V id c
    refine ⟨this.1, ?_, c⟩
    rw [if_neg c]
    unfold domN
    split <;> rfl

end Go.Proofs.Ytohjpgcmhihdhaa.Pure

namespace Go.Proofs.Ytohjpgcmhihdhaa.Pure
open Go.RowKit Go.Proofs.YtohjpgcmhihdhaaW.PrintWords Go.Proofs.YtohjpgcmhihdhaaW.PrintLast Go.Proofs.YtohjpgcmhihdhaaW.PrintMore
set_option linter.unusedVariables false
set_option linter.unusedSimpArgs false
def Rise (l : List Int) : Prop := l.Pairwise (· < ·)
theorem rise_ext : ∀ (a b : List Int), Rise a → Rise b → (∀ x, x ∈ a ↔ x ∈ b) → a = b
  | [], [], _, _, _ => rfl
  | [], y :: b, _, _, h => absurd ((h y).2 (by simp)) (by simp)
  | x :: a, [], _, _, h => absurd ((h x).1 (by simp)) (by simp)
  | x :: a, y :: b, ha, hb, h => by
    obtain ⟨ha1, ha2⟩ := List.pairwise_cons.1 ha
    obtain ⟨hb1, hb2⟩ := List.pairwise_cons.1 hb
    have hxy : x = y := by
      rcases List.mem_cons.1 ((h x).1 (by simp)) with e | e
      · exact e
      · rcases List.mem_cons.1 ((h y).2 (by simp)) with e2 | e2
        · exact e2.symm
        · have := ha1 y e2
          have := hb1 x e
          omega
    subst hxy
    congr 1
    refine rise_ext a b ha2 hb2 (fun z => ⟨fun hz => ?_, fun hz => ?_⟩)
    · rcases List.mem_cons.1 ((h z).1 (List.mem_cons_of_mem _ hz)) with e | e
      · have := ha1 z hz
        omega
      · exact e
    · rcases List.mem_cons.1 ((h z).2 (List.mem_cons_of_mem _ hz)) with e | e
      · have := hb1 z hz
        omega
      · exact e
/-- a number put to its place, once -/
def putR : List Int → Int → List Int
  | [], n => [n]
  | x :: xs, n => if x < n then x :: putR xs n else if x = n then x :: xs else n :: x :: xs
theorem mem_putR (y n : Int) : ∀ l, y ∈ putR l n ↔ y = n ∨ y ∈ l
  | [] => by simp [putR]
  | x :: xs => by
    unfold putR
    by_cases c : x < n
    · rw [if_pos c, List.mem_cons, mem_putR y n xs, List.mem_cons]
      constructor
      · rintro (h | h | h)
        · exact .inr (.inl h)
        · exact .inl h
        · exact .inr (.inr h)
      · rintro (h | h | h)
        · exact .inr (.inl h)
        · exact .inl h
        · exact .inr (.inr h)
    · rw [if_neg c]
      by_cases c2 : x = n
      · rw [if_pos c2]
        subst c2
        simp
      · rw [if_neg c2]
        simp
theorem rise_putR (n : Int) : ∀ l, Rise l → Rise (putR l n)
  | [], _ => by simp [putR, Rise]
  | x :: xs, h => by
    obtain ⟨h1, h2⟩ := List.pairwise_cons.1 h
    unfold putR
    by_cases c : x < n
    · rw [if_pos c]
      refine List.pairwise_cons.2 ⟨fun y hy => ?_, rise_putR n xs h2⟩
      rcases (mem_putR y n xs).1 hy with rfl | hy
      · exact c
      · exact h1 y hy
    · rw [if_neg c]
      by_cases c2 : x = n
      · rw [if_pos c2]; exact h
      · rw [if_neg c2]
        refine List.pairwise_cons.2 ⟨fun y hy => ?_, h⟩
        rcases List.mem_cons.1 hy with rfl | hy
        · omega
        · have := h1 y hy
          omega
theorem putR_length (n : Int) : ∀ l, (putR l n).length ≤ l.length + 1
  | [] => by simp [putR]
  | x :: xs => by
    unfold putR
    have := putR_length n xs
    split
    · simp; omega
    · split <;> simp
theorem fold_putR : ∀ (l acc : List Int), Rise acc → Rise (l.foldl putR acc) ∧ (∀ y, y ∈ l.foldl putR acc ↔ y ∈ acc ∨ y ∈ l) ∧ (l.foldl putR acc).length ≤ acc.length + l.length
  | [], acc, h => ⟨h, by simp, by simp⟩
  | x :: l, acc, h => by
    obtain ⟨h1, h2, h3⟩ := fold_putR l (putR acc x) (rise_putR x acc h)
    refine ⟨h1, fun y => ?_, ?_⟩
    · rw [List.foldl_cons, h2 y, mem_putR, List.mem_cons]
      constructor
      · rintro ((h | h) | h)
        · exact .inr (.inl h)
        · exact .inl h
        · exact .inr (.inr h)
      · rintro (h | h | h)
        · exact .inl (.inr h)
        · exact .inl (.inl h)
        · exact .inr h
    · have := putR_length x acc
      rw [List.foldl_cons]
      simp only [List.length_cons]
      omega
theorem sortI_mem (l : List Int) (x : Int) : x ∈ sortI l ↔ x ∈ l := List.mem_mergeSort
theorem sortI_nodup (l : List Int) (h : l.Nodup) : (sortI l).Nodup := (List.mergeSort_perm l _).nodup_iff.2 h
theorem sortI_rise (l : List Int) (h : l.Nodup) : Rise (sortI l) := by
  have h1 : (sortI l).Pairwise fun a b => decide (a ≤ b) = true := List.pairwise_mergeSort (fun a b c => by simp only [decide_eq_true_eq]; omega) (fun a b => by simp only [Bool.or_eq_true, decide_eq_true_eq]; omega) l
  have h2 : (sortI l).Pairwise (· ≠ ·) := sortI_nodup l h
  exact (List.pairwise_and_iff.2 ⟨h1, h2⟩).imp (fun {a b} h => by have h1 := of_decide_eq_true h.1; have h2 := h.2; omega)
/-- put in one by one, or sorted at the end -/
theorem fold_sort (l : List Int) (h : l.Nodup) : l.foldl putR [] = sortI l := by
  obtain ⟨h1, h2, _⟩ := fold_putR l [] (by simp [Rise])
  exact rise_ext _ _ h1 (sortI_rise l h) (fun x => by rw [h2 x, sortI_mem]; simp)
theorem flatMap_length {α β : Type} (g : α → List β) (c : Nat) : ∀ l : List α, (∀ x ∈ l, (g x).length ≤ c) → (l.flatMap g).length ≤ l.length * c
  | [], _ => by simp
  | x :: xs, h => by
    rw [List.flatMap_cons, List.length_append, List.length_cons, Nat.add_mul, Nat.one_mul]
    have := flatMap_length g c xs (fun y hy => h y (List.mem_cons_of_mem _ hy))
    have := h x (by simp)
    omega

end Go.Proofs.Ytohjpgcmhihdhaa.Pure

namespace Go.Proofs.Ytohjpgcmhihdhaa.Pure
open Go.RowKit Go.Proofs.Ytohjpgcmhihdhaa.Q Go.Proofs.YtohjpgcmhihdhaaW.PrintWords Go.Proofs.YtohjpgcmhihdhaaW.PrintLast Go.Proofs.YtohjpgcmhihdhaaW.PrintMore
set_option linter.unusedVariables false
set_option linter.unusedSimpArgs false
/-- the devices below a thing, rising -/
def underN (B : List S70) : Nat → Int → List Int
  | 0, id => [id]
  | n + 1, id => if bucketAt B id < 0 then [id] else sortI ((rd_T70 B (bucketAt B id)).f2.flatMap (underN B n))
theorem bucket_kind {D : List S34} {B : List S70} (V : Valid D B) (id : Int) (h : ¬ bucketAt B id < 0) : ∃ j, ∃ (hj : j < B.length), bucketAt B id = (j : Int) ∧ B[j].f0 = id ∧ kindAt D B id = B[j].f1 ∧ rd_T70 B (bucketAt B id) = B[j] := by
  rcases bucketAt_hit B id with e | ⟨j, hj, e, e2⟩
  · omega
  · exact ⟨j, hj, e, e2, by rw [← e2]; exact kindAt_own V j hj, by rw [e]; exact rd_bkt B j hj⟩
theorem kind_dev {D : List S34} {B : List S70} (id : Int) (h : bucketAt B id < 0) (hk : 0 ≤ kindAt D B id) : 0 ≤ devAt D id ∧ kindAt D B id = 0 := by
  have e : kindAt D B id = if 0 ≤ devAt D id then 0 else if bucketAt B id < 0 then -1 else (rd_T70 B (bucketAt B id)).f1 := rfl
  by_cases c : 0 ≤ devAt D id
  · exact ⟨c, by rw [e, if_pos c]⟩
  · rw [e, if_neg c, if_pos h] at hk
    omega
theorem kind_zero {D : List S34} {B : List S70} (V : Valid D B) (id : Int) (h : kindAt D B id = 0) : bucketAt B id < 0 := by
  by_cases c : bucketAt B id < 0
  · exact c
  · obtain ⟨j, hj, _, _, e, _⟩ := bucket_kind V id c
    have := V.bkts j hj
    omega
theorem underN_length {D : List S34} {B : List S70} (V : Valid D B) : ∀ (n : Nat) (id : Int), (underN B n id).length ≤ 8 ^ n
  | 0, id => by simp [underN]
  | n + 1, id => by
    unfold underN
    by_cases c : bucketAt B id < 0
    · rw [if_pos c]
      exact Nat.one_le_pow _ _ (by omega)
    · rw [if_neg c, sortI_length]
      obtain ⟨j, hj, _, _, _, e⟩ := bucket_kind V id c
      rw [e]
      have h8 := (V.bkts j hj).2.2
      have h1 := flatMap_length (underN B n) (8 ^ n) B[j].f2 (fun x _ => underN_length V n x)
      have h2 : B[j].f2.length * 8 ^ n ≤ 8 * 8 ^ n := Nat.mul_le_mul_right _ h8
      rw [Nat.pow_succ, Nat.mul_comm]
      exact Nat.le_trans h1 h2
theorem useGo_nodup : ∀ (items u u' : List Int), useGo u items = some u' → u.Nodup → u'.Nodup
  | [], u, u', h, hn => by
    simp only [useGo, Option.some.injEq] at h
    subst h
    exact hn
  | x :: xs, u, u', h, hn => by
    rw [useGo_cons] at h
    by_cases c : (u.any fun y => y == x) = true
    · rw [if_pos c] at h; cases h
    · rw [if_neg c] at h
      refine useGo_nodup xs (u ++ [x]) u' h ?_
      rw [List.nodup_append]
      refine ⟨hn, by simp, fun a ha b hb e => ?_⟩
      simp only [List.mem_singleton] at hb
      subst hb
      subst e
      exact c (List.any_eq_true.2 ⟨a, ha, by simp⟩)
theorem onceGo_nodup (B : List S70) : ∀ (d i : Nat) (u : List Int), i + d = B.length → onceGo B d (i : Int) u = true → u.Nodup → (u ++ (B.drop i).flatMap (·.f2)).Nodup
  | 0, i, u, hd, _, hn => by
    rw [List.drop_of_length_le (by omega)]
    simpa using hn
  | d + 1, i, u, hd, h, hn => by
    have hi : i < B.length := by omega
    unfold onceGo at h
    rw [rd_bkt B i hi] at h
    cases hu : useGo u B[i].f2 with
    | none => rw [hu] at h; cases h
    | some u' =>
      rw [hu] at h
      have h' : onceGo B d (((i + 1 : Nat)) : Int) u' = true := h
      have := onceGo_nodup B d (i + 1) u' (by omega) h' (useGo_nodup _ _ _ hu hn)
      rw [useGo_length _ _ _ hu] at this
      rw [List.drop_eq_getElem_cons hi, List.flatMap_cons, ← List.append_assoc]
      exact this
theorem once_all {D : List S34} {B : List S70} (V : Valid D B) : (B.flatMap (·.f2)).Nodup := by
  have := onceGo_nodup B B.length 0 [] (by omega) V.once (by simp)
  simpa using this
theorem items_nodup {D : List S34} {B : List S70} (V : Valid D B) (j : Nat) (hj : j < B.length) : B[j].f2.Nodup := (List.pairwise_flatMap.1 (once_all V)).1 _ (List.getElem_mem hj)
theorem items_apart {D : List S34} {B : List S70} (V : Valid D B) (i j : Nat) (hi : i < B.length) (hj : j < B.length) (x : Int) (h1 : x ∈ B[i].f2) (h2 : x ∈ B[j].f2) : i = j := by
  have h := (List.pairwise_flatMap.1 (once_all V)).2
  rw [List.pairwise_iff_getElem] at h
  rcases Nat.lt_trichotomy i j with c | c | c
  · exact absurd rfl (h i j hi hj c x h1 x h2)
  · exact c
  · exact absurd rfl (h j i hj hi c x h2 x h1)
/-- the kinds of a bucket's things are all the same -/
theorem item_kinds {D : List S34} {B : List S70} (V : Valid D B) (j : Nat) (hj : j < B.length) (x y : Int) (hx : x ∈ B[j].f2) (hy : y ∈ B[j].f2) : kindAt D B x = kindAt D B y := by
  have h1 := V.fits j hj x hx
  have h2 := V.fits j hj y hy
  unfold fitOne at h1 h2
  by_cases c : B[j].f1 < 3
  · rw [if_pos c] at h1 h2
    rw [eq_of_beq h1, eq_of_beq h2]
  · rw [if_neg c, Bool.and_eq_true] at h1 h2
    rw [eq_of_beq h1.1, eq_of_beq h2.1]
theorem under_apart {D : List S34} {B : List S70} (V : Valid D B) (x : Int) : ∀ (n : Nat) (a b : Int), kindAt D B a = kindAt D B b → 0 ≤ kindAt D B a → kindAt D B a ≤ 2 → x ∈ underN B n a → x ∈ underN B n b → a = b
  | 0, a, b, _, _, _, ha, hb => by
    simp only [underN, List.mem_singleton] at ha hb
    rw [← ha, hb]
  | n + 1, a, b, hk, h0, h2, ha, hb => by
    unfold underN at ha hb
    by_cases c : bucketAt B a < 0
    · have ka := (kind_dev a c h0).2
      have cb := kind_zero V b (by rw [← hk]; exact ka)
      rw [if_pos c] at ha
      rw [if_pos cb] at hb
      simp only [List.mem_singleton] at ha hb
      rw [← ha, hb]
    · obtain ⟨i, hi, _, ea, ka, ra⟩ := bucket_kind V a c
      have hki := V.bkts i hi
      have cb : ¬ bucketAt B b < 0 := fun cb => by
        have := (kind_dev b cb (by rw [← hk]; exact h0)).2
        omega
      obtain ⟨j, hj, _, eb, kb, rb⟩ := bucket_kind V b cb
      rw [if_neg c, ra, sortI_mem, List.mem_flatMap] at ha
      rw [if_neg cb, rb, sortI_mem, List.mem_flatMap] at hb
      obtain ⟨y, hy, hxy⟩ := ha
      obtain ⟨z, hz, hxz⟩ := hb
      have fy := V.fits i hi y hy
      have fz := V.fits j hj z hz
      unfold fitOne at fy fz
      rw [if_pos (by omega)] at fy fz
      have fy := eq_of_beq fy
      have fz := eq_of_beq fz
      have hyz := under_apart V x n y z (by omega) (by omega) (by omega) hxy hxz
      subst hyz
      have hij := items_apart V i j hi hj y hy hz
      subst hij
      rw [← ea, ← eb]
theorem under_nodup {D : List S34} {B : List S70} (V : Valid D B) : ∀ (n : Nat) (id : Int), (underN B n id).Nodup
  | 0, id => by simp [underN]
  | n + 1, id => by
    unfold underN
    by_cases c : bucketAt B id < 0
    · rw [if_pos c]; simp
    · rw [if_neg c]
      obtain ⟨j, hj, _, _, _, e⟩ := bucket_kind V id c
      rw [e]
      refine sortI_nodup _ (List.pairwise_flatMap.2 ⟨fun a _ => under_nodup V n a, ?_⟩)
      refine List.Pairwise.imp_of_mem (fun {a b} ha hb hab x hx y hy hxy => ?_) (items_nodup V j hj)
      subst hxy
      have ka := item_kind V j hj a ha
      have := (V.bkts j hj).2.1
      exact hab (under_apart V x n a b (item_kinds V j hj a b ha hb) ka.1 (by omega) hx hy)
/-- the things of a bucket, their devices one behind the other: none twice -/
theorem flat_nodup {D : List S34} {B : List S70} (V : Valid D B) (n : Nat) (j : Nat) (hj : j < B.length) : (B[j].f2.flatMap (underN B n)).Nodup := by
  refine List.pairwise_flatMap.2 ⟨fun a _ => under_nodup V n a, ?_⟩
  refine List.Pairwise.imp_of_mem (fun {a b} ha hb hab x hx y hy hxy => ?_) (items_nodup V j hj)
  subst hxy
  have ka := item_kind V j hj a ha
  have := (V.bkts j hj).2.1
  exact hab (under_apart V x n a b (item_kinds V j hj a b ha hb) ka.1 (by omega) hx hy)
theorem under_dev {D : List S34} {B : List S70} (V : Valid D B) : ∀ (n : Nat) (id : Int), 0 ≤ kindAt D B id → kindAt D B id < n → ∀ x ∈ underN B n id, 0 ≤ devAt D x
  | 0, id, h0, h1, _, _ => by omega
  | n + 1, id, h0, h1, x, hx => by
    unfold underN at hx
    by_cases c : bucketAt B id < 0
    · rw [if_pos c] at hx
      simp only [List.mem_singleton] at hx
      subst hx
      exact (kind_dev x c h0).1
    · rw [if_neg c] at hx
      obtain ⟨j, hj, _, _, ek, e⟩ := bucket_kind V id c
      rw [e, sortI_mem, List.mem_flatMap] at hx
      obtain ⟨y, hy, hxy⟩ := hx
      have ky := item_kind V j hj y hy
      exact under_dev V n y ky.1 (by omega) x hxy

/-- what the reference's put has come to -/
def PutAt (l : List Int) (n : Int) (i : Nat) (s : List Int × Bool) : Prop := s.1 ++ (if s.2 = true then l.drop i else putR (l.drop i) n) = putR l n ∧ s.1.length ≤ i + (if s.2 = true then 1 else 0)
theorem kind_neg {D : List S34} {B : List S70} (V : Valid D B) (id : Int) (h : kindAt D B id < 0) : bucketAt B id < 0 := by
  by_cases c : bucketAt B id < 0
  · exact c
  · obtain ⟨j, hj, _, _, e, _⟩ := bucket_kind V id c
    have := V.bkts j hj
    omega
theorem under_flat {D : List S34} {B : List S70} (V : Valid D B) (n : Nat) (j : Nat) (hj : j < B.length) (i : Nat) : ((B[j].f2.take i).flatMap (underN B n)).length ≤ 8 * 8 ^ n := by
  have h8 := (V.bkts j hj).2.2
  have h1 := flatMap_length (underN B n) (8 ^ n) (B[j].f2.take i) (fun x _ => underN_length V n x)
  exact Nat.le_trans h1 (Nat.mul_le_mul_right _ (by rw [List.length_take]; omega))
theorem underL_ev {D : List S34} {B : List S70} (V : Valid D B) (n : Nat) (j : Nat) (hj : j < B.length) (hn : 8 * 8 ^ n ≤ 1048576) (g : Nat → Int → Option (List Int)) (hg : ∀ x ∈ B[j].f2, Ev (fun k => g k x) (underN B n x)) : ∀ (d i : Nat), i + d = B[j].f2.length → Ev (fun k => underL (g k) ((B[j].f2.take i).flatMap (underN B n)) (B[j].f2.drop i)) (B[j].f2.flatMap (underN B n))
  | 0, i, hd => by
    rw [List.drop_of_length_le (by omega), List.take_of_length_le (by omega)]
    exact Ev.now _
  | d + 1, i, hd => by
    have hi : i < B[j].f2.length := by omega
    have h := underL_ev V n j hj hn g hg d (i + 1) (by omega)
    have hb := under_flat V n j hj (i + 1)
    rw [List.drop_eq_getElem_cons hi]
    simp only [underL]
    refine Ev.bind (hg _ (List.getElem_mem hi)) ?_
    rw [List.take_succ_eq_append_getElem hi, List.flatMap_append, List.flatMap_singleton] at h hb
    rw [List.length_append] at hb
    simp only [if_pos (Nat.le_trans hb hn)]
    exact h
theorem impl_under_ev {D : List S34} {B : List S70} (V : Valid D B) : ∀ (n : Nat) (id : Int), n ≤ 5 → kindAt D B id < n → Ev (fun k => impl_Tree_nodesUnder.f k D B id) (underN B n id)
  | 0, id, _, h => by
    refine ev_end (fun k => ?_)
    simp only [impl_Tree_nodesUnder.f]
    rw [if_pos (kind_neg V id (by omega))]
    rfl
  | n + 1, id, h5, h => by
    by_cases c : bucketAt B id < 0
    · refine ev_end (fun k => ?_)
      simp only [impl_Tree_nodesUnder.f, underN]
      rw [if_pos c, if_pos c]
    · obtain ⟨j, hj, _, _, ek, e⟩ := bucket_kind V id c
      have hn : 8 * 8 ^ n ≤ 1048576 := by
        have := Nat.pow_le_pow_right (n := 8) (by omega) (show n ≤ 4 by omega)
        omega
      have hL := underL_ev V n j hj hn (fun k x => impl_Tree_nodesUnder.f k D B x) (fun x hx => impl_under_ev V n x (by omega) (by have := item_kind V j hj x hx; omega)) B[j].f2.length 0 (by omega)
      refine Ev.step (f := ?f) (fun k => ?_) ?_
      rotate_left
      · simp only [impl_Tree_nodesUnder.f]
        rw [if_neg c, e]
        all_goals exact rfl
      · simp only [underN]
        rw [if_neg c, e]
        simp only [Option.map_eq_bind]
        exact Ev.bind hL (Ev.now _)

/-- the weight of a device -/
def wOne (D : List S34) (x : Int) : Int := (rd_T34 D (devAt D x)).f1
/-- the weight of a thing: of all devices below it -/
def wL (D : List S34) (l : List Int) : Int := l.foldl (fun s x => s + wOne D x) 0
def weightN (D : List S34) (B : List S70) (id : Int) : Int := wL D (underN B 5 id)
theorem wOne_range {D : List S34} {B : List S70} (V : Valid D B) (x : Int) (h : 0 ≤ devAt D x) : (0 ≤ wOne D x ∧ wOne D x ≤ 8) ∧ devAt D x < (D.length : Int) := by
  rcases devAt_hit D x with e | ⟨n, hn, e, _⟩
  · omega
  · unfold wOne
    rw [e, rd_dev D n hn]
    have := V.devs n hn
    omega
theorem wL_take {D : List S34} (l : List Int) (i : Nat) (h : i < l.length) : wL D (l.take (i + 1)) = wL D (l.take i) + wOne D l[i] := by
  unfold wL
  rw [List.take_succ_eq_append_getElem h, List.foldl_append]
  rfl
theorem wL_range {D : List S34} {B : List S70} (V : Valid D B) (l : List Int) (h : ∀ x ∈ l, 0 ≤ devAt D x) : ∀ i, i ≤ l.length → 0 ≤ wL D (l.take i) ∧ wL D (l.take i) ≤ 8 * i
  | 0, _ => by simp [wL]
  | i + 1, hi => by
    have h1 := wL_range V l h i (by omega)
    have h2 := wOne_range V l[i] (h _ (List.getElem_mem (by omega)))
    rw [wL_take l i (by omega)]
    omega
theorem impl_sum_ev {D : List S34} {B : List S70} (V : Valid D B) (l : List Int) (hl : l.length ≤ 1048576) (h : ∀ x ∈ l, 0 ≤ devAt D x) : Ev (fun k => impl_Tree_weight.l0 k 0 l l.length 0 D B) (wL D l) := by
  refine loop_is l.length (fun k (s : Int) i => impl_Tree_weight.l0 k s l l.length i D B) (fun i s => s = wL D (l.take i)) _ ?_ ?_ 0 rfl
  · rintro i s hi rfl
    refine .inr ⟨_, rfl, fun r hr => Ev.step (fun k => ?_) hr⟩
    have h1 := wL_range V l h i (by omega)
    have h2 := wOne_range V l[i] (h _ (List.getElem_mem hi))
    have h3 := h _ (List.getElem_mem hi)
    have e : impl_Tree_device.f D B (rd l i) = some (devAt D l[i]) := by rw [rd_get l i hi]; rfl
    simp only [impl_Tree_weight.l0]
    rw [if_pos (by omega), if_pos (by omega), if_pos (by omega), e]
    simp only [Option.bind_some]
    rw [if_pos h3, if_pos h2.2, up64 i l.length hi (by omega), wL_take l i hi]
    have e2 : wrap64 (wL D (l.take i) + (rd_T34 D (devAt D l[i])).f1) = wL D (l.take i) + wOne D l[i] := by
      have : (rd_T34 D (devAt D l[i])).f1 = wOne D l[i] := rfl
      rw [this]
      unfold wrap64
      omega
    rw [e2]
  · rintro s rfl
    refine ev_end (fun k => ?_)
    simp only [impl_Tree_weight.l0]
    rw [if_neg (by omega), List.take_length]
theorem under5 {D : List S34} {B : List S70} (V : Valid D B) (id : Int) : (underN B 5 id).length ≤ 1048576 := by
  have := underN_length V 5 id
  omega
theorem impl_weight_ev {D : List S34} {B : List S70} (V : Valid D B) (id : Int) (h : 0 ≤ kindAt D B id) : Ev (fun k => impl_Tree_weight.f k D B id) (weightN D B id) := by
  have hk := kindAt_le V id
  unfold impl_Tree_weight.f
  exact Ev.bind (impl_under_ev V 5 id (by omega) (by omega)) (impl_sum_ev V _ (under5 V id) (under_dev V 5 id h (by omega)))
theorem weight_range {D : List S34} {B : List S70} (V : Valid D B) (id : Int) (h : 0 ≤ kindAt D B id) : 0 ≤ weightN D B id ∧ weightN D B id ≤ 8388608 := by
  have hk := kindAt_le V id
  have := wL_range V _ (under_dev V 5 id h (by omega)) (underN B 5 id).length (by omega)
  rw [List.take_length] at this
  have := under5 V id
  unfold weightN
  omega

end Go.Proofs.Ytohjpgcmhihdhaa.Pure

namespace Go.Proofs.Ytohjpgcmhihdhaa.Pure
open Go.RowKit Go.Proofs.YtohjpgcmhihdhaaW.PrintWords Go.Proofs.YtohjpgcmhihdhaaW.PrintLast Go.Proofs.YtohjpgcmhihdhaaW.PrintMore
set_option linter.unusedVariables false
set_option linter.unusedSimpArgs false
theorem and32 (x : Int) : Go.bits .and .i64 x 4294967295 = x % 4294967296 := by
  have h : (BitVec.ofInt 64 x &&& BitVec.ofInt 64 4294967295).toNat = (x % 4294967296).toNat := by
    rw [BitVec.toNat_and]
    have e1 : (BitVec.ofInt 64 4294967295).toNat = 2 ^ 32 - 1 := by decide
    have e2 : (BitVec.ofInt 64 x).toNat = (x % 18446744073709551616).toNat := by simp [BitVec.toNat_ofInt]
    rw [e1, e2, Nat.and_two_pow_sub_one_eq_mod]
    omega
  show IntKind.i64.wrap ((BitVec.ofInt 64 x &&& BitVec.ofInt 64 4294967295).toNat : Int) = _
  rw [h, IntKind.wrap_i64]
  omega
theorem xor64 (a b : Nat) (ha : a < 2 ^ 63) (hb : b < 2 ^ 63) : Go.bits .xor .i64 (a : Int) (b : Int) = ((a ^^^ b : Nat) : Int) := by
  have hx : a ^^^ b < 2 ^ 63 := Nat.xor_lt_two_pow ha hb
  have h : (BitVec.ofInt 64 (a : Int) ^^^ BitVec.ofInt 64 (b : Int)).toNat = a ^^^ b := by
    rw [BitVec.toNat_xor, BitVec.ofInt_natCast, BitVec.ofInt_natCast, BitVec.toNat_ofNat, BitVec.toNat_ofNat, Nat.mod_eq_of_lt (by omega), Nat.mod_eq_of_lt (by omega)]
  show IntKind.i64.wrap ((BitVec.ofInt 64 (a : Int) ^^^ BitVec.ofInt 64 (b : Int)).toNat : Int) = _
  rw [h, IntKind.wrap_i64]
  omega
theorem xor32 (a b : Nat) (ha : a < 2 ^ 32) (hb : b < 2 ^ 32) : Go.bits .xor .u32 (a : Int) (b : Int) = ((a ^^^ b : Nat) : Int) := by
  have hx : a ^^^ b < 2 ^ 32 := Nat.xor_lt_two_pow ha hb
  have h : (BitVec.ofInt 32 (a : Int) ^^^ BitVec.ofInt 32 (b : Int)).toNat = a ^^^ b := by
    rw [BitVec.toNat_xor, BitVec.ofInt_natCast, BitVec.ofInt_natCast, BitVec.toNat_ofNat, BitVec.toNat_ofNat, Nat.mod_eq_of_lt (by omega), Nat.mod_eq_of_lt (by omega)]
  show IntKind.u32.wrap ((BitVec.ofInt 32 (a : Int) ^^^ BitVec.ofInt 32 (b : Int)).toNat : Int) = _
  rw [h, IntKind.wrap_u32]
  omega
theorem xor_same (a b : Int) (ha : 0 ≤ a) (ha' : a < 4294967296) (hb : 0 ≤ b) (hb' : b < 4294967296) : Go.bits .xor .i64 a b = Go.bits .xor .u32 a b ∧ 0 ≤ Go.bits .xor .u32 a b ∧ Go.bits .xor .u32 a b < 4294967296 := by
  obtain ⟨n, rfl⟩ := Int.eq_ofNat_of_zero_le ha
  obtain ⟨m, rfl⟩ := Int.eq_ofNat_of_zero_le hb
  have h1 : n < 2 ^ 32 := by omega
  have h2 : m < 2 ^ 32 := by omega
  have hx : n ^^^ m < 2 ^ 32 := Nat.xor_lt_two_pow h1 h2
  rw [xor64 n m (by omega) (by omega), xor32 n m h1 h2]
  exact ⟨rfl, by omega, by omega⟩

/-- two calls that return the same number: comparing them says true -/
theorem eq_then (x y : Option Int) (h : Int) (hx : x = some h) (hy : y = some h) : (x.bind fun t115 => (y.bind fun t116 => (if t116 = t115 then (some true) else (some false)))) = some true := by
  subst hx hy
  simp
theorem eq_then2 (x y : Option (Int × Int)) (h : Int × Int) (hx : x = some h) (hy : y = some h) : (x.bind fun b1 => (y.bind fun b2 => (if b2.1 = b1.1 then (if b2.2 = b1.2 then (some true) else (some false)) else (some false)))) = some true := by
  subst hx hy
  simp
theorem eq_thenB (x y : Option Bool) (h : Bool) (hx : x = some h) (hy : y = some h) : (x.bind fun t1 => (y.bind fun t2 => (if (t2 != t1) = true then (some false) else (some true)))) = some true := by
  subst hx hy
  simp

end Go.Proofs.Ytohjpgcmhihdhaa.Pure

namespace Go.Proofs.Ytohjpgcmhihdhaa.Pure
open Go.RowKit Go.Proofs.Ytohjpgcmhihdhaa.Q Go.Proofs.YtohjpgcmhihdhaaW.PrintWords Go.Proofs.YtohjpgcmhihdhaaW.PrintLast Go.Proofs.YtohjpgcmhihdhaaW.PrintMore
set_option linter.unusedVariables false
set_option linter.unusedSimpArgs false
def mixA (h x : Int) : Int := (Go.bits .xor .u32 h (x % 4294967296) * 16777619) % 4294967296
def mixB (a : Int) : Int := (Go.bits .xor .u32 a (a / 32768) * 1540483477) % 4294967296
def mixC (b : Int) : Int := Go.bits .xor .u32 b (b / 8192)
def mixStep (h x : Int) : Int := mixC (mixB (mixA h x))
def mixL (l : List Int) (h : Int) : Int := l.foldl mixStep h
theorem mixA_range (h x : Int) : 0 ≤ mixA h x ∧ mixA h x < 4294967296 := by unfold mixA; omega
theorem mixB_range (a : Int) : 0 ≤ mixB a ∧ mixB a < 4294967296 := by unfold mixB; omega
theorem mixC_range (b : Int) (h0 : 0 ≤ b) (h1 : b < 4294967296) : 0 ≤ mixC b ∧ mixC b < 4294967296 := (xor_same b (b / 8192) h0 h1 (by omega) (by omega)).2
theorem mixStep_range (h x : Int) : 0 ≤ mixStep h x ∧ mixStep h x < 4294967296 := mixC_range _ (mixB_range _).1 (mixB_range _).2
theorem mixL_range : ∀ (l : List Int) (h : Int), 0 ≤ h → h < 4294967296 → 0 ≤ mixL l h ∧ mixL l h < 4294967296
  | [], _, h0, h1 => ⟨h0, h1⟩
  | x :: l, h, _, _ => mixL_range l (mixStep h x) (mixStep_range h x).1 (mixStep_range h x).2
theorem mixL_drop (l : List Int) (i : Int) (h0 : 0 ≤ i) (h1 : i < l.length) (h : Int) : mixL (l.drop i.toNat) h = mixL (l.drop (i + 1).toNat) (mixStep h (rd l i)) := by
  obtain ⟨n, rfl⟩ := Int.eq_ofNat_of_zero_le h0
  have hl : n < l.length := by omega
  have e : ((n : Int) + 1).toNat = n + 1 := by omega
  have er : rd l n = l[n] := by
    unfold rd
    rw [Int.toNat_natCast, List.getD_eq_getElem?_getD, List.getElem?_eq_getElem hl]; rfl
  rw [e, er, Int.toNat_natCast, List.drop_eq_getElem_cons hl]
  rfl
theorem wrap_small (x : Int) (h0 : 0 ≤ x) (h1 : x < 4294967296) : wrap64 x = x := by unfold wrap64; omega
theorem wrap_next (i : Int) (h0 : 0 ≤ i) (h1 : i < 9223372036854775807) : wrap64 (i + 1) = i + 1 := by unfold wrap64; omega
theorem wrap_mod (x : Int) : wrap64 x % 4294967296 = x % 4294967296 := by unfold wrap64; omega

theorem impl_mix (l : List Int) (hm : (l.length : Int) ≤ 9223372036854775807) (d : Nat) : ∀ (k : Nat) (h i : Int), 0 ≤ h → h < 4294967296 → 0 ≤ i → i ≤ l.length → (l.length : Int) - i = d → d < k →
    impl_Mix.l0 k h l (l.length : Int) i = some (mixL (l.drop i.toNat) h) := by
  induction d with
  | zero =>
    intro k h i a0 a1 h0 h1 hd hk
    obtain ⟨k, rfl⟩ : ∃ m, k = m + 1 := ⟨k - 1, by omega⟩
    simp only [impl_Mix.l0]
    rw [if_neg (by omega), wrap_small h a0 a1, List.drop_of_length_le (by omega)]
    rfl
  | succ d ih =>
    intro k h i a0 a1 h0 h1 hd hk
    obtain ⟨k, rfl⟩ : ∃ m, k = m + 1 := ⟨k - 1, by omega⟩
    have hlt : i < (l.length : Int) := by omega
    rw [mixL_drop l i h0 hlt h, ← ih k _ (i + 1) (mixStep_range h (rd l i)).1 (mixStep_range h (rd l i)).2 (by omega) (by omega) (by omega) (by omega)]
    simp only [impl_Mix.l0]
    rw [if_pos hlt, if_pos h0, if_pos hlt, wrap_next i h0 (by omega)]
    rfl
/-- the hash of a list of words -/
def hash (l : List Int) : Int := mixL l 2166136261
theorem hash_range (l : List Int) : 0 ≤ hash l ∧ hash l < 4294967296 := mixL_range l _ (by decide) (by decide)
theorem impl_Mix_hash (l : List Int) (hm : (l.length : Int) ≤ 9223372036854775807) (k : Nat) (hk : l.length < k) : impl_Mix.f k l = some (hash l) :=
  impl_mix l hm l.length k _ 0 (by decide) (by decide) (by omega) (by omega) (by omega) hk

end Go.Proofs.Ytohjpgcmhihdhaa.Pure

namespace Go.Proofs.Ytohjpgcmhihdhaa.Pure
open Go.RowKit Go.Proofs.Ytohjpgcmhihdhaa.Q Go.Proofs.YtohjpgcmhihdhaaW.PrintWords Go.Proofs.YtohjpgcmhihdhaaW.PrintLast
set_option linter.unusedVariables false
set_option linter.unusedSimpArgs false
theorem four_short (a b c d : Int) : (([a, b, c, d] : List Int).length : Int) ≤ 9223372036854775807 := by
  simp only [List.length_cons, List.length_nil]; omega
theorem impl_ticket (a0 a1 a2 a3 : Int) (k : Nat) (hk : 4 < k) : impl_TicketOf.f k a0 a1 a2 a3 = some (hash [a2, a3, a0, a1]) := by
  unfold impl_TicketOf.f
  rw [impl_Mix_hash _ (four_short a2 a3 a0 a1) k hk]
  simp only [Option.bind_some]

end Go.Proofs.Ytohjpgcmhihdhaa.Pure

namespace Go.Proofs.Ytohjpgcmhihdhaa.Pure
open Go.RowKit Go.Proofs.Ytohjpgcmhihdhaa.Q Go.Proofs.YtohjpgcmhihdhaaW.PrintWords Go.Proofs.YtohjpgcmhihdhaaW.PrintLast Go.Proofs.YtohjpgcmhihdhaaW.PrintMore
set_option linter.unusedVariables false
set_option linter.unusedSimpArgs false
theorem rd_item (l : List S113) (i : Nat) (h : i < l.length) : rd_T113 l (i : Int) = l[i] := by
  unfold rd_T113
  rw [Int.toNat_natCast, getD_get l i _ h]
/-- the ticket of a unit of an item -/
def ticket (id u seed try_ : Int) : Int := hash [seed, try_, id, u]
/-- the highest of the first tickets; -1 of none -/
def bestN (id seed try_ : Int) : Nat → Int
  | 0 => -1
  | n + 1 => max (bestN id seed try_ n) (ticket id n seed try_)
def bestOf (x : S113) (seed try_ : Int) : Int := bestN x.f0 seed try_ x.f1.toNat
theorem ticket_range (id u seed try_ : Int) : 0 ≤ ticket id u seed try_ ∧ ticket id u seed try_ < 4294967296 := hash_range _
theorem bestN_range (id seed try_ : Int) : ∀ n, -1 ≤ bestN id seed try_ n ∧ bestN id seed try_ n < 4294967296 ∧ (0 < n → 0 ≤ bestN id seed try_ n)
  | 0 => by simp [bestN]
  | n + 1 => by
    have h := bestN_range id seed try_ n
    have h2 := ticket_range id n seed try_
    simp only [bestN]
    omega
theorem mx_max (a b : Int) : mx a b = max a b := by unfold mx; omega
theorem impl_best_ev (id wt seed try_ : Int) (hw : wt ≤ 4611686018427387904) : Ev (fun k => impl_Item_best.f k id wt seed try_) (bestN id seed try_ wt.toNat) := by
  by_cases h0 : 0 ≤ wt
  · obtain ⟨n, rfl⟩ := Int.eq_ofNat_of_zero_le h0
    rw [Int.toNat_natCast]
    refine loop_is n (fun k s i => impl_Item_best.l0 k seed try_ s n i id n) (fun i s => s = bestN id seed try_ i) _ ?_ ?_ (-1) rfl
    · rintro i s hi rfl
      refine .inr ⟨bestN id seed try_ (i + 1), rfl, fun r hr => Ev.step (f := ?f) (fun k => ?_) ?_⟩
      rotate_left
      · simp only [impl_Item_best.l0, mx_max]
        rw [if_pos (by omega), up64 i n hi (by omega)]
        all_goals exact rfl
      · exact Ev.bind (ev_of (K := 5) fun k hk => impl_ticket id i seed try_ k (by omega)) hr
    · rintro s rfl
      exact ev_end (fun k => by simp only [impl_Item_best.l0]; rw [if_neg (by omega)])
  · have e : wt.toNat = 0 := by omega
    rw [e]
    exact ev_end (fun k => by simp only [impl_Item_best.f, impl_Item_best.l0]; rw [if_neg (by omega)]; rfl)
/-- who has the highest ticket, the first of several: the ticket and the Id -/
def pickStep (seed try_ : Int) (s : Int × Int) (x : S113) : Int × Int := if bestOf x seed try_ > s.1 then (bestOf x seed try_, x.f0) else s
def pickL (l : List S113) (seed try_ : Int) : Int × Int := l.foldl (pickStep seed try_) (-1, 0)
def chooseL (l : List S113) (seed try_ : Int) : Int × Bool := ((pickL l seed try_).2, decide ((pickL l seed try_).1 ≥ 0))
/-- no weight is out of all bounds -/
def WtOk (l : List S113) : Prop := ∀ x ∈ l, x.f1 ≤ 4611686018427387904
theorem pick_take (l : List S113) (i : Nat) (h : i < l.length) (seed try_ : Int) : (l.take (i + 1)).foldl (pickStep seed try_) (-1, 0) = pickStep seed try_ ((l.take i).foldl (pickStep seed try_) (-1, 0)) l[i] := by
  rw [List.take_succ_eq_append_getElem h, List.foldl_append]
  rfl
theorem impl_choose_ev (l : List S113) (hl : l.length ≤ 1048576) (hw : WtOk l) (seed try_ : Int) : Ev (fun k => impl_choose.f k l seed try_) (chooseL l seed try_) := by
  refine loop_is l.length (fun k (s : Int × Int) i => impl_choose.l0 k seed try_ s.1 s.2 l l.length i) (fun i s => s = (l.take i).foldl (pickStep seed try_) (-1, 0)) _ ?_ ?_ (-1, 0) rfl
  · rintro i s hi rfl
    refine .inr ⟨_, rfl, fun r hr => Ev.step (f := ?f) (fun k => ?_) ?_⟩
    rotate_left
    · simp only [impl_choose.l0]
      rw [if_pos (by omega), if_pos (by omega), if_pos (by omega), up64 i l.length hi (by omega), rd_item l i hi]
      all_goals exact rfl
    · rw [pick_take l i hi] at hr
      generalize List.foldl (pickStep seed try_) (-1, 0) (l.take i) = s at hr ⊢
      refine Ev.bind (impl_best_ev _ _ seed try_ (hw _ (List.getElem_mem hi))) ?_
      unfold pickStep bestOf at hr
      by_cases c : bestN l[i].f0 seed try_ l[i].f1.toNat > s.1
      · rw [if_pos c] at hr
        refine Ev.congr (fun k => ?_) hr
        exact if_pos c
      · rw [if_neg c] at hr
        refine Ev.congr (fun k => ?_) hr
        exact if_neg c
  · rintro s rfl
    refine ev_end (fun k => ?_)
    simp only [impl_choose.l0]
    rw [if_neg (by omega), List.take_length]
    rfl

/-- a thing with its weight -/
def itemOf (D : List S34) (B : List S70) (x : Int) : S113 := ⟨x, weightN D B x⟩
/-- the choice among a bucket's things -/
def chooseV (D : List S34) (B : List S70) (id seed try_ : Int) : Int × Bool := if bucketAt B id < 0 then (0, false) else chooseL ((rd_T70 B (bucketAt B id)).f2.map (itemOf D B)) seed try_
theorem items_wt {D : List S34} {B : List S70} (V : Valid D B) (j : Nat) (hj : j < B.length) : WtOk (B[j].f2.map (itemOf D B)) := by
  intro x hx
  obtain ⟨y, hy, rfl⟩ := List.mem_map.1 hx
  have h := (weight_range V y (item_kind V j hj y hy).1).2
  have : (itemOf D B y).f1 = weightN D B y := rfl
  omega
theorem itemsW_ev (g : Nat → Int → Option Int) (c : Int → S113) (l : List Int) (hl : l.length ≤ 1048576) (hc : ∀ x, (c x).f0 = x) (hg : ∀ x ∈ l, Ev (fun k => g k x) (c x).f1) : ∀ (d i : Nat), i + d = l.length → Ev (fun k => itemsW (g k) ((l.take i).map c) (l.drop i)) (l.map c)
  | 0, i, hd => by
    rw [List.drop_of_length_le (by omega), List.take_of_length_le (by omega)]
    exact Ev.now _
  | d + 1, i, hd => by
    have hi : i < l.length := by omega
    have h := itemsW_ev g c l hl hc hg d (i + 1) (by omega)
    rw [List.drop_eq_getElem_cons hi]
    simp only [itemsW]
    refine Ev.bind (hg _ (List.getElem_mem hi)) ?_
    rw [List.take_succ_eq_append_getElem hi, List.map_append] at h
    simp only [if_pos (show ((l.take i).map c).length < 1048576 by rw [List.length_map, List.length_take]; omega)]
    have e : (⟨l[i], (c l[i]).f1⟩ : S113) = c l[i] := by
      have := hc l[i]
      cases hx : c l[i] with
      | mk a b => rw [hx] at this; simp only at this; rw [← this]
    rw [e]
    exact h
theorem impl_chooseIn_ev {D : List S34} {B : List S70} (V : Valid D B) (id seed try_ : Int) : Ev (fun k => impl_Tree_chooseIn.f k D B id seed try_) (chooseV D B id seed try_) := by
  unfold impl_Tree_chooseIn.f chooseV
  by_cases c : bucketAt B id < 0
  · simp only [if_pos c]
    exact Ev.now _
  · simp only [if_neg c]
    obtain ⟨j, hj, ej, _, ek, e⟩ := bucket_kind V id c
    rw [e]
    have h8 := (V.bkts j hj).2.2
    exact Ev.bind (itemsW_ev (fun k x => impl_Tree_weight.f k D B x) (itemOf D B) B[j].f2 (by omega) (fun _ => rfl) (fun x hx => impl_weight_ev V x (item_kind V j hj x hx).1) B[j].f2.length 0 (by omega)) (impl_choose_ev _ (by rw [List.length_map]; omega) (items_wt V j hj) seed try_)
/-- who is chosen is one of them -/
theorem pick_mem (seed try_ : Int) : ∀ (l : List S113) (s : Int × Int), (l.foldl (pickStep seed try_) s).2 = s.2 ∧ (l.foldl (pickStep seed try_) s).1 = s.1 ∨ ∃ x ∈ l, (l.foldl (pickStep seed try_) s).2 = x.f0
  | [], s => .inl ⟨rfl, rfl⟩
  | x :: xs, s => by
    rw [List.foldl_cons]
    rcases pick_mem seed try_ xs (pickStep seed try_ s x) with ⟨h, h1⟩ | ⟨y, hy, h⟩
    · rw [h, h1]
      unfold pickStep
      by_cases c : bestOf x seed try_ > s.1
      · rw [if_pos c]
        exact .inr ⟨x, by simp, rfl⟩
      · rw [if_neg c]
        exact .inl ⟨rfl, rfl⟩
    · exact .inr ⟨y, List.mem_cons_of_mem _ hy, h⟩
theorem choose_mem (l : List S113) (seed try_ : Int) (h : (chooseL l seed try_).2 = true) : ∃ x ∈ l, (chooseL l seed try_).1 = x.f0 := by
  have h := of_decide_eq_true h
  rcases pick_mem seed try_ l (-1, 0) with ⟨_, h1⟩ | h2
  · have e : (pickL l seed try_).1 = (-1 : Int) := h1
    omega
  · exact h2
theorem chooseV_kind {D : List S34} {B : List S70} (V : Valid D B) (id seed try_ : Int) (h : (chooseV D B id seed try_).2 = true) : 0 ≤ kindAt D B (chooseV D B id seed try_).1 ∧ kindAt D B (chooseV D B id seed try_).1 < kindAt D B id := by
  unfold chooseV at h ⊢
  by_cases c : bucketAt B id < 0
  · rw [if_pos c] at h
    cases h
  · rw [if_neg c] at h ⊢
    obtain ⟨j, hj, ej, _, ek, e⟩ := bucket_kind V id c
    rw [e] at h ⊢
    obtain ⟨x, hx, h1⟩ := choose_mem _ seed try_ h
    obtain ⟨y, hy, rfl⟩ := List.mem_map.1 hx
    rw [h1, ek]
    exact item_kind V j hj y hy

/-- the thing of a kind that the choices lead to; an error where there is none -/
def descN (D : List S34) (B : List S70) (kd seed try_ : Int) : Nat → Int → Int × Bool
  | 0, _ => (0, false)
  | n + 1, id => if kindAt D B id = kd then (id, true) else if (chooseV D B id seed try_).2 = true then descN D B kd seed try_ n (chooseV D B id seed try_).1 else (0, false)
theorem impl_desc_ev {D : List S34} {B : List S70} (V : Valid D B) (kd seed try_ : Int) : ∀ (n : Nat) (id : Int), 0 ≤ kindAt D B id → kindAt D B id < n → ∃ p : Int × Bool, Ev (fun k => impl_Tree_descend.l0 k id kd seed try_ true D B) p ∧ p.2 = (descN D B kd seed try_ n id).2 ∧ (p.2 = true → p.1 = (descN D B kd seed try_ n id).1)
  | 0, id, h0, h => by omega
  | n + 1, id, h0, h => by
    have ek : impl_Tree_kindOf.f D B id = some (kindAt D B id) := rfl
    have hstep : ∀ r, Ev (fun k => if kindAt D B id = kd then some (id, true) else ((impl_Tree_chooseIn.f k D B id seed try_).bind fun b => impl_Tree_descend.l0 k b.1 kd seed try_ b.2 D B)) r → Ev (fun k => impl_Tree_descend.l0 k id kd seed try_ true D B) r := fun r hr => Ev.step (fun k => by
      simp only [impl_Tree_descend.l0, ek, Option.bind_some, if_true]) hr
    unfold descN
    by_cases c : kindAt D B id = kd
    · refine ⟨(id, true), hstep _ ?_, ?_, ?_⟩
      · simp only [if_pos c]
        exact Ev.now _
      · simp only [if_pos c]
      · exact fun _ => by rw [if_pos c]
    · simp only [if_neg c] at hstep ⊢
      by_cases c2 : (chooseV D B id seed try_).2 = true
      · simp only [if_pos c2]
        have hk := chooseV_kind V id seed try_ c2
        obtain ⟨p, h1, h2, h3⟩ := impl_desc_ev V kd seed try_ n _ hk.1 (by omega)
        refine ⟨p, hstep _ (Ev.bind (impl_chooseIn_ev V id seed try_) ?_), h2, h3⟩
        simp only [c2]
        exact h1
      · simp only [if_neg c2]
        have c3 := Bool.eq_false_iff.2 c2
        refine ⟨((chooseV D B id seed try_).1, false), hstep _ (Ev.bind (impl_chooseIn_ev V id seed try_) ?_), rfl, fun h => ?_⟩
        · simp only [c3]
          exact ev_end (fun k => by simp only [impl_Tree_descend.l0, Bool.false_eq_true, if_false])
        · cases h
def descV (D : List S34) (B : List S70) (id kd seed try_ : Int) : Int × Bool := if 0 ≤ kindAt D B id then descN D B kd seed try_ 5 id else (0, false)
theorem impl_descend_ev {D : List S34} {B : List S70} (V : Valid D B) (id kd seed try_ : Int) : ∃ p : Int × Bool, Ev (fun k => impl_Tree_descend.f k D B id kd seed try_) p ∧ p.2 = (descV D B id kd seed try_).2 ∧ (p.2 = true → p.1 = (descV D B id kd seed try_).1) := by
  have h := kindAt_le V id
  have ek : impl_Tree_kindOf.f D B id = some (kindAt D B id) := rfl
  unfold impl_Tree_descend.f descV
  simp only [ek, Option.bind_some]
  by_cases c : 0 ≤ kindAt D B id
  · rw [if_pos c, decide_eq_true (show kindAt D B id ≥ 0 from c)]
    exact impl_desc_ev V kd seed try_ 5 id c (by omega)
  · rw [if_neg c, decide_eq_false (show ¬ kindAt D B id ≥ 0 by omega)]
    exact ⟨(id, false), ev_end (fun k => by simp only [impl_Tree_descend.l0, Bool.false_eq_true, if_false]), rfl, fun h => by cases h⟩
theorem descN_kind {D : List S34} {B : List S70} (kd seed try_ : Int) : ∀ (n : Nat) (id : Int), (descN D B kd seed try_ n id).2 = true → kindAt D B (descN D B kd seed try_ n id).1 = kd
  | 0, id, h => by cases h
  | n + 1, id, h => by
    unfold descN at h ⊢
    by_cases c : kindAt D B id = kd
    · rw [if_pos c]; exact c
    · rw [if_neg c] at h ⊢
      by_cases c2 : (chooseV D B id seed try_).2 = true
      · rw [if_pos c2] at h ⊢
        exact descN_kind kd seed try_ n _ h
      · rw [if_neg c2] at h; cases h
theorem descV_kind {D : List S34} {B : List S70} (id kd seed try_ : Int) (h : (descV D B id kd seed try_).2 = true) : kindAt D B (descV D B id kd seed try_).1 = kd := by
  unfold descV at h ⊢
  by_cases c : 0 ≤ kindAt D B id
  · rw [if_pos c] at h ⊢
    exact descN_kind kd seed try_ 5 id h
  · rw [if_neg c] at h; cases h
/-- what has the kind of a device is one -/
theorem dev_of_kind {D : List S34} {B : List S70} (V : Valid D B) (x : Int) (h : kindAt D B x = 0) : 0 ≤ devAt D x := by
  by_cases c : 0 ≤ devAt D x
  · exact c
  · exfalso
    have e : kindAt D B x = if bucketAt B x < 0 then -1 else (rd_T70 B (bucketAt B x)).f1 := if_neg c
    rcases bucketAt_hit B x with hb | ⟨n, hn, hb, hx⟩
    · rw [e, if_pos (by omega)] at h
      omega
    · have e2 := kindAt_own V n hn
      rw [hx] at e2
      have := (V.bkts n hn).2.1
      omega

section
variable {D : List S34} {B : List S70}
/-- a place does not stand against a device at another place -/
def freeAt (B : List S70) (kd : Int) (L : List Int) (a : Nat) (x : Int) (i : Nat) : Bool := decide (i = a) || decide (rd L i < 0) || (!decide (rd L i = x) && !decide (domN B kd (rd L i) = domN B kd x))
def freeV (B : List S70) (kd : Int) (L : List Int) (a : Nat) (x : Int) : Bool := (List.range L.length).all (freeAt B kd L a x)
/-- places hold devices, or nothing -/
def DevL (D : List S34) (L : List Int) : Prop := ∀ y ∈ L, 0 ≤ y → 0 ≤ devAt D y
theorem dom_dev (kd y : Int) (h : 0 ≤ devAt D y) : (domP D B kd y).1 = domN B kd y := by
  unfold domP domN
  rw [if_neg (by omega)]
  by_cases c : kd = 0 <;> simp [c]
theorem conflict_ev (V : Valid D B) (kd : Int) (L : List Int) (hL : L.length ≤ 1048576) (hd : DevL D L) (a : Nat) (x : Int) (hx : 0 ≤ devAt D x) : Ev (fun k => impl_Tree_conflict.f k D B kd L a x) (!freeV B kd L a x) := by
  have hx0 := dom_dev (B := B) kd x hx
  have hu : ∀ (i : Nat), i < L.length → ∀ r, Ev (fun k => if freeAt B kd L a x i = true then impl_Tree_conflict.l0 k kd a x (domN B kd x) L L.length ((i + 1 : Nat) : Int) D B else some true) r → Ev (fun k => impl_Tree_conflict.l0 k kd a x (domN B kd x) L L.length i D B) r := fun i hi r hr => by
    have hj : ∀ b : Bool, b = (decide (i = a) || decide (rd L i < 0)) → Ev (fun k => impl_Tree_conflict.j1 k kd a x (domN B kd x) (rd L i) L L.length i b D B) r := fun b hb => by
      refine Ev.step (f := ?f) (fun k => ?_) ?_
      rotate_left
      · simp only [impl_Tree_conflict.j1]
        rw [up64 i L.length hi (by omega)]
        try exact rfl
      · unfold freeAt at hr
        cases b with
        | true =>
          rw [← hb] at hr
          simp only [Bool.true_or, if_true] at hr ⊢
          exact hr
        | false =>
          rw [← hb] at hr
          have c2 : ¬ rd L i < 0 := fun h => by rw [decide_eq_true h] at hb; simp at hb
          simp only [Bool.false_or, Bool.false_eq_true, if_false] at hr ⊢
          have hy := hd (rd L i) (by rw [rd_get L i hi]; exact List.getElem_mem hi) (by omega)
          refine Ev.bind (impl_domain V kd _) ?_
          rw [dom_dev kd _ hy]
          by_cases c3 : rd L i = x
          · simp only [if_pos c3]
            simp only [c3, decide_true, Bool.not_true, Bool.false_and, Bool.false_eq_true, if_false] at hr
            exact hr
          · simp only [if_neg c3]
            by_cases c4 : domN B kd (rd L i) = domN B kd x
            · simp only [if_pos c4]
              simp only [c3, c4, decide_true, decide_false, Bool.not_true, Bool.and_false, Bool.false_eq_true, if_false] at hr
              exact hr
            · simp only [if_neg c4]
              simp only [c3, c4, decide_false, Bool.not_false, Bool.and_true, if_true] at hr
              exact hr
    refine Ev.step (f := ?g) (fun k => ?_) ?_
    rotate_left
    · simp only [impl_Tree_conflict.l0]
      rw [if_pos (by omega), if_pos (by omega), if_pos (by omega)]
      try exact rfl
    · by_cases c1 : i = a
      · simp only [if_pos (show (i : Int) = (a : Int) by omega)]
        exact hj true (by simp [c1])
      · simp only [if_neg (show ¬ (i : Int) = (a : Int) by omega)]
        exact hj _ (by simp [c1])
  unfold impl_Tree_conflict.f freeV
  refine Ev.bind (impl_domain V kd x) ?_
  rw [hx0]
  have h2 : ∀ (d i : Nat), i + d = L.length → Ev (fun k => impl_Tree_conflict.l0 k kd a x (domN B kd x) L L.length i D B) (!(List.range' i d).all (freeAt B kd L a x)) := by
    intro d
    induction d with
    | zero =>
      intro i hi
      obtain rfl : i = L.length := by omega
      refine ev_end (fun k => ?_)
      simp only [impl_Tree_conflict.l0]
      rw [if_neg (by omega)]
      rfl
    | succ d ih =>
      intro i hi
      refine hu i (by omega) _ ?_
      rw [List.range'_succ, List.all_cons]
      cases hf : freeAt B kd L a x i with
      | true =>
        simp only [if_true, Bool.true_and]
        exact ih (i + 1) (by omega)
      | false =>
        simp only [Bool.false_eq_true, if_false, Bool.false_and, Bool.not_false]
        exact Ev.now _
  have := h2 L.length 0 (by omega)
  rw [← List.range_eq_range'] at this
  exact this
/-- the device that is found for a place, try by try; -1 of none -/
def findV (D : List S34) (B : List S70) (root kd seed : Int) (fr : Int → Bool) (a : Nat) (out : List Int) : Nat → Nat → Int
  | 0, _ => -1
  | n + 1, t => if (descV D B root kd seed ((t * 7 + a : Nat) : Int)).2 = true then (if (descV D B (descV D B root kd seed ((t * 7 + a : Nat) : Int)).1 0 seed ((t * 7 + a : Nat) : Int)).2 = true ∧ (out.any fun y => y == (descV D B (descV D B root kd seed ((t * 7 + a : Nat) : Int)).1 0 seed ((t * 7 + a : Nat) : Int)).1) = false ∧ fr (descV D B (descV D B root kd seed ((t * 7 + a : Nat) : Int)).1 0 seed ((t * 7 + a : Nat) : Int)).1 = true then (descV D B (descV D B root kd seed ((t * 7 + a : Nat) : Int)).1 0 seed ((t * 7 + a : Nat) : Int)).1 else findV D B root kd seed fr a out n (t + 1)) else -1
theorem findV_dev (V : Valid D B) (root kd seed : Int) (fr : Int → Bool) (a : Nat) (out : List Int) : ∀ n t, findV D B root kd seed fr a out n t = -1 ∨ (0 ≤ devAt D (findV D B root kd seed fr a out n t) ∧ fr (findV D B root kd seed fr a out n t) = true ∧ (out.any fun y => y == findV D B root kd seed fr a out n t) = false)
  | 0, t => .inl rfl
  | n + 1, t => by
    unfold findV
    generalize ((t * 7 + a : Nat) : Int) = m
    by_cases c : (descV D B root kd seed m).2 = true
    · rw [if_pos c]
      by_cases c2 : (descV D B (descV D B root kd seed m).1 0 seed m).2 = true ∧ (out.any fun y => y == (descV D B (descV D B root kd seed m).1 0 seed m).1) = false ∧ fr (descV D B (descV D B root kd seed m).1 0 seed m).1 = true
      · rw [if_pos c2]
        exact .inr ⟨dev_of_kind V _ (descV_kind _ _ _ _ c2.1), c2.2.2, c2.2.1⟩
      · rw [if_neg c2]
        exact findV_dev V root kd seed fr a out n (t + 1)
    · rw [if_neg c]; exact .inl rfl
theorem num64 (t a : Nat) (ht : t < 30) (ha : a ≤ 7) : wrap64 (wrap64 ((t : Int) * 7) + (a : Int)) = ((t * 7 + a : Nat) : Int) := by unfold wrap64; omega
theorem search_ev (V : Valid D B) (n root kd seed : Int) (b : Bool) (L out : List Int) (hL : L.length ≤ 1048576) (hd : DevL D L) (ho : out.length ≤ 1048576) (a : Nat) (ha : a ≤ 7) : ∀ (d t : Nat), t + d = 30 → Ev (fun k => impl_Tree_search.l0 k seed L a out t D B n root kd b) (findV D B root kd seed (freeV B kd L a) a out d t)
  | 0, t, h => ev_end (fun k => by simp only [impl_Tree_search.l0, findV]; rw [if_neg (by omega)])
  | d + 1, t, h => by
    have ih := search_ev V n root kd seed b L out hL hd ho a ha d (t + 1) (by omega)
    refine Ev.step (f := ?f) (fun k => ?_) ?_
    rotate_left
    · simp only [impl_Tree_search.l0]
      rw [if_pos (by omega), num64 t a (by omega) ha, show wrap64 ((t : Int) + 1) = ((t + 1 : Nat) : Int) from by unfold wrap64; omega]
      try exact rfl
    · unfold findV
      generalize ((t * 7 + a : Nat) : Int) = m
      obtain ⟨p, h1, h2, h3⟩ := impl_descend_ev V root kd seed m
      refine Ev.bind h1 ?_
      rw [← h2]
      by_cases c : p.2 = true
      · simp only [if_pos c]
        rw [← h3 c]
        obtain ⟨q, g1, g2, g3⟩ := impl_descend_ev V p.1 0 seed m
        refine Ev.bind g1 ?_
        rw [← g2]
        by_cases c2 : q.2 = true
        · simp only [if_pos c2]
          have hq := descV_kind (D := D) (B := B) p.1 0 seed m (by rw [← g2]; exact c2)
          rw [← g3 c2] at hq ⊢
          have hqd := dev_of_kind V _ hq
          refine Ev.bind (idx64_ev out q.1 (by omega)) ?_
          cases c3 : out.any fun y => y == q.1 with
          | true =>
            simp only [if_true, c2, Bool.true_eq_false, false_and, and_false, if_false]
            exact ih
          | false =>
            simp only [Bool.false_eq_true, if_false]
            refine Ev.bind (conflict_ev V kd L hL hd a q.1 hqd) ?_
            cases c4 : freeV B kd L a q.1 with
            | true =>
              simp only [Bool.not_true, Bool.false_eq_true, if_false, c2, and_self, if_true]
              exact Ev.now _
            | false =>
              simp only [Bool.not_false, if_true, Bool.false_eq_true, and_false, if_false]
              exact ih
        · simp only [if_neg c2, c2, false_and, if_false]
          exact ih
      · simp only [if_neg c]
        exact Ev.now _
/-- the first places, as if all devices were in -/
def wholeV (D : List S34) (B : List S70) (root kd seed : Int) : Nat → List Int
  | 0 => []
  | i + 1 => wholeV D B root kd seed i ++ [findV D B root kd seed (freeV B kd (wholeV D B root kd seed i) i) i [] 30 0]
theorem whole_len (root kd seed : Int) : ∀ i, (wholeV D B root kd seed i).length = i
  | 0 => rfl
  | i + 1 => by simp [wholeV, whole_len root kd seed i]
theorem whole_dev (V : Valid D B) (root kd seed : Int) : ∀ i, DevL D (wholeV D B root kd seed i)
  | 0 => fun y h => by cases h
  | i + 1 => fun y h h0 => by
    simp only [wholeV, List.mem_append, List.mem_singleton] at h
    rcases h with h | h
    · exact whole_dev V root kd seed i y h h0
    · rcases findV_dev V root kd seed (freeV B kd (wholeV D B root kd seed i) i) i [] 30 0 with e | ⟨e, _⟩
      · omega
      · rw [h]; exact e
/-- places that follow and hold nothing change nothing -/
theorem free_fill (kd : Int) (L : List Int) (m : Nat) : freeV B kd (L ++ List.replicate m (-1)) L.length = freeV B kd L L.length := by
  funext x
  unfold freeV
  rw [List.length_append, List.length_replicate]
  rw [Bool.eq_iff_iff]
  simp only [List.all_eq_true, List.mem_range]
  have hrd : ∀ i, i < L.length → rd (L ++ List.replicate m (-1)) (i : Int) = rd L (i : Int) := fun i hi => by
    unfold rd
    rw [Int.toNat_natCast, List.getD_eq_getElem?_getD, List.getElem?_append_left hi, ← List.getD_eq_getElem?_getD]
  constructor
  · intro h i hi
    have := h i (by omega)
    unfold freeAt at this ⊢
    rw [hrd i hi] at this
    exact this
  · intro h i hi
    by_cases c : i < L.length
    · have := h i c
      unfold freeAt at this ⊢
      rw [hrd i c]
      exact this
    · have e : rd (L ++ List.replicate m (-1)) (i : Int) = -1 := by
        unfold rd
        rw [Int.toNat_natCast, List.getD_eq_getElem?_getD, List.getElem?_append_right (by omega), List.getElem?_replicate, if_pos (by omega)]
        rfl
      unfold freeAt
      rw [e]
      simp
theorem empty_ev (N : Nat) (hN : N ≤ 7) : impl_emptyPlaces.f (N : Int) = some (List.replicate N (-1)) := by
  have h : bits_Mul.f 1 (N : Int) = some (0, (N : Int)) := by
    have : N = 0 ∨ N = 1 ∨ N = 2 ∨ N = 3 ∨ N = 4 ∨ N = 5 ∨ N = 6 ∨ N = 7 := by omega
    rcases this with rfl | rfl | rfl | rfl | rfl | rfl | rfl | rfl <;> decide +kernel
  unfold impl_emptyPlaces.f slices_Repeat_int64_int64.f
  rw [if_pos ⟨rfl, by omega, by omega, h⟩]
  rfl
theorem impl_whole_ev (V : Valid D B) (n root kd seed : Int) (b : Bool) (N : Nat) (hN : N ≤ 7) : Ev (fun k => impl_Tree_placeWhole.f k D B n root kd b seed N) (wholeV D B root kd seed N) := by
  unfold impl_Tree_placeWhole.f
  simp only [empty_ev N hN, Option.bind_some]
  refine loop_is N (fun k (s : List Int) i => impl_Tree_placeWhole.l0 k seed s N i D B n root kd b) (fun i s => s = wholeV D B root kd seed i ++ List.replicate (N - i) (-1)) _ ?_ ?_ _ (by simp [wholeV])
  · rintro i s hi rfl
    have hl := whole_len (D := D) (B := B) root kd seed i
    have hlen : (wholeV D B root kd seed i ++ List.replicate (N - i) (-1)).length = N := by rw [List.length_append, hl, List.length_replicate]; omega
    have hdev : DevL D (wholeV D B root kd seed i ++ List.replicate (N - i) (-1)) := fun y hy h0 => by
      rcases List.mem_append.1 hy with h | h
      · exact whole_dev V root kd seed i y h h0
      · have := List.eq_of_mem_replicate h
        omega
    refine .inr ⟨_, rfl, fun r hr => Ev.step (f := ?f) (fun k => ?_) ?_⟩
    rotate_left
    · simp only [impl_Tree_placeWhole.l0]
      rw [if_pos (by omega), up64 i N hi (by omega)]
    · refine Ev.bind (show Ev (fun k => impl_Tree_search.f k D B n root kd b seed (wholeV D B root kd seed i ++ List.replicate (N - i) (-1)) i []) _ from search_ev V n root kd seed b _ [] (by omega) hdev (Nat.zero_le _) i (by omega) 30 0 rfl) ?_
      simp only [if_pos (show (0 : Int) ≤ (i : Int) by omega), if_pos (show (i : Int) < ((wholeV D B root kd seed i ++ List.replicate (N - i) (-1)).length : Int) by omega), Int.toNat_natCast]
      have e : freeV B kd (wholeV D B root kd seed i ++ List.replicate (N - i) (-1)) i = freeV B kd (wholeV D B root kd seed i) i := by
        have := free_fill (B := B) kd (wholeV D B root kd seed i) (N - i)
        rwa [hl] at this
      rw [e]
      have e2 : (wholeV D B root kd seed i ++ List.replicate (N - i) (-1)).set i (findV D B root kd seed (freeV B kd (wholeV D B root kd seed i) i) i [] 30 0) = wholeV D B root kd seed (i + 1) ++ List.replicate (N - (i + 1)) (-1) := by
        obtain ⟨m, hm⟩ : ∃ m, N - i = m + 1 := ⟨N - i - 1, by omega⟩
        rw [hm, show N - (i + 1) = m by omega, List.replicate_succ, List.set_append_right (h := by omega), hl, Nat.sub_self, List.set_cons_zero]
        simp [wholeV]
      rw [e2]
      exact hr
  · rintro s rfl
    refine ev_end (fun k => ?_)
    simp only [impl_Tree_placeWhole.l0]
    rw [if_neg (by omega), Nat.sub_self]
    simp
end

section
variable {D : List S34} {B : List S70}
/-- the devices that are out, found anew place by place -/
def insteadV (D : List S34) (B : List S70) (root kd seed : Int) (out : List Int) : Nat → Nat → List Int → List Int
  | 0, _, L => L
  | d + 1, a, L => if (out.any fun y => y == rd L a) = true then insteadV D B root kd seed out d (a + 1) (L.set a (findV D B root kd seed (freeV B kd L a) a out 30 0)) else insteadV D B root kd seed out d (a + 1) L
theorem dev_set (V : Valid D B) (root kd seed : Int) (fr : Int → Bool) (out : List Int) (a : Nat) (L : List Int) (h : DevL D L) : DevL D (L.set a (findV D B root kd seed fr a out 30 0)) := fun y hy h0 => by
  rcases List.mem_or_eq_of_mem_set hy with h1 | h1
  · exact h y h1 h0
  · rcases findV_dev V root kd seed fr a out 30 0 with e | ⟨e, _⟩
    · omega
    · rw [h1]; exact e
theorem instead_len (root kd seed : Int) (out : List Int) : ∀ (d a : Nat) (L : List Int), (insteadV D B root kd seed out d a L).length = L.length
  | 0, a, L => rfl
  | d + 1, a, L => by
    unfold insteadV
    by_cases c : (out.any fun y => y == rd L a) = true
    · rw [if_pos c, instead_len root kd seed out d (a + 1), List.length_set]
    · rw [if_neg c, instead_len root kd seed out d (a + 1)]
theorem impl_instead_ev (V : Valid D B) (n root kd seed : Int) (b : Bool) (out : List Int) (ho : out.length ≤ 1048576) : ∀ (d a : Nat) (L : List Int), a + d = L.length → L.length ≤ 7 → DevL D L → Ev (fun k => insteadL (fun x => slices_Contains_int64_int64.f k out x) (fun L a => impl_Tree_search.f k D B n root kd b seed L (a : Int) out) d a L) (insteadV D B root kd seed out d a L)
  | 0, a, L, h, h7, hd => Ev.now _
  | d + 1, a, L, h, h7, hd => by
    simp only [insteadL]
    unfold insteadV
    refine Ev.bind (idx64_ev out (rd L a) (by omega)) ?_
    by_cases c2 : (out.any fun y => y == rd L a) = true
    · simp only [if_pos c2]
      refine Ev.bind (show Ev (fun k => impl_Tree_search.f k D B n root kd b seed L a out) _ from search_ev V n root kd seed b L out (by omega) hd ho a (by omega) 30 0 rfl) ?_
      exact impl_instead_ev V n root kd seed b out ho d (a + 1) _ (by rw [List.length_set]; omega) (by rw [List.length_set]; exact h7) (dev_set V root kd seed _ out a L hd)
    · simp only [if_neg c2]
      exact impl_instead_ev V n root kd seed b out ho d (a + 1) L (by omega) h7 hd
/-- what was found ahead, then holes -/
def frontV (L : List Int) : List Int := (L.filter fun x => !decide (x < 0)) ++ List.replicate (L.length - (L.filter fun x => !decide (x < 0)).length) (-1)
theorem front_eq (L : List Int) : frontL (List.replicate L.length (-1)) (L.filter fun x => !decide (x < 0)) = frontV L := by
  have hlen : (L.filter fun x => !decide (x < 0)).length ≤ L.length := List.length_filter_le _ _
  unfold frontL frontV
  rw [List.length_replicate, Nat.min_eq_left hlen, List.take_length, List.drop_replicate]
/-- a placement without some devices -/
def placeV (D : List S34) (B : List S70) (root kd seed : Int) (N : Nat) (b : Bool) (out : List Int) : List Int := if b = true then insteadV D B root kd seed out N 0 (wholeV D B root kd seed N) else frontV (insteadV D B root kd seed out N 0 (wholeV D B root kd seed N))
theorem place_len (root kd seed : Int) (N : Nat) (b : Bool) (out : List Int) : (placeV D B root kd seed N b out).length = N := by
  have h1 := instead_len (D := D) (B := B) root kd seed out N 0 (wholeV D B root kd seed N)
  rw [whole_len] at h1
  unfold placeV
  by_cases c : b = true
  · rw [if_pos c, h1]
  · rw [if_neg c]
    unfold frontV
    have hlen := List.length_filter_le (fun x => !decide (x < 0)) (insteadV D B root kd seed out N 0 (wholeV D B root kd seed N))
    rw [List.length_append, List.length_replicate]
    omega
theorem impl_place_ev (V : Valid D B) (n root kd seed : Int) (b : Bool) (out : List Int) (ho : out.length ≤ 1048576) (N : Nat) (hN : N ≤ 7) : Ev (fun k => impl_Tree_place.f k D B n root kd b seed N out) (placeV D B root kd seed N b out) := by
  have hl := whole_len (D := D) (B := B) root kd seed N
  have h1 := instead_len (D := D) (B := B) root kd seed out N 0 (wholeV D B root kd seed N)
  unfold impl_Tree_place.f placeV
  simp only [if_pos (show (0 : Int) ≤ (N : Int) ∧ (N : Int) ≤ 7 by omega), Int.toNat_natCast]
  refine Ev.bind (impl_whole_ev V n root kd seed b N hN) ?_
  simp only [if_pos hl]
  refine Ev.bind (impl_instead_ev V n root kd seed b out ho N 0 _ (by omega) (by omega) (whole_dev V root kd seed N)) ?_
  by_cases c : b = true
  · simp only [if_pos c]
    exact Ev.now _
  · simp only [if_neg c, empty_ev N hN, Option.bind_some]
    have e := front_eq (insteadV D B root kd seed out N 0 (wholeV D B root kd seed N))
    rw [h1, hl] at e
    rw [e]
    exact Ev.now _
end

/-- rising, and each in its bounds -/
def riseB (l : List Int) (i : Nat) : Bool := inB (rd l i) 0 15 && (decide (i = 0) || decide (rd l ((i : Int) - 1) < rd l i))
def riseO (l : List Int) : Bool := (List.range l.length).all (riseB l)
/-- rising from a place on -/
def incB (l : List Int) : Nat → Nat → Bool
  | 0, _ => true
  | d + 1, i => decide (rd l ((i : Int) - 1) < rd l i) && incB l d (i + 1)
theorem incB_iff (l : List Int) : ∀ d i, incB l d i = true ↔ ∀ j, i ≤ j → j < i + d → rd l ((j : Int) - 1) < rd l j
  | 0, i => by simp only [incB, true_iff]; intro j h1 h2; omega
  | d + 1, i => by
    simp only [incB, Bool.and_eq_true, decide_eq_true_eq, incB_iff l d (i + 1)]
    constructor
    · rintro ⟨h1, h2⟩ j h3 h4
      by_cases c : j = i
      · subst c; exact h1
      · exact h2 j (by omega) (by omega)
    · intro h
      exact ⟨h i (by omega) (by omega), fun j h1 h2 => h j (by omega) (by omega)⟩
theorem inc_ev (l : List Int) (hl : l.length ≤ 1048576) : ∀ d i : Nat, 1 ≤ i → l.length ≤ i + d → i + d ≤ 1048577 → (i + d = l.length ∨ d = 0) → Ev (fun k => impl_increasing.l0 k l i) (incB l d i)
  | 0, i, h1, h2, _, _ => ev_end (fun k => by
    simp only [impl_increasing.l0, incB]
    rw [if_neg (by omega)])
  | d + 1, i, h1, h2, h3, h4 => by
    have e : wrap64 ((i : Int) - 1) = (i : Int) - 1 := by unfold wrap64; omega
    have ih := inc_ev l hl d (i + 1) (by omega) (by omega) (by omega) (by omega)
    by_cases c : rd l ((i : Int) - 1) < rd l i
    · refine Ev.step (fun k => ?_) (show Ev (fun k => impl_increasing.l0 k l ((i + 1 : Nat) : Int)) (incB l (d + 1) i) from ?_)
      · simp only [impl_increasing.l0]
        rw [if_pos (by omega), if_pos (by omega), e, if_pos (by omega), if_pos (by omega), if_neg (by omega), up64 i l.length (by omega) (by omega)]
      · simp only [incB, decide_eq_true c, Bool.true_and]
        exact ih
    · refine ev_end (fun k => ?_)
      simp only [impl_increasing.l0, incB, decide_eq_false c, Bool.false_and]
      rw [if_pos (by omega), if_pos (by omega), e, if_pos (by omega), if_pos (by omega), if_pos (by omega)]
theorem rise_split (l : List Int) : (incB l (l.length - 1) 1 && l.all fun x => inB x 0 15) = riseO l := by
  rw [Bool.eq_iff_iff, Bool.and_eq_true, incB_iff]
  unfold riseO riseB
  simp only [List.all_eq_true, List.mem_range, Bool.and_eq_true, Bool.or_eq_true, decide_eq_true_eq]
  constructor
  · rintro ⟨h1, h2⟩ i hi
    refine ⟨?_, ?_⟩
    · rw [rd_get l i hi]; exact h2 _ (List.getElem_mem hi)
    · by_cases c : i = 0
      · exact .inl c
      · exact .inr (h1 i (by omega) (by omega))
  · intro h
    refine ⟨fun j h1 h2 => ?_, fun x hx => ?_⟩
    · rcases (h j (by omega)).2 with c | c
      · omega
      · exact c
    · obtain ⟨i, hi, rfl⟩ := List.mem_iff_getElem.1 hx
      have := (h i hi).1
      rwa [rd_get l i hi] at this
theorem impl_out_ev (l : List Int) (hl : l.length ≤ 1048576) : Ev (fun k => impl_outOk.f k l) (riseO l) := by
  unfold impl_outOk.f
  rw [← rise_split]
  refine Ev.bind (inc_ev l hl (l.length - 1) 1 (by omega) (by omega) (by omega) (by omega)) ?_
  have e : impl_allBetween.f l 0 15 = some (l.all fun x => inB x 0 15) := rfl
  cases incB l (l.length - 1) 1 with
  | true => simp only [if_true, e, Option.bind_some, Bool.true_and]; exact Ev.now _
  | false => simp only [Bool.false_eq_true, if_false, Bool.false_and]; exact Ev.now _
theorem rise_pos {l : List Int} (h : riseO l = true) : ∀ x ∈ l, 0 ≤ x := by
  intro x hx
  rw [← rise_split] at h
  simp only [Bool.and_eq_true, List.all_eq_true] at h
  have := h.2 x hx
  simp only [inB, Bool.and_eq_true, decide_eq_true_eq] at this
  omega

/-- is a rule valid? -/
def ruleB (D : List S34) (B : List S70) (n root dom : Int) : Bool := inB n 1 4 && decide (kindAt D B root = 3) && inB dom 0 2
theorem impl_rule (D : List S34) (B : List S70) (n root dom : Int) (b : Bool) : impl_ruleOk.f D B n root dom b = some (ruleB D B n root dom) := by
  unfold impl_ruleOk.f impl_Tree_kindOf.f ruleB
  simp only [between_inB, Option.bind_some]
  by_cases c1 : inB n 1 4 = true
  · by_cases c3 : kindAt D B root = 3
    · simp [c1, c3]
    · simp [c1, c3]
  · simp [c1]
theorem impl_ruleOk (D : List S34) (B : List S70) (hD : D.length ≤ 9223372036854775807) (hw : wfTree D B = true) (n root dom : Int) (b : Bool) : Ev (fun k => impl_RuleOk.f k D B n root dom b) (treeOkB D B && ruleB D B n root dom) := by
  unfold impl_RuleOk.f
  refine Ev.bind (impl_ok_ev D B hD hw) ?_
  by_cases c : treeOkB D B = true
  · simp only [c, if_true, Bool.true_and, impl_rule, Option.bind_some]
    exact Ev.now _
  · simp only [if_neg c, show treeOkB D B = false by simpa using c, Bool.false_and]
    exact Ev.now _

section
variable {D : List S34} {B : List S70}
theorem rd_set (L : List Int) (a i : Nat) (y : Int) (ha : a < L.length) : rd (L.set a y) (i : Int) = if i = a then y else rd L i := by
  unfold rd
  rw [Int.toNat_natCast, List.getD_eq_getElem?_getD, List.getD_eq_getElem?_getD, List.getElem?_set]
  by_cases c : a = i
  · subst c; simp [ha]
  · rw [if_neg c, if_neg (fun h => c h.symm)]
theorem rd_left (L M : List Int) (i : Nat) (h : i < L.length) : rd (L ++ M) (i : Int) = rd L i := by
  rw [rd_get _ i (by rw [List.length_append]; omega), rd_get L i h, List.getElem_append_left h]
theorem rd_last (L : List Int) (y : Int) : rd (L ++ [y]) (L.length : Int) = y := by
  rw [rd_get _ L.length (by simp)]
  simp
/-- no two devices of a list of places stand in one domain -/
def Pairs (B : List S70) (kd : Int) (L : List Int) : Prop := ∀ i j : Nat, i < L.length → j < L.length → i ≠ j → 0 ≤ rd L i → 0 ≤ rd L j → rd L i ≠ rd L j ∧ domN B kd (rd L i) ≠ domN B kd (rd L j)
theorem free_one {kd : Int} {L : List Int} {a : Nat} {x : Int} (h : freeV B kd L a x = true) (i : Nat) (hi : i < L.length) (hn : i ≠ a) (h0 : 0 ≤ rd L i) : rd L i ≠ x ∧ domN B kd (rd L i) ≠ domN B kd x := by
  have := List.all_eq_true.1 h i (by simpa using hi)
  unfold freeAt at this
  simp only [Bool.or_eq_true, decide_eq_true_eq, Bool.and_eq_true, Bool.not_eq_true', decide_eq_false_iff_not] at this
  rcases this with (h1 | h1) | h1
  · exact absurd h1 hn
  · omega
  · exact h1
theorem pairs_set {kd : Int} {L : List Int} (h : Pairs B kd L) (a : Nat) (ha : a < L.length) (y : Int) (hy : y = -1 ∨ freeV B kd L a y = true) : Pairs B kd (L.set a y) := by
  intro i j hi hj hn h0 h1
  rw [List.length_set] at hi hj
  rw [rd_set L a i y ha] at h0 ⊢
  rw [rd_set L a j y ha] at h1 ⊢
  by_cases c : i = a
  · have cj : ¬ j = a := by omega
    rw [if_pos c] at h0 ⊢
    rw [if_neg cj] at h1 ⊢
    rcases hy with e | e
    · omega
    · have := free_one e j hj cj h1
      exact ⟨fun h => this.1 h.symm, fun h => this.2 h.symm⟩
  · rw [if_neg c] at h0 ⊢
    by_cases cj : j = a
    · rw [if_pos cj] at h1 ⊢
      rcases hy with e | e
      · omega
      · exact free_one e i hi c h0
    · rw [if_neg cj] at h1 ⊢
      exact h i j hi hj hn h0 h1
theorem pairs_snoc {kd : Int} {L : List Int} (h : Pairs B kd L) (y : Int) (hy : y = -1 ∨ freeV B kd L L.length y = true) : Pairs B kd (L ++ [y]) := by
  have one : ∀ i : Nat, i < (L ++ [y]).length → i = L.length ∧ rd (L ++ [y]) i = y ∨ i < L.length ∧ rd (L ++ [y]) i = rd L i := fun i hi => by
    rw [List.length_append, List.length_singleton] at hi
    by_cases c : i = L.length
    · subst c; exact .inl ⟨rfl, rd_last L y⟩
    · exact .inr ⟨by omega, rd_left L [y] i (by omega)⟩
  intro i j hi hj hn h0 h1
  rcases one i hi with ⟨e1, e2⟩ | ⟨e1, e2⟩ <;> rcases one j hj with ⟨e3, e4⟩ | ⟨e3, e4⟩
  · omega
  · rw [e2] at h0 ⊢
    rw [e4] at h1 ⊢
    rcases hy with e | e
    · omega
    · have := free_one e j e3 (by omega) h1
      exact ⟨fun h => this.1 h.symm, fun h => this.2 h.symm⟩
  · rw [e2] at h0 ⊢
    rw [e4] at h1 ⊢
    rcases hy with e | e
    · omega
    · exact free_one e i e1 (by omega) h0
  · rw [e2] at h0 ⊢
    rw [e4] at h1 ⊢
    exact h i j e1 e3 hn h0 h1
theorem find_free (V : Valid D B) (root kd seed : Int) (L : List Int) (a : Nat) (out : List Int) (n t : Nat) : findV D B root kd seed (freeV B kd L a) a out n t = -1 ∨ freeV B kd L a (findV D B root kd seed (freeV B kd L a) a out n t) = true := by
  rcases findV_dev V root kd seed (freeV B kd L a) a out n t with e | ⟨_, e, _⟩
  · exact .inl e
  · exact .inr e
theorem whole_pairs (V : Valid D B) (root kd seed : Int) : ∀ i, Pairs B kd (wholeV D B root kd seed i)
  | 0 => fun i j hi => absurd hi (Nat.not_lt_zero i)
  | i + 1 => by
    have h := whole_pairs V root kd seed i
    have hl := whole_len (D := D) (B := B) root kd seed i
    have := find_free V root kd seed (wholeV D B root kd seed i) i [] 30 0
    unfold wholeV
    generalize wholeV D B root kd seed i = L at h hl this ⊢
    subst hl
    exact pairs_snoc h _ this
theorem instead_pairs (V : Valid D B) (root kd seed : Int) (out : List Int) : ∀ (d a : Nat) (L : List Int), a + d = L.length → Pairs B kd L → Pairs B kd (insteadV D B root kd seed out d a L)
  | 0, a, L, _, h => h
  | d + 1, a, L, hl, h => by
    unfold insteadV
    by_cases c : (out.any fun y => y == rd L a) = true
    · rw [if_pos c]
      exact instead_pairs V root kd seed out d (a + 1) _ (by rw [List.length_set]; omega) (pairs_set h a (by omega) _ (find_free V root kd seed L a out 30 0))
    · rw [if_neg c]
      exact instead_pairs V root kd seed out d (a + 1) L (by omega) h
theorem any_eq (out : List Int) (x : Int) : (out.any fun y => y == x) = true ↔ x ∈ out := by
  rw [List.any_eq_true]
  constructor
  · rintro ⟨y, hy, e⟩
    have e : y = x := by simpa using e
    rw [← e]; exact hy
  · intro h
    exact ⟨x, h, by simp⟩
/-- what is not out stays where it is -/
theorem instead_keep (root kd seed : Int) (out : List Int) : ∀ (d a : Nat) (L : List Int), a + d = L.length → ∀ i : Nat, rd L i ∉ out → rd (insteadV D B root kd seed out d a L) i = rd L i
  | 0, a, L, _, i, _ => rfl
  | d + 1, a, L, hl, i, h => by
    unfold insteadV
    by_cases c : (out.any fun y => y == rd L a) = true
    · rw [if_pos c]
      have hn : ¬ i = a := fun e => h (by rw [e]; exact (any_eq out _).1 c)
      have e := rd_set L a i (findV D B root kd seed (freeV B kd L a) a out 30 0) (by omega)
      rw [if_neg hn] at e
      rw [instead_keep root kd seed out d (a + 1) _ (by rw [List.length_set]; omega) i (by rw [e]; exact h), e]
    · rw [if_neg c]
      exact instead_keep root kd seed out d (a + 1) L (by omega) i h
/-- nothing that is out is left -/
theorem instead_out (V : Valid D B) (root kd seed : Int) (out : List Int) (hp : ∀ y ∈ out, 0 ≤ y) : ∀ (d a : Nat) (L : List Int), a + d = L.length → (∀ j : Nat, j < a → rd L j ∉ out) → ∀ j : Nat, j < L.length → rd (insteadV D B root kd seed out d a L) j ∉ out
  | 0, a, L, hl, h, j, hj => h j (by omega)
  | d + 1, a, L, hl, h, j, hj => by
    unfold insteadV
    by_cases c : (out.any fun y => y == rd L a) = true
    · rw [if_pos c]
      refine instead_out V root kd seed out hp d (a + 1) _ (by rw [List.length_set]; omega) (fun i hi => ?_) j (by rw [List.length_set]; exact hj)
      rw [rd_set L a i _ (by omega)]
      by_cases ci : i = a
      · rw [if_pos ci]
        rcases findV_dev V root kd seed (freeV B kd L a) a out 30 0 with e | ⟨_, _, e⟩
        · rw [e]
          intro hm
          have := hp _ hm
          omega
        · intro hm
          rw [(any_eq out _).2 hm] at e
          simp at e
      · rw [if_neg ci]
        exact h i (by omega)
    · rw [if_neg c]
      refine instead_out V root kd seed out hp d (a + 1) L (by omega) (fun i hi => ?_) j hj
      by_cases ci : i = a
      · rw [ci]; exact fun hm => c ((any_eq out _).2 hm)
      · exact h i (by omega)
theorem instead_nil (root kd seed : Int) : ∀ (d a : Nat) (L : List Int), insteadV D B root kd seed [] d a L = L
  | 0, a, L => rfl
  | d + 1, a, L => by
    unfold insteadV
    rw [if_neg (by simp), instead_nil root kd seed d (a + 1) L]
theorem whole_take (root kd seed : Int) (i : Nat) : ∀ d, (wholeV D B root kd seed (i + d)).take i = wholeV D B root kd seed i
  | 0 => by rw [Nat.add_zero, List.take_of_length_le (by rw [whole_len]; omega)]
  | d + 1 => by
    rw [← Nat.add_assoc]
    simp only [wholeV]
    rw [List.take_append_of_le_length (by rw [whole_len]; omega), whole_take root kd seed i d]
/-- what is taken of one list stands in another that has it at the same places -/
theorem filter_sub (p : Int → Bool) : ∀ (L M : List Int), L.length = M.length → (∀ i : Nat, i < L.length → p (rd L i) = true → rd M i = rd L i) → (L.filter p).Sublist M
  | [], M, _, _ => by simp
  | x :: L, [], h, _ => by simp at h
  | x :: L, y :: M, h, hq => by
    have ih := filter_sub p L M (by simpa using h) (fun i hi hp => by
      have := hq (i + 1) (by simpa using hi)
      have e1 : ∀ (z : Int) (K : List Int), rd (z :: K) ((i + 1 : Nat) : Int) = rd K i := fun z K => by
        unfold rd
        rw [Int.toNat_natCast, Int.toNat_natCast]
        rfl
      rw [e1, e1] at this
      exact this hp)
    by_cases c : p x = true
    · rw [List.filter_cons_of_pos c]
      have := hq 0 (by simp) c
      have e : y = x := this
      rw [e]
      exact ih.cons_cons x
    · rw [List.filter_cons_of_neg c]
      exact ih.cons y
/-- the rule and the numbers that the laws take -/
theorem place_ans {hD : D.length ≤ 9223372036854775807} (hw : wfTree D B = true) (n root kd : Int) (b : Bool) (seed : Int) (N : Nat) (out : List Int) (ho : out.length ≤ 1048576) (hv : treeOkB D B = true) (hr : ruleB D B n root kd = true) (hN : N ≤ 7) (hout : riseO out = true) : Ev (fun k => impl_Place.f k D B n root kd b seed (N : Int) out) (placeV D B root kd seed N b out, true) := by
  have V := valid_of D B hv
  unfold impl_Place.f
  refine Ev.bind (impl_ruleOk D B hD hw n root kd b) ?_
  simp only [hv, hr, Bool.and_self, if_true, between_inB, Option.bind_some]
  have hin : inB (N : Int) 0 7 = true := by
    simp only [inB, Bool.and_eq_true, decide_eq_true_eq]; omega
  simp only [hin, if_true]
  refine Ev.bind (impl_out_ev out ho) ?_
  simp only [hout, if_true]
  exact Ev.bind (impl_place_ev V n root kd seed b out ho N hN) (Ev.now _)
end

theorem a8Mix_is (l : List Int) (h : l.length ≤ 1048576) : laws_a8Mix.f 2 l = some (2 :: l) := by
  unfold laws_a8Mix.f
  rw [Option.bind_some, if_pos (by simp; omega)]
  rfl
theorem bytes_cons {l : List Int} (h : IsBytes l) : IsBytes (2 :: l) := fun x hx => by
  rcases List.mem_cons.1 hx with rfl | hx
  · omega
  · exact h x hx
theorem A8Rule_is (l : List Int) (hb : IsBytes l) (D : List S34) (B : List S70) (h1 : 1 ≤ B.length) (h2 : B.length ≤ 12) : ∃ n kd b, spec_A8Rule.f l D B = some (n, (rd_T70 B (B.length - 1 : Nat)).f0, kd, b) ∧ 1 ≤ n ∧ n ≤ 4 ∧ 0 ≤ kd ∧ kd ≤ 2 := by
  obtain ⟨v, p1, sd1, e1, a1, b1, v0, v1⟩ := pick_pos l hb 0 0 4 (by omega) (by omega) (by omega)
  obtain ⟨i, p2, sd2, e2, a2, b2, i0, i1⟩ := among_is l hb p1 sd1 [0, 1, 1, 1, 2] (by simp) (by omega) (by omega)
  obtain ⟨u, p3, sd3, e3, a3, b3, u0, u1⟩ := pick_pos l hb p2 sd2 2 (by omega) (by omega) (by omega)
  have hw : 0 ≤ rd [0, 1, 1, 1, 2] i ∧ rd [0, 1, 1, 1, 2] i ≤ 2 := by
    have h : i = 0 ∨ i = 1 ∨ i = 2 ∨ i = 3 ∨ i = 4 := by simp at i1; omega
    rcases h with rfl | rfl | rfl | rfl | rfl <;> simp [rd]
  generalize rd [0, 1, 1, 1, 2] i = w at e2 hw
  have ew : wrap64 ((B.length : Int) - 1) = ((B.length - 1 : Nat) : Int) := by unfold wrap64; omega
  refine ⟨wrap64 (1 + v), w, u == 0, ?_, by unfold wrap64; omega, by unfold wrap64; omega, hw.1, hw.2⟩
  unfold spec_A8Rule.f spec_l08Rule.f spec_l00From.f spec_l00Src_one.f
  simp only [Option.bind_some, e1, e2, e3, ew]
  rw [if_pos (by omega), if_pos (by omega)]
  simp only [Option.bind_some]
theorem rule_ok {D : List S34} {B : List S70} (n root kd : Int) (h1 : 1 ≤ n) (h2 : n ≤ 4) (h3 : 0 ≤ kd) (h4 : kd ≤ 2) (hk : kindAt D B root = 3) : ruleB D B n root kd = true := by
  simp only [ruleB, inB, Bool.and_eq_true, decide_eq_true_eq]
  exact ⟨⟨⟨h1, h2⟩, hk⟩, h3, h4⟩
theorem rise_nil : riseO [] = true := rfl
theorem rise_one (x : Int) (h0 : 0 ≤ x) (h1 : x ≤ 15) : riseO [x] = true := by
  have e : rd [x] ((0 : Nat) : Int) = x := rfl
  unfold riseO riseB inB
  simp only [List.length_singleton, List.range_one, List.all_cons, List.all_nil, e]
  simp [h0, h1]
/-- a device's Id -/
theorem dev_id {D : List S34} {B : List S70} (V : Valid D B) (i : Int) (h0 : 0 ≤ i) (h1 : i < (D.length : Int)) : 0 ≤ (rd_T34 D i).f0 ∧ (rd_T34 D i).f0 ≤ 15 := by
  obtain ⟨j, rfl⟩ := Int.eq_ofNat_of_zero_le h0
  rw [rd_dev D j (by omega)]
  have := V.devs j (by omega)
  omega

/-- is the domain of a device free? -/
def freeP (D : List S34) (B : List S70) (kd : Int) (out : List Int) (x : Int) : Bool := decide (wOne D x > 0) && (!(out.any fun y => y == x)) && (decide (kd = 0) || decide (domN B kd x ≠ 0))
def freeL (D : List S34) (B : List S70) (kd : Int) (out l : List Int) : List Int := (l.filter (freeP D B kd out)).map (domN B kd)
theorem under_self {D : List S34} {B : List S70} (V : Valid D B) (x : Int) (h : 0 ≤ devAt D x) : underN B 5 x = [x] ∧ kindAt D B x = 0 := by
  have e : kindAt D B x = 0 := if_pos h
  refine ⟨?_, e⟩
  unfold underN
  rw [if_pos (kind_zero V x e)]
theorem placeGo_ev {D : List S34} {B : List S70} (V : Valid D B) (kd : Int) (out : List Int) (ho : out.length ≤ 1048576) : ∀ (l S : List Int), (∀ x ∈ l, 0 ≤ devAt D x) → Ev (fun k => placeGo (fun x => impl_Tree_domain.f k D B kd x) (fun x => slices_Contains_int64_int64.f k out x) (fun x => impl_Tree_weight.f k D B x) S l) (S ++ freeL D B kd out l)
  | [], S, _ => by
    have e : S ++ freeL D B kd out [] = S := by simp [freeL]
    rw [e]
    exact Ev.now _
  | x :: xs, S, h => by
    have hx := h x (by simp)
    have hxs : ∀ y ∈ xs, 0 ≤ devAt D y := fun y hy => h y (List.mem_cons_of_mem _ hy)
    obtain ⟨hu, hk⟩ := under_self V x hx
    have hw : weightN D B x = wOne D x := by unfold weightN wL; rw [hu]; simp
    simp only [placeGo]
    refine Ev.bind (impl_domain V kd x) ?_
    have h2 : (domP D B kd x).2 = (decide (kd = 0) || decide (domN B kd x ≠ 0)) := by
      unfold domP domN
      rw [if_neg (by omega)]
      by_cases c : kd = 0
      · simp [c]
      · by_cases c5 : aboveB B x kd = 0 <;> simp [c, c5]
    have h1 : (domP D B kd x).2 = true → (domP D B kd x).1 = domN B kd x := fun e => (domP_ok V kd x e).2.1
    have hskip : freeP D B kd out x = false → Ev (fun k => placeGo (fun x => impl_Tree_domain.f k D B kd x) (fun x => slices_Contains_int64_int64.f k out x) (fun x => impl_Tree_weight.f k D B x) S xs) (S ++ freeL D B kd out (x :: xs)) := fun e => by
      have e2 : freeL D B kd out (x :: xs) = freeL D B kd out xs := by unfold freeL; rw [List.filter_cons_of_neg (by simp [e])]
      rw [e2]
      exact placeGo_ev V kd out ho xs S hxs
    cases hd : (domP D B kd x).2 with
    | false =>
      simp only [Bool.false_eq_true, if_false]
      exact hskip (by unfold freeP; rw [← h2, hd]; simp)
    | true =>
      simp only [if_true]
      refine Ev.bind (idx64_ev out x (by omega)) ?_
      cases hc : out.any fun y => y == x with
      | true =>
        simp only [if_true]
        exact hskip (by unfold freeP; rw [hc]; simp)
      | false =>
        simp only [Bool.false_eq_true, if_false]
        refine Ev.bind (impl_weight_ev V x (by omega)) ?_
        rw [hw]
        by_cases c : wOne D x > 0
        · simp only [if_pos c, domP_wf V kd x, if_true]
          have e2 : freeL D B kd out (x :: xs) = domN B kd x :: freeL D B kd out xs := by
            unfold freeL
            rw [List.filter_cons_of_pos (by unfold freeP; rw [← h2, hd, hc]; simp [c]), List.map_cons]
          rw [e2, h1 hd]
          have := placeGo_ev V kd out ho xs (S ++ [domN B kd x]) hxs
          rw [List.append_assoc] at this
          exact this
        · simp only [if_neg c]
          exact hskip (by unfold freeP; simp [c])
theorem once_snoc (S : List Int) (d : Int) : onceOf (S ++ [d]) = addOnce (onceOf S) d := by
  unfold onceOf
  rw [List.foldl_append]
  rfl
theorem once_len (S : List Int) : (onceOf S).length ≤ S.length := by
  have h : ∀ (S acc : List Int), (S.foldl addOnce acc).length ≤ acc.length + S.length := by
    intro S
    induction S with
    | nil => intro acc; simp
    | cons x xs ih =>
      intro acc
      have h1 := ih (addOnce acc x)
      have h2 : (addOnce acc x).length ≤ acc.length + 1 := by unfold addOnce; split <;> simp
      simp only [List.foldl_cons, List.length_cons]
      omega
  have := h S []
  simpa [onceOf] using this

def apartW (D : List S34) (B : List S70) (kd : Int) : List Int → List Int → Bool
  | _, [] => true
  | u, x :: xs => if x = -1 then apartW D B kd u xs else if (domP D B kd x).2 = true then (if (u.any fun y => y == (domP D B kd x).1) = true then false else apartW D B kd (u ++ [(domP D B kd x).1]) xs) else false
theorem apartGo_ev {D : List S34} {B : List S70} (V : Valid D B) (kd : Int) : ∀ l u, Ev (fun k => apartGo (fun x => impl_Tree_domain.f k D B kd x) u l) (apartW D B kd u l)
  | [], u => Ev.now _
  | x :: xs, u => by
    unfold apartGo apartW
    by_cases c : x = -1
    · simp only [if_pos c]
      exact apartGo_ev V kd xs u
    · simp only [if_neg c]
      refine Ev.bind (impl_domain V kd x) ?_
      cases h2 : (domP D B kd x).2 with
      | false => simp only [Bool.false_eq_true, if_false]; exact Ev.now _
      | true =>
        simp only [if_true, domP_wf V kd x]
        cases h3 : u.any fun y => y == (domP D B kd x).1 with
        | true => simp only [if_true]; exact Ev.now _
        | false => simp only [Bool.false_eq_true, if_false]; exact apartGo_ev V kd xs _
theorem apartW_iff (D : List S34) (B : List S70) (kd : Int) : ∀ l u, apartW D B kd u l = true ↔ (∀ x ∈ l, x ≠ -1 → (domP D B kd x).2 = true ∧ (domP D B kd x).1 ∉ u) ∧ l.Pairwise fun x y => x ≠ -1 → y ≠ -1 → (domP D B kd x).1 ≠ (domP D B kd y).1
  | [], u => by simp [apartW]
  | x :: xs, u => by
    unfold apartW
    by_cases c : x = -1
    · rw [if_pos c, apartW_iff D B kd xs u, List.pairwise_cons]
      constructor
      · rintro ⟨h1, h2⟩
        refine ⟨fun y hy hn => ?_, fun y hy hx => absurd c hx, h2⟩
        rcases List.mem_cons.1 hy with rfl | hy
        · exact absurd c hn
        · exact h1 y hy hn
      · rintro ⟨h1, _, h2⟩
        exact ⟨fun y hy => h1 y (List.mem_cons_of_mem _ hy), h2⟩
    · rw [if_neg c]
      by_cases c2 : (domP D B kd x).2 = true
      · rw [if_pos c2]
        by_cases c3 : (u.any fun y => y == (domP D B kd x).1) = true
        · rw [if_pos c3]
          constructor
          · intro h; cases h
          · rintro ⟨h1, _⟩
            have := (h1 x (by simp) c).2
            rw [List.any_eq_true] at c3
            obtain ⟨y, hy, e⟩ := c3
            obtain rfl := eq_of_beq e
            exact absurd hy this
        · rw [if_neg c3, apartW_iff D B kd xs _, List.pairwise_cons]
          have hnu : (domP D B kd x).1 ∉ u := fun h => c3 (List.any_eq_true.2 ⟨_, h, by simp⟩)
          constructor
          · rintro ⟨h1, h2⟩
            refine ⟨fun y hy hn => ?_, fun y hy _ hn e => ?_, h2⟩
            · rcases List.mem_cons.1 hy with rfl | hy
              · exact ⟨c2, hnu⟩
              · exact ⟨(h1 y hy hn).1, fun h => (h1 y hy hn).2 (List.mem_append_left _ h)⟩
            · exact (h1 y hy hn).2 (List.mem_append_right _ (by simp [e]))
          · rintro ⟨h1, h2, h3⟩
            refine ⟨fun y hy hn => ⟨(h1 y (List.mem_cons_of_mem _ hy) hn).1, fun h => ?_⟩, h3⟩
            rcases List.mem_append.1 h with h | h
            · exact (h1 y (List.mem_cons_of_mem _ hy) hn).2 h
            · exact h2 y hy c hn (show (domP D B kd y).1 = (domP D B kd x).1 from by simpa using h).symm
      · rw [if_neg c2]
        constructor
        · intro h; cases h
        · rintro ⟨h1, _⟩
          exact absurd (h1 x (by simp) c).1 c2
/-- does nothing else stand in the domain of the thing at a place? -/
def freeB (B : List S70) (kd : Int) (l : List Int) (i : Int) (x : Int) (j : Nat) : Bool := decide ((j : Int) = i) || (!decide (rd l j ≥ 0) || (!decide (rd l j = x) && !decide (domN B kd (rd l j) = domN B kd x)))
def specOne (D : List S34) (B : List S70) (kd : Int) (l : List Int) (i : Nat) : Bool := decide (rd l i = -1) || ((domP D B kd (rd l i)).2 && (List.range l.length).all (freeB B kd l i (rd l i)))
theorem apart_same {D : List S34} {B : List S70} (V : Valid D B) (kd : Int) (l : List Int) : (List.range l.length).all (specOne D B kd l) = apartW D B kd [] l := by
  rw [Bool.eq_iff_iff, apartW_iff, List.all_eq_true]
  have hone : ∀ i, i < l.length → (specOne D B kd l i = true ↔ (rd l i = -1 ∨ ((domP D B kd (rd l i)).2 = true ∧ ∀ j, j < l.length → freeB B kd l i (rd l i) j = true))) := fun i hi => by
    unfold specOne
    rw [Bool.or_eq_true, decide_eq_true_eq, Bool.and_eq_true, List.all_eq_true]
    simp only [List.mem_range]
  have hfree : ∀ i j, i < l.length → j < l.length → i ≠ j → 0 ≤ rd l j → freeB B kd l i (rd l i) j = true → domN B kd (rd l j) ≠ domN B kd (rd l i) := fun i j hi hj hn h0 h => by
    unfold freeB at h
    simp only [show ¬ ((j : Int) = (i : Int)) by omega, show rd l j ≥ 0 from h0, decide_true, decide_false, Bool.not_true, Bool.false_or, Bool.and_eq_true, Bool.not_eq_true', decide_eq_false_iff_not] at h
    exact h.2
  constructor
  · intro h
    have h' : ∀ i, i < l.length → (rd l i = -1 ∨ ((domP D B kd (rd l i)).2 = true ∧ ∀ j, j < l.length → freeB B kd l i (rd l i) j = true)) := fun i hi => (hone i hi).1 (h i (by simpa using hi))
    have hok : ∀ x ∈ l, x ≠ -1 → (domP D B kd x).2 = true := fun x hx hn => by
      obtain ⟨i, hi, rfl⟩ := List.mem_iff_getElem.1 hx
      rcases h' i hi with e | ⟨e, _⟩
      · rw [rd_get l i hi] at e; exact absurd e hn
      · rw [rd_get l i hi] at e; exact e
    refine ⟨fun x hx hn => ⟨hok x hx hn, by simp⟩, ?_⟩
    rw [List.pairwise_iff_getElem]
    intro i j hi hj hij hn1 hn2 e
    rcases h' i hi with e1 | ⟨e1, hf⟩
    · rw [rd_get l i hi] at e1; exact hn1 e1
    · have hj2 := hok l[j] (List.getElem_mem hj) hn2
      have hi2 := hok l[i] (List.getElem_mem hi) hn1
      have a1 := domP_ok V kd l[j] hj2
      have a2 := domP_ok V kd l[i] hi2
      refine hfree i j hi hj (by omega) (by rw [rd_get l j hj]; exact a1.1) (hf j hj) ?_
      rw [rd_get l j hj, rd_get l i hi, ← a1.2.1, ← a2.2.1, e]
  · rintro ⟨h1, h2⟩ i hi
    have hi : i < l.length := by simpa using hi
    rw [hone i hi]
    by_cases c : rd l i = -1
    · exact .inl c
    · have ci : l[i] ≠ -1 := by rw [rd_get l i hi] at c; exact c
      have hiok := (h1 l[i] (List.getElem_mem hi) ci).1
      refine .inr ⟨by rw [rd_get l i hi]; exact hiok, fun j hj => ?_⟩
      unfold freeB
      by_cases cij : (j : Int) = (i : Int)
      · simp [cij]
      · by_cases c0 : rd l j ≥ 0
        · have cj : l[j] ≠ -1 := by rw [rd_get l j hj] at c0; omega
          have hjok := (h1 l[j] (List.getElem_mem hj) cj).1
          have a1 := domP_ok V kd l[j] hjok
          have a2 := domP_ok V kd l[i] hiok
          have hne : (domP D B kd l[j]).1 ≠ (domP D B kd l[i]).1 := by
            rw [List.pairwise_iff_getElem] at h2
            rcases Nat.lt_or_gt_of_ne (show j ≠ i by omega) with hlt | hlt
            · exact h2 j i hj hi hlt cj ci
            · exact fun e => h2 i j hi hj hlt ci cj e.symm
          have hd : domN B kd (rd l j) ≠ domN B kd (rd l i) := by
            rw [rd_get l j hj, rd_get l i hi, ← a1.2.1, ← a2.2.1]
            exact hne
          have hx : rd l j ≠ rd l i := fun e => hd (by rw [e])
          simp [cij, c0, hd, hx]
        · simp [cij, c0]
/-- the answer -/
def apartAns (D : List S34) (B : List S70) (kd : Int) (l : List Int) : Bool := treeOkB D B && (inB kd 0 2 && (decide (l.length ≤ 7) && apartW D B kd [] l))
theorem impl_apart_ev (D : List S34) (B : List S70) (hD : D.length ≤ 9223372036854775807) (hw : wfTree D B = true) (kd : Int) (l : List Int) : Ev (fun k => impl_Apart.f k D B kd l) (apartAns D B kd l) := by
  unfold impl_Apart.f apartAns
  refine Ev.bind (impl_ok_ev D B hD hw) ?_
  cases c : treeOkB D B with
  | false => exact Ev.now _
  | true =>
    simp only [if_true, Bool.true_and]
    cases c2 : inB kd 0 2 with
    | false => simp only [Bool.false_eq_true, if_false, Bool.false_and]; exact Ev.now _
    | true =>
      simp only [if_true, Bool.true_and]
      by_cases c3 : l.length ≤ 7
      · simp only [if_pos c3, decide_eq_true c3, Bool.true_and]
        exact apartGo_ev (valid_of D B c) kd l []
      · simp only [if_neg c3, decide_eq_false c3, Bool.false_and]; exact Ev.now _

section
variable {D : List S34} {B : List S70}
theorem pick_pos' (seed try_ : Int) : ∀ (l : List S113) (s : Int × Int), l.foldl (pickStep seed try_) s = s ∨ ∃ x ∈ l, l.foldl (pickStep seed try_) s = (bestOf x seed try_, x.f0)
  | [], s => .inl rfl
  | x :: l, s => by
    simp only [List.foldl_cons]
    rcases pick_pos' seed try_ l (pickStep seed try_ s x) with e | ⟨y, hy, e⟩
    · rw [e]
      unfold pickStep
      by_cases c : bestOf x seed try_ > s.1
      · rw [if_pos c]
        exact .inr ⟨x, by simp, rfl⟩
      · rw [if_neg c]
        exact .inl rfl
    · exact .inr ⟨y, by simp [hy], e⟩
/-- who is chosen is in the bucket and has a weight -/
theorem choose_in (id seed try_ : Int) (V : Valid D B) (h : (chooseV D B id seed try_).2 = true) : ∃ j, ∃ hj : j < B.length, B[j].f0 = id ∧ kindAt D B id = B[j].f1 ∧ (chooseV D B id seed try_).1 ∈ B[j].f2 ∧ 0 < weightN D B (chooseV D B id seed try_).1 := by
  unfold chooseV at h ⊢
  by_cases c : bucketAt B id < 0
  · rw [if_pos c] at h; cases h
  · rw [if_neg c] at h ⊢
    obtain ⟨j, hj, ej, e0, ek, e⟩ := bucket_kind V id c
    rw [e] at h ⊢
    refine ⟨j, hj, e0, ek, ?_⟩
    unfold chooseL pickL at h ⊢
    rcases pick_pos' seed try_ (B[j].f2.map (itemOf D B)) (-1, 0) with e1 | ⟨x, hx, e1⟩
    · rw [e1] at h
      simp at h
    · rw [e1] at h ⊢
      obtain ⟨y, hy, rfl⟩ := List.mem_map.1 hx
      refine ⟨hy, ?_⟩
      have h := of_decide_eq_true h
      simp only at h
      by_cases c2 : 0 < weightN D B y
      · exact c2
      · exfalso
        have e2 : bestOf (itemOf D B y) seed try_ = -1 := by
          unfold bestOf itemOf
          simp only
          rw [show (weightN D B y).toNat = 0 by omega]
          rfl
        omega
/-- a way down, of so many steps -/
def Path (B : List S70) : Nat → Int → Int → Prop
  | 0, x, y => x = y
  | t + 1, x, y => ∃ j, ∃ hj : j < B.length, B[j].f0 = x ∧ ∃ z ∈ B[j].f2, Path B t z y
theorem path_trans : ∀ (s t : Nat) (x y z : Int), Path B s x y → Path B t y z → Path B (s + t) x z
  | 0, t, x, y, z, h, h2 => by
    have h : x = y := h
    rw [h, Nat.zero_add]; exact h2
  | s + 1, t, x, y, z, ⟨j, hj, e, u, hu, h⟩, h2 => by
    rw [show s + 1 + t = (s + t) + 1 by omega]
    exact ⟨j, hj, e, u, hu, path_trans s t u y z h h2⟩
theorem path_kind (V : Valid D B) : ∀ (t : Nat) (x y : Int), Path B t x y → 0 ≤ kindAt D B x → kindAt D B y + t ≤ kindAt D B x ∧ 0 ≤ kindAt D B y
  | 0, x, y, h, h0 => by
    have h : x = y := h
    rw [← h]; omega
  | t + 1, x, y, ⟨j, hj, e, u, hu, h⟩, h0 => by
    have hk := item_kind V j hj u hu
    have h1 := path_kind V t u y h hk.1
    have h2 := kindAt_own V j hj
    rw [e] at h2
    omega
theorem desc_path (V : Valid D B) (kd seed try_ : Int) : ∀ (n : Nat) (id : Int), (descN D B kd seed try_ n id).2 = true → ∃ t, Path B t id (descN D B kd seed try_ n id).1 ∧ (kindAt D B id ≠ kd → 0 < weightN D B (descN D B kd seed try_ n id).1)
  | 0, id, h => by cases h
  | n + 1, id, h => by
    unfold descN at h ⊢
    by_cases c : kindAt D B id = kd
    · rw [if_pos c]
      exact ⟨0, rfl, fun h => absurd c h⟩
    · rw [if_neg c] at h ⊢
      by_cases c2 : (chooseV D B id seed try_).2 = true
      · rw [if_pos c2] at h ⊢
        obtain ⟨j, hj, e0, ek, hm, hw⟩ := choose_in id seed try_ V c2
        obtain ⟨t, hp, hq⟩ := desc_path V kd seed try_ n _ h
        refine ⟨t + 1, ⟨j, hj, e0, _, hm, hp⟩, fun _ => ?_⟩
        by_cases c3 : kindAt D B (chooseV D B id seed try_).1 = kd
        · have e : (descN D B kd seed try_ n (chooseV D B id seed try_).1).1 = (chooseV D B id seed try_).1 := by
            cases n with
            | zero => cases h
            | succ n =>
              unfold descN
              rw [if_pos c3]
          rw [e]
          exact hw
        · exact hq c3
      · rw [if_neg c2] at h; cases h
theorem path_under (V : Valid D B) (y : Int) (hy : bucketAt B y < 0) : ∀ (t m : Nat) (x : Int), Path B t x y → t < m → y ∈ underN B m x
  | 0, m + 1, x, h, _ => by
    have h : x = y := h
    unfold underN
    rw [h, if_pos hy]; simp
  | t + 1, m + 1, x, ⟨j, hj, e, u, hu, h⟩, hm => by
    have ih := path_under V y hy t m u h (by omega)
    have hb := bucketAt_own V j hj
    rw [e] at hb
    unfold underN
    rw [if_neg (by omega), sortI_mem, hb, rd_bkt B j hj]
    exact List.mem_flatMap.2 ⟨u, hu, ih⟩
  | _, 0, _, _, h => absurd h (Nat.not_lt_zero _)
theorem first_one {ρ : Type} (c : Nat → Bool) (g : Nat → ρ) (z : ρ) (j : Nat) (hc : c j = true) (hn : ∀ i, i < j → c i = false) : ∀ (d i : Nat), i ≤ j → j < i + d → firstR c g z d i = g j
  | 0, i, h1, h2 => by omega
  | d + 1, i, h1, h2 => by
    unfold firstR
    by_cases e : i = j
    · rw [e, if_pos hc]
    · rw [if_neg (by rw [hn i (by omega)]; decide)]
      exact first_one c g z j hc hn d (i + 1) (by omega) (by omega)
theorem above_step (V : Valid D B) (kd : Int) (n j : Nat) (hj : j < B.length) (x : Int) (hx : x ∈ B[j].f2) : aboveN B (n + 1) x kd = if B[j].f1 = kd then B[j].f0 else aboveN B n B[j].f0 kd := by
  show firstR (fun i => (rd_T70 B i).f2.any fun y => y == x) (fun i => if (rd_T70 B i).f1 = kd then (rd_T70 B i).f0 else aboveN B n (rd_T70 B i).f0 kd) 0 B.length 0 = _
  rw [first_one (fun i => (rd_T70 B i).f2.any fun y => y == x) _ 0 j ?_ ?_ B.length 0 (by omega) (by omega)]
  · rw [rd_bkt B j hj]
  · show ((rd_T70 B (j : Int)).f2.any fun y => y == x) = true
    rw [rd_bkt B j hj]
    exact (any_eq _ _).2 hx
  · intro i hi
    show ((rd_T70 B (i : Int)).f2.any fun y => y == x) = false
    rw [rd_bkt B i (by omega), Bool.eq_false_iff]
    intro h
    have := items_apart V i j (by omega) hj x ((any_eq _ _).1 h) hx
    omega
theorem path_above (V : Valid D B) (kd : Int) : ∀ (t n : Nat) (x y : Int), Path B t x y → kindAt D B x < kd → aboveN B (n + t) y kd = aboveN B n x kd
  | 0, n, x, y, h, _ => by
    have h : x = y := h
    rw [h]; rfl
  | t + 1, n, x, y, ⟨j, hj, e, u, hu, h⟩, hk => by
    have h2 := kindAt_own V j hj
    have h3 := item_kind V j hj u hu
    rw [e] at h2
    have ih := path_above V kd t (n + 1) u y h (by omega)
    rw [show n + (t + 1) = n + 1 + t by omega, ih, above_step V kd n j hj u hu, if_neg (by omega), e]
/-- what a search finds -/
structure Found (D : List S34) (B : List S70) (root kd y : Int) : Prop where
  dev : 0 ≤ devAt D y
  wt : 0 < wOne D y
  under : y ∈ underN B 5 root
  dom : 0 < kd → domN B kd y ≠ 0
theorem weight_one (V : Valid D B) (y : Int) (h : 0 ≤ devAt D y) : weightN D B y = wOne D y := by
  unfold weightN
  rw [(under_self V y h).1]
  unfold wL
  simp
theorem desc_found (V : Valid D B) (root kd seed try_ : Int) (hk0 : 0 ≤ kd) (hk2 : kd ≤ 2) (hr : kindAt D B root = 3) (h1 : (descV D B root kd seed try_).2 = true) (h2 : (descV D B (descV D B root kd seed try_).1 0 seed try_).2 = true) : Found D B root kd (descV D B (descV D B root kd seed try_).1 0 seed try_).1 := by
  have k1 := descV_kind root kd seed try_ h1
  have k2 := descV_kind _ 0 seed try_ h2
  have hdev := dev_of_kind V _ k2
  have hB := kind_zero V _ k2
  unfold descV at h1
  rw [if_pos (by omega)] at h1
  obtain ⟨t, hp, hw⟩ := desc_path V kd seed try_ 5 root h1
  have e1 : (descV D B root kd seed try_).1 = (descN D B kd seed try_ 5 root).1 := by
    unfold descV
    rw [if_pos (by omega)]
  rw [e1] at k1 k2 h2 hdev hB ⊢
  generalize (descN D B kd seed try_ 5 root).1 = dom at k1 k2 h2 hdev hB hp hw ⊢
  unfold descV at h2
  rw [if_pos (by omega)] at h2
  obtain ⟨s, hq, hv⟩ := desc_path V 0 seed try_ 5 dom h2
  have e2 : (descV D B dom 0 seed try_).1 = (descN D B 0 seed try_ 5 dom).1 := by
    unfold descV
    rw [if_pos (by omega)]
  rw [e2] at k2 hdev hB ⊢
  have ed : kindAt D B dom = 0 → (descN D B 0 seed try_ 5 dom).1 = dom := fun h => by
    unfold descN
    rw [if_pos h]
  generalize (descN D B 0 seed try_ 5 dom).1 = y at k2 hdev hB hq hv ed ⊢
  have hpk := path_kind V t root dom hp (by omega)
  have hqk := path_kind V s dom y hq (by omega)
  refine ⟨hdev, ?_, path_under V y hB (t + s) 5 root (path_trans t s root dom y hp hq) (by omega), fun hk => ?_⟩
  · rw [← weight_one V y hdev]
    by_cases c : kindAt D B dom = 0
    · rw [ed c]
      exact hw (by omega)
    · exact hv c
  · unfold domN
    rw [if_neg (by omega)]
    cases s with
    | zero =>
      have : dom = y := hq
      rw [this] at k1
      omega
    | succ s =>
      obtain ⟨j, hj, e, u, hu, hs⟩ := hq
      have h3 := kindAt_own V j hj
      have h4 := item_kind V j hj u hu
      rw [e] at h3
      have hsk := path_kind V s u y hs h4.1
      unfold aboveB
      rw [show (5 : Nat) = (4 - s + 1) + s by omega, path_above V kd s (4 - s + 1) u y hs (by omega), above_step V kd (4 - s) j hj u hu, if_pos (by omega)]
      have := V.bkts j hj
      omega
theorem find_found (V : Valid D B) (root kd seed : Int) (hk0 : 0 ≤ kd) (hk2 : kd ≤ 2) (hr : kindAt D B root = 3) (fr : Int → Bool) (a : Nat) (out : List Int) : ∀ n t, findV D B root kd seed fr a out n t = -1 ∨ Found D B root kd (findV D B root kd seed fr a out n t)
  | 0, t => .inl rfl
  | n + 1, t => by
    unfold findV
    generalize ((t * 7 + a : Nat) : Int) = m
    by_cases c : (descV D B root kd seed m).2 = true
    · rw [if_pos c]
      by_cases c2 : (descV D B (descV D B root kd seed m).1 0 seed m).2 = true ∧ (out.any fun y => y == (descV D B (descV D B root kd seed m).1 0 seed m).1) = false ∧ fr (descV D B (descV D B root kd seed m).1 0 seed m).1 = true
      · rw [if_pos c2]
        exact .inr (desc_found V root kd seed m hk0 hk2 hr c c2.1)
      · rw [if_neg c2]
        exact find_found V root kd seed hk0 hk2 hr fr a out n (t + 1)
    · rw [if_neg c]; exact .inl rfl
/-- every place holds what a search finds, or nothing -/
def FoundL (D : List S34) (B : List S70) (root kd : Int) (L : List Int) : Prop := ∀ y ∈ L, y = -1 ∨ Found D B root kd y
theorem whole_found (V : Valid D B) (root kd seed : Int) (hk0 : 0 ≤ kd) (hk2 : kd ≤ 2) (hr : kindAt D B root = 3) : ∀ i, FoundL D B root kd (wholeV D B root kd seed i)
  | 0 => fun y h => by cases h
  | i + 1 => fun y h => by
    simp only [wholeV, List.mem_append, List.mem_singleton] at h
    rcases h with h | h
    · exact whole_found V root kd seed hk0 hk2 hr i y h
    · rw [h]
      exact find_found V root kd seed hk0 hk2 hr _ _ _ _ _
theorem instead_found (V : Valid D B) (root kd seed : Int) (hk0 : 0 ≤ kd) (hk2 : kd ≤ 2) (hr : kindAt D B root = 3) (out : List Int) : ∀ (d a : Nat) (L : List Int), FoundL D B root kd L → FoundL D B root kd (insteadV D B root kd seed out d a L)
  | 0, a, L, h => h
  | d + 1, a, L, h => by
    unfold insteadV
    by_cases c : (out.any fun y => y == rd L a) = true
    · rw [if_pos c]
      refine instead_found V root kd seed hk0 hk2 hr out d (a + 1) _ (fun y hy => ?_)
      rcases List.mem_or_eq_of_mem_set hy with h1 | h1
      · exact h y h1
      · rw [h1]
        exact find_found V root kd seed hk0 hk2 hr _ _ _ _ _
    · rw [if_neg c]
      exact instead_found V root kd seed hk0 hk2 hr out d (a + 1) L h
end

/-- how many places are free -/
def canAns (D : List S34) (B : List S70) (n root kd : Int) (out : List Int) : Int × Bool := if (treeOkB D B && ruleB D B n root kd) = true then (if riseO out = true then (((onceOf (freeL D B kd out (underN B 5 root))).length : Int), true) else (0, false)) else (0, false)
theorem root_devs {D : List S34} {B : List S70} (V : Valid D B) (n root kd : Int) (h : ruleB D B n root kd = true) : kindAt D B root < 5 ∧ ∀ x ∈ underN B 5 root, 0 ≤ devAt D x := by
  unfold ruleB at h
  simp only [Bool.and_eq_true, decide_eq_true_eq] at h
  have := h.1.2
  exact ⟨by omega, under_dev V 5 root (by omega) (by omega)⟩
theorem impl_canPlace (D : List S34) (B : List S70) (hD : D.length ≤ 9223372036854775807) (hw : wfTree D B = true) (n root kd : Int) (b : Bool) (out : List Int) (ho : out.length ≤ 1048576) : Ev (fun k => impl_CanPlace.f k D B n root kd b out) (canAns D B n root kd out) := by
  unfold impl_CanPlace.f canAns
  refine Ev.bind (impl_ruleOk D B hD hw n root kd b) ?_
  cases c : (treeOkB D B && ruleB D B n root kd) with
  | false => simp only [Bool.false_eq_true, if_false]; exact Ev.now _
  | true =>
    simp only [if_true]
    rw [Bool.and_eq_true] at c
    have V := valid_of D B c.1
    obtain ⟨h5, hdev⟩ := root_devs V n root kd c.2
    refine Ev.bind (impl_out_ev out ho) ?_
    by_cases c2 : riseO out = true
    · simp only [if_pos c2]
      refine Ev.bind (impl_under_ev V 5 root (by omega) h5) ?_
      simp only [if_pos (under5 V root), Option.map_eq_bind]
      have h := placeGo_ev V kd out ho (underN B 5 root) [] hdev
      rw [List.nil_append] at h
      exact Ev.bind h (Ev.now _)
    · simp only [if_neg c2]
      exact Ev.now _

/-- the answer, and which error -/
def weightAns (D : List S34) (B : List S70) (id : Int) : Int × Int := if treeOkB D B = true then (if kindAt D B id < 0 then (0, 3) else (weightN D B id, 0)) else (0, 1)
theorem impl_code_ev (D : List S34) (B : List S70) (hD : D.length ≤ 9223372036854775807) (hw : wfTree D B = true) (id : Int) : Ev (fun k => impl_treeCode.f k D B id) (if treeOkB D B = true then (if kindAt D B id < 0 then (3 : Int) else 0) else 1) := by
  unfold impl_treeCode.f
  refine Ev.bind (impl_ok_ev D B hD hw) ?_
  have ek : impl_Tree_kindOf.f D B id = some (kindAt D B id) := rfl
  by_cases c : treeOkB D B = true
  · simp only [if_pos c, ek, Option.bind_some]
    by_cases c2 : kindAt D B id < 0
    · simp only [if_pos c2]
      exact Ev.now _
    · simp only [if_neg c2]
      exact Ev.now _
  · simp only [if_neg c]
    exact Ev.now _
theorem impl_weightOf (D : List S34) (B : List S70) (hD : D.length ≤ 9223372036854775807) (hw : wfTree D B = true) (id : Int) : Ev (fun k => impl_WeightOf.f k D B id) (weightAns D B id) := by
  unfold impl_WeightOf.f weightAns
  refine Ev.bind (impl_code_ev D B hD hw id) ?_
  by_cases c : treeOkB D B = true
  · simp only [if_pos c]
    have V := valid_of D B c
    by_cases c2 : kindAt D B id < 0
    · simp only [if_pos c2, show ¬ ((3 : Int) = 0) by decide, if_false]
      exact Ev.now _
    · simp only [if_neg c2, if_true]
      exact Ev.bind (impl_weight_ev V id (by omega)) (Ev.now _)
  · simp only [if_neg c, show ¬ ((1 : Int) = 0) by decide, if_false]
    exact Ev.now _

/-- the law's own excluded devices: rising, below 12 -/
theorem places_loop (l : List Int) (hb : IsBytes l) (hl : l.length ≤ 1048576) (m : Int) (hm0 : 0 ≤ m) (hm : m ≤ 12) : ∀ (d i : Nat) (s : List Int), i + d = 12 → s.length ≤ i → (∀ y ∈ s, 0 ≤ y ∧ y < i) → s.Pairwise (· < ·) → ∃ r, Ev (fun k => laws_a8Places.l0 k l m 12 s i) r ∧ r.length ≤ 12 ∧ (∀ y ∈ r, 0 ≤ y ∧ y < 12) ∧ r.Pairwise (· < ·)
  | 0, i, s, hi, hs, hq, hp => by
    refine ⟨s, ev_end (fun k => ?_), by omega, fun y hy => by have := hq y hy; omega, hp⟩
    simp only [laws_a8Places.l0]
    rw [if_neg (by omega)]
  | d + 1, i, s, hi, hs, hq, hp => by
    have hq1 : ∀ y ∈ s, 0 ≤ y ∧ y < ((i + 1 : Nat) : Int) := fun y hy => by have := hq y hy; omega
    obtain ⟨r1, e1, a1, b1, c1⟩ := places_loop l hb hl m hm0 hm d (i + 1) s (by omega) (by omega) hq1 hp
    obtain ⟨r2, e2, a2, b2, c2⟩ := places_loop l hb hl m hm0 hm d (i + 1) (s ++ [(i : Int)]) (by omega) (by simp; omega) (fun y hy => by
      rcases List.mem_append.1 hy with h | h
      · exact hq1 y h
      · simp at h; omega) (List.pairwise_append.2 ⟨hp, List.pairwise_singleton _ _, fun y hy z hz => by
        simp at hz
        have := hq y hy
        omega⟩)
    have ew : wrap64 ((i : Int) + 1) = ((i + 1 : Nat) : Int) := by unfold wrap64; omega
    have en : wrap64 (m - (s.length : Int)) = m - s.length := by unfold wrap64; omega
    have el : wrap64 (12 - (i : Int)) = 12 - i := by unfold wrap64; omega
    by_cases g0 : m - (s.length : Int) > 0
    · by_cases g1 : 12 - (i : Int) = m - s.length
      · refine ⟨r2, Ev.step (fun k => ?_) e2, a2, b2, c2⟩
        simp only [laws_a8Places.l0]
        rw [if_pos (by omega), en, if_pos g0, el, if_pos g1, if_pos (by omega), ew]
      · obtain ⟨v, ev, v0, v1⟩ := a8At_pos l hb hl i (12 - i) (by omega) (by omega) (by omega) (by omega)
        by_cases g2 : v < m - s.length
        · refine ⟨r2, Ev.step (fun k => ?_) e2, a2, b2, c2⟩
          simp only [laws_a8Places.l0]
          rw [if_pos (by omega), en, if_pos g0, el, if_neg g1, ev, Option.bind_some, if_pos g2, if_pos (by omega), ew]
        · refine ⟨r1, Ev.step (fun k => ?_) e1, a1, b1, c1⟩
          simp only [laws_a8Places.l0]
          rw [if_pos (by omega), en, if_pos g0, el, if_neg g1, ev, Option.bind_some, if_neg g2, ew]
    · refine ⟨r1, Ev.step (fun k => ?_) e1, a1, b1, c1⟩
      simp only [laws_a8Places.l0]
      rw [if_pos (by omega), en, if_neg g0, ew]
theorem rise_of (r : List Int) (h : ∀ y ∈ r, 0 ≤ y ∧ y < 12) (hp : r.Pairwise (· < ·)) : riseO r = true := by
  unfold riseO
  rw [List.all_eq_true]
  intro i hi
  have hi : i < r.length := by simpa using hi
  have h1 := h r[i] (List.getElem_mem hi)
  unfold riseB inB
  rw [rd_get r i hi]
  by_cases c : i = 0
  · simp [c] at h1 ⊢
    omega
  · rw [show ((i : Int) - 1) = ((i - 1 : Nat) : Int) by omega, rd_get r (i - 1) (by omega)]
    have := List.pairwise_iff_getElem.1 hp (i - 1) i (by omega) hi (by omega)
    simp [this]
    omega
theorem hasNot_ev (l : List Int) (x : Int) (hl : l.length ≤ 1048576) (h : x ∉ l) : Ev (fun k => laws_a8Has.f k l x) false := by
  have : ∀ (d i : Nat), i + d = l.length → Ev (fun k => laws_a8Has.l0 k l x i) false := fun d => by
    induction d with
    | zero =>
      intro i hi
      refine ev_end (fun k => ?_)
      simp only [laws_a8Has.l0]
      rw [if_neg (by omega)]
    | succ d ih =>
      intro i hi
      have hil : i < l.length := by omega
      refine Ev.step (fun k => ?_) (ih (i + 1) (by omega))
      simp only [laws_a8Has.l0]
      rw [if_pos (by omega), if_pos (by omega), rd_get l i hil, if_neg (show ¬ l[i] = x from fun e => h (e ▸ List.getElem_mem hil)), up64 i l.length hil (by omega)]
  exact this l.length 0 (by omega)
/-- what WeightOf and DomainOf tell of a place -/
def Told (D : List S34) (B : List S70) (kd : Int) (y : Int) : Prop := (∃ w, Ev (fun k => impl_WeightOf.f k D B y) (w, 0) ∧ w ≠ 0) ∧ ∃ d, Ev (fun k => impl_DomainOf.f k D B kd y) (d, 0) ∧ (kd = 0 → d = y)
section
variable (D : List S34) (B : List S70)
theorem told_of (hD : D.length ≤ 9223372036854775807) (hw : wfTree D B = true) (hv : treeOkB D B = true) (root kd y : Int) (hk0 : 0 ≤ kd) (hk2 : kd ≤ 2) (h : Found D B root kd y) : Told D B kd y := by
  have V := valid_of D B hv
  have hs := under_self V y h.dev
  refine ⟨⟨weightN D B y, ?_, by rw [weight_one V y h.dev]; have := h.wt; omega⟩, domN B kd y, ?_, fun hk => by unfold domN; rw [if_pos hk]⟩
  · have := impl_weightOf D B hD hw y
    unfold weightAns at this
    rw [if_pos hv, if_neg (by omega)] at this
    exact this
  · unfold impl_DomainOf.f
    refine Ev.bind (impl_ok_ev D B hD hw) ?_
    have hin : inB kd 0 2 = true := by simp only [inB, Bool.and_eq_true, decide_eq_true_eq]; omega
    simp only [hv, if_true, between_inB, Option.bind_some, hin]
    refine Ev.bind (impl_domain V kd y) ?_
    have hd := h.dev
    have e0 : domP D B kd y = if kd = 0 then (y, true) else (aboveB B y kd, (aboveB B y kd != 0)) := by
      unfold domP
      rw [if_neg (by omega)]
    rw [e0]
    unfold domN
    by_cases c : kd = 0
    · simp only [if_pos c, if_true]
      exact Ev.now _
    · have h2 := h.dom (by omega)
      unfold domN at h2
      rw [if_neg c] at h2
      have e : (aboveB B y kd != 0) = true := by simpa using h2
      simp only [if_neg c, e, if_true]
      exact Ev.now _
theorem apart_loop (out P : List Int) (can : Int) (c1 c2 kd : Int) (b : Bool) (ho : out.length ≤ 1048576) (hP : P.length ≤ 7) (ht : ∀ y ∈ P, 0 ≤ y → Told D B kd y) (hno : ∀ y ∈ P, 0 ≤ y → y ∉ out) (hf : b = false → ∀ i j : Nat, i < j → j < P.length → rd P i < 0 → rd P j < 0) : ∀ (d i : Nat) (taken : Nat) (hole : Bool), i + d = P.length → (hole = true → b = true ∨ ∀ j : Nat, i ≤ j → j < P.length → rd P j < 0) → taken ≤ i → ((taken + ((P.drop i).filter fun x => decide (0 ≤ x)).length : Nat) : Int) ≤ can → Ev (fun k => laws_FnApart.l0 k out P can taken hole i D B c1 c2 kd b) true
  | 0, i, taken, hole, hi, hh, hti, hc => by
    refine ev_end (fun k => ?_)
    simp only [laws_FnApart.l0]
    rw [if_neg (by omega), decide_eq_true (by omega)]
  | d + 1, i, taken, hole, hi, hh, hti, hc => by
    have hil : i < P.length := by omega
    have hm : rd P i ∈ P := by rw [rd_get P i hil]; exact List.getElem_mem hil
    rw [List.drop_eq_getElem_cons hil, ← rd_get P i hil] at hc
    have ew := up64 i P.length hil (by omega)
    by_cases c0 : rd P i < 0
    · rw [List.filter_cons_of_neg (by simp; omega)] at hc
      refine Ev.step (fun k => ?_) (apart_loop out P can c1 c2 kd b ho hP ht hno hf d (i + 1) taken true (by omega) (fun _ => ?_) (by omega) hc)
      · simp only [laws_FnApart.l0]
        rw [if_pos (by omega), if_pos (by omega), if_pos c0, ew]
      · cases hb : b with
        | true => exact .inl rfl
        | false => exact .inr (fun j h1 h2 => hf hb i j (by omega) h2 c0)
    · rw [List.filter_cons_of_pos (by simp; omega), List.length_cons] at hc
      obtain ⟨⟨w, ew1, hw0⟩, dm, ed, hd0⟩ := ht _ hm (by omega)
      have hg : hole = true → b = true := fun h => by
        rcases hh h with h1 | h1
        · exact h1
        · exact absurd (h1 i (by omega) hil) c0
      have ih := apart_loop out P can c1 c2 kd b ho hP ht hno hf d (i + 1) (taken + 1) hole (by omega) (fun h => .inl (hg h)) (by omega) (by omega)
      refine Ev.step (f := ?zf1) (fun k => ?_) ?_
      rotate_left
      · simp only [laws_FnApart.l0]
        rw [if_pos (by omega), if_pos (by omega), if_neg c0, ew, show wrap64 ((taken : Int) + 1) = ((taken + 1 : Nat) : Int) from by unfold wrap64; omega]
      · refine Ev.bind ew1 (Ev.bind ed (Ev.bind (hasNot_ev out _ ho (hno _ hm (by omega))) ?_))
        simp only [Bool.false_eq_true, if_false, if_true, if_neg hw0]
        have fin : Ev (fun k => if hole = true then if b = true then laws_FnApart.l0 k out P can ((taken + 1 : Nat) : Int) hole ((i + 1 : Nat) : Int) D B c1 c2 kd b else none else laws_FnApart.l0 k out P can ((taken + 1 : Nat) : Int) hole ((i + 1 : Nat) : Int) D B c1 c2 kd b) true := by
          cases h : hole with
          | true =>
            rw [h] at ih hg
            simp only [if_true, hg rfl] at ih ⊢
            exact ih
          | false =>
            rw [h] at ih
            simp only [Bool.false_eq_true, if_false]
            exact ih
        by_cases c : kd = 0
        · simp only [if_pos c, if_pos (hd0 c)]
          exact fin
        · simp only [if_neg c]
          exact fin
end
theorem nodup_le : ∀ (l m : List Int), l.Nodup → (∀ x ∈ l, x ∈ m) → l.length ≤ m.length
  | [], m, _, _ => Nat.zero_le _
  | x :: l, m, h, hs => by
    have hx := hs x (by simp)
    rw [List.nodup_cons] at h
    have := nodup_le l (m.erase x) h.2 (fun y hy => by
      have hne : y ≠ x := fun e => h.1 (e ▸ hy)
      exact (List.mem_erase_of_ne hne).2 (hs y (by simp [hy])))
    rw [List.length_erase_of_mem hx] at this
    have hpos : 0 < m.length := List.length_pos_of_mem hx
    simp only [List.length_cons]
    omega
/-- what was found in a list of places -/
def gotL (L : List Int) : List Int := L.filter fun x => decide (0 ≤ x)
theorem got_front (L : List Int) : gotL (frontV L) = gotL L := by
  unfold gotL frontV
  rw [List.filter_append, List.filter_filter]
  have e2 : (List.replicate (L.length - (L.filter fun x => !decide (x < 0)).length) (-1 : Int)).filter (fun x => decide (0 ≤ x)) = [] := by
    rw [List.filter_eq_nil_iff]
    intro y hy
    rw [List.eq_of_mem_replicate hy]
    simp
  rw [e2, List.append_nil]
  congr 1
  funext y
  by_cases c : 0 ≤ y
  · simp [c]
  · simp [c]
section
variable {D : List S34} {B : List S70}
theorem pairs_got {kd : Int} {L : List Int} (h : Pairs B kd L) : (gotL L).Pairwise fun x y => domN B kd x ≠ domN B kd y := by
  have h1 : L.Pairwise (fun x y => 0 ≤ x → 0 ≤ y → domN B kd x ≠ domN B kd y) := by
    rw [List.pairwise_iff_getElem]
    intro i j hi hj hij h0 h1
    have := (h i j hi hj (by omega) (by rw [rd_get L i hi]; exact h0) (by rw [rd_get L j hj]; exact h1)).2
    rwa [rd_get L i hi, rd_get L j hj] at this
  exact (h1.filter _).imp_of_mem (fun hx hy hq => hq (by simpa using (List.mem_filter.1 hx).2) (by simpa using (List.mem_filter.1 hy).2))
theorem got_can {root kd : Int} {out L : List Int} (hk : 0 ≤ kd) (hf : FoundL D B root kd L) (hp : Pairs B kd L) (hno : ∀ y ∈ L, 0 ≤ y → y ∉ out) : (gotL L).length ≤ (onceOf (freeL D B kd out (underN B 5 root))).length := by
  have h := nodup_le ((gotL L).map (domN B kd)) (onceOf (freeL D B kd out (underN B 5 root))) ?_ ?_
  · rwa [List.length_map] at h
  · exact List.pairwise_map.2 (pairs_got hp)
  · intro z hz
    obtain ⟨y, hy, rfl⟩ := List.mem_map.1 hz
    obtain ⟨hyL, hy0⟩ := List.mem_filter.1 hy
    have hy0 : 0 ≤ y := by simpa using hy0
    rcases hf y hyL with e | hF
    · omega
    · rw [mem_once]
      refine List.mem_map.2 ⟨y, List.mem_filter.2 ⟨hF.under, ?_⟩, rfl⟩
      unfold freeP
      have e1 : (out.any fun z => z == y) = false := by
        rw [Bool.eq_false_iff]
        exact fun h => hno y hyL hy0 ((any_eq out y).1 h)
      rw [decide_eq_true (show wOne D y > 0 from hF.wt), e1]
      by_cases c : kd = 0
      · simp [c]
      · have := hF.dom (by omega)
        simp [c, this]
/-- a placement, whichever way it is told -/
structure Placed (D : List S34) (B : List S70) (root kd : Int) (out P : List Int) : Prop where
  found : FoundL D B root kd P
  got : (gotL P).Pairwise fun x y => domN B kd x ≠ domN B kd y
  no : ∀ y ∈ P, 0 ≤ y → y ∉ out
  can : (gotL P).length ≤ (onceOf (freeL D B kd out (underN B 5 root))).length
theorem placed_front {root kd : Int} {out L : List Int} (h : Placed D B root kd out L) : Placed D B root kd out (frontV L) := by
  have hm : ∀ y, y ∈ frontV L → y = -1 ∨ y ∈ L := fun y hy => by
    unfold frontV at hy
    rcases List.mem_append.1 hy with h1 | h1
    · exact .inr (List.mem_filter.1 h1).1
    · exact .inl (List.eq_of_mem_replicate h1)
  refine ⟨fun y hy => ?_, by rw [got_front]; exact h.got, fun y hy h0 => ?_, by rw [got_front]; exact h.can⟩
  · rcases hm y hy with e | e
    · exact .inl e
    · exact h.found y e
  · rcases hm y hy with e | e
    · omega
    · exact h.no y e h0
theorem placed_of (V : Valid D B) (root kd seed : Int) (hk0 : 0 ≤ kd) (hk2 : kd ≤ 2) (hr : kindAt D B root = 3) (N : Nat) (b : Bool) (out : List Int) (hp : ∀ y ∈ out, 0 ≤ y) : Placed D B root kd out (placeV D B root kd seed N b out) := by
  have hl := whole_len (D := D) (B := B) root kd seed N
  have h2 := instead_len (D := D) (B := B) root kd seed out N 0 (wholeV D B root kd seed N)
  have hfd := instead_found V root kd seed hk0 hk2 hr out N 0 _ (whole_found V root kd seed hk0 hk2 hr N)
  have hpr := instead_pairs V root kd seed out N 0 _ (by omega) (whole_pairs V root kd seed N)
  have hout := instead_out V root kd seed out hp N 0 (wholeV D B root kd seed N) (by omega) (fun j hj => absurd hj (Nat.not_lt_zero j))
  have hno : ∀ y ∈ insteadV D B root kd seed out N 0 (wholeV D B root kd seed N), 0 ≤ y → y ∉ out := fun y hy _ => by
    obtain ⟨j, hj, rfl⟩ := List.getElem_of_mem hy
    have := hout j (by omega)
    rwa [rd_get _ j hj] at this
  have h : Placed D B root kd out (insteadV D B root kd seed out N 0 (wholeV D B root kd seed N)) := ⟨hfd, pairs_got hpr, hno, got_can hk0 hfd hpr hno⟩
  unfold placeV
  cases b with
  | true => exact h
  | false => exact placed_front h
theorem placed_apart (V : Valid D B) {root kd : Int} {out P : List Int} (h : Placed D B root kd out P) (hk0 : 0 ≤ kd) : apartW D B kd [] P = true := by
  rw [apartW_iff]
  have hd : ∀ y, Found D B root kd y → (domP D B kd y).2 = true ∧ (domP D B kd y).1 = domN B kd y := fun y hF => by
    have h1 := hF.dev
    refine ⟨?_, dom_dev kd y h1⟩
    unfold domP
    rw [if_neg (by omega)]
    by_cases c : kd = 0
    · rw [if_pos c]
    · rw [if_neg c]
      have := hF.dom (by omega)
      unfold domN at this
      rw [if_neg c] at this
      simpa using this
  have hF : ∀ y ∈ P, y ≠ -1 → Found D B root kd y := fun y hy hn => by
    rcases h.found y hy with e | e
    · exact absurd e hn
    · exact e
  have h0 : ∀ y, Found D B root kd y → 0 ≤ y := fun y hf => (dev_range V y (by have := hf.dev; omega)).1
  refine ⟨fun y hy hn => ⟨(hd y (hF y hy hn)).1, by simp⟩, ?_⟩
  have : ∀ Q : List Int, (∀ y ∈ Q, y ≠ -1 → Found D B root kd y) → (gotL Q).Pairwise (fun x y => domN B kd x ≠ domN B kd y) → Q.Pairwise fun x y => x ≠ -1 → y ≠ -1 → (domP D B kd x).1 ≠ (domP D B kd y).1 := fun Q => by
    induction Q with
    | nil => intro _ _; exact List.Pairwise.nil
    | cons x Q ih =>
      intro hq hg
      have hq' : ∀ y ∈ Q, y ≠ -1 → Found D B root kd y := fun y hy => hq y (by simp [hy])
      by_cases c : 0 ≤ x
      · unfold gotL at hg ih
        rw [List.filter_cons_of_pos (by simpa using c), List.pairwise_cons] at hg
        refine List.pairwise_cons.2 ⟨fun y hy hx hy1 => ?_, ih hq' hg.2⟩
        have f1 := hq x (by simp) hx
        have f2 := hq' y hy hy1
        rw [(hd x f1).2, (hd y f2).2]
        exact hg.1 y (List.mem_filter.2 ⟨hy, by simpa using h0 y f2⟩)
      · unfold gotL at hg ih
        rw [List.filter_cons_of_neg (by simpa using c)] at hg
        refine List.pairwise_cons.2 ⟨fun y hy hx hy1 => ?_, ih hq' hg⟩
        exact absurd (h0 x (hq x (by simp) hx)) c
  exact this P hF h.got
end
theorem front_holes (L : List Int) (i j : Nat) (hij : i < j) (hj : j < (frontV L).length) (h : rd (frontV L) i < 0) : rd (frontV L) j < 0 := by
  unfold frontV at hj h ⊢
  generalize hF : (L.filter fun x => !decide (x < 0)) = F at hj h ⊢
  generalize L.length - F.length = n at hj h ⊢
  rw [rd_get _ i (by omega)] at h
  rw [rd_get _ j hj]
  by_cases c : i < F.length
  · rw [List.getElem_append_left c] at h
    have hm : F[i] ∈ L.filter fun x => !decide (x < 0) := by rw [hF]; exact List.getElem_mem c
    have := (List.mem_filter.1 hm).2
    simp at this
    omega
  · rw [List.getElem_append_right (by omega), List.getElem_replicate]
    omega
theorem FnApart : laws_FnApart.Pure := by
  intro l0 _ _ hwf
  have hb := bytes_of_wf hwf
  refine Ev.rounds (r := true) ?_
  unfold laws_FnApart.f
  by_cases c0 : (l0.length : Int) > 1048576
  · exact ev_some fun k => if_pos c0
  simp only [if_neg c0]
  have hl : l0.length ≤ 1048576 := by omega
  obtain ⟨D, B, e1, hv, hw, d1, d2, b1, b2, hk⟩ := A8Tree_is l0 hb
  have V := valid_of D B hv
  obtain ⟨n, kd, bb, e2, n1, n2, k1, k2⟩ := A8Rule_is (2 :: l0) (bytes_cons hb) D B b1 b2
  obtain ⟨v, e3, v0, v1⟩ := a8At_pos l0 hb hl 0 8 (by omega) (by omega) (by omega) (by omega)
  obtain ⟨m, e4, m0, m1⟩ := a8At_pos l0 hb hl 1 4 (by omega) (by omega) (by omega) (by omega)
  obtain ⟨seed, e5⟩ := A8Number_is l0 hb
  obtain ⟨N, rfl⟩ := Int.eq_ofNat_of_zero_le v0
  obtain ⟨out, e6, ho, hor, hop⟩ := places_loop l0 hb hl m m0 (by omega) 12 0 [] rfl (by simp) (by simp) List.Pairwise.nil
  have hro := rise_of out hor hop
  have hr := rule_ok (D := D) (B := B) n _ kd n1 n2 k1 k2 hk
  have hD : D.length ≤ 9223372036854775807 := by omega
  refine Ev.bind e1 ?_
  simp only [a8Mix_is l0 hl, Option.bind_some, e2, e3, e4]
  refine Ev.bind (show Ev (fun k => laws_a8Places.f k l0 m 12) out from e6) (Ev.bind (ev_of (K := 10) e5) ?_)
  generalize (rd_T70 B (B.length - 1 : Nat)).f0 = root at hr hk
  have hP := placed_of V root kd seed k1 k2 hk N bb out (fun y hy => (hor y hy).1)
  have hlen := place_len (D := D) (B := B) root kd seed N bb out
  have hpl := place_ans (hD := hD) hw n root kd bb seed N out (by omega) hv hr (by omega) hro
  have hcan := impl_canPlace D B hD hw n root kd bb out (by omega)
  unfold canAns at hcan
  simp only [hv, hr, hro, Bool.and_self, if_true] at hcan
  have hfr : bb = false → ∀ i j : Nat, i < j → j < (placeV D B root kd seed N bb out).length → rd (placeV D B root kd seed N bb out) i < 0 → rd (placeV D B root kd seed N bb out) j < 0 := fun h => by
    subst h
    unfold placeV
    rw [if_neg (by decide)]
    exact front_holes _
  have hap := placed_apart V hP k1
  have hin : inB kd 0 2 = true := by simp only [inB, Bool.and_eq_true, decide_eq_true_eq]; omega
  generalize placeV D B root kd seed N bb out = P at *
  refine Ev.bind hpl (Ev.bind hcan ?_)
  simp only [if_true, hlen]
  refine Ev.bind (impl_apart_ev D B hD hw kd P) ?_
  unfold apartAns
  simp only [hv, hin, hap, decide_eq_true (show P.length ≤ 7 by omega), Bool.and_self, if_true]
  refine Ev.bind (impl_ruleOk D B hD hw n root kd bb) ?_
  simp only [hv, hr, Bool.and_self, Bool.not_true]
  refine Ev.step (f := ?zf9) (fun k => ?_) ?_
  rotate_left
  · simp only [laws_FnApart.j0]
    rw [if_neg (by decide)]
  · refine apart_loop D B out P _ n root kd bb (by omega) (by omega) (fun y hy h0 => ?_) hP.no hfr P.length 0 0 false (by omega) (fun h => by cases h) (by omega) ?_
    · rcases hP.found y hy with e | e
      · omega
      · exact told_of D B hD hw hv root kd y k1 k2 e
    · have := hP.can
      unfold gotL at this
      rw [List.drop_zero]
      omega

end Go.Proofs.Ytohjpgcmhihdhaa.Pure
