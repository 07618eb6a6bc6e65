/- Plain laws of topologies: the reference's searches, kinds and lists, as the program's. Conditions: the bounds that each theorem names. -/
import Derived.Test.YtohjpgcmhihdhaaGreatDoorOLTree
import Derived.Test.YtohjpgcmhihdhaaGreatDoorQ0
import Derived.Test.YtohjpgcmhihdhaaGreatDoorQf14
import Derived.Test.YtohjpgcmhihdhaaGreatDoorQf60
import Derived.Test.YtohjpgcmhihdhaaGreatDoorQf59
import Derived.Test.YtohjpgcmhihdhaaGreatDoorQf58
import Derived.Test.YtohjpgcmhihdhaaGreatDoorQf69
import Derived.Test.YtohjpgcmhihdhaaGreatDoorQf68
namespace Go.Proofs.YtohjpgcmhihdhaaGreatDoor.Pure
open Go.RowKit Go.Proofs.YtohjpgcmhihdhaaGreatDoor.Q Go.Proofs.YtohjpgcmhihdhaaGreatDoorW.PrintWords Go.Proofs.YtohjpgcmhihdhaaGreatDoorW.PrintLast Go.Proofs.YtohjpgcmhihdhaaGreatDoorW.PrintMore
set_option linter.unusedVariables false
set_option linter.unusedSimpArgs false

theorem in_inB (a b c : Int) : spec_l00In.f a b c = some (inB a b c) := between_inB a b c
/-- a loop that asks each place in turn -/
theorem all_loop (n : Nat) (L : Nat → Int → Option Bool) (c : Nat → Bool) (ht : ∀ i : Nat, i < n → c i = true → ∀ r, Ev (fun k => L k ((i + 1 : Nat) : Int)) r → Ev (fun k => L k (i : Int)) r)
    (hf : ∀ i : Nat, i < n → c i = false → Ev (fun k => L k (i : Int)) false) (he : ∀ k, L (k + 1) (n : Int) = some true) : Ev (fun k => L k 0) ((List.range n).all c) := by
  refine loop_is n (fun k (_ : Unit) i => L k i) (fun i _ => ∀ j, j < i → c j = true) _ ?_ ?_ () (fun j hj => absurd hj (Nat.not_lt_zero j))
  · intro i _ hi hI
    cases hc : c i with
    | true =>
      refine .inr ⟨(), fun j hj => ?_, ht i hi hc⟩
      rcases Nat.lt_succ_iff_lt_or_eq.1 hj with h | h
      · exact hI j h
      · rw [h]; exact hc
    | false =>
      left
      have e : (List.range n).all c = false := by
        rw [List.all_eq_false]
        exact ⟨i, by simpa using hi, by simp [hc]⟩
      rw [e]
      exact hf i hi hc
  · intro _ hI
    have e : (List.range n).all c = true := by
      rw [List.all_eq_true]
      intro j hj
      exact hI j (by simpa using hj)
    rw [e]
    exact ev_end he
theorem has_ev (l : List Int) (x : Int) (hl : l.length ≤ 9223372036854775807) : Ev (fun k => spec_l00Has.f k l x) (l.any fun y => y == x) := by
  refine loop_is l.length (fun k (_ : Unit) i => spec_l00Has.l0 k l x i) (fun i _ => (l.take i).any (fun y => y == x) = false) _ ?_ ?_ () (by simp)
  · intro i _ hi hI
    have hu : ∀ k, spec_l00Has.l0 (k + 1) l x i = if l[i] = x then some true else spec_l00Has.l0 k l x ((i + 1 : Nat) : Int) := fun k => by
      simp only [spec_l00Has.l0]
      rw [if_pos (by omega), if_pos (by omega), rd_get l i hi, up64 i l.length hi hl]
    by_cases c : l[i] = x
    · left
      have e : l.any (fun y => y == x) = true := by
        rw [List.any_eq_true]
        exact ⟨l[i], List.getElem_mem hi, by simpa using c⟩
      rw [e]
      exact ev_end (fun k => by rw [hu k, if_pos c])
    · refine .inr ⟨(), ?_, ev_next (fun k => by rw [hu k, if_neg c])⟩
      rw [List.take_succ_eq_append_getElem hi, List.any_append, hI]
      simpa using c
  · intro _ hI
    rw [List.take_length] at hI
    rw [hI]
    exact ev_end (fun k => by simp only [spec_l00Has.l0]; rw [if_neg (by omega)])
/-- the index of a device -/
def devAt (D : List S57) (id : Int) : Int := idxFrom (fun x : S57 => x.f0 == id) D 0
theorem idx_step {α : Type} (p : α → Bool) (l : List α) (i : Nat) (hi : i < l.length) : idxFrom p (l.drop i) i = if p l[i] = true then (i : Int) else idxFrom p (l.drop (i + 1)) ((i + 1 : Nat) : Int) := by
  rw [List.drop_eq_getElem_cons hi]
  rfl
theorem specDevice_ev (D : List S57) (B : List S49) (id : Int) (hD : D.length ≤ 9223372036854775807) : Ev (fun k => spec_l06Device.f k D B id) (devAt D id) := by
  refine loop_is D.length (fun k (_ : Unit) i => spec_l06Device.l0 k id i D B) (fun i _ => devAt D id = idxFrom (fun x : S57 => x.f0 == id) (D.drop i) i) _ ?_ ?_ () rfl
  · intro i _ hi hI
    have hu : ∀ k, spec_l06Device.l0 (k + 1) id i D B = if D[i].f0 = id then some (i : Int) else spec_l06Device.l0 k id ((i + 1 : Nat) : Int) D B := fun k => by
      simp only [spec_l06Device.l0]
      rw [if_pos (by omega), if_pos (by omega), rd_dev D i hi, up64 i D.length hi hD]
    rw [idx_step _ D i hi] at hI
    by_cases c : D[i].f0 = id
    · left
      rw [if_pos (by simpa using c)] at hI
      rw [hI]
      exact ev_end (fun k => by rw [hu k, if_pos c])
    · rw [if_neg (by simpa using c)] at hI
      exact .inr ⟨(), hI, ev_next (fun k => by rw [hu k, if_neg c])⟩
  · intro _ hI
    rw [List.drop_length] at hI
    rw [hI]
    exact ev_end (fun k => by simp only [spec_l06Device.l0]; rw [if_neg (by omega)]; rfl)
theorem specBucket_ev (D : List S57) (B : List S49) (id : Int) (hB : B.length ≤ 9223372036854775807) : Ev (fun k => spec_l06Bucket.f k D B id) (bucketAt B id) := by
  refine loop_is B.length (fun k (_ : Unit) i => spec_l06Bucket.l0 k id i D B) (fun i _ => bucketAt B id = idxFrom (fun x : S49 => x.f0 == id) (B.drop i) i) _ ?_ ?_ () rfl
  · intro i _ hi hI
    have hu : ∀ k, spec_l06Bucket.l0 (k + 1) id i D B = if B[i].f0 = id then some (i : Int) else spec_l06Bucket.l0 k id ((i + 1 : Nat) : Int) D B := fun k => by
      simp only [spec_l06Bucket.l0]
      rw [if_pos (by omega), if_pos (by omega), rd_bkt B i hi, up64 i B.length hi hB]
    rw [idx_step _ B i hi] at hI
    by_cases c : B[i].f0 = id
    · left
      rw [if_pos (by simpa using c)] at hI
      rw [hI]
      exact ev_end (fun k => by rw [hu k, if_pos c])
    · rw [if_neg (by simpa using c)] at hI
      exact .inr ⟨(), hI, ev_next (fun k => by rw [hu k, if_neg c])⟩
  · intro _ hI
    rw [List.drop_length] at hI
    rw [hI]
    exact ev_end (fun k => by simp only [spec_l06Bucket.l0]; rw [if_neg (by omega)]; rfl)
theorem specKind_ev (D : List S57) (B : List S49) (id : Int) (hD : D.length ≤ 9223372036854775807) (hB : B.length ≤ 9223372036854775807) : Ev (fun k => spec_l06Kind.f k D B id) (kindAt D B id) := by
  unfold spec_l06Kind.f
  have hk : kindAt D B id = if 0 ≤ devAt D id then 0 else if bucketAt B id < 0 then -1 else (rd_T49 B (bucketAt B id)).f1 := rfl
  refine Ev.bind (specDevice_ev D B id hD) ?_
  by_cases c : 0 ≤ devAt D id
  · rw [hk, if_pos c]
    simp only [show devAt D id ≥ 0 from c, if_true]
    exact Ev.now _
  · rw [hk, if_neg c]
    simp only [show ¬ (devAt D id ≥ 0) from c, if_false]
    refine Ev.bind (specBucket_ev D B id hB) ?_
    by_cases c2 : bucketAt B id < 0
    · rw [if_pos c2]
      simp only [show ¬ (bucketAt B id ≥ 0) by omega, if_false]
      exact Ev.now _
    · rw [if_neg c2]
      have := bucketAt_lt B id (by omega)
      simp only [show bucketAt B id ≥ 0 by omega, show 0 ≤ bucketAt B id by omega, this, if_true]
      exact Ev.now _
/-! numbers, each once -/
theorem mem_addOnce (acc : List Int) (x y : Int) : y ∈ addOnce acc x ↔ y ∈ acc ∨ y = x := by
  unfold addOnce
  split
  · rename_i h
    rw [List.any_eq_true] at h
    obtain ⟨z, hz, he⟩ := h
    have : z = x := by simpa using he
    subst this
    constructor
    · exact .inl
    · rintro (h | rfl)
      · exact h
      · exact hz
  · simp
theorem mem_fold_once : ∀ (S acc : List Int) (y : Int), y ∈ S.foldl addOnce acc ↔ y ∈ acc ∨ y ∈ S
  | [], acc, y => by simp
  | x :: S, acc, y => by
    rw [List.foldl_cons, mem_fold_once S, mem_addOnce]
    simp only [List.mem_cons]
    constructor
    · rintro ((h | h) | h)
      · exact .inl h
      · exact .inr (.inl h)
      · exact .inr (.inr h)
    · rintro (h | h | h)
      · exact .inl (.inl h)
      · exact .inl (.inr h)
      · exact .inr h
theorem nodup_addOnce (acc : List Int) (x : Int) (h : acc.Nodup) : (addOnce acc x).Nodup := by
  unfold addOnce
  split
  · exact h
  · rename_i hn
    rw [List.nodup_append]
    refine ⟨h, by simp, fun a ha b hb => ?_⟩
    simp only [List.mem_singleton] at hb
    subst hb
    intro e
    subst e
    exact hn (by rw [List.any_eq_true]; exact ⟨a, ha, by simp⟩)
theorem nodup_fold_once : ∀ (S acc : List Int), acc.Nodup → (S.foldl addOnce acc).Nodup
  | [], _, h => h
  | x :: S, acc, h => nodup_fold_once S _ (nodup_addOnce acc x h)
theorem mem_once (S : List Int) (y : Int) : y ∈ onceOf S ↔ y ∈ S := by
  unfold onceOf
  rw [mem_fold_once]
  simp
theorem nodup_once (S : List Int) : (onceOf S).Nodup := nodup_fold_once S [] List.nodup_nil
theorem once_one (S : List Int) : (onceOf S).length ≤ 1 ↔ ∀ x ∈ S, ∀ y ∈ S, x = y := by
  have hm := mem_once S
  have hn := nodup_once S
  generalize onceOf S = T at hm hn
  constructor
  · intro h x hx y hy
    match T, h with
    | [], _ => have := (hm x).2 hx; simp at this
    | [z], _ =>
      have h1 := (hm x).2 hx
      have h2 := (hm y).2 hy
      simp only [List.mem_singleton] at h1 h2
      rw [h1, h2]
  · intro h
    match T, hn with
    | [], _ => simp
    | [z], _ => simp
    | z :: z' :: T', hn =>
      have h1 := (hm z).1 (by simp)
      have h2 := (hm z').1 (by simp)
      have e := h z h1 z' h2
      subst e
      simp at hn

end Go.Proofs.YtohjpgcmhihdhaaGreatDoor.Pure
