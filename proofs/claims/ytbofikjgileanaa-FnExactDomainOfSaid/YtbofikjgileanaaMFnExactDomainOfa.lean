/- Walks and plain laws of one claim, several texts in one. -/
import Derived.Test.YtbofikjgileanaaOLInt
import Derived.Test.YtbofikjgileanaaOTypes
import Derived.Test.YtbofikjgileanaaQf20
import Derived.Test.YtbofikjgileanaaQf17
import Derived.Test.YtbofikjgileanaaQf19
import Derived.Test.YtbofikjgileanaaQf21
import Derived.Test.YtbofikjgileanaaQf79
import Derived.Test.YtbofikjgileanaaQf97
import Derived.Test.YtbofikjgileanaaQf72
import Derived.Test.YtbofikjgileanaaQf60
import Derived.Test.YtbofikjgileanaaQf73
import Derived.Test.YtbofikjgileanaaQf74
import Derived.Test.YtbofikjgileanaaQf7
-- text OLTree
namespace Go.Proofs.Ytbofikjgileanaa.Pure
open Go.RowKit Go.Proofs.Ytbofikjgileanaa.Q Go.Proofs.Ytbofikjgileanaa.Opens Go.Proofs.YtbofikjgileanaaW.PrintWords Go.Proofs.YtbofikjgileanaaW.PrintLast Go.Proofs.YtbofikjgileanaaW.PrintMore
set_option linter.unusedVariables false
set_option linter.unusedSimpArgs false

def devOf (x : S116) : S58 := ⟨x.f0, x.f1⟩
def bktOf (x : S113) : S84 := ⟨x.f0, x.f1, x.f2⟩
theorem rd_devL (l : List S116) (i : Nat) (h : i < l.length) : rd_T116 l (i : Int) = l[i] := by
  unfold rd_T116
  rw [Int.toNat_natCast, getD_get l i _ h]
theorem rd_dev (l : List S58) (i : Nat) (h : i < l.length) : rd_T58 l (i : Int) = l[i] := by
  unfold rd_T58
  rw [Int.toNat_natCast, getD_get l i _ h]
theorem rd_bktL (l : List S113) (i : Nat) (h : i < l.length) : rd_T113 l (i : Int) = l[i] := by
  unfold rd_T113
  rw [Int.toNat_natCast, getD_get l i _ h]
theorem rd_bkt (l : List S84) (i : Nat) (h : i < l.length) : rd_T84 l (i : Int) = l[i] := by
  unfold rd_T84
  rw [Int.toNat_natCast, getD_get l i _ h]
theorem toDeviceS_ev (l : List S116) (hl : l.length ≤ 1048576) : Ev (fun k => laws_toDeviceS.f k l) (l.map devOf) := by
  have h := map_loop (fun k y i => laws_toDeviceS.l0 k l y i) l devOf (fun i hi y hy => ev_next (fun k => by
    simp only [laws_toDeviceS.l0, laws_toDevice.f, Option.bind_some]
    rw [if_pos (by omega), if_pos (by omega), if_pos (by omega), up64 i l.length hi (by omega), Int.toNat_natCast, rd_devL l i hi]
    all_goals exact rfl)) (fun k y => by simp only [laws_toDeviceS.l0]; rw [if_neg (by omega)]) (List.replicate ((l.length : Int) : Int).toNat z58) (by simp)
  refine Ev.congr (fun k => ?_) h
  unfold laws_toDeviceS.f
  rw [if_pos (by omega), if_pos (by omega)]
theorem toBucketS_ev (l : List S113) (hl : l.length ≤ 1048576) (hb : ∀ x ∈ l, x.f2.length ≤ 1048576) : Ev (fun k => laws_toBucketS.f k l) (l.map bktOf) := by
  have h := map_loop (fun k y i => laws_toBucketS.l0 k l y i) l bktOf (fun i hi y hy => fun r hr => by
    refine Ev.step (f := ?f) (fun k => ?_) ?_
    rotate_left
    · simp only [laws_toBucketS.l0]
      rw [if_pos (by omega), if_pos (by omega), rd_bktL l i hi, up64 i l.length hi (by omega), Int.toNat_natCast]
      all_goals exact rfl
    · refine Ev.bind (a := (l[i].f0, l[i].f1, l[i].f2)) ?_ ?_
      · unfold laws_toBucket.f
        exact Ev.bind (toInt64S_ev _ (hb _ (List.getElem_mem hi))) (Ev.now _)
      · refine Ev.congr (fun k => ?_) hr
        rw [if_pos (by omega)]
        rfl) (fun k y => by simp only [laws_toBucketS.l0]; rw [if_neg (by omega)]) (List.replicate ((l.length : Int) : Int).toNat z84) (by simp)
  refine Ev.congr (fun k => ?_) h
  unfold laws_toBucketS.f
  rw [if_pos (by omega), if_pos (by omega)]
theorem eqDeviceS_ev (l : List S58) (hl : l.length ≤ 9223372036854775807) : Ev (fun k => laws_eqDeviceS.f k l l) true := by
  refine Ev.congr (fun k => ?_) (eq_loop l.length (fun k i => laws_eqDeviceS.l0 k l l i) (fun i hi => ev_next (fun k => by
    simp only [laws_eqDeviceS.l0, laws_eqDevice.f, Option.bind_some, if_true]
    rw [if_pos (by omega), if_pos (by omega), if_pos (by omega), up64 i l.length hi hl])) (fun k => by simp only [laws_eqDeviceS.l0]; rw [if_neg (by omega)]))
  unfold laws_eqDeviceS.f
  rw [if_pos rfl]
theorem eqBucketS_ev (l : List S84) (hl : l.length ≤ 9223372036854775807) (hb : ∀ x ∈ l, x.f2.length ≤ 9223372036854775807) : Ev (fun k => laws_eqBucketS.f k l l) true := by
  refine Ev.congr (fun k => ?_) (eq_loop l.length (fun k i => laws_eqBucketS.l0 k l l i) (fun i hi => fun r hr => by
    refine Ev.step (f := ?f) (fun k => ?_) ?_
    rotate_left
    · simp only [laws_eqBucketS.l0]
      rw [if_pos (by omega), if_pos (by omega), if_pos (by omega), up64 i l.length hi hl, rd_bkt l i hi]
      all_goals exact rfl
    · refine Ev.bind (a := true) ?_ (Ev.congr (fun k => if_pos rfl) hr)
      unfold laws_eqBucket.f
      simp only [if_true]
      exact Ev.bind (eqInt64S_ev _ (hb _ (List.getElem_mem hi))) (ev_some fun k => if_pos rfl)) (fun k => by simp only [laws_eqBucketS.l0]; rw [if_neg (by omega)]))
  unfold laws_eqBucketS.f
  rw [if_pos rfl]
theorem szInt64S_left (l : List Int) (left : Int) (hl : l.length ≤ 9223372036854775807) (h0 : 0 ≤ left) (h1 : left ≤ 1048576) : laws_szInt64S.f l left = some (if (l.length : Int) ≤ left then left - (l.length : Int) else -1) := by
  have e : wrap64 (left - (l.length : Int)) = left - (l.length : Int) := by unfold wrap64; omega
  unfold laws_szInt64S.f
  rw [e]
  by_cases h : (l.length : Int) ≤ left
  · rw [if_neg (by omega), if_pos h]
  · rw [if_pos (by omega), if_neg h]
theorem szDeviceS_left (l : List S116) (left : Int) (hl : l.length ≤ 9223372036854775807) (h0 : 0 ≤ left) (h1 : left ≤ 1048576) : laws_szDeviceS.f l left = some (if (l.length : Int) ≤ left then left - (l.length : Int) else -1) := by
  have e : wrap64 (left - (l.length : Int)) = left - (l.length : Int) := by unfold wrap64; omega
  unfold laws_szDeviceS.f
  rw [e]
  by_cases h : (l.length : Int) ≤ left
  · rw [if_neg (by omega), if_pos h]
  · rw [if_pos (by omega), if_neg h]
/-- the sizes are small -/
def Small (d : List S116) (b : List S113) : Prop := d.length ≤ 1048576 ∧ b.length ≤ 1048576 ∧ ∀ x ∈ b, x.f2.length ≤ 1048576
theorem szBucketS_ev (l : List S113) (left : Int) (hl : l.length ≤ 9223372036854775807) (hb : ∀ x ∈ l, x.f2.length ≤ 9223372036854775807) (h0 : 0 ≤ left) (h1 : left ≤ 1048576) :
    ∃ t, (0 ≤ t → t ≤ 1048576 ∧ l.length ≤ 1048576 ∧ ∀ x ∈ l, x.f2.length ≤ 1048576) ∧ Ev (fun k => laws_szBucketS.f k l left) t := by
  have e : wrap64 (left - (l.length : Int)) = left - (l.length : Int) := by unfold wrap64; omega
  unfold laws_szBucketS.f
  simp only [e]
  by_cases h : (left - (l.length : Int)) < 0
  · simp only [if_pos h]
    exact ⟨-1, by omega, Ev.now _⟩
  · simp only [if_neg h]
    refine loop_up l.length (fun k s i => laws_szBucketS.l0 k l s i) (fun i s => 0 ≤ s ∧ s ≤ 1048576 ∧ ∀ x ∈ l.take i, x.f2.length ≤ 1048576) _ ?_ ?_ _ ⟨by omega, by omega, by simp⟩
    · intro i s hi ⟨g0, g1, g2⟩
      have hsz := hb l[i] (List.getElem_mem hi)
      have hz := szInt64S_left l[i].f2 s hsz g0 g1
      have hu : ∀ k, laws_szBucketS.l0 (k + 1) l s i = (laws_szBucket.f l[i].f0 l[i].f1 l[i].f2 s).bind fun t => if t < 0 then some (-1) else laws_szBucketS.l0 k l t ((i + 1 : Nat) : Int) := fun k => by
        simp only [laws_szBucketS.l0]
        rw [if_pos (by omega), if_pos (by omega), rd_bktL l i hi, up64 i l.length hi hl]
      unfold laws_szBucket.f at hu
      by_cases c : (l[i].f2.length : Int) ≤ s
      · refine .inr ⟨s - (l[i].f2.length : Int), ⟨by omega, by omega, fun x hx => ?_⟩, ev_next (fun k => ?_)⟩
        · rw [List.take_succ_eq_append_getElem hi] at hx
          rcases List.mem_append.1 hx with hx | hx
          · exact g2 x hx
          · simp only [List.mem_singleton] at hx
            subst hx
            omega
        · rw [hu k, hz, if_pos c]
          simp only [Option.bind_some]
          rw [if_neg (by omega), Option.bind_some, if_neg (by omega)]
      · refine .inl ⟨-1, by omega, ev_end (fun k => ?_)⟩
        rw [hu k, hz, if_neg c]
        simp
    · intro s ⟨g0, g1, g2⟩
      rw [List.take_length] at g2
      refine ⟨s, fun _ => ⟨by omega, by omega, g2⟩, ev_end (fun k => ?_)⟩
      simp only [laws_szBucketS.l0]
      rw [if_neg (by omega)]
theorem szTree_ev (d : List S116) (b : List S113) (left : Int) (hd : d.length ≤ 9223372036854775807) (hl : b.length ≤ 9223372036854775807) (hb : ∀ x ∈ b, x.f2.length ≤ 9223372036854775807) (h0 : 0 ≤ left) (h1 : left ≤ 1048576) :
    ∃ t, (0 ≤ t → t ≤ 1048576 ∧ Small d b) ∧ Ev (fun k => laws_szTree.f k d b left) t := by
  unfold laws_szTree.f
  simp only [szDeviceS_left d left hd h0 h1, Option.bind_some]
  by_cases c : (d.length : Int) ≤ left
  · simp only [if_pos c, show ¬ (left - (d.length : Int) < 0) by omega, if_false]
    obtain ⟨t, ht, hE⟩ := szBucketS_ev b (left - (d.length : Int)) hl hb (by omega) (by omega)
    by_cases c2 : t < 0
    · exact ⟨-1, by omega, Ev.bind hE (ev_some fun k => if_pos c2)⟩
    · have := ht (by omega)
      exact ⟨t, fun _ => ⟨this.1, by omega, this.2.1, this.2.2⟩, Ev.bind hE (ev_some fun k => if_neg c2)⟩
  · simp only [if_neg c]
    exact ⟨-1, by omega, ev_some fun k => by simp⟩
theorem toTree_ev (d : List S116) (b : List S113) (h : Small d b) : Ev (fun k => laws_toTree.f k d b) (d.map devOf, b.map bktOf) := by
  unfold laws_toTree.f
  exact Ev.bind (toDeviceS_ev d h.1) (Ev.bind (toBucketS_ev b h.2.1 h.2.2) (Ev.now _))
theorem eqTree_ev (d : List S116) (b : List S113) (h : Small d b) : Ev (fun k => laws_eqTree.f k (d.map devOf) (b.map bktOf) (d.map devOf) (b.map bktOf)) true := by
  obtain ⟨h1, h2, h3⟩ := h
  unfold laws_eqTree.f
  refine Ev.bind (eqDeviceS_ev _ (by rw [List.length_map]; omega)) ?_
  simp only [if_true]
  refine Ev.bind (eqBucketS_ev _ (by rw [List.length_map]; omega) (fun x hx => ?_)) (ev_some fun k => if_pos rfl)
  obtain ⟨y, hy, rfl⟩ := List.mem_map.1 hx
  have := h3 y hy
  show y.f2.length ≤ _
  omega
/-- the numbers of a law's topology are of their kind -/
theorem wf_of_good (d : List S116) (b : List S113) (hd : good_t22 d) (hb : good_t23 b) : wfTree (d.map devOf) (b.map bktOf) = true := by
  unfold wfTree
  rw [Bool.and_eq_true, List.all_eq_true, List.all_eq_true]
  constructor
  · intro x hx
    obtain ⟨y, hy, rfl⟩ := List.mem_map.1 hx
    have := hd.2 y hy
    rw [Bool.and_eq_true]
    exact ⟨wf_wfI this.1, wf_wfI this.2⟩
  · intro x hx
    obtain ⟨y, hy, rfl⟩ := List.mem_map.1 hx
    have := hb.2 y hy
    rw [Bool.and_eq_true, Bool.and_eq_true]
    refine ⟨⟨wf_wfI this.1, wf_wfI this.2.1⟩, ?_⟩
    rw [List.all_eq_true]
    intro z hz
    exact wf_wfI (this.2.2.2 z hz)
theorem small_of_good (d : List S116) (b : List S113) (hd : good_t22 d) (hb : good_t23 b) : d.length ≤ 9223372036854775807 ∧ b.length ≤ 9223372036854775807 ∧ ∀ x ∈ b, x.f2.length ≤ 9223372036854775807 :=
  ⟨hd.1, hb.1, fun x hx => (hb.2 x hx).2.2.1⟩

end Go.Proofs.Ytbofikjgileanaa.Pure

-- text OTree
namespace Go.Proofs.Ytbofikjgileanaa.Pure
open Go.RowKit Go.Proofs.Ytbofikjgileanaa.Q Go.Proofs.YtbofikjgileanaaW.PrintWords Go.Proofs.YtbofikjgileanaaW.PrintLast Go.Proofs.YtbofikjgileanaaW.PrintMore
set_option linter.unusedVariables false
set_option linter.unusedSimpArgs false

theorem in_inB (a b c : Int) : spec_l00In.f a b c = some (inB a b c) := between_inB a b c
/-- a loop that asks each place in turn -/
theorem all_loop (n : Nat) (L : Nat → Int → Option Bool) (c : Nat → Bool) (ht : ∀ i : Nat, i < n → c i = true → ∀ r, Ev (fun k => L k ((i + 1 : Nat) : Int)) r → Ev (fun k => L k (i : Int)) r)
    (hf : ∀ i : Nat, i < n → c i = false → Ev (fun k => L k (i : Int)) false) (he : ∀ k, L (k + 1) (n : Int) = some true) : Ev (fun k => L k 0) ((List.range n).all c) := by
  refine loop_is n (fun k (_ : Unit) i => L k i) (fun i _ => ∀ j, j < i → c j = true) _ ?_ ?_ () (fun j hj => absurd hj (Nat.not_lt_zero j))
  · intro i _ hi hI
    cases hc : c i with
    | true =>
      refine .inr ⟨(), fun j hj => ?_, ht i hi hc⟩
      rcases Nat.lt_succ_iff_lt_or_eq.1 hj with h | h
      · exact hI j h
      · rw [h]; exact hc
    | false =>
      left
      have e : (List.range n).all c = false := by
        rw [List.all_eq_false]
        exact ⟨i, by simpa using hi, by simp [hc]⟩
      rw [e]
      exact hf i hi hc
  · intro _ hI
    have e : (List.range n).all c = true := by
      rw [List.all_eq_true]
      intro j hj
      exact hI j (by simpa using hj)
    rw [e]
    exact ev_end he
theorem has_ev (l : List Int) (x : Int) (hl : l.length ≤ 9223372036854775807) : Ev (fun k => spec_l00Has.f k l x) (l.any fun y => y == x) := by
  refine loop_is l.length (fun k (_ : Unit) i => spec_l00Has.l0 k l x i) (fun i _ => (l.take i).any (fun y => y == x) = false) _ ?_ ?_ () (by simp)
  · intro i _ hi hI
    have hu : ∀ k, spec_l00Has.l0 (k + 1) l x i = if l[i] = x then some true else spec_l00Has.l0 k l x ((i + 1 : Nat) : Int) := fun k => by
      simp only [spec_l00Has.l0]
      rw [if_pos (by omega), if_pos (by omega), rd_get l i hi, up64 i l.length hi hl]
    by_cases c : l[i] = x
    · left
      have e : l.any (fun y => y == x) = true := by
        rw [List.any_eq_true]
        exact ⟨l[i], List.getElem_mem hi, by simpa using c⟩
      rw [e]
      exact ev_end (fun k => by rw [hu k, if_pos c])
    · refine .inr ⟨(), ?_, ev_next (fun k => by rw [hu k, if_neg c])⟩
      rw [List.take_succ_eq_append_getElem hi, List.any_append, hI]
      simpa using c
  · intro _ hI
    rw [List.take_length] at hI
    rw [hI]
    exact ev_end (fun k => by simp only [spec_l00Has.l0]; rw [if_neg (by omega)])
/-- the index of a device -/
def devAt (D : List S58) (id : Int) : Int := idxFrom (fun x : S58 => x.f0 == id) D 0
theorem idx_step {α : Type} (p : α → Bool) (l : List α) (i : Nat) (hi : i < l.length) : idxFrom p (l.drop i) i = if p l[i] = true then (i : Int) else idxFrom p (l.drop (i + 1)) ((i + 1 : Nat) : Int) := by
  rw [List.drop_eq_getElem_cons hi]
  rfl
theorem specDevice_ev (D : List S58) (B : List S84) (id : Int) (hD : D.length ≤ 9223372036854775807) : Ev (fun k => spec_l06Device.f k D B id) (devAt D id) := by
  refine loop_is D.length (fun k (_ : Unit) i => spec_l06Device.l0 k id i D B) (fun i _ => devAt D id = idxFrom (fun x : S58 => x.f0 == id) (D.drop i) i) _ ?_ ?_ () rfl
  · intro i _ hi hI
    have hu : ∀ k, spec_l06Device.l0 (k + 1) id i D B = if D[i].f0 = id then some (i : Int) else spec_l06Device.l0 k id ((i + 1 : Nat) : Int) D B := fun k => by
      simp only [spec_l06Device.l0]
      rw [if_pos (by omega), if_pos (by omega), rd_dev D i hi, up64 i D.length hi hD]
    rw [idx_step _ D i hi] at hI
    by_cases c : D[i].f0 = id
    · left
      rw [if_pos (by simpa using c)] at hI
      rw [hI]
      exact ev_end (fun k => by rw [hu k, if_pos c])
    · rw [if_neg (by simpa using c)] at hI
      exact .inr ⟨(), hI, ev_next (fun k => by rw [hu k, if_neg c])⟩
  · intro _ hI
    rw [List.drop_length] at hI
    rw [hI]
    exact ev_end (fun k => by simp only [spec_l06Device.l0]; rw [if_neg (by omega)]; rfl)
theorem specBucket_ev (D : List S58) (B : List S84) (id : Int) (hB : B.length ≤ 9223372036854775807) : Ev (fun k => spec_l06Bucket.f k D B id) (bucketAt B id) := by
  refine loop_is B.length (fun k (_ : Unit) i => spec_l06Bucket.l0 k id i D B) (fun i _ => bucketAt B id = idxFrom (fun x : S84 => x.f0 == id) (B.drop i) i) _ ?_ ?_ () rfl
  · intro i _ hi hI
    have hu : ∀ k, spec_l06Bucket.l0 (k + 1) id i D B = if B[i].f0 = id then some (i : Int) else spec_l06Bucket.l0 k id ((i + 1 : Nat) : Int) D B := fun k => by
      simp only [spec_l06Bucket.l0]
      rw [if_pos (by omega), if_pos (by omega), rd_bkt B i hi, up64 i B.length hi hB]
    rw [idx_step _ B i hi] at hI
    by_cases c : B[i].f0 = id
    · left
      rw [if_pos (by simpa using c)] at hI
      rw [hI]
      exact ev_end (fun k => by rw [hu k, if_pos c])
    · rw [if_neg (by simpa using c)] at hI
      exact .inr ⟨(), hI, ev_next (fun k => by rw [hu k, if_neg c])⟩
  · intro _ hI
    rw [List.drop_length] at hI
    rw [hI]
    exact ev_end (fun k => by simp only [spec_l06Bucket.l0]; rw [if_neg (by omega)]; rfl)
theorem specKind_ev (D : List S58) (B : List S84) (id : Int) (hD : D.length ≤ 9223372036854775807) (hB : B.length ≤ 9223372036854775807) : Ev (fun k => spec_l06Kind.f k D B id) (kindAt D B id) := by
  unfold spec_l06Kind.f
  have hk : kindAt D B id = if 0 ≤ devAt D id then 0 else if bucketAt B id < 0 then -1 else (rd_T84 B (bucketAt B id)).f1 := rfl
  refine Ev.bind (specDevice_ev D B id hD) ?_
  by_cases c : 0 ≤ devAt D id
  · rw [hk, if_pos c]
    simp only [show devAt D id ≥ 0 from c, if_true]
    exact Ev.now _
  · rw [hk, if_neg c]
    simp only [show ¬ (devAt D id ≥ 0) from c, if_false]
    refine Ev.bind (specBucket_ev D B id hB) ?_
    by_cases c2 : bucketAt B id < 0
    · rw [if_pos c2]
      simp only [show ¬ (bucketAt B id ≥ 0) by omega, if_false]
      exact Ev.now _
    · rw [if_neg c2]
      have := bucketAt_lt B id (by omega)
      simp only [show bucketAt B id ≥ 0 by omega, show 0 ≤ bucketAt B id by omega, this, if_true]
      exact Ev.now _
/-! numbers, each once -/
theorem mem_addOnce (acc : List Int) (x y : Int) : y ∈ addOnce acc x ↔ y ∈ acc ∨ y = x := by
  unfold addOnce
  split
  · rename_i h
    rw [List.any_eq_true] at h
    obtain ⟨z, hz, he⟩ := h
    have : z = x := by simpa using he
    subst this
    constructor
    · exact .inl
    · rintro (h | rfl)
      · exact h
      · exact hz
  · simp
theorem mem_fold_once : ∀ (S acc : List Int) (y : Int), y ∈ S.foldl addOnce acc ↔ y ∈ acc ∨ y ∈ S
  | [], acc, y => by simp
  | x :: S, acc, y => by
    rw [List.foldl_cons, mem_fold_once S, mem_addOnce]
    simp only [List.mem_cons]
    constructor
    · rintro ((h | h) | h)
      · exact .inl h
      · exact .inr (.inl h)
      · exact .inr (.inr h)
    · rintro (h | h | h)
      · exact .inl (.inl h)
      · exact .inl (.inr h)
      · exact .inr h
theorem nodup_addOnce (acc : List Int) (x : Int) (h : acc.Nodup) : (addOnce acc x).Nodup := by
  unfold addOnce
  split
  · exact h
  · rename_i hn
    rw [List.nodup_append]
    refine ⟨h, by simp, fun a ha b hb => ?_⟩
    simp only [List.mem_singleton] at hb
    subst hb
    intro e
    subst e
    exact hn (by rw [List.any_eq_true]; exact ⟨a, ha, by simp⟩)
theorem nodup_fold_once : ∀ (S acc : List Int), acc.Nodup → (S.foldl addOnce acc).Nodup
  | [], _, h => h
  | x :: S, acc, h => nodup_fold_once S _ (nodup_addOnce acc x h)
theorem mem_once (S : List Int) (y : Int) : y ∈ onceOf S ↔ y ∈ S := by
  unfold onceOf
  rw [mem_fold_once]
  simp
theorem nodup_once (S : List Int) : (onceOf S).Nodup := nodup_fold_once S [] List.nodup_nil
theorem once_one (S : List Int) : (onceOf S).length ≤ 1 ↔ ∀ x ∈ S, ∀ y ∈ S, x = y := by
  have hm := mem_once S
  have hn := nodup_once S
  generalize onceOf S = T at hm hn
  constructor
  · intro h x hx y hy
    match T, h with
    | [], _ => have := (hm x).2 hx; simp at this
    | [z], _ =>
      have h1 := (hm x).2 hx
      have h2 := (hm y).2 hy
      simp only [List.mem_singleton] at h1 h2
      rw [h1, h2]
  · intro h
    match T, hn with
    | [], _ => simp
    | [z], _ => simp
    | z :: z' :: T', hn =>
      have h1 := (hm z).1 (by simp)
      have h2 := (hm z').1 (by simp)
      have e := h z h1 z' h2
      subst e
      simp at hn

end Go.Proofs.Ytbofikjgileanaa.Pure

-- text OTreeOk
namespace Go.Proofs.Ytbofikjgileanaa.Pure
open Go.RowKit Go.Proofs.Ytbofikjgileanaa.Q Go.Proofs.YtbofikjgileanaaW.PrintWords Go.Proofs.YtbofikjgileanaaW.PrintLast Go.Proofs.YtbofikjgileanaaW.PrintMore
set_option linter.unusedVariables false
set_option linter.unusedSimpArgs false

/-! devices -/
def devStep (D : List S58) (i : Nat) : Bool := inB (rd_T58 D i).f0 0 15 && inB (rd_T58 D i).f1 0 8 && !(decide (0 < i) && decide ((rd_T58 D i).f0 ≤ (rd_T58 D ((i : Int) - 1)).f0))
def devsB (D : List S58) : Bool := (List.range D.length).all (devStep D) && decide (D.length ≤ 16)
theorem wrap_down (i : Nat) (h : 0 < i) (hn : i ≤ 9223372036854775807) : wrap64 ((i : Int) - 1) = (i : Int) - 1 := by unfold wrap64; omega
theorem spec_devs_ev (D : List S58) (B : List S84) : Ev (fun k => spec_l06Devices.f k D B) (devsB D) := by
  unfold spec_l06Devices.f devsB
  by_cases h : (D.length : Int) > 16
  · simp only [if_pos h, decide_eq_false (show ¬ (D.length ≤ 16) by omega), Bool.and_false]
    exact Ev.now _
  · simp only [if_neg h, decide_eq_true (show D.length ≤ 16 by omega), Bool.and_true]
    have hu : ∀ (i : Nat), i < D.length → ∀ k, spec_l06Devices.l0 (k + 1) i D B = if devStep D i = true then spec_l06Devices.l0 k ((i + 1 : Nat) : Int) D B else some false := fun i hi k => by
      simp only [spec_l06Devices.l0]
      rw [if_pos (by omega), if_pos (by omega), in_inB, in_inB, up64 i D.length hi (by omega)]
      simp only [Option.bind_some]
      unfold devStep
      cases inB (rd_T58 D i).f0 0 15 with
      | false => simp
      | true =>
        cases inB (rd_T58 D i).f1 0 8 with
        | false => simp
        | true =>
          by_cases c : 0 < i
          · rw [if_pos rfl, if_pos rfl, if_pos (by omega), wrap_down i c (by omega), if_pos (by omega), if_pos (by omega)]
            by_cases c2 : (rd_T58 D i).f0 ≤ (rd_T58 D ((i : Int) - 1)).f0 <;> simp [c, c2]
          · rw [if_pos rfl, if_pos rfl, if_neg (by omega)]
            simp [c]
    exact all_loop D.length (fun k i => spec_l06Devices.l0 k i D B) (devStep D) (fun i hi hc => ev_next (fun k => by rw [hu i hi k, if_pos hc])) (fun i hi hc => ev_end (fun k => by rw [hu i hi k, if_neg (by rw [hc]; decide)])) (fun k => by simp only [spec_l06Devices.l0]; rw [if_neg (by omega)])
theorem isNode_inB (a : Int) : impl_isNode.f a = some (inB a 0 15) := by
  unfold impl_isNode.f
  rw [between_inB]; rfl
theorem impl_devs_ev (D : List S58) (B : List S84) (hD : D.length ≤ 9223372036854775807) : Ev (fun k => impl_Tree_devicesOk.f k D B) (devsB D) := by
  have hu : ∀ (i : Nat), i < D.length → ∀ k, impl_Tree_devicesOk.l0 (k + 1) D D.length i D B = if devStep D i = true then impl_Tree_devicesOk.l0 k D D.length ((i + 1 : Nat) : Int) D B else some false := fun i hi k => by
    simp only [impl_Tree_devicesOk.l0]
    rw [if_pos (by omega), if_pos (by omega), if_pos (by omega), isNode_inB, up64 i D.length hi hD]
    simp only [Option.bind_some, between_inB]
    unfold devStep
    cases inB (rd_T58 D i).f0 0 15 with
    | false => simp
    | true =>
      by_cases c : 0 < i
      · rw [if_pos rfl, if_pos (by omega), wrap_down i c (by omega), if_pos (by omega), if_pos (by omega)]
        by_cases c2 : (rd_T58 D i).f0 ≤ (rd_T58 D ((i : Int) - 1)).f0
        · simp [c, c2]
        · cases inB (rd_T58 D i).f1 0 8 <;> simp [c, c2]
      · rw [if_pos rfl, if_neg (by omega)]
        cases inB (rd_T58 D i).f1 0 8 <;> simp [c]
  refine loop_is D.length (fun k (_ : Unit) i => impl_Tree_devicesOk.l0 k D D.length i D B) (fun i _ => ∀ j, j < i → devStep D j = true) _ ?_ ?_ () (fun j hj => absurd hj (Nat.not_lt_zero j))
  · intro i _ hi hI
    cases hc : devStep D i with
    | true =>
      refine .inr ⟨(), fun j hj => ?_, ev_next (fun k => by rw [hu i hi k, if_pos hc])⟩
      rcases Nat.lt_succ_iff_lt_or_eq.1 hj with h | h
      · exact hI j h
      · rw [h]; exact hc
    | false =>
      left
      have e : devsB D = false := by
        unfold devsB
        have : (List.range D.length).all (devStep D) = false := by
          rw [List.all_eq_false]
          exact ⟨i, by simpa using hi, by simp [hc]⟩
        rw [this, Bool.false_and]
      rw [e]
      exact ev_end (fun k => by rw [hu i hi k, if_neg (by rw [hc]; decide)])
  · intro _ hI
    have e : devsB D = decide ((D.length : Int) ≤ 16) := by
      unfold devsB
      have : (List.range D.length).all (devStep D) = true := by
        rw [List.all_eq_true]
        intro j hj
        exact hI j (by simpa using hj)
      rw [this, Bool.true_and]
      exact decide_eq_decide.2 (by omega)
    rw [e]
    exact ev_end (fun k => by simp only [impl_Tree_devicesOk.l0]; rw [if_neg (by omega)])
/-! buckets -/
def bktStep (B : List S84) (i : Nat) : Bool := inB (rd_T84 B i).f0 (-12) (-1) && inB (rd_T84 B i).f1 1 3 && decide ((rd_T84 B i).f2.length ≤ 8) && !(decide (0 < i) && decide ((rd_T84 B ((i : Int) - 1)).f0 ≤ (rd_T84 B i).f0))
def bktsB (B : List S84) : Bool := (List.range B.length).all (bktStep B) && decide (B.length ≤ 12)
theorem spec_bkts_ev (D : List S58) (B : List S84) : Ev (fun k => spec_l06Buckets.f k D B) (bktsB B) := by
  unfold spec_l06Buckets.f bktsB
  by_cases h : (B.length : Int) > 12
  · simp only [if_pos h, decide_eq_false (show ¬ (B.length ≤ 12) by omega), Bool.and_false]
    exact Ev.now _
  · simp only [if_neg h, decide_eq_true (show B.length ≤ 12 by omega), Bool.and_true]
    have hu : ∀ (i : Nat), i < B.length → ∀ k, spec_l06Buckets.l0 (k + 1) i D B = if bktStep B i = true then spec_l06Buckets.l0 k ((i + 1 : Nat) : Int) D B else some false := fun i hi k => by
      simp only [spec_l06Buckets.l0]
      rw [if_pos (by omega), if_pos (by omega), in_inB, in_inB, up64 i B.length hi (by omega)]
      simp only [Option.bind_some]
      unfold bktStep
      cases inB (rd_T84 B i).f0 (-12) (-1) with
      | false => simp
      | true =>
        cases inB (rd_T84 B i).f1 1 3 with
        | false => simp
        | true =>
          rw [if_pos rfl, if_pos rfl]
          by_cases c8 : (rd_T84 B i).f2.length ≤ 8
          · rw [if_neg (by omega)]
            by_cases c : 0 < i
            · rw [if_pos (by omega), wrap_down i c (by omega), if_pos (by omega), if_pos (by omega)]
              by_cases c2 : (rd_T84 B ((i : Int) - 1)).f0 ≤ (rd_T84 B i).f0 <;> simp [c, c2, c8]
            · rw [if_neg (by omega)]
              simp [c, c8]
          · rw [if_pos (by omega)]
            simp [c8]
    exact all_loop B.length (fun k i => spec_l06Buckets.l0 k i D B) (bktStep B) (fun i hi hc => ev_next (fun k => by rw [hu i hi k, if_pos hc])) (fun i hi hc => ev_end (fun k => by rw [hu i hi k, if_neg (by rw [hc]; decide)])) (fun k => by simp only [spec_l06Buckets.l0]; rw [if_neg (by omega)])
/-! nothing twice -/
def onceGo (B : List S84) : Nat → Int → List Int → Bool
  | 0, _, _ => true
  | d + 1, i, u => match useGo u (rd_T84 B i).f2 with | some u' => onceGo B d (i + 1) u' | none => false
def onceTail (B : List S84) (d : Nat) (i : Int) (u items : List Int) : Bool := match useGo u items with | some u' => onceGo B d (i + 1) u' | none => false
def onceB (B : List S84) : Bool := onceGo B B.length 0 []
theorem useGo_cons (u : List Int) (x : Int) (xs : List Int) : useGo u (x :: xs) = if (u.any fun y => y == x) = true then none else useGo (u ++ [x]) xs := rfl
theorem useGo_length : ∀ (items u u' : List Int), useGo u items = some u' → u' = u ++ items
  | [], u, u', h => by simp only [useGo, Option.some.injEq] at h; simp [h]
  | x :: xs, u, u', h => by
    unfold useGo at h
    split at h
    · cases h
    · rw [useGo_length xs _ _ h]; simp
theorem spec_once_ev (D : List S58) (B : List S84) (hB : B.length ≤ 12) (hI : ∀ x ∈ B, x.f2.length ≤ 8) : Ev (fun k => spec_l06Once.f k D B) (onceB B) := by
  refine loop_is B.length (fun k (u : List Int) i => spec_l06Once.l0 k u i D B) (fun i u => u.length ≤ 8 * i ∧ onceB B = onceGo B (B.length - i) i u) _ ?_ ?_ [] ⟨by simp, rfl⟩
  · rintro i u hi ⟨hu, hT⟩
    have hx := hI B[i] (List.getElem_mem hi)
    have hT1 : onceB B = onceTail B (B.length - (i + 1)) i u B[i].f2 := by
      rw [hT, show B.length - i = (B.length - (i + 1)) + 1 from by omega]
      unfold onceTail
      rw [← rd_bkt B i hi]
      rfl
    -- the inner loop
    have hinner : ∀ (r : Bool), (∀ u', useGo u B[i].f2 = some u' → Ev (fun k => spec_l06Once.l0 k u' ((i + 1 : Nat) : Int) D B) r) → (useGo u B[i].f2 = none → r = false) → Ev (fun k => spec_l06Once.l1 k u i 0 D B) r := by
      intro r hgood hbad
      refine loop_is B[i].f2.length (fun k (v : List Int) j => spec_l06Once.l1 k v i j D B) (fun j v => v.length = u.length + j ∧ useGo u B[i].f2 = useGo v (B[i].f2.drop j)) _ ?_ ?_ u ⟨by simp, by simp⟩
      · rintro j v hj ⟨hv, hG⟩
        have hd : B[i].f2.drop j = B[i].f2[j] :: B[i].f2.drop (j + 1) := List.drop_eq_getElem_cons hj
        have hstep : ∀ q, Ev (fun k => if (v.any fun y => y == B[i].f2[j]) = true then some false else (if v.length < 17592186044416 then spec_l06Once.l1 k (v ++ [B[i].f2[j]]) i ((j + 1 : Nat) : Int) D B else none)) q → Ev (fun k => spec_l06Once.l1 k v i j D B) q := fun q hq => by
          refine Ev.step (f := ?f) (fun k => ?_) ?_
          rotate_left
          · simp only [spec_l06Once.l1]
            rw [if_pos (by omega), if_pos (by omega), rd_bkt B i hi, if_pos (by omega), if_pos (by omega), rd_get _ j hj, up64 j B[i].f2.length hj (by omega)]
            all_goals exact rfl
          · exact Ev.bind (has_ev v _ (by omega)) hq
        rw [hd] at hG
        rw [useGo_cons] at hG
        by_cases c : (v.any fun y => y == B[i].f2[j]) = true
        · left
          rw [if_pos c] at hG
          rw [hbad hG]
          exact hstep _ (ev_some fun k => if_pos c)
        · rw [if_neg c] at hG
          exact .inr ⟨v ++ [B[i].f2[j]], ⟨by simp; omega, hG⟩, fun q hq => hstep q (Ev.congr (fun k => by rw [if_neg c, if_pos (by omega)]) hq)⟩
      · rintro v ⟨hv, hG⟩
        rw [List.drop_length] at hG
        refine Ev.step (fun k => ?_) (hgood v hG)
        simp only [spec_l06Once.l1]
        rw [if_pos (by omega), if_pos (by omega), rd_bkt B i hi, if_neg (by omega), up64 i B.length hi (by omega)]
    have hout : ∀ q, Ev (fun k => spec_l06Once.l1 k u i 0 D B) q → Ev (fun k => spec_l06Once.l0 k u i D B) q := fun q hq => Ev.step (fun k => by
      simp only [spec_l06Once.l0]
      rw [if_pos (by omega)]) hq
    cases hc : useGo u B[i].f2 with
    | none =>
      left
      have e : onceB B = false := by rw [hT1]; unfold onceTail; rw [hc]
      rw [e]
      refine hout _ (hinner false (fun u' h => ?_) (fun _ => rfl))
      rw [hc] at h; cases h
    | some u' =>
      have hl := useGo_length _ _ _ hc
      refine .inr ⟨u', ⟨by rw [hl, List.length_append]; omega, ?_⟩, fun q hq => hout q (hinner q (fun v h => ?_) (fun h => ?_))⟩
      · rw [hT1]; unfold onceTail; rw [hc]; rfl
      · rw [hc] at h
        obtain rfl := Option.some.inj h
        exact hq
      · rw [hc] at h; cases h
  · rintro u ⟨hu, hT⟩
    rw [hT, Nat.sub_self]
    exact ev_end (fun k => by simp only [spec_l06Once.l0]; rw [if_neg (by omega)]; rfl)

/-! what lies in a bucket -/
def fitOne (D : List S58) (B : List S84) (kd : Int) (items : List Int) (x : Int) : Bool := if kd < 3 then kindAt D B x == kd - 1 else kindAt D B x == kindAt D B (rd items 0) && (kindAt D B x == 1 || kindAt D B x == 2)
def fitsB (D : List S58) (B : List S84) (kd : Int) (items : List Int) : Bool := (List.range items.length).all fun j => fitOne D B kd items (rd items j)
theorem spec_fits_ev (D : List S58) (B : List S84) (hD : D.length ≤ 9223372036854775807) (hB : B.length ≤ 9223372036854775807) (id kd : Int) (items : List Int) (h1 : 1 ≤ kd) (h3 : kd ≤ 3) (hl : items.length ≤ 9223372036854775807) : Ev (fun k => spec_l06Fits.f k D B id kd items) (fitsB D B kd items) := by
  have hmain : ∀ (j : Nat), j < items.length → ∀ r, (fitOne D B kd items (rd items j) = true → Ev (fun k => spec_l06Fits.l0 k ((j + 1 : Nat) : Int) D B id kd items) r) → (fitOne D B kd items (rd items j) = false → r = false) → Ev (fun k => spec_l06Fits.l0 k j D B id kd items) r := by
    intro j hj r hgood hbad
    have hw : wrap64 (kd - 1) = kd - 1 := by unfold wrap64; omega
    refine Ev.step (f := ?f) (fun k => ?_) ?_
    rotate_left
    · simp only [spec_l06Fits.l0]
      rw [if_pos (by omega), if_pos (by omega)]
      all_goals exact rfl
    · refine Ev.bind (specKind_ev D B _ hD hB) ?_
      by_cases ck : kd < 3
      · simp only [if_pos ck, hw]
        refine Ev.step (f := ?g) (fun k => ?_) ?_
        rotate_left
        · simp only [spec_l06Fits.j1]
          exact rfl
        · unfold fitOne at hgood hbad
          rw [if_pos ck] at hgood hbad
          by_cases c : kindAt D B (rd items j) = kd - 1
          · refine Ev.congr (fun k => ?_) (hgood (by simpa using c))
            rw [if_neg (by simp [c]), if_neg (by omega), up64 j items.length hj hl]
          · have e := hbad (by simpa using c)
            subst e
            refine ev_some (fun k => ?_)
            rw [if_pos (by simpa using c)]
      · simp only [if_neg ck]
        refine Ev.step (f := ?g2) (fun k => ?_) ?_
        rotate_left
        · simp only [spec_l06Fits.j1]
          exact rfl
        · simp only [Bool.false_eq_true, if_false, show kd = 3 by omega, if_true, show (0 : Int) < (items.length : Int) by omega]
          unfold fitOne at hgood hbad
          rw [if_neg ck] at hgood hbad
          refine Ev.bind (specKind_ev D B _ hD hB) ?_
          by_cases c0 : kindAt D B (rd items j) = kindAt D B (rd items 0)
          · by_cases c1 : kindAt D B (rd items j) = 1
            · refine Ev.congr (fun k => ?_) (hgood (by simp [← c0, c1]))
              rw [if_pos c0, if_pos c1, up64 j items.length hj hl, show kd = 3 by omega]
            · by_cases c2 : kindAt D B (rd items j) = 2
              · refine Ev.congr (fun k => ?_) (hgood (by simp [← c0, c2]))
                rw [if_pos c0, if_neg c1, if_pos c2, up64 j items.length hj hl, show kd = 3 by omega]
              · have e := hbad (by simp [c1, c2])
                subst e
                exact ev_some fun k => by rw [if_pos c0, if_neg c1, if_neg c2]
          · have e := hbad (by simp [c0])
            subst e
            exact ev_some fun k => by rw [if_neg c0]
  exact all_loop items.length (fun k j => spec_l06Fits.l0 k j D B id kd items) (fun j => fitOne D B kd items (rd items j)) (fun j hj hc r hr => hmain j hj r (fun _ => hr) (fun h => by rw [hc] at h; cases h)) (fun j hj hc => hmain j hj false (fun h => by rw [hc] at h; cases h) (fun _ => rfl)) (fun k => by simp only [spec_l06Fits.l0]; rw [if_neg (by omega)])
theorem range_all (items : List Int) (p : Int → Bool) : ((List.range items.length).all fun j => p (rd items j)) = items.all p := by
  rw [Bool.eq_iff_iff, List.all_eq_true, List.all_eq_true]
  constructor
  · intro h x hx
    obtain ⟨j, hj, rfl⟩ := List.mem_iff_getElem.1 hx
    have := h j (by simpa using hj)
    rwa [rd_get items j hj] at this
  · intro h j hj
    have hj' : j < items.length := by simpa using hj
    rw [rd_get items j hj']
    exact h _ (List.getElem_mem hj')
theorem fits_items (D : List S58) (B : List S84) (kd : Int) (items : List Int) (h1 : 1 ≤ kd) (h3 : kd ≤ 3) : fitsB D B kd items = itemsOkB D B kd items := by
  unfold fitsB itemsOkB
  rw [range_all items (fitOne D B kd items)]
  have hw : wrap64 (kd - 1) = kd - 1 := by unfold wrap64; omega
  rw [hw]
  match items with
  | [] => simp
  | x :: xs =>
    rw [if_neg (by simp)]
    have ho := once_one ((x :: xs).map (kindAt D B))
    have hhead : rd (x :: xs) 0 = x := rfl
    unfold fitOne
    rw [hhead]
    have hm : ∀ y, y ∈ (x :: xs).map (kindAt D B) ↔ ∃ z ∈ x :: xs, kindAt D B z = y := fun y => List.mem_map
    generalize hS : (x :: xs).map (kindAt D B) = S at ho hm
    by_cases c1 : 1 < (onceOf S).length
    · rw [if_pos c1]
      rw [Bool.eq_false_iff]
      intro hall
      rw [List.all_eq_true] at hall
      refine absurd (ho.2 ?_) (by omega)
      intro a ha b hb
      obtain ⟨p, hp, rfl⟩ := (hm a).1 ha
      obtain ⟨q, hq, rfl⟩ := (hm b).1 hb
      have h1 := hall p hp
      have h2 := hall q hq
      by_cases ck : kd < 3
      · rw [if_pos ck] at h1 h2
        rw [eq_of_beq h1, eq_of_beq h2]
      · rw [if_neg ck, Bool.and_eq_true] at h1 h2
        rw [eq_of_beq h1.1, eq_of_beq h2.1]
    · rw [if_neg c1]
      have hsame := ho.1 (by omega)
      have hx : kindAt D B x ∈ S := (hm _).2 ⟨x, by simp, rfl⟩
      have hall : ∀ z ∈ x :: xs, kindAt D B z = kindAt D B x := fun z hz => hsame _ ((hm _).2 ⟨z, hz, rfl⟩) _ hx
      have hany : ∀ v : Int, (S.any fun y => y == v) = (kindAt D B x == v) := fun v => by
        rw [Bool.eq_iff_iff, List.any_eq_true]
        constructor
        · rintro ⟨y, hy, e⟩
          rw [hsame _ hx y hy]; exact e
        · intro e
          exact ⟨_, hx, e⟩
      rw [hany, hany, hany]
      by_cases ck : kd < 3
      · rw [if_neg (show ¬ kd = 3 by omega), Bool.eq_iff_iff, List.all_eq_true]
        constructor
        · intro h
          have := h x (by simp)
          rwa [if_pos ck] at this
        · intro h z hz
          rw [if_pos ck, hall z hz]; exact h
      · rw [if_pos (show kd = 3 by omega), Bool.eq_iff_iff, List.all_eq_true]
        constructor
        · intro h
          have := h x (by simp)
          rw [if_neg ck, Bool.and_eq_true] at this
          exact this.2
        · intro h z hz
          rw [if_neg ck, hall z hz, Bool.and_eq_true]
          exact ⟨by simp, h⟩
/-! the whole -/
def allB (D : List S58) (B : List S84) : Nat → Int → Bool
  | 0, _ => true
  | d + 1, i => bktB D B i && allB D B d (i + 1)
theorem treeGo_parts (D : List S58) (B : List S84) : ∀ (d : Nat) (i : Int) (u : List Int), treeGo D B d i u = (allB D B d i && onceGo B d i u)
  | 0, _, _ => rfl
  | d + 1, i, u => by
    have ht : treeGo D B (d + 1) i u = if bktB D B i = true then (match useGo u (rd_T84 B i).f2 with | some u' => treeGo D B d (i + 1) u' | none => false) else false := rfl
    have ho : onceGo B (d + 1) i u = match useGo u (rd_T84 B i).f2 with | some u' => onceGo B d (i + 1) u' | none => false := rfl
    have ha : allB D B (d + 1) i = (bktB D B i && allB D B d (i + 1)) := rfl
    rw [ht, ho, ha]
    cases bktB D B i with
    | false => rfl
    | true =>
      cases useGo u (rd_T84 B i).f2 with
      | none => simp
      | some u' => simp [treeGo_parts D B d (i + 1) u']
theorem allB_all (D : List S58) (B : List S84) : ∀ (d i : Nat), allB D B d i = true ↔ ∀ j, i ≤ j → j < i + d → bktB D B j = true
  | 0, i => by simp [allB]; intro j h1 h2; omega
  | d + 1, i => by
    have ha : allB D B (d + 1) i = (bktB D B i && allB D B d ((i + 1 : Nat) : Int)) := rfl
    rw [ha, Bool.and_eq_true, allB_all D B d (i + 1)]
    constructor
    · rintro ⟨h1, h2⟩ j hj1 hj2
      by_cases e : j = i
      · subst e; exact h1
      · exact h2 j (by omega) (by omega)
    · intro h
      exact ⟨h i (by omega) (by omega), fun j h1 h2 => h j (by omega) (by omega)⟩
theorem bktB_parts (D : List S58) (B : List S84) (i : Nat) : bktB D B i = (bktStep B i && itemsOkB D B (rd_T84 B i).f1 (rd_T84 B i).f2) := by
  unfold bktB bktStep
  have e : decide ((0 : Int) < (i : Int)) = decide (0 < i) := decide_eq_decide.2 (by omega)
  rw [e]
  cases inB (rd_T84 B i).f0 (-12) (-1) <;> cases inB (rd_T84 B i).f1 1 3 <;> cases decide (0 < i) <;> cases decide ((rd_T84 B ((i : Int) - 1)).f0 ≤ (rd_T84 B i).f0) <;> cases decide ((rd_T84 B i).f2.length ≤ 8) <;> rfl
/-- is a topology valid? -/
def treeOkB (D : List S58) (B : List S84) : Bool := devsB D && (decide (B.length ≤ 12) && treeB D B)
theorem fits_all_ev (D : List S58) (B : List S84) (hD : D.length ≤ 16) (hB : B.length ≤ 12) (hS : ∀ j, j < B.length → bktStep B j = true) : Ev (fun k => spec_l06OK.l0 k 0 D B) ((List.range B.length).all fun i => fitsB D B (rd_T84 B i).f1 (rd_T84 B i).f2) := by
  have hst : ∀ (i : Nat), i < B.length → (1 ≤ (rd_T84 B i).f1 ∧ (rd_T84 B i).f1 ≤ 3) ∧ (rd_T84 B i).f2.length ≤ 8 := fun i hi => by
    have := hS i hi
    unfold bktStep inB at this
    simp only [Bool.and_eq_true, decide_eq_true_eq] at this
    exact ⟨this.1.1.2, this.1.2⟩
  have hu : ∀ (i : Nat), i < B.length → ∀ r, Ev (fun k => if fitsB D B (rd_T84 B i).f1 (rd_T84 B i).f2 = true then spec_l06OK.l0 k ((i + 1 : Nat) : Int) D B else some false) r → Ev (fun k => spec_l06OK.l0 k i D B) r := fun i hi r hr => by
    obtain ⟨⟨h1, h3⟩, h8⟩ := hst i hi
    refine Ev.step (f := ?f) (fun k => ?_) ?_
    rotate_left
    · simp only [spec_l06OK.l0]
      rw [if_pos (by omega), if_pos (by omega), up64 i B.length hi (by omega)]
      all_goals exact rfl
    · exact Ev.bind (spec_fits_ev D B (by omega) (by omega) _ _ _ h1 h3 (by omega)) hr
  exact all_loop B.length (fun k i => spec_l06OK.l0 k i D B) _ (fun i hi hc r hr => hu i hi r (Ev.congr (fun k => by rw [if_pos hc]) hr)) (fun i hi hc => hu i hi false (ev_some fun k => by rw [if_neg (by rw [hc]; decide)])) (fun k => by simp only [spec_l06OK.l0]; rw [if_neg (by omega)])
theorem spec_ok_ev (D : List S58) (B : List S84) : Ev (fun k => spec_l06OK.f k D B) (treeOkB D B) := by
  unfold spec_l06OK.f
  refine Ev.bind (spec_devs_ev D B) ?_
  have hj : ∀ r, r = false → Ev (fun k => spec_l06OK.j0 k true D B) r := fun r hr => by
    subst hr
    exact ev_end fun k => by simp only [spec_l06OK.j0]; rw [if_pos trivial]
  unfold treeOkB
  cases hd : devsB D with
  | false =>
    simp only [Bool.false_eq_true, if_false, Bool.false_and]
    exact hj _ rfl
  | true =>
    simp only [if_true, Bool.true_and]
    refine Ev.bind (spec_bkts_ev D B) ?_
    have hparts : treeB D B = (allB D B B.length 0 && onceB B) := treeGo_parts D B B.length 0 []
    have hall := allB_all D B B.length 0
    rw [show ((0 : Nat) : Int) = 0 from rfl] at hall
    have hD : D.length ≤ 16 := by
      unfold devsB at hd
      rw [Bool.and_eq_true] at hd
      exact of_decide_eq_true hd.2
    cases hb : bktsB B with
    | false =>
      simp only [Bool.false_eq_true, if_false]
      refine hj _ ?_
      by_cases c : B.length ≤ 12
      · have : allB D B B.length 0 = false := by
          rw [Bool.eq_false_iff]
          intro h
          have h2 := hall.1 h
          have : bktsB B = true := by
            unfold bktsB
            rw [decide_eq_true c, Bool.and_true, List.all_eq_true]
            intro j hj
            have := h2 j (by omega) (by simpa using hj)
            rw [bktB_parts, Bool.and_eq_true] at this
            exact this.1
          rw [this] at hb; cases hb
        rw [hparts, this]; simp
      · rw [decide_eq_false c, Bool.false_and]
    | true =>
      unfold bktsB at hb
      rw [Bool.and_eq_true, List.all_eq_true] at hb
      have h12 := of_decide_eq_true hb.2
      have hS : ∀ j, j < B.length → bktStep B j = true := fun j hj => hb.1 j (by simpa using hj)
      have h8 : ∀ x ∈ B, x.f2.length ≤ 8 := fun x hx => by
        obtain ⟨j, hj, rfl⟩ := List.mem_iff_getElem.1 hx
        have := hS j hj
        unfold bktStep at this
        simp only [Bool.and_eq_true, decide_eq_true_eq] at this
        rw [rd_bkt B j hj] at this
        exact this.1.2
      simp only [if_true]
      refine Ev.bind (spec_once_ev D B h12 h8) ?_
      rw [decide_eq_true h12, Bool.true_and, hparts]
      cases onceB B with
      | false =>
        rw [Bool.and_false]
        exact hj _ rfl
      | true =>
        rw [Bool.and_true]
        refine Ev.step (f := ?f) (fun k => ?_) ?_
        rotate_left
        · simp only [spec_l06OK.j0]
          exact rfl
        · simp only [Bool.not_true, Bool.false_eq_true, if_false]
          have hf := fits_all_ev D B hD h12 hS
          have e : ((List.range B.length).all fun i => fitsB D B (rd_T84 B i).f1 (rd_T84 B i).f2) = allB D B B.length 0 := by
            rw [Bool.eq_iff_iff, hall, List.all_eq_true]
            have hk : ∀ j, j < B.length → (fitsB D B (rd_T84 B j).f1 (rd_T84 B j).f2 = true ↔ bktB D B j = true) := fun j hj => by
              have hs := hS j hj
              rw [bktB_parts, hs, Bool.true_and]
              unfold bktStep inB at hs
              simp only [Bool.and_eq_true, decide_eq_true_eq] at hs
              rw [fits_items D B _ _ hs.1.1.2.1 hs.1.1.2.2]
            constructor
            · intro h j _ hj
              exact (hk j (by omega)).1 (h j (by simp; omega))
            · intro h j hj
              have hj' : j < B.length := by simpa using hj
              exact (hk j hj').2 (h j (by omega) (by omega))
          rw [e] at hf
          exact hf
theorem impl_ok_ev (D : List S58) (B : List S84) (hD : D.length ≤ 9223372036854775807) (hw : wfTree D B = true) : Ev (fun k => impl_TreeOk.f k D B) (treeOkB D B) := by
  unfold impl_TreeOk.f treeOkB
  simp only [if_pos hw]
  refine Ev.bind (impl_devs_ev D B hD) ?_
  cases devsB D <;> simp <;> first | exact Ev.now _ | exact ev_some fun k => rfl

end Go.Proofs.Ytbofikjgileanaa.Pure

-- text OValid
namespace Go.Proofs.Ytbofikjgileanaa.Pure
open Go.RowKit Go.Proofs.Ytbofikjgileanaa.Q Go.Proofs.YtbofikjgileanaaW.PrintWords Go.Proofs.YtbofikjgileanaaW.PrintLast Go.Proofs.YtbofikjgileanaaW.PrintMore
set_option linter.unusedVariables false
set_option linter.unusedSimpArgs false

/-- what a valid topology holds -/
structure Valid (D : List S58) (B : List S84) : Prop where
  dev : D.length ≤ 16
  bkt : B.length ≤ 12
  devs : ∀ i (h : i < D.length), 0 ≤ D[i].f0 ∧ D[i].f0 ≤ 15 ∧ 0 ≤ D[i].f1 ∧ D[i].f1 ≤ 8
  bkts : ∀ i (h : i < B.length), (-12 ≤ B[i].f0 ∧ B[i].f0 ≤ -1) ∧ (1 ≤ B[i].f1 ∧ B[i].f1 ≤ 3) ∧ B[i].f2.length ≤ 8
  down : ∀ i (h : i + 1 < B.length), B[i + 1].f0 < B[i].f0
  up : ∀ i (h : i + 1 < D.length), D[i].f0 < D[i + 1].f0
  fits : ∀ i (h : i < B.length), ∀ x ∈ B[i].f2, fitOne D B B[i].f1 B[i].f2 x = true
  once : onceB B = true
theorem valid_of (D : List S58) (B : List S84) (h : treeOkB D B = true) : Valid D B := by
  unfold treeOkB at h
  rw [Bool.and_eq_true, Bool.and_eq_true] at h
  obtain ⟨hd, h12, ht⟩ := h
  have h12 := of_decide_eq_true h12
  unfold devsB at hd
  rw [Bool.and_eq_true, List.all_eq_true] at hd
  have h16 := of_decide_eq_true hd.2
  have hparts : treeB D B = (allB D B B.length 0 && onceB B) := treeGo_parts D B B.length 0 []
  rw [hparts, Bool.and_eq_true] at ht
  have hall := (allB_all D B B.length 0).1 ht.1
  have hS : ∀ j, j < B.length → bktStep B j = true ∧ itemsOkB D B (rd_T84 B j).f1 (rd_T84 B j).f2 = true := fun j hj => by
    have := hall j (by omega) (by omega)
    rw [bktB_parts, Bool.and_eq_true] at this
    exact this
  have hdv : ∀ j, j < D.length → devStep D j = true := fun j hj => hd.1 j (by simpa using hj)
  have hk : ∀ i (h : i < B.length), (-12 ≤ B[i].f0 ∧ B[i].f0 ≤ -1) ∧ (1 ≤ B[i].f1 ∧ B[i].f1 ≤ 3) ∧ B[i].f2.length ≤ 8 := fun i h => by
    have := (hS i h).1
    unfold bktStep inB at this
    simp only [Bool.and_eq_true, decide_eq_true_eq] at this
    rw [rd_bkt B i h] at this
    exact ⟨this.1.1.1, this.1.1.2, this.1.2⟩
  refine ⟨h16, h12, ?_, hk, ?_, ?_, ?_, ht.2⟩
  · intro i h
    have := hdv i h
    unfold devStep inB at this
    simp only [Bool.and_eq_true, decide_eq_true_eq] at this
    rw [rd_dev D i h] at this
    exact ⟨this.1.1.1, this.1.1.2, this.1.2.1, this.1.2.2⟩
  · intro i h
    have := (hS (i + 1) h).1
    unfold bktStep at this
    rw [show (((i + 1 : Nat) : Int) - 1) = (i : Int) from by omega, rd_bkt B i (by omega), rd_bkt B (i + 1) h] at this
    simp at this
    omega
  · intro i h
    have := hdv (i + 1) h
    unfold devStep at this
    rw [show (((i + 1 : Nat) : Int) - 1) = (i : Int) from by omega, rd_dev D i (by omega), rd_dev D (i + 1) h] at this
    simp at this
    omega
  · intro i h x hx
    have h2 := (hS i h).2
    rw [rd_bkt B i h] at h2
    have hb := (hk i h).2.1
    rw [← fits_items D B _ _ hb.1 hb.2] at h2
    unfold fitsB at h2
    rw [range_all B[i].f2 (fitOne D B B[i].f1 B[i].f2), List.all_eq_true] at h2
    exact h2 x hx
theorem idx_none {α : Type} (p : α → Bool) (l : List α) (h : ∀ x ∈ l, p x = false) : ∀ (d i : Nat), i + d = l.length → idxFrom p (l.drop i) i = -1
  | 0, i, hd => by
    rw [List.drop_of_length_le (by omega)]; rfl
  | d + 1, i, hd => by
    rw [idx_step p l i (by omega), if_neg (by rw [h _ (List.getElem_mem (by omega))]; decide)]
    exact idx_none p l h d (i + 1) (by omega)
theorem idx_first {α : Type} (p : α → Bool) (l : List α) (n : Nat) (hn : n < l.length) (hp : p l[n] = true) (hb : ∀ j (h : j < n), p l[j] = false) : ∀ (d i : Nat), i + d = n → idxFrom p (l.drop i) i = (n : Int)
  | 0, i, hd => by
    obtain rfl : i = n := by omega
    rw [idx_step p l i hn, if_pos hp]
  | d + 1, i, hd => by
    rw [idx_step p l i (by omega), if_neg (by rw [hb i (by omega)]; decide)]
    exact idx_first p l n hn hp hb d (i + 1) (by omega)
/-- the index found is one that answers -/
theorem idx_hit {α : Type} (p : α → Bool) (l : List α) : ∀ (d i : Nat), i + d = l.length → idxFrom p (l.drop i) i = -1 ∨ ∃ n, ∃ (h : n < l.length), idxFrom p (l.drop i) i = (n : Int) ∧ p l[n] = true
  | 0, i, hd => by
    left
    rw [List.drop_of_length_le (by omega)]; rfl
  | d + 1, i, hd => by
    rw [idx_step p l i (by omega)]
    by_cases c : p (l[i]'(by omega)) = true
    · rw [if_pos c]
      exact .inr ⟨i, by omega, rfl, c⟩
    · rw [if_neg c]
      exact idx_hit p l d (i + 1) (by omega)
theorem bucketAt_hit (B : List S84) (id : Int) : bucketAt B id = -1 ∨ ∃ n, ∃ (h : n < B.length), bucketAt B id = (n : Int) ∧ B[n].f0 = id := by
  rcases idx_hit (fun x : S84 => x.f0 == id) B B.length 0 (by omega) with h | ⟨n, hn, h1, h2⟩
  · exact .inl h
  · exact .inr ⟨n, hn, h1, by simpa using h2⟩
theorem devAt_hit (D : List S58) (id : Int) : devAt D id = -1 ∨ ∃ n, ∃ (h : n < D.length), devAt D id = (n : Int) ∧ D[n].f0 = id := by
  rcases idx_hit (fun x : S58 => x.f0 == id) D D.length 0 (by omega) with h | ⟨n, hn, h1, h2⟩
  · exact .inl h
  · exact .inr ⟨n, hn, h1, by simpa using h2⟩
theorem down_lt {D : List S58} {B : List S84} (V : Valid D B) : ∀ (d i : Nat) (h : i + d + 1 < B.length), B[i + d + 1].f0 < B[i].f0
  | 0, i, h => V.down i h
  | d + 1, i, h => by
    have h1 := down_lt V d i (by omega)
    have h2 := V.down (i + d + 1) h
    exact Int.lt_trans h2 h1
theorem down_of {D : List S58} {B : List S84} (V : Valid D B) (i j : Nat) (hij : i < j) (h : j < B.length) : B[j].f0 < B[i].f0 := by
  obtain ⟨d, rfl⟩ : ∃ d, j = i + d + 1 := ⟨j - i - 1, by omega⟩
  exact down_lt V d i h
theorem bucketAt_own {D : List S58} {B : List S84} (V : Valid D B) (n : Nat) (hn : n < B.length) : bucketAt B B[n].f0 = (n : Int) :=
  idx_first (fun x : S84 => x.f0 == B[n].f0) B n hn (by simp) (fun j hj => by
    have := down_of V j n hj hn
    have : ¬ B[j].f0 = B[n].f0 := by omega
    simpa using this) n 0 (by omega)
theorem devAt_none {D : List S58} {B : List S84} (V : Valid D B) (id : Int) (h : id < 0) : devAt D id = -1 := by
  rcases devAt_hit D id with e | ⟨n, hn, _, e⟩
  · exact e
  · have := V.devs n hn
    omega
theorem kindAt_own {D : List S58} {B : List S84} (V : Valid D B) (n : Nat) (hn : n < B.length) : kindAt D B B[n].f0 = B[n].f1 := by
  have hk : kindAt D B B[n].f0 = if 0 ≤ devAt D B[n].f0 then 0 else if bucketAt B B[n].f0 < 0 then -1 else (rd_T84 B (bucketAt B B[n].f0)).f1 := rfl
  rw [hk, devAt_none V _ (by have := V.bkts n hn; omega), bucketAt_own V n hn, if_neg (by omega), if_neg (by omega), rd_bkt B n hn]
theorem kindAt_le {D : List S58} {B : List S84} (V : Valid D B) (id : Int) : -1 ≤ kindAt D B id ∧ kindAt D B id ≤ 3 := by
  have hk : kindAt D B id = if 0 ≤ devAt D id then 0 else if bucketAt B id < 0 then -1 else (rd_T84 B (bucketAt B id)).f1 := rfl
  rw [hk]
  split
  · omega
  · split
    · omega
    · rcases bucketAt_hit B id with e | ⟨n, hn, e, _⟩
      · omega
      · rw [e, rd_bkt B n hn]
        have := V.bkts n hn
        omega
/-- a kind of a bucket is a bucket's -/
theorem kindAt_bucket {D : List S58} {B : List S84} (V : Valid D B) (id : Int) (h : 1 ≤ kindAt D B id) : ∃ n, ∃ (h : n < B.length), bucketAt B id = (n : Int) ∧ B[n].f0 = id ∧ id < 0 ∧ kindAt D B id = B[n].f1 := by
  have hk : kindAt D B id = if 0 ≤ devAt D id then 0 else if bucketAt B id < 0 then -1 else (rd_T84 B (bucketAt B id)).f1 := rfl
  rw [hk] at h
  split at h
  · omega
  · split at h
    · omega
    · rcases bucketAt_hit B id with e | ⟨n, hn, e, e2⟩
      · omega
      · refine ⟨n, hn, e, e2, ?_, ?_⟩
        · have := V.bkts n hn; omega
        · rw [← e2]; exact kindAt_own V n hn
/-- what lies in a bucket is of a lower kind -/
theorem item_kind {D : List S58} {B : List S84} (V : Valid D B) (n : Nat) (hn : n < B.length) (x : Int) (hx : x ∈ B[n].f2) : 0 ≤ kindAt D B x ∧ kindAt D B x < B[n].f1 := by
  have h := V.fits n hn x hx
  have hb := (V.bkts n hn).2.1
  unfold fitOne at h
  by_cases c : B[n].f1 < 3
  · rw [if_pos c] at h
    have := eq_of_beq h
    omega
  · rw [if_neg c, Bool.and_eq_true, Bool.or_eq_true] at h
    rcases h.2 with h | h
    · have := eq_of_beq h; omega
    · have := eq_of_beq h; omega
end Go.Proofs.Ytbofikjgileanaa.Pure

-- text OAbove
namespace Go.Proofs.Ytbofikjgileanaa.Pure
open Go.RowKit Go.Proofs.Ytbofikjgileanaa.Q Go.Proofs.YtbofikjgileanaaW.PrintWords Go.Proofs.YtbofikjgileanaaW.PrintLast Go.Proofs.YtbofikjgileanaaW.PrintMore
set_option linter.unusedVariables false
set_option linter.unusedSimpArgs false

/-- the first place that answers -/
def firstR {ρ : Type} (c : Nat → Bool) (g : Nat → ρ) (z : ρ) : Nat → Nat → ρ
  | 0, _ => z
  | d + 1, i => if c i = true then g i else firstR c g z d (i + 1)
theorem first_loop {ρ : Type} (n : Nat) (L : Nat → Int → Option ρ) (c : Nat → Bool) (g : Nat → ρ) (z : ρ) (ht : ∀ i : Nat, i < n → c i = true → Ev (fun k => L k (i : Int)) (g i))
    (hf : ∀ i : Nat, i < n → c i = false → ∀ r, Ev (fun k => L k ((i + 1 : Nat) : Int)) r → Ev (fun k => L k (i : Int)) r) (he : ∀ k, L (k + 1) (n : Int) = some z) : Ev (fun k => L k 0) (firstR c g z n 0) := by
  refine loop_is n (fun k (_ : Unit) i => L k i) (fun i _ => firstR c g z n 0 = firstR c g z (n - i) i) _ ?_ ?_ () rfl
  · intro i _ hi hI
    have hs : firstR c g z (n - i) i = if c i = true then g i else firstR c g z (n - (i + 1)) (i + 1) := by
      rw [show n - i = (n - (i + 1)) + 1 from by omega]; rfl
    rw [hs] at hI
    cases hc : c i with
    | true =>
      left
      rw [hc, if_pos rfl] at hI
      rw [hI]
      exact ht i hi hc
    | false =>
      rw [hc, if_neg (by decide)] at hI
      exact .inr ⟨(), hI, hf i hi hc⟩
  · intro _ hI
    rw [hI, Nat.sub_self]
    exact ev_end he
theorem idx64_ev (l : List Int) (x : Int) (hl : l.length ≤ 9223372036854775807) : Ev (fun k => slices_Contains_int64_int64.f k l x) (l.any fun y => y == x) := by
  have h : ∃ r, (decide (r ≥ 0) = l.any fun y => y == x) ∧ Ev (fun k => slices_Index_int64_int64.l0 k l x l.length 0) r := by
    refine loop_up l.length (fun k (_ : Unit) i => slices_Index_int64_int64.l0 k l x l.length i) (fun i _ => (l.take i).any (fun y => y == x) = false) (fun r => decide (r ≥ 0) = l.any fun y => y == x) ?_ ?_ () (by simp)
    · intro i _ hi hI
      have hu : ∀ k, slices_Index_int64_int64.l0 (k + 1) l x l.length i = if x = l[i] then some (i : Int) else slices_Index_int64_int64.l0 k l x l.length ((i + 1 : Nat) : Int) := fun k => by
        simp only [slices_Index_int64_int64.l0]
        rw [if_pos (by omega), if_pos (by omega), if_pos (by omega), rd_get l i hi, up64 i l.length hi hl]
      by_cases c : x = l[i]
      · refine .inl ⟨(i : Int), ?_, ev_end (fun k => by rw [hu k, if_pos c])⟩
        have e : l.any (fun y => y == x) = true := by
          rw [List.any_eq_true]
          exact ⟨l[i], List.getElem_mem hi, by simpa using c.symm⟩
        rw [e]; simp
      · refine .inr ⟨(), ?_, ev_next (fun k => by rw [hu k, if_neg c])⟩
        rw [List.take_succ_eq_append_getElem hi, List.any_append, hI]
        simpa using fun e => c e.symm
    · intro _ hI
      rw [List.take_length] at hI
      exact ⟨-1, by rw [hI]; rfl, ev_end (fun k => by simp only [slices_Index_int64_int64.l0]; rw [if_neg (by omega)])⟩
  obtain ⟨r, hr, hE⟩ := h
  unfold slices_Contains_int64_int64.f slices_Index_int64_int64.f
  rw [← hr]
  exact Ev.bind hE (Ev.now _)
/-- the bucket of a kind above -/
def aboveN (B : List S84) : Nat → Int → Int → Int
  | 0, _, _ => 0
  | n + 1, id, kd => firstR (fun i => (rd_T84 B i).f2.any fun y => y == id) (fun i => if (rd_T84 B i).f1 = kd then (rd_T84 B i).f0 else aboveN B n (rd_T84 B i).f0 kd) 0 B.length 0
theorem above_kind {D : List S58} {B : List S84} (V : Valid D B) (i : Nat) (hi : i < B.length) (id : Int) (hc : ((rd_T84 B i).f2.any fun y => y == id) = true) : kindAt D B id < kindAt D B B[i].f0 := by
  rw [rd_bkt B i hi, List.any_eq_true] at hc
  obtain ⟨x, hx, e⟩ := hc
  obtain rfl := eq_of_beq e
  rw [kindAt_own V i hi]
  exact (item_kind V i hi x hx).2
theorem spec_above_ev {D : List S58} {B : List S84} (V : Valid D B) (kd : Int) : ∀ (n : Nat) (id : Int), 3 < kindAt D B id + n → Ev (fun k => spec_l06Above.f k D B id kd) (aboveN B n id kd)
  | 0, id, h => by have := kindAt_le V id; omega
  | n + 1, id, h => by
    have hB := V.bkt
    refine Ev.step (f := fun k => spec_l06Above.l0 k id kd 0 D B) (fun k => rfl) ?_
    have hu : ∀ (i : Nat), i < B.length → ∀ r, Ev (fun k => if ((rd_T84 B i).f2.any fun y => y == id) = true then (if (rd_T84 B i).f1 = kd then some (rd_T84 B i).f0 else ((spec_l06Above.f k D B (rd_T84 B i).f0 kd).bind fun t => some t)) else spec_l06Above.l0 k id kd ((i + 1 : Nat) : Int) D B) r → Ev (fun k => spec_l06Above.l0 k id kd i D B) r := fun i hi r hr => by
      refine Ev.step (f := ?f) (fun k => ?_) ?_
      rotate_left
      · simp only [spec_l06Above.l0]
        rw [if_pos (by omega), if_pos (by omega), up64 i B.length hi (by omega)]
        all_goals exact rfl
      · refine Ev.bind (has_ev _ id ?_) hr
        rw [rd_bkt B i hi]
        have := V.bkts i hi
        omega
    refine first_loop B.length (fun k i => spec_l06Above.l0 k id kd i D B) _ _ 0 (fun i hi hc => hu i hi _ ?_) (fun i hi hc r hr => hu i hi _ (Ev.congr (fun k => by rw [if_neg (by rw [hc]; decide)]) hr)) (fun k => by simp only [spec_l06Above.l0]; rw [if_neg (by omega)])
    simp only [if_pos hc]
    by_cases c : (rd_T84 B i).f1 = kd
    · simp only [if_pos c]
      exact Ev.now _
    · simp only [if_neg c]
      refine ev_then1 (spec_above_ev V kd n _ ?_)
      have := above_kind V i hi id hc
      rw [rd_bkt B i hi]
      omega
theorem impl_above_ev {D : List S58} {B : List S84} (V : Valid D B) (kd : Int) : ∀ (n : Nat) (id : Int), 3 < kindAt D B id + n → Ev (fun k => impl_Tree_above.f k D B id kd) (aboveN B n id kd)
  | 0, id, h => by have := kindAt_le V id; omega
  | n + 1, id, h => by
    have hB := V.bkt
    refine Ev.step (f := fun k => impl_Tree_above.l0 k id kd B B.length 0 D B) (fun k => rfl) ?_
    have hu : ∀ (i : Nat), i < B.length → ∀ r, Ev (fun k => if ((rd_T84 B i).f2.any fun y => y == id) = true then (if (rd_T84 B i).f1 = kd then some (rd_T84 B i).f0 else ((impl_Tree_above.f k D B (rd_T84 B i).f0 kd).bind fun t => some t)) else impl_Tree_above.l0 k id kd B B.length ((i + 1 : Nat) : Int) D B) r → Ev (fun k => impl_Tree_above.l0 k id kd B B.length i D B) r := fun i hi r hr => by
      refine Ev.step (f := ?f) (fun k => ?_) ?_
      rotate_left
      · simp only [impl_Tree_above.l0]
        rw [if_pos (by omega), if_pos (by omega), if_pos (by omega), up64 i B.length hi (by omega)]
        all_goals exact rfl
      · refine Ev.bind (idx64_ev _ id ?_) hr
        rw [rd_bkt B i hi]
        have := V.bkts i hi
        omega
    refine first_loop B.length (fun k i => impl_Tree_above.l0 k id kd B B.length i D B) _ _ 0 (fun i hi hc => hu i hi _ ?_) (fun i hi hc r hr => hu i hi _ (Ev.congr (fun k => by rw [if_neg (by rw [hc]; decide)]) hr)) (fun k => by simp only [impl_Tree_above.l0]; rw [if_neg (by omega)])
    simp only [if_pos hc]
    by_cases c : (rd_T84 B i).f1 = kd
    · simp only [if_pos c]
      exact Ev.now _
    · simp only [if_neg c]
      refine ev_then1 (impl_above_ev V kd n _ ?_)
      have := above_kind V i hi id hc
      rw [rd_bkt B i hi]
      omega
def aboveB (B : List S84) (id kd : Int) : Int := aboveN B 5 id kd
theorem spec_above {D : List S58} {B : List S84} (V : Valid D B) (id kd : Int) : Ev (fun k => spec_l06Above.f k D B id kd) (aboveB B id kd) := spec_above_ev V kd 5 id (by have := kindAt_le V id; omega)
theorem impl_above {D : List S58} {B : List S84} (V : Valid D B) (id kd : Int) : Ev (fun k => impl_Tree_above.f k D B id kd) (aboveB B id kd) := impl_above_ev V kd 5 id (by have := kindAt_le V id; omega)

end Go.Proofs.Ytbofikjgileanaa.Pure

-- text PureFnExactDomainOf
namespace Go.Proofs.Ytbofikjgileanaa.Pure
open Go.RowKit Go.Proofs.Ytbofikjgileanaa.Q Go.Proofs.Ytbofikjgileanaa.Opens Go.Proofs.YtbofikjgileanaaW.PrintWords Go.Proofs.YtbofikjgileanaaW.PrintLast Go.Proofs.YtbofikjgileanaaW.PrintMore
set_option linter.unusedVariables false
set_option linter.unusedSimpArgs false

/-- the domain of a device; 0: none -/
def domN (B : List S84) (kd id : Int) : Int := if kd = 0 then id else aboveB B id kd
/-- the answer, and which error -/
def domAns (D : List S58) (B : List S84) (kd id : Int) : Int × Int := if treeOkB D B = true then (if inB kd 0 2 = true then (if devAt D id < 0 then (0, 3) else if kd = 0 then (id, 0) else if aboveB B id kd = 0 then (0, 3) else (aboveB B id kd, 0)) else (0, 2)) else (0, 1)
theorem spec_domain {D : List S58} {B : List S84} (V : Valid D B) (kd id : Int) : Ev (fun k => spec_l08Domain.f k D B kd id) (domN B kd id) := by
  unfold spec_l08Domain.f domN
  by_cases c : kd = 0
  · simp only [if_pos c]
    exact Ev.now _
  · simp only [if_neg c]
    exact ev_then1 (spec_above V id kd)
theorem spec_domainOf (D : List S58) (B : List S84) (hD : D.length ≤ 9223372036854775807) (kd id : Int) : Ev (fun k => spec_DomainOf.f k D B kd id) (domAns D B kd id) := by
  unfold spec_DomainOf.f domAns
  refine Ev.bind (spec_ok_ev D B) ?_
  by_cases c : treeOkB D B = true
  · simp only [if_pos c, in_inB, Option.bind_some]
    by_cases c2 : inB kd 0 2 = true
    · simp only [if_pos c2]
      refine Ev.bind (specDevice_ev D B id hD) ?_
      by_cases c3 : devAt D id < 0
      · simp only [if_pos c3]
        exact Ev.now _
      · simp only [if_neg c3]
        refine Ev.bind (spec_domain (valid_of D B c) kd id) ?_
        unfold domN
        have h2 := c2
        unfold inB at h2
        simp only [Bool.and_eq_true, decide_eq_true_eq] at h2
        by_cases c4 : kd = 0
        · simp only [if_pos c4, show ¬ kd > 0 by omega, if_false]
          exact Ev.now _
        · simp only [if_neg c4, show kd > 0 by omega, if_true]
          by_cases c5 : aboveB B id kd = 0
          · simp only [if_pos c5]
            exact Ev.now _
          · simp only [if_neg c5]
            exact Ev.now _
    · simp only [if_neg c2]
      exact Ev.now _
  · simp only [if_neg c]
    exact Ev.now _
theorem impl_domain {D : List S58} {B : List S84} (V : Valid D B) (kd id : Int) : Ev (fun k => impl_Tree_domain.f k D B kd id) (if devAt D id < 0 then (0, false) else if kd = 0 then (id, true) else (aboveB B id kd, (aboveB B id kd != 0))) := by
  unfold impl_Tree_domain.f impl_Tree_device.f
  simp only [Option.bind_some]
  have e : idxFrom (fun x : S58 => x.f0 == id) D 0 = devAt D id := rfl
  rw [e]
  by_cases c : devAt D id < 0
  · simp only [if_pos c]
    exact Ev.now _
  · simp only [if_neg c]
    by_cases c2 : kd = 0
    · simp only [if_pos c2]
      exact Ev.now _
    · simp only [if_neg c2]
      exact Ev.bind (impl_above V id kd) (Ev.now _)
theorem impl_domainOf (D : List S58) (B : List S84) (hD : D.length ≤ 9223372036854775807) (hw : wfTree D B = true) (kd id : Int) : Ev (fun k => impl_DomainOf.f k D B kd id) (domAns D B kd id) := by
  unfold impl_DomainOf.f domAns
  refine Ev.bind (impl_ok_ev D B hD hw) ?_
  by_cases c : treeOkB D B = true
  · simp only [if_pos c, between_inB, Option.bind_some]
    by_cases c2 : inB kd 0 2 = true
    · simp only [if_pos c2]
      refine Ev.bind (impl_domain (valid_of D B c) kd id) ?_
      by_cases c3 : devAt D id < 0
      · simp only [if_pos c3, Bool.false_eq_true, if_false]
        exact Ev.now _
      · simp only [if_neg c3]
        by_cases c4 : kd = 0
        · simp only [if_pos c4, if_true]
          exact Ev.now _
        · simp only [if_neg c4]
          by_cases c5 : aboveB B id kd = 0
          · simp only [c5, bne_self_eq_false, Bool.false_eq_true, if_false, if_true]
            exact Ev.now _
          · have e : (aboveB B id kd != 0) = true := by simpa using c5
            simp only [e, if_neg c5, if_true]
            exact Ev.now _
    · simp only [if_neg c2]
      exact Ev.now _
  · simp only [if_neg c]
    exact Ev.now _
theorem FnExactDomainOf (l0_0 : List S116) (l0_1 : List S113) (a1 a2 : Int) (hd : good_t22 l0_0) (hb : good_t23 l0_1) (_ : (Lit.int .i64 a1).wf = true) (_ : (Lit.int .i64 a2).wf = true) : ∃ k, laws_FnExactDomainOf.f k l0_0 l0_1 a1 a2 = some true := by
  obtain ⟨g1, g2, g3⟩ := small_of_good l0_0 l0_1 hd hb
  obtain ⟨t, ht, hsz⟩ := szTree_ev l0_0 l0_1 1048576 g1 g2 g3 (by omega) (by omega)
  have hwf := wf_of_good l0_0 l0_1 hd hb
  refine Ev.rounds (r := true) ?_
  unfold laws_FnExactDomainOf.f
  refine Ev.bind hsz ?_
  by_cases c : t < 0
  · exact ev_some fun k => if_pos c
  · simp only [if_neg c]
    have hs := (ht (by omega)).2
    have hto := toTree_ev l0_0 l0_1 hs
    have heq := eqTree_ev l0_0 l0_1 hs
    have hD : (l0_0.map devOf).length ≤ 9223372036854775807 := by rw [List.length_map]; exact g1
    refine Ev.bind hto (Ev.bind (spec_domainOf _ _ hD a1 a2) (Ev.bind hto (Ev.bind (impl_domainOf _ _ hD hwf a1 a2) ?_)))
    simp only [if_true]
    refine Ev.step (f := ?f) (fun k => ?_) ?_
    rotate_left
    · simp only [laws_FnExactDomainOf.j0, bne_self_eq_false, Bool.false_eq_true, if_false]
      exact rfl
    · exact Ev.bind hto (Ev.bind heq (ev_some fun k => if_pos rfl))

end Go.Proofs.Ytbofikjgileanaa.Pure
