/- Walks and plain laws of one claim, several texts in one. -/
import Derived.Test.YtbofikjgileanaaOTreeOk
import Derived.Test.YtbofikjgileanaaOTypes
import Derived.Test.YtbofikjgileanaaQf4
-- text OValid
namespace Go.Proofs.Ytbofikjgileanaa.Pure
open Go.RowKit Go.Proofs.Ytbofikjgileanaa.Q Go.Proofs.YtbofikjgileanaaW.PrintWords Go.Proofs.YtbofikjgileanaaW.PrintLast Go.Proofs.YtbofikjgileanaaW.PrintMore
set_option linter.unusedVariables false
set_option linter.unusedSimpArgs false

/-- what a valid topology holds -/
structure Valid (D : List S58) (B : List S84) : Prop where
  dev : D.length ≤ 16
  bkt : B.length ≤ 12
  devs : ∀ i (h : i < D.length), 0 ≤ D[i].f0 ∧ D[i].f0 ≤ 15 ∧ 0 ≤ D[i].f1 ∧ D[i].f1 ≤ 8
  bkts : ∀ i (h : i < B.length), (-12 ≤ B[i].f0 ∧ B[i].f0 ≤ -1) ∧ (1 ≤ B[i].f1 ∧ B[i].f1 ≤ 3) ∧ B[i].f2.length ≤ 8
  down : ∀ i (h : i + 1 < B.length), B[i + 1].f0 < B[i].f0
  up : ∀ i (h : i + 1 < D.length), D[i].f0 < D[i + 1].f0
  fits : ∀ i (h : i < B.length), ∀ x ∈ B[i].f2, fitOne D B B[i].f1 B[i].f2 x = true
  once : onceB B = true
theorem valid_of (D : List S58) (B : List S84) (h : treeOkB D B = true) : Valid D B := by
  unfold treeOkB at h
  rw [Bool.and_eq_true, Bool.and_eq_true] at h
  obtain ⟨hd, h12, ht⟩ := h
  have h12 := of_decide_eq_true h12
  unfold devsB at hd
  rw [Bool.and_eq_true, List.all_eq_true] at hd
  have h16 := of_decide_eq_true hd.2
  have hparts : treeB D B = (allB D B B.length 0 && onceB B) := treeGo_parts D B B.length 0 []
  rw [hparts, Bool.and_eq_true] at ht
  have hall := (allB_all D B B.length 0).1 ht.1
  have hS : ∀ j, j < B.length → bktStep B j = true ∧ itemsOkB D B (rd_T84 B j).f1 (rd_T84 B j).f2 = true := fun j hj => by
    have := hall j (by omega) (by omega)
    rw [bktB_parts, Bool.and_eq_true] at this
    exact this
  have hdv : ∀ j, j < D.length → devStep D j = true := fun j hj => hd.1 j (by simpa using hj)
  have hk : ∀ i (h : i < B.length), (-12 ≤ B[i].f0 ∧ B[i].f0 ≤ -1) ∧ (1 ≤ B[i].f1 ∧ B[i].f1 ≤ 3) ∧ B[i].f2.length ≤ 8 := fun i h => by
    have := (hS i h).1
    unfold bktStep inB at this
    simp only [Bool.and_eq_true, decide_eq_true_eq] at this
    rw [rd_bkt B i h] at this
    exact ⟨this.1.1.1, this.1.1.2, this.1.2⟩
  refine ⟨h16, h12, ?_, hk, ?_, ?_, ?_, ht.2⟩
  · intro i h
    have := hdv i h
    unfold devStep inB at this
    simp only [Bool.and_eq_true, decide_eq_true_eq] at this
    rw [rd_dev D i h] at this
    exact ⟨this.1.1.1, this.1.1.2, this.1.2.1, this.1.2.2⟩
  · intro i h
    have := (hS (i + 1) h).1
    unfold bktStep at this
    rw [show (((i + 1 : Nat) : Int) - 1) = (i : Int) from by omega, rd_bkt B i (by omega), rd_bkt B (i + 1) h] at this
    simp at this
    omega
  · intro i h
    have := hdv (i + 1) h
    unfold devStep at this
    rw [show (((i + 1 : Nat) : Int) - 1) = (i : Int) from by omega, rd_dev D i (by omega), rd_dev D (i + 1) h] at this
    simp at this
    omega
  · intro i h x hx
    have h2 := (hS i h).2
    rw [rd_bkt B i h] at h2
    have hb := (hk i h).2.1
    rw [← fits_items D B _ _ hb.1 hb.2] at h2
    unfold fitsB at h2
    rw [range_all B[i].f2 (fitOne D B B[i].f1 B[i].f2), List.all_eq_true] at h2
    exact h2 x hx
theorem idx_none {α : Type} (p : α → Bool) (l : List α) (h : ∀ x ∈ l, p x = false) : ∀ (d i : Nat), i + d = l.length → idxFrom p (l.drop i) i = -1
  | 0, i, hd => by
    rw [List.drop_of_length_le (by omega)]; rfl
  | d + 1, i, hd => by
    rw [idx_step p l i (by omega), if_neg (by rw [h _ (List.getElem_mem (by omega))]; decide)]
    exact idx_none p l h d (i + 1) (by omega)
theorem idx_first {α : Type} (p : α → Bool) (l : List α) (n : Nat) (hn : n < l.length) (hp : p l[n] = true) (hb : ∀ j (h : j < n), p l[j] = false) : ∀ (d i : Nat), i + d = n → idxFrom p (l.drop i) i = (n : Int)
  | 0, i, hd => by
    obtain rfl : i = n := by omega
    rw [idx_step p l i hn, if_pos hp]
  | d + 1, i, hd => by
    rw [idx_step p l i (by omega), if_neg (by rw [hb i (by omega)]; decide)]
    exact idx_first p l n hn hp hb d (i + 1) (by omega)
/-- the index found is one that answers -/
theorem idx_hit {α : Type} (p : α → Bool) (l : List α) : ∀ (d i : Nat), i + d = l.length → idxFrom p (l.drop i) i = -1 ∨ ∃ n, ∃ (h : n < l.length), idxFrom p (l.drop i) i = (n : Int) ∧ p l[n] = true
  | 0, i, hd => by
    left
    rw [List.drop_of_length_le (by omega)]; rfl
  | d + 1, i, hd => by
    rw [idx_step p l i (by omega)]
    by_cases c : p (l[i]'(by omega)) = true
    · rw [if_pos c]
      exact .inr ⟨i, by omega, rfl, c⟩
    · rw [if_neg c]
      exact idx_hit p l d (i + 1) (by omega)
theorem bucketAt_hit (B : List S84) (id : Int) : bucketAt B id = -1 ∨ ∃ n, ∃ (h : n < B.length), bucketAt B id = (n : Int) ∧ B[n].f0 = id := by
  rcases idx_hit (fun x : S84 => x.f0 == id) B B.length 0 (by omega) with h | ⟨n, hn, h1, h2⟩
  · exact .inl h
  · exact .inr ⟨n, hn, h1, by simpa using h2⟩
theorem devAt_hit (D : List S58) (id : Int) : devAt D id = -1 ∨ ∃ n, ∃ (h : n < D.length), devAt D id = (n : Int) ∧ D[n].f0 = id := by
  rcases idx_hit (fun x : S58 => x.f0 == id) D D.length 0 (by omega) with h | ⟨n, hn, h1, h2⟩
  · exact .inl h
  · exact .inr ⟨n, hn, h1, by simpa using h2⟩
theorem down_lt {D : List S58} {B : List S84} (V : Valid D B) : ∀ (d i : Nat) (h : i + d + 1 < B.length), B[i + d + 1].f0 < B[i].f0
  | 0, i, h => V.down i h
  | d + 1, i, h => by
    have h1 := down_lt V d i (by omega)
    have h2 := V.down (i + d + 1) h
    exact Int.lt_trans h2 h1
theorem down_of {D : List S58} {B : List S84} (V : Valid D B) (i j : Nat) (hij : i < j) (h : j < B.length) : B[j].f0 < B[i].f0 := by
  obtain ⟨d, rfl⟩ : ∃ d, j = i + d + 1 := ⟨j - i - 1, by omega⟩
  exact down_lt V d i h
theorem bucketAt_own {D : List S58} {B : List S84} (V : Valid D B) (n : Nat) (hn : n < B.length) : bucketAt B B[n].f0 = (n : Int) :=
  idx_first (fun x : S84 => x.f0 == B[n].f0) B n hn (by simp) (fun j hj => by
    have := down_of V j n hj hn
    have : ¬ B[j].f0 = B[n].f0 := by omega
    simpa using this) n 0 (by omega)
theorem devAt_none {D : List S58} {B : List S84} (V : Valid D B) (id : Int) (h : id < 0) : devAt D id = -1 := by
  rcases devAt_hit D id with e | ⟨n, hn, _, e⟩
  · exact e
  · have := V.devs n hn
    omega
theorem kindAt_own {D : List S58} {B : List S84} (V : Valid D B) (n : Nat) (hn : n < B.length) : kindAt D B B[n].f0 = B[n].f1 := by
  have hk : kindAt D B B[n].f0 = if 0 ≤ devAt D B[n].f0 then 0 else if bucketAt B B[n].f0 < 0 then -1 else (rd_T84 B (bucketAt B B[n].f0)).f1 := rfl
  rw [hk, devAt_none V _ (by have := V.bkts n hn; omega), bucketAt_own V n hn, if_neg (by omega), if_neg (by omega), rd_bkt B n hn]
theorem kindAt_le {D : List S58} {B : List S84} (V : Valid D B) (id : Int) : -1 ≤ kindAt D B id ∧ kindAt D B id ≤ 3 := by
  have hk : kindAt D B id = if 0 ≤ devAt D id then 0 else if bucketAt B id < 0 then -1 else (rd_T84 B (bucketAt B id)).f1 := rfl
  rw [hk]
  split
  · omega
  · split
    · omega
    · rcases bucketAt_hit B id with e | ⟨n, hn, e, _⟩
      · omega
      · rw [e, rd_bkt B n hn]
        have := V.bkts n hn
        omega
/-- a kind of a bucket is a bucket's -/
theorem kindAt_bucket {D : List S58} {B : List S84} (V : Valid D B) (id : Int) (h : 1 ≤ kindAt D B id) : ∃ n, ∃ (h : n < B.length), bucketAt B id = (n : Int) ∧ B[n].f0 = id ∧ id < 0 ∧ kindAt D B id = B[n].f1 := by
  have hk : kindAt D B id = if 0 ≤ devAt D id then 0 else if bucketAt B id < 0 then -1 else (rd_T84 B (bucketAt B id)).f1 := rfl
  rw [hk] at h
  split at h
  · omega
  · split at h
    · omega
    · rcases bucketAt_hit B id with e | ⟨n, hn, e, e2⟩
      · omega
      · refine ⟨n, hn, e, e2, ?_, ?_⟩
        · have := V.bkts n hn; omega
        · rw [← e2]; exact kindAt_own V n hn
/-- what lies in a bucket is of a lower kind -/
theorem item_kind {D : List S58} {B : List S84} (V : Valid D B) (n : Nat) (hn : n < B.length) (x : Int) (hx : x ∈ B[n].f2) : 0 ≤ kindAt D B x ∧ kindAt D B x < B[n].f1 := by
  have h := V.fits n hn x hx
  have hb := (V.bkts n hn).2.1
  unfold fitOne at h
  by_cases c : B[n].f1 < 3
  · rw [if_pos c] at h
    have := eq_of_beq h
    omega
  · rw [if_neg c, Bool.and_eq_true, Bool.or_eq_true] at h
    rcases h.2 with h | h
    · have := eq_of_beq h; omega
    · have := eq_of_beq h; omega
end Go.Proofs.Ytbofikjgileanaa.Pure

-- text PureFnExactRuleOk
namespace Go.Proofs.Ytbofikjgileanaa.Pure
open Go.RowKit Go.Proofs.Ytbofikjgileanaa.Q Go.Proofs.Ytbofikjgileanaa.Opens Go.Proofs.YtbofikjgileanaaW.PrintWords Go.Proofs.YtbofikjgileanaaW.PrintLast Go.Proofs.YtbofikjgileanaaW.PrintMore
set_option linter.unusedVariables false
set_option linter.unusedSimpArgs false

/-- is a rule valid? -/
def ruleB (D : List S58) (B : List S84) (n root dom : Int) : Bool := inB n 1 4 && decide (kindAt D B root = 3) && inB dom 0 2
theorem spec_rule_ev {D : List S58} {B : List S84} (V : Valid D B) (n root dom : Int) (b : Bool) : Ev (fun k => spec_l08OK.f k D B n root dom b) (ruleB D B n root dom) := by
  unfold spec_l08OK.f ruleB
  simp only [in_inB, Option.bind_some]
  by_cases c1 : inB n 1 4 = true
  · simp only [c1, if_true, Bool.true_and]
    by_cases c2 : root < 0
    · simp only [if_pos c2]
      refine Ev.bind (specKind_ev D B root (by have := V.dev; omega) (by have := V.bkt; omega)) ?_
      by_cases c3 : kindAt D B root = 3
      · simp only [if_pos c3, decide_eq_true c3, Bool.true_and]
        exact Ev.now _
      · simp only [if_neg c3, decide_eq_false c3, Bool.false_and]
        exact Ev.now _
    · simp only [if_neg c2]
      have c3 : ¬ kindAt D B root = 3 := fun h => by
        obtain ⟨_, _, _, _, h0, _⟩ := kindAt_bucket V root (by omega)
        exact c2 h0
      simp only [decide_eq_false c3, Bool.false_and]
      exact Ev.now _
  · simp only [if_neg c1, show inB n 1 4 = false by simpa using c1, Bool.false_and]
    exact Ev.now _
theorem impl_rule (D : List S58) (B : List S84) (n root dom : Int) (b : Bool) : impl_ruleOk.f D B n root dom b = some (ruleB D B n root dom) := by
  unfold impl_ruleOk.f impl_Tree_kindOf.f ruleB
  simp only [between_inB, Option.bind_some]
  by_cases c1 : inB n 1 4 = true
  · by_cases c3 : kindAt D B root = 3
    · simp [c1, c3]
    · simp [c1, c3]
  · simp [c1]
theorem spec_ruleOk (D : List S58) (B : List S84) (n root dom : Int) (b : Bool) : Ev (fun k => spec_RuleOk.f k D B n root dom b) (treeOkB D B && ruleB D B n root dom) := by
  unfold spec_RuleOk.f
  refine Ev.bind (spec_ok_ev D B) ?_
  by_cases c : treeOkB D B = true
  · simp only [c, if_true, Bool.true_and]
    exact ev_then1 (spec_rule_ev (valid_of D B c) n root dom b)
  · simp only [if_neg c, show treeOkB D B = false by simpa using c, Bool.false_and]
    exact Ev.now _
theorem impl_ruleOk (D : List S58) (B : List S84) (hD : D.length ≤ 9223372036854775807) (hw : wfTree D B = true) (n root dom : Int) (b : Bool) : Ev (fun k => impl_RuleOk.f k D B n root dom b) (treeOkB D B && ruleB D B n root dom) := by
  unfold impl_RuleOk.f
  refine Ev.bind (impl_ok_ev D B hD hw) ?_
  by_cases c : treeOkB D B = true
  · simp only [c, if_true, Bool.true_and, impl_rule, Option.bind_some]
    exact Ev.now _
  · simp only [if_neg c, show treeOkB D B = false by simpa using c, Bool.false_and]
    exact Ev.now _
theorem FnExactRuleOk (l0_0 : List S116) (l0_1 : List S113) (a1_0 a1_1 a1_2 : Int) (a1_3 : Bool) (hd : good_t22 l0_0) (hb : good_t23 l0_1) (_ : (Lit.int .i64 a1_0).wf = true) (_ : (Lit.int .i64 a1_1).wf = true) (_ : (Lit.int .i64 a1_2).wf = true) : ∃ k, laws_FnExactRuleOk.f k l0_0 l0_1 a1_0 a1_1 a1_2 a1_3 = some true := by
  obtain ⟨g1, g2, g3⟩ := small_of_good l0_0 l0_1 hd hb
  obtain ⟨t, ht, hsz⟩ := szTree_ev l0_0 l0_1 1048576 g1 g2 g3 (by omega) (by omega)
  have hwf := wf_of_good l0_0 l0_1 hd hb
  refine Ev.rounds (r := true) ?_
  unfold laws_FnExactRuleOk.f laws_toRule.f
  refine Ev.bind hsz ?_
  by_cases c : t < 0
  · exact ev_some fun k => if_pos c
  · simp only [if_neg c, Option.bind_some]
    have hs := (ht (by omega)).2
    have hto := toTree_ev l0_0 l0_1 hs
    have heq := eqTree_ev l0_0 l0_1 hs
    have hD : (l0_0.map devOf).length ≤ 9223372036854775807 := by rw [List.length_map]; exact g1
    refine Ev.bind hto (Ev.bind (spec_ruleOk _ _ a1_0 a1_1 a1_2 a1_3) (Ev.bind hto (Ev.bind (impl_ruleOk _ _ hD hwf a1_0 a1_1 a1_2 a1_3) ?_)))
    simp only [bne_self_eq_false, Bool.false_eq_true, if_false]
    exact Ev.bind hto (Ev.bind heq (ev_some fun k => if_pos rfl))

end Go.Proofs.Ytbofikjgileanaa.Pure
