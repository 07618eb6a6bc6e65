/- Walks and plain laws of one claim, several texts in one. -/
import Derived.Test.YtlocignlkigojaaOBits
import Derived.Test.YtlocignlkigojaaQf133
import Derived.Test.YtlocignlkigojaaQf147
import Derived.Test.YtlocignlkigojaaOIn
import Derived.Test.YtlocignlkigojaaQf104
import Derived.Test.YtlocignlkigojaaQf100
import Derived.Test.YtlocignlkigojaaQf105
import Derived.Test.YtlocignlkigojaaQf101
import Derived.Test.YtlocignlkigojaaWMore
import Derived.Test.YtlocignlkigojaaQf103
import Derived.Test.YtlocignlkigojaaQf99
import Derived.Test.YtlocignlkigojaaOTypes
import Derived.Test.YtlocignlkigojaaQf7
-- text OMix
namespace Go.Proofs.Ytlocignlkigojaa.Pure
open Go.RowKit Go.Proofs.Ytlocignlkigojaa.Q Go.Proofs.YtlocignlkigojaaW.PrintWords Go.Proofs.YtlocignlkigojaaW.PrintLast Go.Proofs.YtlocignlkigojaaW.PrintMore
set_option linter.unusedVariables false
set_option linter.unusedSimpArgs false

def mixA (h x : Int) : Int := (Go.bits .xor .u32 h (x % 4294967296) * 16777619) % 4294967296
def mixB (a : Int) : Int := (Go.bits .xor .u32 a (a / 32768) * 1540483477) % 4294967296
def mixC (b : Int) : Int := Go.bits .xor .u32 b (b / 8192)
def mixStep (h x : Int) : Int := mixC (mixB (mixA h x))
def mixL (l : List Int) (h : Int) : Int := l.foldl mixStep h
theorem mixA_range (h x : Int) : 0 ≤ mixA h x ∧ mixA h x < 4294967296 := by unfold mixA; omega
theorem mixB_range (a : Int) : 0 ≤ mixB a ∧ mixB a < 4294967296 := by unfold mixB; omega
theorem mixC_range (b : Int) (h0 : 0 ≤ b) (h1 : b < 4294967296) : 0 ≤ mixC b ∧ mixC b < 4294967296 := (xor_same b (b / 8192) h0 h1 (by omega) (by omega)).2
theorem mixStep_range (h x : Int) : 0 ≤ mixStep h x ∧ mixStep h x < 4294967296 := mixC_range _ (mixB_range _).1 (mixB_range _).2
theorem mixL_range : ∀ (l : List Int) (h : Int), 0 ≤ h → h < 4294967296 → 0 ≤ mixL l h ∧ mixL l h < 4294967296
  | [], _, h0, h1 => ⟨h0, h1⟩
  | x :: l, h, _, _ => mixL_range l (mixStep h x) (mixStep_range h x).1 (mixStep_range h x).2
theorem mixL_drop (l : List Int) (i : Int) (h0 : 0 ≤ i) (h1 : i < l.length) (h : Int) : mixL (l.drop i.toNat) h = mixL (l.drop (i + 1).toNat) (mixStep h (rd l i)) := by
  obtain ⟨n, rfl⟩ := Int.eq_ofNat_of_zero_le h0
  have hl : n < l.length := by omega
  have e : ((n : Int) + 1).toNat = n + 1 := by omega
  have er : rd l n = l[n] := by
    unfold rd
    rw [Int.toNat_natCast, List.getD_eq_getElem?_getD, List.getElem?_eq_getElem hl]; rfl
  rw [e, er, Int.toNat_natCast, List.drop_eq_getElem_cons hl]
  rfl
theorem wrap_small (x : Int) (h0 : 0 ≤ x) (h1 : x < 4294967296) : wrap64 x = x := by unfold wrap64; omega
theorem wrap_next (i : Int) (h0 : 0 ≤ i) (h1 : i < 9223372036854775807) : wrap64 (i + 1) = i + 1 := by unfold wrap64; omega
theorem wrap_mod (x : Int) : wrap64 x % 4294967296 = x % 4294967296 := by unfold wrap64; omega

theorem impl_mix (l : List Int) (hm : (l.length : Int) ≤ 9223372036854775807) (d : Nat) : ∀ (k : Nat) (h i : Int), 0 ≤ h → h < 4294967296 → 0 ≤ i → i ≤ l.length → (l.length : Int) - i = d → d < k →
    impl_Mix.l0 k h l (l.length : Int) i = some (mixL (l.drop i.toNat) h) := by
  induction d with
  | zero =>
    intro k h i a0 a1 h0 h1 hd hk
    obtain ⟨k, rfl⟩ : ∃ m, k = m + 1 := ⟨k - 1, by omega⟩
    simp only [impl_Mix.l0]
    rw [if_neg (by omega), wrap_small h a0 a1, List.drop_of_length_le (by omega)]
    rfl
  | succ d ih =>
    intro k h i a0 a1 h0 h1 hd hk
    obtain ⟨k, rfl⟩ : ∃ m, k = m + 1 := ⟨k - 1, by omega⟩
    have hlt : i < (l.length : Int) := by omega
    rw [mixL_drop l i h0 hlt h, ← ih k _ (i + 1) (mixStep_range h (rd l i)).1 (mixStep_range h (rd l i)).2 (by omega) (by omega) (by omega) (by omega)]
    simp only [impl_Mix.l0]
    rw [if_pos hlt, if_pos h0, if_pos hlt, wrap_next i h0 (by omega)]
    rfl
theorem spec_mix (l : List Int) (hm : (l.length : Int) ≤ 9223372036854775807) (d : Nat) : ∀ (k : Nat) (h i : Int), 0 ≤ h → h < 4294967296 → 0 ≤ i → i ≤ l.length → (l.length : Int) - i = d → d < k →
    spec_l01Mix.l0 k l h i = some (mixL (l.drop i.toNat) h) := by
  induction d with
  | zero =>
    intro k h i a0 a1 h0 h1 hd hk
    obtain ⟨k, rfl⟩ : ∃ m, k = m + 1 := ⟨k - 1, by omega⟩
    simp only [spec_l01Mix.l0]
    rw [if_neg (by omega), List.drop_of_length_le (by omega)]
    rfl
  | succ d ih =>
    intro k h i a0 a1 h0 h1 hd hk
    obtain ⟨k, rfl⟩ : ∃ m, k = m + 1 := ⟨k - 1, by omega⟩
    have hlt : i < (l.length : Int) := by omega
    rw [mixL_drop l i h0 hlt h, ← ih k _ (i + 1) (mixStep_range h (rd l i)).1 (mixStep_range h (rd l i)).2 (by omega) (by omega) (by omega) (by omega)]
    simp only [spec_l01Mix.l0, spec_l01Low.f, Option.bind_some]
    rw [if_pos hlt, if_pos h0, wrap_next i h0 (by omega), and32, and32, and32, wrap_mod, wrap_mod]
    have x1 := (xor_same h (rd l i % 4294967296) a0 a1 (by omega) (by omega)).1
    rw [x1]
    have x2 := mixA_range h (rd l i)
    have x3 := (xor_same (mixA h (rd l i)) (mixA h (rd l i) / 32768) x2.1 x2.2 (by omega) (by omega)).1
    have x4 := mixB_range (mixA h (rd l i))
    have x5 := (xor_same (mixB (mixA h (rd l i))) (mixB (mixA h (rd l i)) / 8192) x4.1 x4.2 (by omega) (by omega)).1
    show spec_l01Mix.l0 k l (Go.bits .xor .i64 ((Go.bits .xor .i64 (mixA h (rd l i)) (mixA h (rd l i) / 32768) * 1540483477) % 4294967296) (((Go.bits .xor .i64 (mixA h (rd l i)) (mixA h (rd l i) / 32768) * 1540483477) % 4294967296) / 8192)) (i + 1) = _
    rw [x3]
    show spec_l01Mix.l0 k l (Go.bits .xor .i64 (mixB (mixA h (rd l i))) (mixB (mixA h (rd l i)) / 8192)) (i + 1) = _
    rw [x5]
    rfl
/-- the hash of a list of words -/
def hash (l : List Int) : Int := mixL l 2166136261
theorem hash_range (l : List Int) : 0 ≤ hash l ∧ hash l < 4294967296 := mixL_range l _ (by decide) (by decide)
theorem impl_Mix_hash (l : List Int) (hm : (l.length : Int) ≤ 9223372036854775807) (k : Nat) (hk : l.length < k) : impl_Mix.f k l = some (hash l) :=
  impl_mix l hm l.length k _ 0 (by decide) (by decide) (by omega) (by omega) (by omega) hk
theorem spec_Mix_hash (l : List Int) (hm : (l.length : Int) ≤ 9223372036854775807) (k : Nat) (hk : l.length < k) : spec_l01Mix.f k l = some (hash l) :=
  spec_mix l hm l.length k _ 0 (by decide) (by decide) (by omega) (by omega) (by omega) hk

end Go.Proofs.Ytlocignlkigojaa.Pure

-- text OName
namespace Go.Proofs.Ytlocignlkigojaa.Pure
open Go.RowKit Go.Proofs.Ytlocignlkigojaa.Q Go.Proofs.YtlocignlkigojaaW.PrintWords Go.Proofs.YtlocignlkigojaaW.PrintLast Go.Proofs.YtlocignlkigojaaW.PrintMore
set_option linter.unusedVariables false
set_option linter.unusedSimpArgs false

/-- may a byte stand in a name? -/
def chB (c : Int) : Bool := if c < 97 then (if c < 48 then false else if c > 57 then false else true) else if c > 122 then (if c < 48 then false else if c > 57 then false else true) else true
def chAll (s : ByteArray) : Nat → Bool
  | 0 => true
  | n + 1 => chAll s n && chB (bt s n)
theorem chAll_false (s : ByteArray) (i : Nat) (h : chAll s i = false) : ∀ n, i ≤ n → chAll s n = false
  | 0, hn => by
    obtain rfl : i = 0 := by omega
    exact h
  | n + 1, hn => by
    rcases Nat.lt_or_ge n i with hi | hi
    · obtain rfl : i = n + 1 := by omega
      exact h
    · simp only [chAll, chAll_false s i h n hi, Bool.false_and]
def nameB (s : ByteArray) : Bool := chAll s s.size && inB (s.size : Int) 1 8
theorem chB_split {α : Type} (c : Int) (x y : α) : (if c < 97 then (if c < 48 then x else (if c > 57 then x else y)) else (if c > 122 then (if c < 48 then x else (if c > 57 then x else y)) else y)) = if chB c = true then y else x := by
  unfold chB
  by_cases h1 : c < 97 <;> by_cases h2 : c < 48 <;> by_cases h3 : c > 57 <;> by_cases h4 : c > 122 <;> simp [h1, h2, h3, h4]
theorem impl_name_ev (s : ByteArray) (hs : s.size ≤ 1048576) : Ev (fun k => impl_NameOk.f k s) (nameB s) := by
  refine loop_is s.size (fun k (_ : Unit) i => impl_NameOk.l0 k s s.size i) (fun i _ => chAll s i = true) _ ?_ ?_ () rfl
  · intro i _ hi hI
    have hu : ∀ k, impl_NameOk.l0 (k + 1) s s.size i = if chB (bt s i) = true then impl_NameOk.l0 k s s.size ((i + 1 : Nat) : Int) else some false := fun k => by
      simp only [impl_NameOk.l0]
      rw [if_pos (by omega), if_pos (by omega), if_pos (by omega), up64 i s.size hi (by omega), chB_split]
    by_cases c : chB (bt s i) = true
    · exact .inr ⟨(), by simp only [chAll, hI, c, Bool.and_self], ev_next (fun k => by rw [hu k, if_pos c])⟩
    · left
      have e : nameB s = false := by
        unfold nameB
        rw [chAll_false s (i + 1) (by simp only [chAll, hI, Bool.true_and]; simpa using c) s.size (by omega), Bool.false_and]
      rw [e]
      exact ev_end (fun k => by rw [hu k, if_neg c])
  · intro _ hI
    refine ev_end (fun k => ?_)
    simp only [impl_NameOk.l0]
    rw [if_neg (by omega), between_inB, Option.bind_some]
    unfold nameB
    rw [hI, Bool.true_and]
theorem spec_name_ev (s : ByteArray) (hs : s.size ≤ 1048576) : Ev (fun k => spec_l09Name.f k s) (nameB s) := by
  have hj : Ev (fun k => spec_l09Name.j0 k s true) false := ev_end (fun k => by simp only [spec_l09Name.j0, if_true])
  unfold spec_l09Name.f nameB inB
  by_cases h1 : (s.size : Int) < 1
  · simp only [if_pos h1, decide_eq_false (show ¬ (1 ≤ (s.size : Int)) by omega), Bool.false_and, Bool.and_false]
    exact hj
  · simp only [if_neg h1, decide_eq_true (show 1 ≤ (s.size : Int) by omega), Bool.true_and]
    by_cases h2 : (s.size : Int) > 8
    · simp only [decide_eq_true h2, decide_eq_false (show ¬ ((s.size : Int) ≤ 8) by omega), Bool.and_false]
      exact hj
    · simp only [decide_eq_false h2, decide_eq_true (show (s.size : Int) ≤ 8 by omega), Bool.and_true]
      refine Ev.step (f := fun k => spec_l09Name.l0 k s 0) (fun k => by simp only [spec_l09Name.j0, Bool.false_eq_true, if_false]) ?_
      refine loop_is s.size (fun k (_ : Unit) i => spec_l09Name.l0 k s i) (fun i _ => chAll s i = true) _ ?_ ?_ () rfl
      · intro i _ hi hI
        have hu : ∀ k, spec_l09Name.l0 (k + 1) s i = if chB (bt s i) = true then spec_l09Name.l0 k s ((i + 1 : Nat) : Int) else some false := fun k => by
          simp only [spec_l09Name.l0]
          rw [if_pos (by omega), if_pos (by omega), up64 i s.size hi (by omega), chB_split]
        by_cases c : chB (bt s i) = true
        · exact .inr ⟨(), by simp only [chAll, hI, c, Bool.and_self], ev_next (fun k => by rw [hu k, if_pos c])⟩
        · left
          rw [chAll_false s (i + 1) (by simp only [chAll, hI, Bool.true_and]; simpa using c) s.size (by omega)]
          exact ev_end (fun k => by rw [hu k, if_neg c])
      · intro _ hI
        rw [hI]
        exact ev_end (fun k => by simp only [spec_l09Name.l0]; rw [if_neg (by omega)])
/-- the bytes of a name as words -/
def wds (s : ByteArray) (n : Nat) : List Int := (List.range n).map fun (i : Nat) => bt s (i : Int)
theorem wds_length (s : ByteArray) (n : Nat) : (wds s n).length = n := by simp [wds]
theorem wds_succ (s : ByteArray) (n : Nat) : wds s (n + 1) = wds s n ++ [bt s n] := by simp [wds, List.range_succ]
theorem wrap_bt (s : ByteArray) (i : Int) : wrap64 (bt s i) = bt s i := by
  have := bt_range s i
  unfold wrap64
  omega
theorem impl_no_ev (p0 p1 p2 p3 p4 p5 : Int) (s : ByteArray) (hs : s.size ≤ 1048576) (hp : p4 ≠ 0) : Ev (fun k => impl_pgOf.f k p0 p1 p2 p3 p4 p5 s) (p0, Int.tmod (hash (wds s s.size)) p4) := by
  refine loop_is s.size (fun k x i => impl_pgOf.l0 k s x s.size i p0 p1 p2 p3 p4 p5) (fun i x => x = wds s i) _ ?_ ?_ [] rfl
  · rintro i x hi rfl
    refine .inr ⟨_, rfl, ev_next (fun k => ?_)⟩
    simp only [impl_pgOf.l0]
    rw [if_pos (by omega), if_pos (by omega), if_pos (by omega), if_pos (by rw [wds_length]; omega), up64 i s.size hi (by omega), wrap_bt, wds_succ]
  · rintro x rfl
    refine Ev.step (f := ?f) (fun k => ?_) ?_
    rotate_left
    · simp only [impl_pgOf.l0]
      rw [if_neg (by omega)]
      all_goals exact rfl
    · exact Ev.bind (ev_of (K := s.size + 1) fun k hk => impl_Mix_hash _ (by rw [wds_length]; omega) k (by rw [wds_length]; omega)) (ev_some fun k => if_neg hp)
theorem spec_no_ev (p0 p1 p2 p3 p4 p5 : Int) (s : ByteArray) (hs : s.size ≤ 1048576) (hp : p4 ≠ 0) : Ev (fun k => spec_l09No.f k p0 p1 p2 p3 p4 p5 s) (Int.tmod (hash (wds s s.size)) p4) := by
  refine loop_is s.size (fun k x i => spec_l09No.l0 k s x i p0 p1 p2 p3 p4 p5) (fun i x => x = wds s i) _ ?_ ?_ [] rfl
  · rintro i x hi rfl
    refine .inr ⟨_, rfl, ev_next (fun k => ?_)⟩
    simp only [spec_l09No.l0]
    rw [if_pos (by omega), if_pos (by omega), if_pos (by rw [wds_length]; omega), up64 i s.size hi (by omega), wrap_bt, wds_succ]
  · rintro x rfl
    refine Ev.step (f := ?f) (fun k => ?_) ?_
    rotate_left
    · simp only [spec_l09No.l0]
      rw [if_neg (by omega)]
      all_goals exact rfl
    · exact Ev.bind (ev_of (K := s.size + 1) fun k hk => spec_Mix_hash _ (by rw [wds_length]; omega) k (by rw [wds_length]; omega)) (ev_some fun k => if_neg hp)

end Go.Proofs.Ytlocignlkigojaa.Pure

-- text OPool
namespace Go.Proofs.Ytlocignlkigojaa.Pure
open Go.RowKit Go.Proofs.Ytlocignlkigojaa.Q Go.Proofs.YtlocignlkigojaaW.PrintWords Go.Proofs.YtlocignlkigojaaW.PrintLast Go.Proofs.YtlocignlkigojaaW.PrintMore
set_option linter.unusedVariables false
set_option linter.unusedSimpArgs false
theorem between_in (a b c : Int) : impl_between.f a b c = spec_l00In.f a b c := rfl
theorem in_some (a b c : Int) : spec_l00In.f a b c = some (decide (b ≤ a) && decide (a ≤ c)) := by
  unfold spec_l00In.f
  by_cases h : a ≥ b
  · rw [if_pos h, decide_eq_true h]; simp
  · rw [if_neg h, decide_eq_false h]; simp
/-- is a pool valid? -/
def poolB (a0_0 a0_1 a0_2 a0_3 a0_4 a0_5 : Int) : Bool :=
  (decide (1 ≤ a0_0) && decide (a0_0 ≤ 4)) && ((decide (1 ≤ a0_1) && decide (a0_1 ≤ 4)) && (decide (0 ≤ a0_2) && decide (a0_2 ≤ 3))) && (decide (a0_1 ≤ a0_3) && decide (a0_3 ≤ wrap64 (a0_1 + a0_2))) && (decide (1 ≤ a0_4) && decide (a0_4 ≤ 16)) && (decide (1 ≤ a0_5) && decide (a0_5 ≤ 4))
theorem code_some (a b : Int) : spec_l04Code.f a b = some ((decide (1 ≤ a) && decide (a ≤ 4)) && (decide (0 ≤ b) && decide (b ≤ 3))) := by
  unfold spec_l04Code.f
  simp only [in_some, Option.bind_some]
  generalize (decide (1 ≤ a) && decide (a ≤ 4)) = x
  cases x <;> simp
theorem codeOk_some (a b : Int) : impl_CodeOk.f a b = some ((decide (1 ≤ a) && decide (a ≤ 4)) && (decide (0 ≤ b) && decide (b ≤ 3))) := code_some a b
theorem spec_pool (a0_0 a0_1 a0_2 a0_3 a0_4 a0_5 : Int) : spec_l09OK.f a0_0 a0_1 a0_2 a0_3 a0_4 a0_5 = some (poolB a0_0 a0_1 a0_2 a0_3 a0_4 a0_5) := by
  unfold spec_l09OK.f poolB
  simp only [in_some, code_some, Option.bind_some]
  generalize (decide (1 ≤ a0_0) && decide (a0_0 ≤ 4)) = x0
  generalize ((decide (1 ≤ a0_1) && decide (a0_1 ≤ 4)) && (decide (0 ≤ a0_2) && decide (a0_2 ≤ 3))) = x1
  generalize (decide (a0_1 ≤ a0_3) && decide (a0_3 ≤ wrap64 (a0_1 + a0_2))) = x2
  generalize (decide (1 ≤ a0_4) && decide (a0_4 ≤ 16)) = x3
  generalize (decide (1 ≤ a0_5) && decide (a0_5 ≤ 4)) = x4
  cases x0 <;> cases x1 <;> cases x2 <;> cases x3 <;> simp
theorem impl_pool (a0_0 a0_1 a0_2 a0_3 a0_4 a0_5 : Int) : impl_PoolOk.f a0_0 a0_1 a0_2 a0_3 a0_4 a0_5 = some (poolB a0_0 a0_1 a0_2 a0_3 a0_4 a0_5) := by
  rw [← spec_pool]
  unfold impl_PoolOk.f impl_Code_size.f spec_l09OK.f
  simp only [between_in, code_some, codeOk_some, Option.bind_some]
end Go.Proofs.Ytlocignlkigojaa.Pure

-- text PureFnExactPgOf
namespace Go.Proofs.Ytlocignlkigojaa.Pure
open Go.RowKit Go.Proofs.Ytlocignlkigojaa.Q Go.Proofs.Ytlocignlkigojaa.Opens Go.Proofs.YtlocignlkigojaaW.PrintWords Go.Proofs.YtlocignlkigojaaW.PrintLast Go.Proofs.YtlocignlkigojaaW.PrintMore
set_option linter.unusedVariables false
set_option linter.unusedSimpArgs false

theorem PgOf_both (p0 p1 p2 p3 p4 p5 : Int) (s : ByteArray) (hs : s.size ≤ 1048576) : ∃ r, Ev (fun k => spec_PgOf.f k p0 p1 p2 p3 p4 p5 s) r ∧ Ev (fun k => impl_PgOf.f k p0 p1 p2 p3 p4 p5 s) r := by
  unfold spec_PgOf.f impl_PgOf.f
  simp only [spec_pool, impl_pool, Option.bind_some]
  by_cases h : poolB p0 p1 p2 p3 p4 p5 = true
  · simp only [if_pos h]
    have hp : p4 ≠ 0 := by
      unfold poolB at h
      simp only [Bool.and_eq_true, decide_eq_true_eq] at h
      omega
    cases hn : nameB s with
    | true =>
      refine ⟨(p0, Int.tmod (hash (wds s s.size)) p4, true), Ev.bind (spec_name_ev s hs) ?_, Ev.bind (impl_name_ev s hs) ?_⟩
      · simp only [hn, if_true]
        exact Ev.bind (spec_no_ev p0 p1 p2 p3 p4 p5 s hs hp) (Ev.now _)
      · simp only [hn, if_true]
        exact Ev.bind (impl_no_ev p0 p1 p2 p3 p4 p5 s hs hp) (Ev.now _)
    | false =>
      refine ⟨(0, 0, false), Ev.bind (spec_name_ev s hs) ?_, Ev.bind (impl_name_ev s hs) ?_⟩
      · simp only [hn, Bool.false_eq_true, if_false]; exact Ev.now _
      · simp only [hn, Bool.false_eq_true, if_false]; exact Ev.now _
  · simp only [if_neg h]
    exact ⟨_, Ev.now _, Ev.now _⟩
theorem FnExactPgOf (a0_0 : Int) (a0_1 : Int) (a0_2 : Int) (a0_3 : Int) (a0_4 : Int) (a0_5 : Int) (a1 : ByteArray) (_ : (Lit.int .i64 a0_0).wf = true) (_ : (Lit.int .i64 a0_1).wf = true) (_ : (Lit.int .i64 a0_2).wf = true) (_ : (Lit.int .i64 a0_3).wf = true) (_ : (Lit.int .i64 a0_4).wf = true) (_ : (Lit.int .i64 a0_5).wf = true) (_ : a1.size ≤ 9223372036854775807) : ∃ k, laws_FnExactPgOf.f k a0_0 a0_1 a0_2 a0_3 a0_4 a0_5 a1 = some true := by
  by_cases h : (a1.size : Int) > 1048576
  · exact ⟨0, by unfold laws_FnExactPgOf.f; rw [if_pos h]⟩
  · obtain ⟨r, g1, g2⟩ := PgOf_both a0_0 a0_1 a0_2 a0_3 a0_4 a0_5 a1 (by omega)
    refine Ev.rounds (r := true) ?_
    unfold laws_FnExactPgOf.f laws_toPool.f laws_toCode.f laws_eqPg.f
    simp only [if_neg h, Option.bind_some]
    refine Ev.bind g1 (Ev.bind g2 (ev_some fun k => ?_))
    simp

end Go.Proofs.Ytlocignlkigojaa.Pure
