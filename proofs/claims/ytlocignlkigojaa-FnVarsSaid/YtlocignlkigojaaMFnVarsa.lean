/- Walks and plain laws of one claim, several texts in one. -/
import Derived.Test.YtlocignlkigojaaOSrc
import Derived.Test.YtlocignlkigojaaQf42
import Derived.Test.YtlocignlkigojaaQf62
import Derived.Test.YtlocignlkigojaaQf9
import Derived.Test.YtlocignlkigojaaOVars
import Derived.Test.YtlocignlkigojaaOWord
-- text ONum
namespace Go.Proofs.Ytlocignlkigojaa.Pure
open Go.RowKit Go.Proofs.Ytlocignlkigojaa.Q Go.Proofs.YtlocignlkigojaaW.PrintWords Go.Proofs.YtlocignlkigojaaW.PrintLast Go.Proofs.YtlocignlkigojaaW.PrintMore
set_option linter.unusedVariables false
set_option linter.unusedSimpArgs false

theorem among_is (l : List Int) (hb : IsBytes l) (p sd : Int) (xs : List Int) (hx : 1 ≤ xs.length) (h0 : 0 ≤ p) (h1 : p ≤ 4611686018427387000) : ∃ i p' sd', spec_l00Src_among.f l p sd xs = some (rd xs i, p', sd') ∧ p ≤ p' ∧ p' ≤ p + 2 ∧ 0 ≤ i ∧ i < xs.length := by
  obtain ⟨v, p', sd', e, a, b, c, d⟩ := pick_pos l hb p sd (xs.length : Int) h0 h1 (by omega)
  refine ⟨v, p', sd', ?_, a, b, c, d⟩
  unfold spec_l00Src_among.f
  rw [e, Option.bind_some]
  simp only
  rw [if_pos c, if_pos d]
theorem among_bind (l : List Int) (hb : IsBytes l) (p sd : Int) (xs : List Int) (h0 : 0 ≤ p) (h1 : p ≤ 4611686018427387000) (hx : 1 ≤ xs.length) : ∃ v p' sd', ((spec_l00Src_among.f l p sd xs).bind fun b => some (b.1, b.2.1, b.2.2)) = some (v, p', sd') ∧ p ≤ p' ∧ p' ≤ p + 2 := by
  obtain ⟨i, p', sd', e, a, b, _, _⟩ := among_is l hb p sd xs hx h0 h1
  rw [e, Option.bind_some]
  exact ⟨_, _, _, rfl, a, b⟩
theorem odd_is (l : List Int) (hb : IsBytes l) (p sd : Int) (h0 : 0 ≤ p) (h1 : p ≤ 4611686018427387000) : ∃ v p' sd', spec_l01Odd.f l p sd = some (v, p', sd') ∧ p ≤ p' ∧ p' ≤ p + 2 := by
  unfold spec_l01Odd.f
  exact among_bind l hb p sd _ h0 h1 (by decide)
theorem number_loop (l : List Int) (hb : IsBytes l) : ∀ (c : Nat) (x p sd : Int), c ≤ 100 → 0 ≤ p → p + c ≤ 4611686018427380000 → ∃ v p' sd', (∀ k, c < k → spec_l01Number.l0 k x c l p sd = some (v, p', sd')) ∧ p ≤ p' ∧ p' ≤ p + c
  | 0, x, p, sd, _, _, _ => by
    refine ⟨x, p, sd, fun k hk => ?_, by omega, by omega⟩
    obtain ⟨k, rfl⟩ : ∃ m, k = m + 1 := ⟨k - 1, by omega⟩
    simp only [spec_l01Number.l0]
    rw [if_neg (by omega)]
  | c + 1, x, p, sd, hc, h0, h1 => by
    obtain ⟨v, sd1, e1, _, _⟩ := next_is l hb p sd h0 (by omega)
    obtain ⟨w, p', sd', hw, a, b⟩ := number_loop l hb c (Go.bits .or .i64 (wrap64 (x * 256)) v) (p + 1) sd1 (by omega) (by omega) (by omega)
    refine ⟨w, p', sd', fun k hk => ?_, by omega, by omega⟩
    obtain ⟨k, rfl⟩ : ∃ m, k = m + 1 := ⟨k - 1, by omega⟩
    simp only [spec_l01Number.l0]
    have ec : wrap64 (((c + 1 : Nat) : Int) - 1) = (c : Int) := by unfold wrap64; omega
    rw [if_pos (by omega), e1, Option.bind_some, ec]
    exact hw k (by omega)
theorem number_is (l : List Int) (hb : IsBytes l) (p sd : Int) (h0 : 0 ≤ p) (h1 : p ≤ 4611686018427370000) : ∃ v p' sd', (∀ k, 10 ≤ k → spec_l01Number.f k l p sd = some (v, p', sd')) ∧ p ≤ p' ∧ p' ≤ p + 20 := by
  obtain ⟨c, p1, sd1, e1, a1, b1, c1, d1⟩ := pick_pos l hb p sd 3 h0 (by omega) (by omega)
  by_cases g0 : c = 0
  · obtain ⟨v, p', sd', e2, a2, b2⟩ := odd_is l hb p1 sd1 (by omega) (by omega)
    refine ⟨v, p', sd', fun k _ => ?_, by omega, by omega⟩
    unfold spec_l01Number.f
    rw [e1, Option.bind_some]
    simp only
    rw [if_pos g0, e2, Option.bind_some]
  · by_cases g1 : c = 1
    · obtain ⟨v, p', sd', e2, a2, b2, _, _⟩ := pick_pos l hb p1 sd1 300 (by omega) (by omega) (by omega)
      refine ⟨v, p', sd', fun k _ => ?_, by omega, by omega⟩
      unfold spec_l01Number.f
      rw [e1, Option.bind_some]
      simp only
      rw [if_neg g0, if_pos g1, e2, Option.bind_some]
    · obtain ⟨n, p2, sd2, e2, a2, b2, n0, n1⟩ := pick_pos l hb p1 sd1 9 (by omega) (by omega) (by omega)
      obtain ⟨m, rfl⟩ := Int.eq_ofNat_of_zero_le n0
      obtain ⟨v, p', sd', e3, a3, b3⟩ := number_loop l hb m 0 p2 sd2 (by omega) (by omega) (by omega)
      refine ⟨v, p', sd', fun k hk => ?_, by omega, by omega⟩
      unfold spec_l01Number.f
      rw [e1, Option.bind_some]
      simp only
      rw [if_neg g0, if_neg g1, e2, Option.bind_some]
      exact e3 k (by omega)
theorem A8Number_is (l : List Int) (hb : IsBytes l) : ∃ v, ∀ k, 10 ≤ k → spec_A8Number.f k l = some v := by
  obtain ⟨v, p', sd', e, _, _⟩ := number_is l hb 0 0 (by omega) (by omega)
  refine ⟨v, fun k hk => ?_⟩
  unfold spec_A8Number.f spec_l00From.f
  simp only [Option.bind_some]
  rw [e k hk, Option.bind_some]
theorem a8At_is (l : List Int) (hb : IsBytes l) (hl : l.length ≤ 1048576) (i n : Int) (h0 : 0 ≤ i) (h1 : i ≤ 1000000000) (hn : n ≤ 1000000000) : ∃ v, laws_a8At.f l i n = some v ∧ 0 ≤ v ∧ (v < n ∨ (n ≤ 1 ∧ v = 0)) := by
  unfold laws_a8At.f
  by_cases c1 : n ≤ 1
  · rw [if_pos c1]; exact ⟨0, rfl, by omega, .inr ⟨c1, rfl⟩⟩
  · rw [if_neg c1]
    by_cases c2 : (l.length : Int) = 0
    · rw [if_pos c2, if_neg (by omega)]
      have ew : wrap64 (i * 7) = i * 7 := by unfold wrap64; omega
      have h := tmod_in (i * 7) n (by omega) (by omega)
      rw [ew]
      exact ⟨_, rfl, h.1, .inl h.2⟩
    · rw [if_neg c2]
      have hp : (0 : Int) < (l.length : Int) := by omega
      have t0 : ∀ x : Int, 0 ≤ x → 0 ≤ Int.tmod x (l.length : Int) ∧ Int.tmod x (l.length : Int) < (l.length : Int) := fun x hx => by
        rw [Int.tmod_eq_emod_of_nonneg hx]
        exact ⟨Int.emod_nonneg _ (by omega), Int.emod_lt_of_pos _ hp⟩
      have e1 : wrap64 (i + 1) = i + 1 := by unfold wrap64; omega
      have s0 := t0 i h0
      have s1 := t0 (i + 1) (by omega)
      rw [if_pos s0.1, if_pos s0.2, e1, if_pos s1.1, if_pos s1.2, if_neg (by omega)]
      have r0 := rd_bytes hb (Int.tmod i (l.length : Int))
      have r1 := rd_bytes hb (Int.tmod (i + 1) (l.length : Int))
      generalize rd l (Int.tmod i (l.length : Int)) = x at r0
      generalize rd l (Int.tmod (i + 1) (l.length : Int)) = y at r1
      have q0 : 0 ≤ Int.tdiv i (l.length : Int) ∧ Int.tdiv i (l.length : Int) ≤ i := by
        rw [Int.tdiv_eq_ediv_of_nonneg h0]
        exact ⟨Int.ediv_nonneg h0 (by omega), Int.ediv_le_self _ h0⟩
      generalize Int.tdiv i (l.length : Int) = z at q0
      have ew : wrap64 (wrap64 (wrap64 (wrap64 x * 31) + wrap64 y) + wrap64 z) = x * 31 + y + z := by unfold wrap64; omega
      have h := tmod_in (x * 31 + y + z) n (by omega) (by omega)
      rw [ew]
      exact ⟨_, rfl, h.1, .inl h.2⟩
theorem a8At_pos (l : List Int) (hb : IsBytes l) (hl : l.length ≤ 1048576) (i n : Int) (h0 : 0 ≤ i) (h1 : i ≤ 1000000000) (hn : n ≤ 1000000000) (hp : 1 ≤ n) : ∃ v, laws_a8At.f l i n = some v ∧ 0 ≤ v ∧ v < n := by
  obtain ⟨v, e, a, b⟩ := a8At_is l hb hl i n h0 h1 hn
  exact ⟨v, e, a, by omega⟩

end Go.Proofs.Ytlocignlkigojaa.Pure

-- text PureFnVars
namespace Go.Proofs.Ytlocignlkigojaa.Pure
open Go.RowKit Go.Proofs.Ytlocignlkigojaa.Q Go.Proofs.YtlocignlkigojaaW.PrintWords Go.Proofs.YtlocignlkigojaaW.PrintLast Go.Proofs.YtlocignlkigojaaW.PrintMore
set_option linter.unusedVariables false
set_option linter.unusedSimpArgs false

theorem and62 (x : Int) : 0 ≤ Go.bits .and .i64 x 4611686018427387903 ∧ Go.bits .and .i64 x 4611686018427387903 ≤ 4611686018427387903 := by
  have h : (BitVec.ofInt 64 x &&& BitVec.ofInt 64 4611686018427387903).toNat ≤ 4611686018427387903 := by
    rw [BitVec.toNat_and]
    have e1 : (BitVec.ofInt 64 4611686018427387903).toNat = 4611686018427387903 := by decide
    rw [e1]
    exact Nat.and_le_right
  show 0 ≤ IntKind.i64.wrap ((BitVec.ofInt 64 x &&& BitVec.ofInt 64 4611686018427387903).toNat : Int) ∧ IntKind.i64.wrap ((BitVec.ofInt 64 x &&& BitVec.ofInt 64 4611686018427387903).toNat : Int) ≤ 4611686018427387903
  rw [IntKind.wrap_i64]
  generalize (BitVec.ofInt 64 x &&& BitVec.ofInt 64 4611686018427387903).toNat = n at h
  omega
theorem mix_bytes (i : Int) (l : List Int) (hb : IsBytes l) (hl : l.length ≤ 1048576) : ∃ m, laws_a8Mix.f i l = some m ∧ IsBytes m := by
  unfold laws_a8Mix.f
  rw [Option.bind_some, if_pos (by simp; omega)]
  refine ⟨_, rfl, fun x hx => ?_⟩
  rcases List.mem_append.1 hx with h | h
  · simp at h; omega
  · exact hb x h
theorem FnVars : laws_FnVars.Pure := by
  intro l0 _ _ hwf
  have hb := bytes_of_wf hwf
  by_cases h : (l0.length : Int) > 1048576
  · exact ⟨0, by unfold laws_FnVars.f; rw [if_pos h]⟩
  · obtain ⟨v, hv⟩ := A8Number_is l0 hb
    obtain ⟨t, ht, ht1⟩ := A8Word_is l0 hb
    obtain ⟨m, hm, hmb⟩ := mix_bytes 1 l0 hb (by omega)
    obtain ⟨w, hw, hw1⟩ := A8Word_is m hmb
    obtain ⟨hn0, hn1⟩ := and62 v
    refine Ev.rounds (r := true) ?_
    unfold laws_FnVars.f
    simp only [if_neg h]
    refine Ev.bind (ev_of hv) ?_
    generalize Go.bits .and .i64 v 4611686018427387903 = x at hn0 hn1
    obtain ⟨n, rfl⟩ := Int.eq_ofNat_of_zero_le hn0
    have hsz := varOf_size9 n (by omega)
    have hst := varOf_size9 t.size (by omega)
    refine Ev.bind (ev_of ht) ?_
    simp only [hm, Option.bind_some]
    refine Ev.bind (ev_of hw) (Ev.bind (ev_of (K := 11) fun k hk => impl_PutVar_in n (by omega) k (by omega)) ?_)
    simp only [show (varOf n).size + w.size ≤ 9223372036854775807 by omega, if_true]
    refine Ev.bind (a := ((n : Int), ((varOf n).size : Int), true)) (ev_of (K := 41) fun k hk => ?_) ?_
    · rw [impl_GetVar_is _ (by rw [ByteArray.size_append]; omega) k (by omega), get_put_var n (by omega)]
    · refine Ev.bind (a := varOf t.size ++ t) (ev_of (K := 11) fun k hk => ?_) ?_
      · unfold impl_PutText.f
        rw [impl_PutVar_in t.size (by omega) k (by omega), Option.bind_some, if_pos (by omega)]
      · simp only [show (varOf t.size ++ t).size + w.size ≤ 9223372036854775807 by rw [ByteArray.size_append]; omega, if_true]
        refine Ev.bind (ev_of (K := 41) fun k hk => text_back t w (by omega) (by omega) k (by omega)) ?_
        refine Ev.bind (putHex_ev t (by omega)) (Ev.bind (getHex_ev t (by omega)) (ev_some fun k => ?_))
        simp only [if_true]
        rw [if_pos (by omega), if_pos (by omega)]
        simp

end Go.Proofs.Ytlocignlkigojaa.Pure
