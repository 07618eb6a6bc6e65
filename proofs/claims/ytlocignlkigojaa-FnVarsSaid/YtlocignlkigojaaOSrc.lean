/- Plain laws of the law's own source of choices: reading a byte, picking a number. Conditions: the bounds that each theorem names. -/
import Derived.Test.YtlocignlkigojaaWMore
import Derived.Laws.BitsLemmas
import Derived.Test.YtlocignlkigojaaQf149
namespace Go.Proofs.Ytlocignlkigojaa.Pure
open Go.RowKit Go.Proofs.Ytlocignlkigojaa.Q Go.Proofs.YtlocignlkigojaaW.PrintWords Go.Proofs.YtlocignlkigojaaW.PrintLast Go.Proofs.YtlocignlkigojaaW.PrintMore
set_option linter.unusedVariables false
set_option linter.unusedSimpArgs false

/-- numbers that are bytes -/
def IsBytes (l : List Int) : Prop := ∀ x ∈ l, 0 ≤ x ∧ x ≤ 255
theorem bytes_of_wf {l : List Int} (h : ∀ x ∈ l, (Lit.int .u8 x).wf = true) : IsBytes l := by
  intro x hx
  have h' : (decide (IntKind.u8.min ≤ x) && decide (x ≤ IntKind.u8.max)) = true := h x hx
  rw [Bool.and_eq_true] at h'
  have h1 := of_decide_eq_true h'.1
  have h2 := of_decide_eq_true h'.2
  have e1 : IntKind.u8.min = 0 := by decide
  have e2 : IntKind.u8.max = 255 := by decide
  omega
theorem rd_bytes {l : List Int} (h : IsBytes l) (i : Int) : 0 ≤ rd l i ∧ rd l i ≤ 255 := by
  unfold rd
  rw [List.getD_eq_getElem?_getD]
  cases e : l[i.toNat]? with
  | none => simp
  | some x => exact h x (List.mem_of_getElem? e)
theorem and255 (x : Int) : 0 ≤ Go.bits .and .u64 x 255 ∧ Go.bits .and .u64 x 255 ≤ 255 := by
  have h : (BitVec.ofInt 64 x &&& BitVec.ofInt 64 255).toNat ≤ 255 := by
    rw [BitVec.toNat_and]
    have e1 : (BitVec.ofInt 64 255).toNat = 255 := by decide
    rw [e1]
    exact Nat.and_le_right
  show 0 ≤ IntKind.u64.wrap ((BitVec.ofInt 64 x &&& BitVec.ofInt 64 255).toNat : Int) ∧ IntKind.u64.wrap ((BitVec.ofInt 64 x &&& BitVec.ofInt 64 255).toNat : Int) ≤ 255
  rw [IntKind.wrap_u64]
  omega
theorem wrap_byte (x : Int) (h : 0 ≤ x ∧ x ≤ 255) : wrap64 x = x := by unfold wrap64; omega
theorem next_is (l : List Int) (hb : IsBytes l) (p sd : Int) (h0 : 0 ≤ p) (h1 : p ≤ 4611686018427387904) : ∃ v sd', spec_l00Src_next.f l p sd = some (v, p + 1, sd') ∧ 0 ≤ v ∧ v ≤ 255 := by
  have ew : wrap64 (p + 1) = p + 1 := by unfold wrap64; omega
  have er := wrap_byte _ (rd_bytes hb p)
  have hr := rd_bytes hb p
  unfold spec_l00Src_next.f
  rw [ew, er]
  by_cases c1 : p < (l.length : Int)
  · rw [if_pos c1, if_pos h0]
    by_cases c2 : p + 1 ≤ (l.length : Int)
    · rw [if_pos c2]
      exact ⟨_, _, rfl, hr⟩
    · rw [if_neg c2]
      have h := and255 ((IntKind.u64.wrap ((IntKind.u64.wrap ((IntKind.u64.wrap (sd * 6364136223846793005)) + (IntKind.u64.wrap (rd l p)))) + 1442695040888963407)) / 1099511627776)
      refine ⟨_, _, rfl, ?_⟩
      rw [wrap_byte _ h]
      exact h
  · rw [if_neg c1]
    by_cases c2 : p + 1 ≤ (l.length : Int)
    · rw [if_pos c2]
      exact ⟨_, _, rfl, by omega, by omega⟩
    · rw [if_neg c2]
      have h := and255 ((IntKind.u64.wrap ((IntKind.u64.wrap ((IntKind.u64.wrap (sd * 6364136223846793005)) + 0)) + 1442695040888963407)) / 1099511627776)
      refine ⟨_, _, rfl, ?_⟩
      rw [wrap_byte _ h]
      exact h
theorem tmod_in (x n : Int) (hx : 0 ≤ x) (hn : 1 < n) : 0 ≤ Int.tmod x n ∧ Int.tmod x n < n := by
  rw [Int.tmod_eq_emod_of_nonneg hx]
  exact ⟨Int.emod_nonneg _ (by omega), Int.emod_lt_of_pos _ (by omega)⟩
/-- a pick of n: from 0 to n - 1, or 0 -/
theorem pick_is (l : List Int) (hb : IsBytes l) (p sd n : Int) (h0 : 0 ≤ p) (h1 : p ≤ 4611686018427387000) : ∃ v p' sd', spec_l00Src_pick.f l p sd n = some (v, p', sd') ∧ p ≤ p' ∧ p' ≤ p + 2 ∧ 0 ≤ v ∧ (v < n ∨ (n ≤ 1 ∧ v = 0)) := by
  unfold spec_l00Src_pick.f
  by_cases c1 : n ≤ 1
  · rw [if_pos c1]
    exact ⟨_, _, _, rfl, by omega, by omega, by omega, .inr ⟨c1, rfl⟩⟩
  · rw [if_neg c1]
    obtain ⟨v, sd1, e1, v0, v1⟩ := next_is l hb p sd h0 (by omega)
    rw [e1, Option.bind_some]
    by_cases c2 : n > 200
    · rw [if_pos c2]
      obtain ⟨u, sd2, e2, u0, u1⟩ := next_is l hb (p + 1) sd1 (by omega) (by omega)
      simp only
      rw [e2, Option.bind_some, if_neg (by omega)]
      have ew : wrap64 (wrap64 (v * 256) + u) = v * 256 + u := by unfold wrap64; omega
      simp only
      rw [ew]
      have h := tmod_in (v * 256 + u) n (by omega) (by omega)
      exact ⟨_, _, _, rfl, by omega, by omega, h.1, .inl h.2⟩
    · rw [if_neg c2]
      simp only
      rw [if_neg (by omega)]
      have h := tmod_in v n (by omega) (by omega)
      exact ⟨_, _, _, rfl, by omega, by omega, h.1, .inl h.2⟩
theorem pick_pos (l : List Int) (hb : IsBytes l) (p sd n : Int) (h0 : 0 ≤ p) (h1 : p ≤ 4611686018427387000) (hn : 1 ≤ n) : ∃ v p' sd', spec_l00Src_pick.f l p sd n = some (v, p', sd') ∧ p ≤ p' ∧ p' ≤ p + 2 ∧ 0 ≤ v ∧ v < n := by
  obtain ⟨v, p', sd', e, a, b, c, d⟩ := pick_is l hb p sd n h0 h1
  exact ⟨v, p', sd', e, a, b, c, by omega⟩

end Go.Proofs.Ytlocignlkigojaa.Pure
