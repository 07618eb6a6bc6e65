/- Plain laws of the law's own helpers on lists of numbers: a copy is the list, comparing a list with itself says true. Conditions: the bounds that each theorem names. -/
import Derived.Test.YtlbahilobbdpjaaQf32
import Derived.Test.YtlbahilobbdpjaaQf34
namespace Go.Proofs.Ytlbahilobbdpjaa.Pure
open Go.RowKit Go.Proofs.Ytlbahilobbdpjaa.Q Go.Proofs.YtlbahilobbdpjaaW.PrintWords Go.Proofs.YtlbahilobbdpjaaW.PrintLast Go.Proofs.YtlbahilobbdpjaaW.PrintMore

theorem wrap_up (i n : Int) (h0 : 0 ≤ i) (h1 : i < n) (hn : n ≤ 9223372036854775807) : wrap64 (i + 1) = i + 1 := by unfold wrap64; omega
/-- a list that agrees with l before i, and is as long, becomes l by storing the rest -/
theorem set_take {α : Type} (l y : List α) (i : Nat) (hl : y.length = l.length) (hi : i < l.length) (h : y.take i = l.take i) (z : α) : (y.set i (l.getD i z)).take (i + 1) = l.take (i + 1) := by
  have e : l.getD i z = l[i] := by rw [List.getD_eq_getElem?_getD, List.getElem?_eq_getElem hi]; rfl
  rw [e, List.take_succ_eq_append_getElem (by rw [List.length_set]; omega), List.take_succ_eq_append_getElem hi]
  congr 1
  · rw [List.take_set_of_le (by omega)]; exact h
  · simp
theorem toInt64S_all (l : List Int) (hl : l.length ≤ 1048576) (d : Nat) : ∀ (k : Nat) (y : List Int) (i : Int), 0 ≤ i → i ≤ l.length → (l.length : Int) - i = d → d < k → y.length = l.length → y.take i.toNat = l.take i.toNat →
    laws_toInt64S.l0 k l y i = some l := by
  induction d with
  | zero =>
    intro k y i h0 h1 hd hk hy ht
    obtain ⟨k, rfl⟩ : ∃ m, k = m + 1 := ⟨k - 1, by omega⟩
    simp only [laws_toInt64S.l0]
    rw [if_neg (by omega)]
    rw [List.take_of_length_le (by omega), List.take_of_length_le (by omega)] at ht
    rw [ht]
  | succ d ih =>
    intro k y i h0 h1 hd hk hy ht
    obtain ⟨k, rfl⟩ : ∃ m, k = m + 1 := ⟨k - 1, by omega⟩
    have hlt : i < (l.length : Int) := by omega
    simp only [laws_toInt64S.l0]
    rw [if_pos hlt, if_pos h0, if_pos (by omega), wrap_up i l.length h0 hlt (by omega)]
    refine ih k _ (i + 1) (by omega) (by omega) (by omega) (by omega) (by rw [List.length_set]; exact hy) ?_
    have e : (i + 1).toNat = i.toNat + 1 := by omega
    rw [e]
    exact set_take l y i.toNat hy (by omega) ht 0
theorem toInt64S_id (l : List Int) (hl : l.length ≤ 1048576) (k : Nat) (hk : l.length < k) : laws_toInt64S.f k l = some l := by
  unfold laws_toInt64S.f
  rw [if_pos (by omega), if_pos (by omega)]
  exact toInt64S_all l hl l.length k _ 0 (by omega) (by omega) (by omega) hk (by simp) (by simp)
theorem eqInt64S_all (l : List Int) (hl : l.length ≤ 9223372036854775807) (d : Nat) : ∀ (k : Nat) (i : Int), 0 ≤ i → i ≤ l.length → (l.length : Int) - i = d → d < k → laws_eqInt64S.l0 k l l i = some true := by
  induction d with
  | zero =>
    intro k i h0 h1 hd hk
    obtain ⟨k, rfl⟩ : ∃ m, k = m + 1 := ⟨k - 1, by omega⟩
    simp only [laws_eqInt64S.l0]
    rw [if_neg (by omega)]
  | succ d ih =>
    intro k i h0 h1 hd hk
    obtain ⟨k, rfl⟩ : ∃ m, k = m + 1 := ⟨k - 1, by omega⟩
    have hlt : i < (l.length : Int) := by omega
    simp only [laws_eqInt64S.l0]
    rw [if_pos hlt, if_pos h0, if_pos hlt, if_pos trivial, wrap_up i l.length h0 hlt (by omega)]
    exact ih k (i + 1) (by omega) (by omega) (by omega) (by omega)
theorem eqInt64S_id (l : List Int) (hl : l.length ≤ 9223372036854775807) (k : Nat) (hk : l.length < k) : laws_eqInt64S.f k l l = some true := by
  unfold laws_eqInt64S.f
  rw [if_pos rfl]
  exact eqInt64S_all l hl l.length k 0 (by omega) (by omega) (by omega) hk

end Go.Proofs.Ytlbahilobbdpjaa.Pure
