/- The pure statement of FnExactPutHex: for every string the two printed functions give the same text. -/
import Derived.Test.YtncbjkcpibajaaaOPutHexx1
namespace Go.Proofs.Ytncbjkcpibajaaa.Pure
open Go.RowKit Go.Proofs.Ytncbjkcpibajaaa.OPutHex Go.Proofs.YtncbjkcpibajaaaW.PrintWords Go.Proofs.YtncbjkcpibajaaaW.PrintLast

theorem hex_eq (s : ByteArray) (k : Nat) : ∀ x i, impl_PutHex.l0 k s x (s.size : Int) i = spec_l01Hex.l0 k s x i := by
  induction k with
  | zero => intro x i; rfl
  | succ k ih =>
    intro x i
    simp only [impl_PutHex.l0, spec_l01Hex.l0]
    by_cases h : i < (s.size : Int)
    · simp only [if_pos h, ih]
    · simp only [if_neg h]

theorem hex_total (s : ByteArray) (hs : s.size ≤ 1048576) (d : Nat) : ∀ (k : Nat) (x : List Int) (i : Int), 0 ≤ i → i ≤ s.size → (s.size : Int) - i = d → (x.length : Int) = 2 * i → d < k →
    ∃ r, spec_l01Hex.l0 k s x i = some r := by
  induction d with
  | zero =>
    intro k x i h0 h1 hd hx hk
    obtain ⟨k, rfl⟩ : ∃ m, k = m + 1 := ⟨k - 1, by omega⟩
    exact ⟨_, by simp only [spec_l01Hex.l0]; rw [if_neg (by omega)]⟩
  | succ d ih =>
    intro k x i h0 h1 hd hx hk
    obtain ⟨k, rfl⟩ : ∃ m, k = m + 1 := ⟨k - 1, by omega⟩
    have hlt : i < (s.size : Int) := by omega
    have hb := bt_range s i
    have e1 : Int.tdiv (bt s i) 16 = bt s i / 16 := Int.tdiv_eq_ediv_of_nonneg hb.1
    have e2 : Int.tmod (bt s i) 16 = bt s i % 16 := Int.tmod_eq_emod_of_nonneg hb.1
    have hw : wrap64 (i + 1) = i + 1 := by unfold wrap64; omega
    simp only [spec_l01Hex.l0]
    rw [if_pos hlt, if_pos h0, e1, e2, if_pos (by omega), if_pos (by omega), if_pos (by omega), if_pos (by omega)]
    simp only [Option.bind_some]
    rw [if_pos (by simp; omega), hw]
    exact ih k _ (i + 1) (by omega) (by omega) (by omega) (by simp; omega) (by omega)

theorem FnExactPutHex : laws_FnExactPutHex.Pure := by
  intro s _
  unfold laws_FnExactPutHex.f spec_PutHex.f spec_l01Hex.f impl_PutHex.f
  by_cases h : (s.size : Int) > 1048576
  · exact ⟨0, by rw [if_pos h]⟩
  · obtain ⟨r, hr⟩ := hex_total s (by omega) s.size (s.size + 1) [] 0 (by omega) (by omega) (by omega) (by simp) (by omega)
    refine ⟨s.size + 1, ?_⟩
    rw [if_neg h, hex_eq, hr]
    simp

end Go.Proofs.Ytncbjkcpibajaaa.Pure
