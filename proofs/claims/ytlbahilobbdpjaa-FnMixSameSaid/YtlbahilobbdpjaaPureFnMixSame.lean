/- The pure statement of FnMixSame: another word modulo 2 to the 32 makes another hash, the same word modulo 2 to the 32 the same. -/
import Derived.Test.YtlbahilobbdpjaaQf13
import Derived.Test.YtlbahilobbdpjaaONum
import Derived.Test.YtlbahilobbdpjaaOInj
namespace Go.Proofs.Ytlbahilobbdpjaa.Pure
open Go.RowKit Go.Proofs.Ytlbahilobbdpjaa.Q Go.Proofs.YtlbahilobbdpjaaW.PrintWords Go.Proofs.YtlbahilobbdpjaaW.PrintLast Go.Proofs.YtlbahilobbdpjaaW.PrintMore

theorem mix_bytes (i : Int) (l : List Int) (hb : IsBytes l) (hl : l.length ≤ 1048576) : ∃ m, laws_a8Mix.f i l = some m ∧ IsBytes m := by
  unfold laws_a8Mix.f
  rw [Option.bind_some, if_pos (by simp; omega)]
  refine ⟨_, rfl, fun x hx => ?_⟩
  rcases List.mem_append.1 hx with h | h
  · simp at h; omega
  · exact hb x h
theorem mixSame_loop (l : List Int) (hb : IsBytes l) (hl : l.length ≤ 1048576) (m : Int) (hm : laws_a8At.f l 0 6 = some m) (hm0 : 0 ≤ m) (hm1 : m < 6) : ∀ (d i : Nat) (xs : List Int), (i : Int) + d = m + 1 → xs.length = i → ∀ k, d + 20 < k → laws_FnMixSame.l0 k l xs i = some true
  | 0, i, xs, hd, hx, k, hk => by
    obtain ⟨k, rfl⟩ : ∃ q, k = q + 1 := ⟨k - 1, by omega⟩
    obtain ⟨t, e1, t0, t1⟩ := a8At_pos l hb hl 1 (xs.length : Int) (by omega) (by omega) (by omega) (by omega)
    obtain ⟨v, e2, v0, v1⟩ := a8At_pos l hb hl 2 60000 (by omega) (by omega) (by omega) (by omega)
    obtain ⟨n, rfl⟩ := Int.eq_ofNat_of_zero_le t0
    have hn : n < xs.length := by omega
    have b1 : (([] : List Int).length + xs.length < 17592186044416) := by simp; omega
    have b2 : (n : Int) < (xs.length : Int) := by omega
    have hr := hash_range xs
    have ew : wrap64 (1 + v) = 1 + v := by unfold wrap64; omega
    have er : rd xs (n : Int) = xs.getD n 0 := rfl
    have h1 : hash (xs.set n (wrap64 (rd xs n + (1 + v)))) ≠ hash xs := fun h => by
      have := mixL_set xs n _ _ (by decide) (by decide) hn h
      rw [wrap_mod, er] at this
      omega
    have h2 : hash (xs.set n (Go.bits .xor .i64 (rd xs n) 1099511627776)) = hash xs := mixL_same xs n _ _ hn (by rw [xor_far, er])
    simp only [laws_FnMixSame.l0]
    rw [hm, Option.bind_some, if_neg (by omega), e1]
    simp only [Option.bind_some, List.nil_append, b1, b2, if_true, Int.toNat_natCast]
    rw [if_pos t0, e2]
    simp only [Option.bind_some]
    rw [impl_Mix_hash xs (by omega) k (by omega), Option.bind_some, if_pos hr.1, if_pos hr.2, impl_Mix_hash _ (by rw [List.length_set]; omega) k (by rw [List.length_set]; omega), Option.bind_some, ew, if_neg h1,
      impl_Mix_hash _ (by rw [List.length_set]; omega) k (by rw [List.length_set]; omega), Option.bind_some, h2]
    simp
  | d + 1, i, xs, hd, hx, k, hk => by
    obtain ⟨k, rfl⟩ : ∃ q, k = q + 1 := ⟨k - 1, by omega⟩
    obtain ⟨lm, e1, hb1⟩ := mix_bytes i l hb hl
    obtain ⟨w, hw⟩ := A8Number_is lm hb1
    have ei : wrap64 ((i : Int) + 1) = ((i + 1 : Nat) : Int) := by unfold wrap64; omega
    simp only [laws_FnMixSame.l0]
    rw [hm, Option.bind_some, if_pos (by omega), e1, Option.bind_some, hw k (by omega), Option.bind_some, if_pos (by omega), ei]
    exact mixSame_loop l hb hl m hm hm0 hm1 d (i + 1) _ (by omega) (by simp; omega) k (by omega)
theorem FnMixSame : laws_FnMixSame.Pure := by
  intro l _ _ hwf
  have hb := bytes_of_wf hwf
  unfold laws_FnMixSame.f
  by_cases h : (l.length : Int) > 1048576
  · exact ⟨0, by rw [if_pos h]⟩
  · obtain ⟨m, e, m0, m1⟩ := a8At_pos l hb (by omega) 0 6 (by omega) (by omega) (by omega) (by omega)
    obtain ⟨n, rfl⟩ := Int.eq_ofNat_of_zero_le m0
    refine ⟨n + 1 + 21, ?_⟩
    rw [if_neg h]
    exact mixSame_loop l hb (by omega) n e m0 m1 (n + 1) 0 [] (by omega) rfl _ (by omega)

end Go.Proofs.Ytlbahilobbdpjaa.Pure
