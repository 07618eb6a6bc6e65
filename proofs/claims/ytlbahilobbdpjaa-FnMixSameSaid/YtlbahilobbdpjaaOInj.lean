/- Plain laws of the hash: another word modulo 2 to the 32 makes another hash, the same word modulo 2 to the 32 the same. Conditions: each theorem's own. -/
import Derived.Test.YtlbahilobbdpjaaOMix
namespace Go.Proofs.Ytlbahilobbdpjaa.Pure
open Go.RowKit Go.Proofs.Ytlbahilobbdpjaa.Q Go.Proofs.YtlbahilobbdpjaaW.PrintWords Go.Proofs.YtlbahilobbdpjaaW.PrintLast Go.Proofs.YtlbahilobbdpjaaW.PrintMore

theorem xorshift_inj (a b s : Nat) (hs : 0 < s) (h : a ^^^ (a >>> s) = b ^^^ (b >>> s)) : a = b := by
  have h1 : a ^^^ b = (a ^^^ b) >>> s := by
    rw [Nat.shiftRight_xor_distrib]
    have e : (a ^^^ (a >>> s)) ^^^ ((b >>> s) ^^^ a) = (b ^^^ (b >>> s)) ^^^ ((b >>> s) ^^^ a) := by rw [h]
    have e1 : (a ^^^ (a >>> s)) ^^^ ((b >>> s) ^^^ a) = (a >>> s) ^^^ (b >>> s) := by
      rw [Nat.xor_comm (b >>> s) a, Nat.xor_assoc, ← Nat.xor_assoc (a >>> s), Nat.xor_comm (a >>> s) a, Nat.xor_assoc, ← Nat.xor_assoc, Nat.xor_self, Nat.zero_xor]
    have e2 : (b ^^^ (b >>> s)) ^^^ ((b >>> s) ^^^ a) = a ^^^ b := by
      rw [Nat.xor_assoc, ← Nat.xor_assoc (b >>> s), Nat.xor_self, Nat.zero_xor, Nat.xor_comm]
    rw [e1, e2] at e
    exact e.symm
  have h2 : (a ^^^ b) >>> s = (a ^^^ b) / 2 ^ s := Nat.shiftRight_eq_div_pow _ _
  generalize hd : a ^^^ b = d at h1 h2
  have hp : 2 ≤ 2 ^ s := by
    calc 2 = 2 ^ 1 := rfl
      _ ≤ 2 ^ s := Nat.pow_le_pow_right (by decide) hs
  have h0 : d = 0 := by
    rcases Nat.eq_zero_or_pos d with h0 | h0
    · exact h0
    · have := Nat.div_lt_self h0 hp
      omega
  rw [h0] at hd
  have e3 : (a ^^^ b) ^^^ b = 0 ^^^ b := by rw [hd]
  rw [Nat.xor_assoc, Nat.xor_self, Nat.xor_zero, Nat.zero_xor] at e3
  exact e3
theorem xor32_shift_inj (a b : Int) (s : Nat) (c : Int) (hc : c = ((2 ^ s : Nat) : Int)) (hs : 0 < s) (ha : 0 ≤ a) (ha' : a < 4294967296) (hb : 0 ≤ b) (hb' : b < 4294967296) (h : Go.bits .xor .u32 a (a / c) = Go.bits .xor .u32 b (b / c)) : a = b := by
  obtain ⟨n, rfl⟩ := Int.eq_ofNat_of_zero_le ha
  obtain ⟨m, rfl⟩ := Int.eq_ofNat_of_zero_le hb
  subst hc
  have hn : n / 2 ^ s ≤ n := Nat.div_le_self _ _
  have hm : m / 2 ^ s ≤ m := Nat.div_le_self _ _
  rw [← Int.natCast_ediv, ← Int.natCast_ediv, xor32 n _ (by omega) (by omega), xor32 m _ (by omega) (by omega)] at h
  have h' : n ^^^ (n / 2 ^ s) = m ^^^ (m / 2 ^ s) := by omega
  rw [← Nat.shiftRight_eq_div_pow, ← Nat.shiftRight_eq_div_pow] at h'
  rw [xorshift_inj n m s hs h']
theorem small_mul (a b c v q t : Int) (e : c * v = 1 + q * 4294967296) (ha : 0 ≤ a) (ha' : a < 4294967296) (hb : 0 ≤ b) (hb' : b < 4294967296) (ht : a * c - b * c = 4294967296 * t) : a = b := by
  have h1 : (a - b) * c = 4294967296 * t := by rw [Int.sub_mul]; exact ht
  have h2 : (a - b) * c * v = 4294967296 * t * v := by rw [h1]
  rw [Int.mul_assoc, e, Int.mul_add, Int.mul_one, Int.mul_assoc, ← Int.mul_assoc (a - b), Int.mul_comm ((a - b) * q)] at h2
  generalize (a - b) * q = x at h2
  generalize t * v = y at h2
  omega
theorem mul_c1 (a b : Int) (ha : 0 ≤ a) (ha' : a < 4294967296) (hb : 0 ≤ b) (hb' : b < 4294967296) (h : (a * 16777619) % 4294967296 = (b * 16777619) % 4294967296) : a = b := by
  obtain ⟨t, ht⟩ := Int.dvd_of_emod_eq_zero (Int.emod_eq_emod_iff_emod_sub_eq_zero.1 h)
  exact small_mul a b 16777619 899433627 3513497 t (by decide) ha ha' hb hb' ht
theorem mul_c2 (a b : Int) (ha : 0 ≤ a) (ha' : a < 4294967296) (hb : 0 ≤ b) (hb' : b < 4294967296) (h : (a * 1540483477) % 4294967296 = (b * 1540483477) % 4294967296) : a = b := by
  obtain ⟨t, ht⟩ := Int.dvd_of_emod_eq_zero (Int.emod_eq_emod_iff_emod_sub_eq_zero.1 h)
  exact small_mul a b 1540483477 3852147133 1381656390 t (by decide) ha ha' hb hb' ht
theorem mixC_inj (a b : Int) (ha : 0 ≤ a) (ha' : a < 4294967296) (hb : 0 ≤ b) (hb' : b < 4294967296) (h : mixC a = mixC b) : a = b :=
  xor32_shift_inj a b 13 8192 rfl (by decide) ha ha' hb hb' h
theorem mixB_inj (a b : Int) (ha : 0 ≤ a) (ha' : a < 4294967296) (hb : 0 ≤ b) (hb' : b < 4294967296) (h : mixB a = mixB b) : a = b := by
  have h1 := (xor_same a (a / 32768) ha ha' (by omega) (by omega)).2
  have h2 := (xor_same b (b / 32768) hb hb' (by omega) (by omega)).2
  exact xor32_shift_inj a b 15 32768 rfl (by decide) ha ha' hb hb' (mul_c2 _ _ h1.1 h1.2 h2.1 h2.2 h)
theorem xor_in (a b : Int) (ha : 0 ≤ a) (ha' : a < 4294967296) (hb : 0 ≤ b) (hb' : b < 4294967296) : 0 ≤ Go.bits .xor .u32 a b ∧ Go.bits .xor .u32 a b < 4294967296 := (xor_same a b ha ha' hb hb').2
theorem mixA_inj (h x h' x' : Int) (ha : 0 ≤ h) (ha' : h < 4294967296) (hb : 0 ≤ h') (hb' : h' < 4294967296) (e : mixA h x = mixA h' x') : Go.bits .xor .u32 h (x % 4294967296) = Go.bits .xor .u32 h' (x' % 4294967296) := by
  have h1 := xor_in h (x % 4294967296) ha ha' (by omega) (by omega)
  have h2 := xor_in h' (x' % 4294967296) hb hb' (by omega) (by omega)
  exact mul_c1 _ _ h1.1 h1.2 h2.1 h2.2 e
theorem mixStep_inj (h x h' x' : Int) (ha : 0 ≤ h) (ha' : h < 4294967296) (hb : 0 ≤ h') (hb' : h' < 4294967296) (e : mixStep h x = mixStep h' x') : Go.bits .xor .u32 h (x % 4294967296) = Go.bits .xor .u32 h' (x' % 4294967296) := by
  have h1 := mixB_range (mixA h x)
  have h2 := mixB_range (mixA h' x')
  have h3 := mixA_range h x
  have h4 := mixA_range h' x'
  exact mixA_inj _ _ _ _ ha ha' hb hb' (mixB_inj _ _ h3.1 h3.2 h4.1 h4.2 (mixC_inj _ _ h1.1 h1.2 h2.1 h2.2 e))
theorem xor_right_inj (h x y : Int) (ha : 0 ≤ h) (ha' : h < 4294967296) (hx : 0 ≤ x) (hx' : x < 4294967296) (hy : 0 ≤ y) (hy' : y < 4294967296) (e : Go.bits .xor .u32 h x = Go.bits .xor .u32 h y) : x = y := by
  obtain ⟨n, rfl⟩ := Int.eq_ofNat_of_zero_le ha
  obtain ⟨a, rfl⟩ := Int.eq_ofNat_of_zero_le hx
  obtain ⟨b, rfl⟩ := Int.eq_ofNat_of_zero_le hy
  rw [xor32 n a (by omega) (by omega), xor32 n b (by omega) (by omega)] at e
  have e' : n ^^^ a = n ^^^ b := by omega
  have e2 : n ^^^ (n ^^^ a) = n ^^^ (n ^^^ b) := by rw [e']
  rw [← Nat.xor_assoc, ← Nat.xor_assoc, Nat.xor_self, Nat.zero_xor, Nat.zero_xor] at e2
  rw [e2]
theorem xor_left_inj (h h' x : Int) (ha : 0 ≤ h) (ha' : h < 4294967296) (hb : 0 ≤ h') (hb' : h' < 4294967296) (hx : 0 ≤ x) (hx' : x < 4294967296) (e : Go.bits .xor .u32 h x = Go.bits .xor .u32 h' x) : h = h' := by
  obtain ⟨n, rfl⟩ := Int.eq_ofNat_of_zero_le ha
  obtain ⟨m, rfl⟩ := Int.eq_ofNat_of_zero_le hb
  obtain ⟨a, rfl⟩ := Int.eq_ofNat_of_zero_le hx
  rw [xor32 n a (by omega) (by omega), xor32 m a (by omega) (by omega)] at e
  have e' : n ^^^ a = m ^^^ a := by omega
  have e2 : (n ^^^ a) ^^^ a = (m ^^^ a) ^^^ a := by rw [e']
  rw [Nat.xor_assoc, Nat.xor_assoc, Nat.xor_self, Nat.xor_zero, Nat.xor_zero] at e2
  rw [e2]
theorem mixL_inj : ∀ (l : List Int) (h h' : Int), 0 ≤ h → h < 4294967296 → 0 ≤ h' → h' < 4294967296 → mixL l h = mixL l h' → h = h'
  | [], _, _, _, _, _, _, e => e
  | x :: l, h, h', a, b, c, d, e => by
    have r1 := mixStep_range h x
    have r2 := mixStep_range h' x
    have e1 := mixL_inj l (mixStep h x) (mixStep h' x) r1.1 r1.2 r2.1 r2.2 e
    exact xor_left_inj h h' _ a b c d (by omega) (by omega) (mixStep_inj _ _ _ _ a b c d e1)
theorem mixL_set : ∀ (l : List Int) (i : Nat) (y : Int) (h : Int), 0 ≤ h → h < 4294967296 → i < l.length → mixL (l.set i y) h = mixL l h → y % 4294967296 = l.getD i 0 % 4294967296
  | [], i, _, _, _, _, hi, _ => absurd hi (Nat.not_lt_zero _)
  | x :: l, 0, y, h, a, b, _, e => by
    have r1 := mixStep_range h y
    have r2 := mixStep_range h x
    have e1 := mixL_inj l (mixStep h y) (mixStep h x) r1.1 r1.2 r2.1 r2.2 e
    exact xor_right_inj h _ _ a b (by omega) (by omega) (by omega) (by omega) (mixStep_inj _ _ _ _ a b a b e1)
  | x :: l, i + 1, y, h, a, b, hi, e => by
    have r := mixStep_range h x
    have := mixL_set l i y (mixStep h x) r.1 r.2 (by simpa using hi) e
    simpa using this
theorem mixStep_congr (h x y : Int) (e : x % 4294967296 = y % 4294967296) : mixStep h x = mixStep h y := by
  unfold mixStep mixA
  rw [e]
theorem mixL_same : ∀ (l : List Int) (i : Nat) (y : Int) (h : Int), i < l.length → y % 4294967296 = l.getD i 0 % 4294967296 → mixL (l.set i y) h = mixL l h
  | [], i, _, _, hi, _ => absurd hi (Nat.not_lt_zero _)
  | x :: l, 0, y, h, _, e => by
    show mixL l (mixStep h y) = mixL l (mixStep h x)
    rw [mixStep_congr h y x (by simpa using e)]
  | x :: l, i + 1, y, h, hi, e => mixL_same l i y (mixStep h x) (by simpa using hi) (by simpa using e)
theorem xor_far (x : Int) : Go.bits .xor .i64 x 1099511627776 % 4294967296 = x % 4294967296 := by
  have h : (BitVec.ofInt 64 x ^^^ BitVec.ofInt 64 1099511627776).toNat % 4294967296 = (x % 18446744073709551616).toNat % 4294967296 := by
    rw [BitVec.toNat_xor]
    have e1 : (BitVec.ofInt 64 1099511627776).toNat = 1099511627776 := by decide
    have e2 : (BitVec.ofInt 64 x).toNat = (x % 18446744073709551616).toNat := by simp [BitVec.toNat_ofInt]
    have e3 : (4294967296 : Nat) = 2 ^ 32 := by decide
    rw [e1, e2, e3, Nat.xor_mod_two_pow]
    have e4 : (1099511627776 : Nat) % 2 ^ 32 = 0 := by decide
    rw [e4, Nat.xor_zero]
  show IntKind.i64.wrap ((BitVec.ofInt 64 x ^^^ BitVec.ofInt 64 1099511627776).toNat : Int) % 4294967296 = _
  rw [IntKind.wrap_i64]
  generalize (BitVec.ofInt 64 x ^^^ BitVec.ofInt 64 1099511627776).toNat = n at h
  omega
end Go.Proofs.Ytlbahilobbdpjaa.Pure
