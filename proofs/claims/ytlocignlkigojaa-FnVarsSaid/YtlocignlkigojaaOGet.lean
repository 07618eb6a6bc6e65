/- Plain laws of reading a variable-length number: the program's and the reference's reader come to one function. Conditions: the bounds that each theorem names. -/
import Derived.Test.YtlocignlkigojaaOBits
import Derived.Test.YtlocignlkigojaaQf46
namespace Go.Proofs.Ytlocignlkigojaa.Pure
open Go.RowKit Go.Proofs.Ytlocignlkigojaa.Q Go.Proofs.YtlocignlkigojaaW.PrintWords Go.Proofs.YtlocignlkigojaaW.PrintLast Go.Proofs.YtlocignlkigojaaW.PrintMore
set_option linter.unusedVariables false
set_option linter.unusedSimpArgs false

/-- a byte as a number -/
def bn (s : ByteArray) (i : Nat) : Nat := (bt s i).toNat
theorem bn_bt (s : ByteArray) (i : Nat) : bt s i = ((bn s i : Nat) : Int) ∧ bn s i ≤ 255 := by
  have := bt_range s i
  unfold bn
  omega
/-- what is read from byte i on, n read so far; at most f bytes more -/
def getV (s : ByteArray) : Nat → Nat → Nat → Int × Int × Bool
  | 0, _, _ => (0, 0, false)
  | f + 1, i, n =>
    if i < s.size then
      if bn s i < 128 then
        if n + bn s i % 128 * 128 ^ i > 4611686018427387904 ∨ (0 < i ∧ bn s i = 0) then (0, 0, false) else (((n + bn s i % 128 * 128 ^ i : Nat) : Int), ((i + 1 : Nat) : Int), true)
      else getV s f (i + 1) (n + bn s i % 128 * 128 ^ i)
    else (0, 0, false)
theorem pow128 (i : Nat) (h : i ≤ 8) : 128 ^ i ≤ 72057594037927936 ∧ 0 < 128 ^ i := by
  have h1 : 128 ^ i ≤ 128 ^ 8 := Nat.pow_le_pow_right (by decide) h
  have h2 : (128 : Nat) ^ 8 = 72057594037927936 := by decide
  exact ⟨by omega, Nat.pow_pos (by decide)⟩
theorem pow_two7 (i : Nat) : (2 : Nat) ^ (7 * i) = 128 ^ i := by rw [Nat.pow_mul]
theorem or64 (a b : Nat) (ha : a < 2 ^ 63) (hb : b < 2 ^ 63) : Go.bits .or .i64 (a : Int) (b : Int) = ((a ||| b : Nat) : Int) := by
  have hx : a ||| b < 2 ^ 63 := Nat.or_lt_two_pow ha hb
  have h : (BitVec.ofInt 64 (a : Int) ||| BitVec.ofInt 64 (b : Int)).toNat = a ||| b := by
    rw [BitVec.toNat_or, BitVec.ofInt_natCast, BitVec.ofInt_natCast, BitVec.toNat_ofNat, BitVec.toNat_ofNat, Nat.mod_eq_of_lt (by omega), Nat.mod_eq_of_lt (by omega)]
  show IntKind.i64.wrap ((BitVec.ofInt 64 (a : Int) ||| BitVec.ofInt 64 (b : Int)).toNat : Int) = _
  rw [h, IntKind.wrap_i64]
  omega
theorem join7 (n c i : Nat) (hi : i ≤ 8) (hn : n < 128 ^ i) (hc : c < 128) : Go.bits .or .i64 (n : Int) (shl .i64 (c : Int) (7 * (i : Int))) = ((n + c * 128 ^ i : Nat) : Int) := by
  have hp := pow128 i hi
  have hq : c * 128 ^ i ≤ 127 * 128 ^ i := Nat.mul_le_mul_right _ (by omega)
  have hs : shl .i64 (c : Int) (7 * (i : Int)) = ((c * 128 ^ i : Nat) : Int) := by
    unfold shl
    have e1 : (7 * (i : Int)).toNat = 7 * i := by omega
    have e2 : min (7 * i) IntKind.i64.bits = 7 * i := Nat.min_eq_left (by show 7 * i ≤ 64; omega)
    rw [e1, e2, show ((2 : Int) ^ (7 * i)) = (((2 : Nat) ^ (7 * i) : Nat) : Int) from by simp, pow_two7, ← Int.natCast_mul, IntKind.wrap_i64]
    generalize c * 128 ^ i = q at hq
    omega
  rw [hs, or64 n _ (by omega) (by omega), Nat.or_comm, Nat.add_comm n]
  congr 1
  rw [Nat.mul_comm c, ← pow_two7, ← Nat.two_pow_add_eq_or_of_lt (by rw [pow_two7]; exact hn)]

theorem pow_next (n c i : Nat) (hn : n < 128 ^ i) (hc : c < 128) : n + c * 128 ^ i < 128 ^ (i + 1) := by
  have hq : c * 128 ^ i ≤ 127 * 128 ^ i := Nat.mul_le_mul_right _ (by omega)
  rw [Nat.pow_succ]
  generalize c * 128 ^ i = q at hq
  generalize 128 ^ i = p at *
  omega
set_option maxHeartbeats 4000000 in
theorem getV_impl (s : ByteArray) (hs : s.size ≤ 1048576) : ∀ (f k i n : Nat), i + f = 9 → n < 128 ^ i → 2 * f + 3 < k → impl_GetVar.l0 k s n i = some (getV s f i n)
  | 0, k, i, n, hi, hn, hk => by
    obtain ⟨k, rfl⟩ : ∃ m, k = m + 1 + 1 := ⟨k - 2, by omega⟩
    have e : i = 9 := by omega
    subst e
    simp only [impl_GetVar.l0, impl_GetVar.j1]
    skip
    split <;> simp [getV]
  | f + 1, k, i, n, hi, hn, hk => by
    obtain ⟨k, rfl⟩ : ∃ m, k = m + 1 + 1 := ⟨k - 2, by omega⟩
    have hb := bn_bt s i
    simp only [impl_GetVar.l0, impl_GetVar.j1, getV]
    have hk' : 2 * f + 3 < k := by omega
    have hi' : i + 1 + f = 9 := by omega
    have hi8 : i ≤ 8 := by omega
    have c0 : (0 : Int) ≤ (i : Int) := by omega
    have c7 : (0 : Int) ≤ 7 * (i : Int) := by omega
    by_cases hl : i < s.size
    · have cl : (i : Int) < (s.size : Int) := by omega
      have hc1 : (((bn s i : Nat) : Int) < 128) = (bn s i < 128) := propext (by omega)
      have hc2 : (((bn s i : Nat) : Int) = 0) = (bn s i = 0) := propext (by omega)
      have hc3 : ((i : Int) > 0) = (0 < i) := propext (by omega)
      have hc4 : ∀ m : Nat, ((m : Int) > 4611686018427387904) = (m > 4611686018427387904) := fun m => propext (by omega)
      have h9 : decide ((i : Int) < 9) = true := decide_eq_true (by omega)
      have hc : bn s i % 128 < 128 := Nat.mod_lt _ (by decide)
      have e7 : wrap64 (7 * (i : Int)) = 7 * (i : Int) := by unfold wrap64; omega
      have eb : wrap64 (bt s i) = ((bn s i : Nat) : Int) := by rw [hb.1]; unfold wrap64; omega
      have et : Int.tmod ((bn s i : Nat) : Int) 128 = ((bn s i % 128 : Nat) : Int) := by rw [Int.tmod_eq_emod_of_nonneg (by omega)]; omega
      have ei : wrap64 ((i : Int) + 1) = ((i + 1 : Nat) : Int) := by unfold wrap64; omega
      rw [if_pos cl, h9, if_pos rfl, if_pos c0, if_pos cl, e7, if_pos c7, eb, et, join7 n _ i hi8 hn hc, ei, if_pos hl]
      simp only [hc1, hc2, hc3, hc4]
      by_cases h1 : bn s i < 128
      · rw [if_pos h1, if_pos h1]
        generalize n + bn s i % 128 * 128 ^ i = m
        by_cases h2 : m > 4611686018427387904
        · rw [if_pos h2, if_pos (.inl h2)]
        · rw [if_neg h2]
          by_cases h3 : 0 < i
          · rw [if_pos h3]
            by_cases h4 : bn s i = 0
            · rw [if_pos h4, if_pos (.inr ⟨h3, h4⟩)]
            · rw [if_neg h4, if_neg (fun h => h.elim h2 (fun h => h4 h.2))]
          · rw [if_neg h3, if_neg (fun h => h.elim h2 (fun h => h3 h.1))]
      · rw [if_neg h1, if_neg h1]
        exact getV_impl s hs f k (i + 1) _ hi' (pow_next _ _ _ hn hc) hk'
    · have cl : ¬ (i : Int) < (s.size : Int) := by omega
      rw [if_neg cl, if_neg hl]
      simp
theorem impl_GetVar_is (s : ByteArray) (hs : s.size ≤ 1048576) (k : Nat) (hk : 40 < k) : impl_GetVar.f k s = some (getV s 9 0 0) := getV_impl s hs 9 k 0 0 (by omega) (by decide) (by omega)
/-- what is read lies in the string -/
theorem getV_ok (s : ByteArray) : ∀ (f i n : Nat), (getV s f i n).2.2 = true → 0 ≤ (getV s f i n).1 ∧ (getV s f i n).1 ≤ 4611686018427387904 ∧ 1 ≤ (getV s f i n).2.1 ∧ (getV s f i n).2.1 ≤ s.size
  | 0, _, _ => by simp [getV]
  | f + 1, i, n => by
    unfold getV
    split
    · split
      · split
        · simp
        · intro _
          rename_i h1 _ h2
          refine ⟨?_, ?_, ?_, ?_⟩ <;> simp only <;> omega
      · exact getV_ok s f (i + 1) _
    · simp

end Go.Proofs.Ytlocignlkigojaa.Pure
