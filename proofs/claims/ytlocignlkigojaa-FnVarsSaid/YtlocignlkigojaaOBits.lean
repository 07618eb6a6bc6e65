/- Plain laws of bits: and, or, xor and shifts of whole numbers, as numbers. Conditions: each theorem's own bounds. -/
import Derived.Test.YtlocignlkigojaaWMore
import Derived.Laws.BitsLemmas
namespace Go.Proofs.Ytlocignlkigojaa.Pure
open Go.RowKit Go.Proofs.YtlocignlkigojaaW.PrintWords Go.Proofs.YtlocignlkigojaaW.PrintLast Go.Proofs.YtlocignlkigojaaW.PrintMore
set_option linter.unusedVariables false
set_option linter.unusedSimpArgs false

theorem and32 (x : Int) : Go.bits .and .i64 x 4294967295 = x % 4294967296 := by
  have h : (BitVec.ofInt 64 x &&& BitVec.ofInt 64 4294967295).toNat = (x % 4294967296).toNat := by
    rw [BitVec.toNat_and]
    have e1 : (BitVec.ofInt 64 4294967295).toNat = 2 ^ 32 - 1 := by decide
    have e2 : (BitVec.ofInt 64 x).toNat = (x % 18446744073709551616).toNat := by simp [BitVec.toNat_ofInt]
    rw [e1, e2, Nat.and_two_pow_sub_one_eq_mod]
    omega
  show IntKind.i64.wrap ((BitVec.ofInt 64 x &&& BitVec.ofInt 64 4294967295).toNat : Int) = _
  rw [h, IntKind.wrap_i64]
  omega
theorem xor64 (a b : Nat) (ha : a < 2 ^ 63) (hb : b < 2 ^ 63) : Go.bits .xor .i64 (a : Int) (b : Int) = ((a ^^^ b : Nat) : Int) := by
  have hx : a ^^^ b < 2 ^ 63 := Nat.xor_lt_two_pow ha hb
  have h : (BitVec.ofInt 64 (a : Int) ^^^ BitVec.ofInt 64 (b : Int)).toNat = a ^^^ b := by
    rw [BitVec.toNat_xor, BitVec.ofInt_natCast, BitVec.ofInt_natCast, BitVec.toNat_ofNat, BitVec.toNat_ofNat, Nat.mod_eq_of_lt (by omega), Nat.mod_eq_of_lt (by omega)]
  show IntKind.i64.wrap ((BitVec.ofInt 64 (a : Int) ^^^ BitVec.ofInt 64 (b : Int)).toNat : Int) = _
  rw [h, IntKind.wrap_i64]
  omega
theorem xor32 (a b : Nat) (ha : a < 2 ^ 32) (hb : b < 2 ^ 32) : Go.bits .xor .u32 (a : Int) (b : Int) = ((a ^^^ b : Nat) : Int) := by
  have hx : a ^^^ b < 2 ^ 32 := Nat.xor_lt_two_pow ha hb
  have h : (BitVec.ofInt 32 (a : Int) ^^^ BitVec.ofInt 32 (b : Int)).toNat = a ^^^ b := by
    rw [BitVec.toNat_xor, BitVec.ofInt_natCast, BitVec.ofInt_natCast, BitVec.toNat_ofNat, BitVec.toNat_ofNat, Nat.mod_eq_of_lt (by omega), Nat.mod_eq_of_lt (by omega)]
  show IntKind.u32.wrap ((BitVec.ofInt 32 (a : Int) ^^^ BitVec.ofInt 32 (b : Int)).toNat : Int) = _
  rw [h, IntKind.wrap_u32]
  omega
theorem xor_same (a b : Int) (ha : 0 ≤ a) (ha' : a < 4294967296) (hb : 0 ≤ b) (hb' : b < 4294967296) : Go.bits .xor .i64 a b = Go.bits .xor .u32 a b ∧ 0 ≤ Go.bits .xor .u32 a b ∧ Go.bits .xor .u32 a b < 4294967296 := by
  obtain ⟨n, rfl⟩ := Int.eq_ofNat_of_zero_le ha
  obtain ⟨m, rfl⟩ := Int.eq_ofNat_of_zero_le hb
  have h1 : n < 2 ^ 32 := by omega
  have h2 : m < 2 ^ 32 := by omega
  have hx : n ^^^ m < 2 ^ 32 := Nat.xor_lt_two_pow h1 h2
  rw [xor64 n m (by omega) (by omega), xor32 n m h1 h2]
  exact ⟨rfl, by omega, by omega⟩

/-- two calls that return the same number: comparing them says true -/
theorem eq_then (x y : Option Int) (h : Int) (hx : x = some h) (hy : y = some h) : (x.bind fun t115 => (y.bind fun t116 => (if t116 = t115 then (some true) else (some false)))) = some true := by
  subst hx hy
  simp
theorem eq_then2 (x y : Option (Int × Int)) (h : Int × Int) (hx : x = some h) (hy : y = some h) : (x.bind fun b1 => (y.bind fun b2 => (if b2.1 = b1.1 then (if b2.2 = b1.2 then (some true) else (some false)) else (some false)))) = some true := by
  subst hx hy
  simp
theorem eq_thenB (x y : Option Bool) (h : Bool) (hx : x = some h) (hy : y = some h) : (x.bind fun t1 => (y.bind fun t2 => (if (t2 != t1) = true then (some false) else (some true)))) = some true := by
  subst hx hy
  simp
end Go.Proofs.Ytlocignlkigojaa.Pure
