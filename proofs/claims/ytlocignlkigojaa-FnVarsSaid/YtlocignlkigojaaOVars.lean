/- Plain laws of encodings: what is written is read again. Conditions: the bounds that each theorem names. -/
import Derived.Test.YtlocignlkigojaaOLoop
import Derived.Test.YtlocignlkigojaaOBytes
import Derived.Test.YtlocignlkigojaaOVar
import Derived.Test.YtlocignlkigojaaOGet
import Derived.Test.YtlocignlkigojaaQf48
import Derived.Test.YtlocignlkigojaaQf47
import Derived.Test.YtlocignlkigojaaQf50
import Derived.Test.YtlocignlkigojaaQf49
namespace Go.Proofs.Ytlocignlkigojaa.Pure
open Go.RowKit Go.Proofs.Ytlocignlkigojaa.Q Go.Proofs.YtlocignlkigojaaW.PrintWords Go.Proofs.YtlocignlkigojaaW.PrintLast Go.Proofs.YtlocignlkigojaaW.PrintMore
set_option linter.unusedVariables false
set_option linter.unusedSimpArgs false

theorem varN_bytes : ∀ (g n : Nat), n < 128 ^ g → ∀ x ∈ varN g n, 0 ≤ x ∧ x ≤ 255
  | 0, _, _ => by simp [varN]
  | g + 1, n, h => by
    intro x hx
    unfold varN at hx
    by_cases c : n ≥ 128
    · rw [if_pos c] at hx
      rcases List.mem_cons.1 hx with rfl | hx
      · omega
      · exact varN_bytes g (n / 128) (by rw [Nat.div_lt_iff_lt_mul (by omega)]; rw [Nat.pow_succ] at h; exact h) x hx
    · rw [if_neg c] at hx
      simp only [List.mem_singleton] at hx
      omega
theorem varN_more : ∀ (g n : Nat), 0 < g → n < 128 ^ g → varN (g + 1) n = varN g n
  | 0, _, h, _ => absurd h (Nat.lt_irrefl 0)
  | g + 1, n, _, h => by
    unfold varN
    by_cases c : n ≥ 128
    · rw [if_pos c, if_pos c]
      have hd : n / 128 < 128 ^ g := by rw [Nat.div_lt_iff_lt_mul (by omega)]; rw [Nat.pow_succ] at h; exact h
      have hg : 0 < g := by
        rcases Nat.eq_zero_or_pos g with e | e
        · subst e; simp at hd; omega
        · exact e
      rw [varN_more g (n / 128) hg hd]
    · rw [if_neg c, if_neg c]
theorem varN_pos (g n : Nat) (h : 0 < g) : 0 < (varN g n).length := by
  cases g with
  | zero => exact absurd h (Nat.lt_irrefl 0)
  | succ g =>
    unfold varN
    by_cases c : n ≥ 128
    · rw [if_pos c]; simp
    · rw [if_neg c]; simp
theorem varOf_nine (n : Nat) (hn : n ≤ 4611686018427387904) : varOf n = strOfNums (varN 9 n) := by
  have h : n < 128 ^ 9 := by
    have : (128 : Nat) ^ 9 = 9223372036854775808 := by decide
    omega
  unfold varOf
  rw [varN_more 9 n (by decide) h]
theorem split128 (n p : Nat) : n % 128 * p + n / 128 * (p * 128) = n * p := by
  have h := Nat.div_add_mod n 128
  calc n % 128 * p + n / 128 * (p * 128) = (128 * (n / 128) + n % 128) * p := by
        rw [Nat.add_mul, Nat.mul_comm p 128, ← Nat.mul_assoc, Nat.mul_comm (n / 128) 128, Nat.add_comm]
    _ = n * p := by rw [h]
theorem bn_of (s : ByteArray) (i v : Nat) (h : bt s (i : Int) = (v : Int)) : bn s i = v := by
  unfold bn
  omega
theorem getV_var (s : ByteArray) : ∀ (f g n i m : Nat), n < 128 ^ f → n < 128 ^ g → 0 < g → (n = 0 → 0 < f) → (∀ j (hj : j < (varN g n).length), i + j < s.size ∧ bt s ((i + j : Nat) : Int) = (varN g n)[j]) → (0 < i → 0 < n) → m + n * 128 ^ i ≤ 4611686018427387904 →
    getV s f i m = (((m + n * 128 ^ i : Nat) : Int), ((i + (varN g n).length : Nat) : Int), true)
  | 0, g, n, i, m, hf, _, _, h0, _, _, _ => by
    have : n = 0 := by simpa using hf
    exact absurd (h0 this) (Nat.lt_irrefl 0)
  | f + 1, 0, n, i, m, _, _, hg, _, _, _, _ => absurd hg (Nat.lt_irrefl 0)
  | f + 1, g + 1, n, i, m, hf, hgn, _, h0, hs, hi, hm => by
    have hz := hs 0 (varN_pos (g + 1) n (by omega))
    rw [Nat.add_zero] at hz
    unfold getV
    rw [if_pos hz.1]
    by_cases c : n ≥ 128
    · have hv : varN (g + 1) n = ((n % 128 + 128 : Nat) : Int) :: varN g (n / 128) := by
        conv => lhs; unfold varN
        rw [if_pos c]
      have hb : bn s i = n % 128 + 128 := bn_of s i _ (by rw [hz.2]; simp only [hv, List.getElem_cons_zero])
      have hd : n / 128 < 128 ^ f := by rw [Nat.div_lt_iff_lt_mul (by omega)]; rw [Nat.pow_succ] at hf; exact hf
      have hd2 : n / 128 < 128 ^ g := by rw [Nat.div_lt_iff_lt_mul (by omega)]; rw [Nat.pow_succ] at hgn; exact hgn
      have hpos : 1 ≤ n / 128 := by omega
      have hg : 0 < g := by
        rcases Nat.eq_zero_or_pos g with e | e
        · subst e; simp at hd2; omega
        · exact e
      have hm2 : (n % 128 + 128) % 128 = n % 128 := by omega
      rw [hb, if_neg (by omega), hm2]
      have hsp := split128 n (128 ^ i)
      have hrec := getV_var s f g (n / 128) (i + 1) (m + n % 128 * 128 ^ i) hd hd2 hg (fun e => by omega) (fun j hj => by
        have h1 := hs (j + 1) (by rw [hv]; simpa using hj)
        refine ⟨by omega, ?_⟩
        have e : i + 1 + j = i + (j + 1) := by omega
        rw [e, h1.2]
        simp only [hv, List.getElem_cons_succ]) (fun _ => by omega) (by rw [Nat.pow_succ, Nat.add_assoc, hsp]; exact hm)
      rw [hrec, hv, Nat.pow_succ, Nat.add_assoc, hsp, List.length_cons]
      have e : i + 1 + (varN g (n / 128)).length = i + ((varN g (n / 128)).length + 1) := by omega
      rw [e]
    · have hv : varN (g + 1) n = [(n : Int)] := by
        conv => lhs; unfold varN
        rw [if_neg c]
      have hb : bn s i = n := bn_of s i _ (by rw [hz.2]; simp only [hv, List.getElem_cons_zero])
      have hm2 : n % 128 = n := by omega
      rw [hb, if_pos (by omega), hm2, if_neg (by
        intro h
        rcases h with h | ⟨h1, h2⟩
        · omega
        · have := hi h1; omega), hv]
      rfl
theorem bl_varOf (n : Nat) (hn : n ≤ 4611686018427387904) : bl (varOf n) = varN 9 n := by
  have h : n < 128 ^ 9 := by
    have : (128 : Nat) ^ 9 = 9223372036854775808 := by decide
    omega
  rw [varOf_nine n hn, bl_nums _ (varN_bytes 9 n h)]
theorem varOf_size9 (n : Nat) (hn : n ≤ 4611686018427387904) : (varOf n).size = (varN 9 n).length ∧ 1 ≤ (varOf n).size ∧ (varOf n).size ≤ 9 := by
  have h : n < 128 ^ 9 := by
    have : (128 : Nat) ^ 9 = 9223372036854775808 := by decide
    omega
  have e : (varOf n).size = (varN 9 n).length := by rw [varOf_nine n hn, nums_size]
  have := varN_length 9 n h
  have := varN_pos 9 n (by decide)
  omega
/-- a number comes back from its bytes, whatever stands behind -/
theorem get_put_var (n : Nat) (hn : n ≤ 4611686018427387904) (rest : ByteArray) : getV (varOf n ++ rest) 9 0 0 = ((n : Int), ((varOf n).size : Int), true) := by
  have h : n < 128 ^ 9 := by
    have : (128 : Nat) ^ 9 = 9223372036854775808 := by decide
    omega
  have hsz := varOf_size9 n hn
  have hg := getV_var (varOf n ++ rest) 9 9 n 0 0 h h (by decide) (fun _ => by decide) (fun j hj => by
    refine ⟨by rw [ByteArray.size_append]; omega, ?_⟩
    rw [Nat.zero_add]
    have e : bl (varOf n ++ rest) = varN 9 n ++ bl rest := by rw [bl_append, bl_varOf n hn]
    rw [bt_get _ _ e j (by simp; omega), List.getElem_append_left hj]) (fun h => absurd h (Nat.lt_irrefl 0)) (by simpa using hn)
  rw [hg, hsz.1]
  simp
theorem text_back (t rest : ByteArray) (ht : t.size ≤ 1000) (hr : rest.size ≤ 1000) (k : Nat) (hk : 40 < k) : impl_GetText.f k ((varOf t.size ++ t) ++ rest) = some (t, ((varOf t.size ++ t).size : Int), true) := by
  have hv := varOf_size9 t.size (by omega)
  have hsz : ((varOf t.size ++ t) ++ rest).size = (varOf t.size).size + t.size + rest.size := by rw [ByteArray.size_append, ByteArray.size_append]
  have ha : (varOf t.size ++ t) ++ rest = varOf t.size ++ (t ++ rest) := by rw [ByteArray.append_assoc]
  have hgv : impl_GetVar.f k ((varOf t.size ++ t) ++ rest) = some ((t.size : Int), ((varOf t.size).size : Int), true) := by
    rw [impl_GetVar_is _ (by omega) k hk, ha, get_put_var t.size (by omega)]
  unfold impl_GetText.f
  rw [hgv, Option.bind_some]
  simp only [if_true]
  have e1 : wrap64 (((((varOf t.size ++ t) ++ rest).size : Nat) : Int) - ((varOf t.size).size : Int)) = ((t.size + rest.size : Nat) : Int) := by rw [hsz]; unfold wrap64; omega
  have e2 : wrap64 (((varOf t.size).size : Int) + (t.size : Int)) = (((varOf t.size).size + t.size : Nat) : Int) := by unfold wrap64; omega
  rw [e1, e2, if_neg (by omega), if_pos (by omega), if_pos (by omega), if_pos (by rw [hsz]; omega)]
  have e3 : ((varOf t.size ++ t) ++ rest).extract (((varOf t.size).size : Nat) : Int).toNat ((((varOf t.size).size + t.size : Nat) : Int)).toNat = t := by
    refine bl_inj _ _ ?_
    rw [Int.toNat_natCast, Int.toNat_natCast, bl_extract, bl_append, bl_append, List.append_assoc]
    have hl : (varOf t.size).size = (bl (varOf t.size)).length := (bl_length _).symm
    have hl2 : (varOf t.size).size + t.size - (varOf t.size).size = (bl t).length := by rw [bl_length]; omega
    rw [hl2, hl, List.drop_left, List.take_left]
  rw [e3, ByteArray.size_append]
/-! digits -/
def hexD (d : Int) : Int := bt (⟨#[48, 49, 50, 51, 52, 53, 54, 55, 56, 57, 97, 98, 99, 100, 101, 102]⟩ : ByteArray) d
def digitB (c : Int) : Int := Lib.indexByte (⟨#[48, 49, 50, 51, 52, 53, 54, 55, 56, 57, 97, 98, 99, 100, 101, 102]⟩ : ByteArray).data.toList c.toNat.toUInt8
theorem hexD_all : ∀ d : Fin 16, digitB (hexD (d.val : Int)) = (d.val : Int) ∧ 0 ≤ hexD (d.val : Int) ∧ hexD (d.val : Int) ≤ 255 := by decide +kernel
theorem hexD_is (d : Int) (h0 : 0 ≤ d) (h1 : d < 16) : digitB (hexD d) = d ∧ 0 ≤ hexD d ∧ hexD d ≤ 255 := by
  have h := hexD_all ⟨d.toNat, by omega⟩
  have e : ((⟨d.toNat, by omega⟩ : Fin 16).val : Int) = d := by show ((d.toNat : Nat) : Int) = d; omega
  rw [e] at h
  exact h
/-- the digits of the first bytes -/
def hexL (t : ByteArray) : Nat → List Int
  | 0 => []
  | n + 1 => hexL t n ++ [hexD (bt t n / 16), hexD (bt t n % 16)]
theorem hexL_length (t : ByteArray) : ∀ n, (hexL t n).length = 2 * n
  | 0 => rfl
  | n + 1 => by simp [hexL, hexL_length t n]; omega
theorem hexL_bytes (t : ByteArray) : ∀ n, ∀ x ∈ hexL t n, 0 ≤ x ∧ x ≤ 255
  | 0 => by simp [hexL]
  | n + 1 => by
    intro x hx
    have hb := bt_range t n
    simp only [hexL, List.mem_append, List.mem_cons, List.not_mem_nil, or_false] at hx
    rcases hx with hx | rfl | rfl
    · exact hexL_bytes t n x hx
    · exact (hexD_is _ (by omega) (by omega)).2
    · exact (hexD_is _ (by omega) (by omega)).2
theorem hexL_get (t : ByteArray) : ∀ (n i : Nat) (h : i < n), (hexL t n)[2 * i]'(by rw [hexL_length]; omega) = hexD (bt t i / 16) ∧ (hexL t n)[2 * i + 1]'(by rw [hexL_length]; omega) = hexD (bt t i % 16)
  | 0, i, h => absurd h (Nat.not_lt_zero i)
  | n + 1, i, h => by
    by_cases e : i < n
    · have := hexL_get t n i e
      simp only [hexL]
      rw [List.getElem_append_left (by rw [hexL_length]; omega), List.getElem_append_left (by rw [hexL_length]; omega)]
      exact this
    · obtain rfl : i = n := by omega
      simp only [hexL]
      rw [List.getElem_append_right (by rw [hexL_length]; omega), List.getElem_append_right (by rw [hexL_length]; omega)]
      simp only [hexL_length, Nat.sub_self, show 2 * i + 1 - 2 * i = 1 by omega]
      exact ⟨rfl, rfl⟩
theorem putHex_ev (t : ByteArray) (ht : t.size ≤ 1048576) : Ev (fun k => impl_PutHex.f k t) (strOfNums (hexL t t.size)) := by
  refine loop_is t.size (fun k s i => impl_PutHex.l0 k t s t.size i) (fun i s => s = hexL t i) _ ?_ ?_ [] rfl
  · rintro i s hi rfl
    refine .inr ⟨_, rfl, ev_next (fun k => ?_)⟩
    have hb := bt_range t i
    have e1 : Int.tdiv (bt t i) 16 = bt t i / 16 := Int.tdiv_eq_ediv_of_nonneg hb.1
    have e2 : Int.tmod (bt t i) 16 = bt t i % 16 := Int.tmod_eq_emod_of_nonneg hb.1
    have e3 : bt t i / 16 % 256 = bt t i / 16 := by omega
    simp only [impl_PutHex.l0]
    rw [if_pos (by omega), if_pos (by omega), if_pos (by omega), e1, e2, e3, if_pos (by omega), if_pos (by omega), if_pos (by omega), if_pos (by omega), Option.bind_some, if_pos (by rw [hexL_length]; simp; omega), up64 i t.size hi (by omega)]
    rfl
  · rintro s rfl
    exact ev_end (fun k => by simp only [impl_PutHex.l0]; rw [if_neg (by omega)])
theorem getHex_ev (t : ByteArray) (ht : t.size ≤ 10000) : Ev (fun k => impl_GetHex.f k (strOfNums (hexL t t.size))) (t, true) := by
  have hsz : (strOfNums (hexL t t.size)).size = 2 * t.size := by rw [nums_size, hexL_length]
  have hbl := bl_nums _ (hexL_bytes t t.size)
  unfold impl_GetHex.f
  simp only [show ¬ ((((strOfNums (hexL t t.size)).size : Nat) : Int) % 2 = 1) by omega, if_false]
  refine loop_is t.size (fun k s i => impl_GetHex.l0 k (strOfNums (hexL t t.size)) s (2 * i)) (fun i s => s = (bl t).take i) _ ?_ ?_ [] (by simp)
  · rintro i s hi rfl
    refine .inr ⟨(bl t).take (i + 1), rfl, ev_next (fun k => ?_)⟩
    have hg := hexL_get t t.size i hi
    have hb := bt_range t i
    have b1 : bt (strOfNums (hexL t t.size)) ((2 * i : Nat) : Int) = hexD (bt t i / 16) := by rw [bt_get _ _ hbl (2 * i) (by rw [hexL_length]; omega)]; exact hg.1
    have b2 : bt (strOfNums (hexL t t.size)) ((2 * i + 1 : Nat) : Int) = hexD (bt t i % 16) := by rw [bt_get _ _ hbl (2 * i + 1) (by rw [hexL_length]; omega)]; exact hg.2
    have e0 : 2 * (i : Int) = ((2 * i : Nat) : Int) := by omega
    have e1 : wrap64 (((2 * i : Nat) : Int) + 1) = ((2 * i + 1 : Nat) : Int) := by unfold wrap64; omega
    have e2 : wrap64 (((2 * i : Nat) : Int) + 2) = 2 * ((i + 1 : Nat) : Int) := by unfold wrap64; omega
    have d1 := hexD_is (bt t i / 16) (by omega) (by omega)
    have d2 := hexD_is (bt t i % 16) (by omega) (by omega)
    have f1 : strings_IndexByte.f (⟨#[48, 49, 50, 51, 52, 53, 54, 55, 56, 57, 97, 98, 99, 100, 101, 102]⟩ : ByteArray) (hexD (bt t i / 16)) = some (bt t i / 16) := by
      show some (digitB (hexD (bt t i / 16))) = _
      rw [d1.1]
    have f2 : strings_IndexByte.f (⟨#[48, 49, 50, 51, 52, 53, 54, 55, 56, 57, 97, 98, 99, 100, 101, 102]⟩ : ByteArray) (hexD (bt t i % 16)) = some (bt t i % 16) := by
      show some (digitB (hexD (bt t i % 16))) = _
      rw [d2.1]
    have hlen : ((bl t).take i).length = i := by rw [List.length_take, bl_length]; omega
    have hv : wrap64 (wrap64 (16 * (bt t i / 16)) + bt t i % 16) % 256 = bt t i := by unfold wrap64; omega
    simp only [impl_GetHex.l0]
    rw [e0, if_pos (by omega), if_pos (by omega), b1, f1, e1]
    simp only [Option.bind_some]
    rw [if_pos (by omega), if_pos (by omega), b2, f2]
    simp only [Option.bind_some]
    rw [if_neg (by omega), if_neg (by omega), if_pos (by omega), e2, hv]
    congr 1
    rw [List.take_succ_eq_append_getElem (by rw [bl_length]; exact hi), bl_get t i hi]
  · rintro s rfl
    refine ev_end (fun k => ?_)
    simp only [impl_GetHex.l0]
    rw [if_neg (by omega)]
    congr 2
    refine bl_inj _ _ ?_
    rw [← bl_length t, List.take_length, bl_nums]
    intro x hx
    unfold bl at hx
    obtain ⟨c, _, rfl⟩ := List.mem_map.1 hx
    have := c.toNat_lt
    omega

end Go.Proofs.Ytlocignlkigojaa.Pure
