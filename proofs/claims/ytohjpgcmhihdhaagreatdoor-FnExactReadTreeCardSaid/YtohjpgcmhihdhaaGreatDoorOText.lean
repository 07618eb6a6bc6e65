/- The topology's text: a number's numeral, a line, a kind's word. Conditions: the bounds that each theorem names; the library's table of powers of ten lies in memory as it was laid. -/
import Derived.Lib.ItoaLen
import Derived.Test.YtohjpgcmhihdhaaGreatDoorQ0
import Derived.Lib.AppendIntMem
import Derived.Test.YtohjpgcmhihdhaaGreatDoorOBuild
namespace Go.Proofs.YtohjpgcmhihdhaaGreatDoorW.PrintMore
open Go.RowKit Go.Proofs.YtohjpgcmhihdhaaGreatDoorW.PrintWords Go.Proofs.YtohjpgcmhihdhaaGreatDoorW.PrintLast
set_option linter.unusedVariables false
set_option linter.unusedSimpArgs false
/-- a whole number's numeral -/
def decB (n : Int) : ByteArray := ⟨(Lib.itoa n).toArray⟩
theorem decB_size (n : Int) (h0 : -9223372036854775808 ≤ n) (h1 : n ≤ 9223372036854775807) : (decB n).size ≤ 21 := by
  have := Lib.itoa_length_le n h0 h1
  unfold decB
  simpa [ByteArray.size] using this
/-- the library's table, now and behind whatever leaves memory below a bound as it is -/
def TabW (w : World) : Prop := Lib.TabBelow Tryz.prog w.heap.size w "internal/strconv.uint64pow10" .u64 Lib.pow10Tab
theorem TabW.on {w W : World} (h : TabW w) (hb : Below w.heap.size w W) : TabW W := fun w' hb' => h w' (below_step hb hb')
set_option maxHeartbeats 1000000 in
theorem decimal_at (n : Int) (w : World) (h0 : -9223372036854775808 ≤ n) (h1 : n ≤ 9223372036854775807) (ht : TabW w) :
    Calls Tryz.prog 56 #[.int .i64 n] w fun e w' => e = .returned (.string (decB n)) ∧ Below w.heap.size w w' := by
  go_enter Tryz.func56, Tryz.ntmps56
  go_wp2_with fail
  refine (Tryz.strconv_FormatInt_10 n h0 h1 _ (Lib.TabBelow.here ht)).mono ?_
  rintro e w1 ⟨rfl, k, os, rfl⟩
  have hb := Lib.below_grow w.heap.size w (Nat.le_refl _) k os
  go_wp2_with fail
  go_ret
  exact ⟨rfl, hb⟩
/-- what a line holds ahead of its end -/
def lineB (s : ByteArray) (l : List Int) : ByteArray := l.foldl (fun s x => s ++ ((⟨#[32]⟩ : ByteArray) ++ decB x)) s
theorem lineB_cons (s : ByteArray) (x : Int) (l : List Int) : lineB s (x :: l) = lineB (s ++ ((⟨#[32]⟩ : ByteArray) ++ decB x)) l := rfl
theorem size_app (a b : ByteArray) : (a ++ b).size = a.size + b.size := ByteArray.size_append
set_option maxHeartbeats 2000000 in
set_option maxRecDepth 100000 in
theorem textLine_at (s : ByteArray) (A : Option Addr) (c : Nat) (l : List Int) (w : World) (hl : Kd.C (Kd.int .i64) w A l.length l) (hc : l.length ≤ c) (hw : ∀ x ∈ l, -9223372036854775808 ≤ x ∧ x ≤ 9223372036854775807) (hs : s.size + 22 * l.length + 1 ≤ 1000000000) (ht : TabW w) :
    Calls Tryz.prog 36 #[.string s, .slice A l.length c] w fun e w' => e = .returned (.string (lineB s l ++ (⟨#[10]⟩ : ByteArray))) ∧ Below w.heap.size w w' := by
  have HL := Aside0.mk hl
  have HC := Aside0.mk hc
  have HW := Aside0.mk hw
  have HT := Aside0.mk ht
  have HS := Aside0.mk hs
  have HM := Aside0.mk (show l.length ≤ 1000000000 by omega)
  have HB := Aside0.mk (Below.refl w.heap.size w)
  clear hl hc hw ht hs
  go_enter Tryz.func36, Tryz.ntmps36
  go_wp2_with fail
  go_loopg [0, 9] l.length (fun gg v0 v9 wr => ∃ (kk : Nat) (s2 : ByteArray), kk ≤ l.length ∧ (l.length : Int) - kk ≤ gg ∧ v9 = .int .i64 (kk : Int) ∧ v0 = .string s2 ∧ Aside0 (lineB s2 (l.drop kk) = lineB s l) ∧ Aside0 (s2.size + 22 * (l.length - kk) + 1 ≤ 1000000000) ∧ Aside0 (Below w.heap.size w wr))
  case atStart => exact ⟨0, s, by omega, by omega, rfl, rfl, ⟨rfl⟩, ⟨by have := HS.out; omega⟩, HB⟩
  case round =>
    clear HB HS
    obtain ⟨kk, s2, hk, hg, rfl, rfl, HE, HS, HB⟩ := hrel
    by_cases hlt : kk < l.length
    · have hlt' : (kk : Int) < (l.length : Int) := by omega
      obtain ⟨ae, rfl, hy0⟩ := Kd.at_int HL.out (kk : Int) (by omega) hlt'
      replace hy0 := (HB.out.cell (World.block_lt_of_cell? w _ hy0)).trans hy0
      rw [Int.toNat_natCast] at hy0
      have hrd : rd l (kk : Int) = l[kk] := by unfold rd; rw [Int.toNat_natCast, List.getD_eq_getElem?_getD, List.getElem?_eq_getElem hlt]; rfl
      have HX := Aside0.mk (show -9223372036854775808 ≤ rd l (kk : Int) ∧ rd l (kk : Int) ≤ 9223372036854775807 by rw [hrd]; exact HW.out _ (List.getElem_mem hlt))
      have HN := Aside0.mk (show lineB (s2 ++ ((⟨#[32]⟩ : ByteArray) ++ decB (rd l (kk : Int)))) (l.drop (kk + 1)) = lineB s l by rw [← HE.out, List.drop_eq_getElem_cons hlt, lineB_cons, hrd])
      clear HE hrd
      generalize rd l (kk : Int) = x at hy0 HX HN
      have q0 := eq_true (show (0 : Int) ≤ (kk : Int) by omega)
      have q1 := eq_true hlt'
      go_wp2_with fail
      refine (decimal_at x _ HX.out.1 HX.out.2 (HT.out.on HB.out)).mono ?_
      rintro e w2 ⟨rfl, hb2⟩
      have HB2 := Aside0.mk (below_step HB.out hb2)
      have hd := decB_size x HX.out.1 HX.out.2
      have z1 : ((⟨#[32]⟩ : ByteArray) ++ decB x).size = 1 + (decB x).size := size_app _ _
      have HS2 := Aside0.mk (show (s2 ++ ((⟨#[32]⟩ : ByteArray) ++ decB x)).size + 22 * (l.length - (kk + 1)) + 1 ≤ 1000000000 by rw [size_app, z1]; have := HS.out; omega)
      have c1 : 1 + (decB x).size ≤ 9223372036854775807 := by omega
      have c2 : s2.size + ((⟨#[32]⟩ : ByteArray) ++ decB x).size ≤ 9223372036854775807 := by rw [z1]; have := HS.out; omega
      clear hb2 HB hy0 HS
      go_wp2_with fail
      go_roundg (gk - 1)
      case measure => omega
      case rel => exact ⟨kk + 1, _, by omega, by omega, by rw [show wrap64 ((kk : Int) + 1) = ((kk + 1 : Nat) : Int) from by have := HM.out; unfold wrap64; omega], rfl, HN, HS2, HB2⟩
    · obtain rfl : kk = l.length := by omega
      have HE2 := Aside0.mk (show s2 = lineB s l from by have := HE.out; rwa [List.drop_length] at this)
      have c1 : s2.size + 1 ≤ 9223372036854775807 := by have := HS.out; omega
      go_wp2_with fail
      go_ret
      exact ⟨by rw [← HE2.out]; rfl, HB.out⟩
end Go.Proofs.YtohjpgcmhihdhaaGreatDoorW.PrintMore
