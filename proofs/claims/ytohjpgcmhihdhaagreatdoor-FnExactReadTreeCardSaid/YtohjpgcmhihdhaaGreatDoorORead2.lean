/- Rows whose elements hold slices that begin in the midst of a row of the call's own ('n[1:len(n):len(n)]'). No conditions beyond each theorem's own. -/
import Derived.Test.YtohjpgcmhihdhaaGreatDoorQ0
namespace Go.Proofs.YtohjpgcmhihdhaaGreatDoorW.PrintMore
open Go.RowKit Go.Proofs.YtohjpgcmhihdhaaGreatDoorW.PrintWords Go.Proofs.YtohjpgcmhihdhaaGreatDoorW.PrintLast Go.Proofs.YtohjpgcmhihdhaaGreatDoor.Q
set_option linter.unusedVariables false
set_option linter.unusedSimpArgs false
/-- a slice in a row of the call's own, wherever it begins; of its spare nothing is said -/
def qslice {α : Type} (e : Nat) (d : Kd α) : Kd (List α) where
  sz := 1
  E := e :: d.E
  K := (Kd.slice e d).K
  M := fun w base ok xs cs => ∃ A c c', cs = [.slice A xs.length c'] ∧ xs.length ≤ c' ∧ d.Q e w base ok (.slice A xs.length c) xs
  K_len := (Kd.slice e d).K_len
  K_one := (Kd.slice e d).K_one
  K_below := (Kd.slice e d).K_below
  K_of_M := by
    rintro w base ok x cs ⟨A, c, c', rfl, hl, h⟩
    exact ⟨A, c', rfl, hl, (Kd.Q_reads' h).2.2⟩
  M_mono := by
    rintro w base ok ok' x cs hok ⟨A, c, c', rfl, hl, h⟩
    exact ⟨A, c, c', rfl, hl, Kd.Q_mono h hok⟩
  M_bound := by
    rintro w base ok x cs ⟨A, c, c', rfl, hl, h⟩
    exact ⟨A, c, c', rfl, hl, Kd.Q_bound h⟩
  M_move := by
    rintro w w1 base ok x cs hm ⟨A, c, c', rfl, hl, h⟩
    exact ⟨A, c, c', rfl, hl, Kd.Q_move h hm⟩
  M_lower := by
    rintro w base base' ok x cs hb ⟨A, c, c', rfl, hl, h⟩
    exact ⟨A, c, c', rfl, hl, Kd.Q_lower h hb⟩
def kqB : Kd S49 := Kd.iso (Kd.pair (Kd.int .i64) (Kd.pair (Kd.int .i64) (qslice 2 (Kd.int .i64)))) (fun x : S49 => (x.f0, x.f1, x.f2))
theorem kqB_openM {w : World} {base : Nat} {ok : Nat → Prop} {x : S49} {cs : List Value} (h : kqB.M w base ok x cs) : ∃ A c c', cs = [.int .i64 x.f0, .int .i64 x.f1, .slice A x.f2.length c'] ∧ x.f2.length ≤ c' ∧ (Kd.int .i64).Q 2 w base ok (.slice A x.f2.length c) x.f2 := by
  obtain ⟨_, _, rfl, rfl, ⟨_, _, rfl, rfl, ⟨A, c, c', rfl, hl, h⟩⟩⟩ := h
  exact ⟨A, c, c', rfl, hl, h⟩
theorem kqB_mkM (w : World) (base : Nat) (ok : Nat → Prop) (x : S49) {A : Option Addr} {c c' : Nat} (hl : x.f2.length ≤ c') (h : (Kd.int .i64).Q 2 w base ok (.slice A x.f2.length c) x.f2) : kqB.M w base ok x [.int .i64 x.f0, .int .i64 x.f1, .slice A x.f2.length c'] :=
  ⟨[.int .i64 x.f0], [.int .i64 x.f1, .slice A x.f2.length c'], rfl, rfl, ⟨[.int .i64 x.f1], [.slice A x.f2.length c'], rfl, rfl, ⟨A, c, c', rfl, hl, h⟩⟩⟩
theorem kqB_C {w : World} {A : Option Addr} {n : Nat} {xs : List S49} (h : Kd.C kqB w A n xs) : Kd.C k49 w A n xs := h
/-- what stands behind a row's first element -/
theorem tail_Q {w : World} {base g c : Nat} {ok : Nat → Prop} {x : Int} {xs : List Int} {n : Nat} (h : (Kd.int .i64).R 2 w base ok (.slice (some ⟨g, 0, none⟩) n c) (x :: xs)) :
    ∃ c2, (Kd.int .i64).Q 2 w base ok (.slice (if xs.length = 0 then some ⟨g, 0, none⟩ else some ⟨g, 1, none⟩) xs.length c2) xs := by
  have hn := Kd.R_reads' h
  obtain ⟨h1, h2, -⟩ := hn
  have hq := Kd.Q_of_R h
  by_cases h0 : xs.length = 0
  · obtain rfl : xs = [] := List.eq_nil_of_length_eq_zero h0
    exact ⟨c, Kd.Q_take hq (m := 0) (Nat.zero_le _)⟩
  · have hd := Kd.Q_drop hq (k := 1) (by simp)
    rw [List.length_cons] at h1
    rw [if_neg (show ¬ c = 1 by omega)] at hd
    rw [if_neg h0]
    exact ⟨c - 1, by
      have e : n - 1 = xs.length := by omega
      rw [e] at hd
      exact hd⟩
end Go.Proofs.YtohjpgcmhihdhaaGreatDoorW.PrintMore
