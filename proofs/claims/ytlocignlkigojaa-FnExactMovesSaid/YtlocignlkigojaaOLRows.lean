/- Plain laws of the law's own helpers on tables of whole numbers: a copy, comparing one with itself, the size. Conditions: the bounds that each theorem names. -/
import Derived.Test.YtlocignlkigojaaOLInt
import Derived.Test.YtlocignlkigojaaOMat
import Derived.Test.YtlocignlkigojaaQf56
import Derived.Test.YtlocignlkigojaaQf58
import Derived.Test.YtlocignlkigojaaQf60
namespace Go.Proofs.Ytlocignlkigojaa.Pure
open Go.RowKit Go.Proofs.Ytlocignlkigojaa.Q Go.Proofs.YtlocignlkigojaaW.PrintWords Go.Proofs.YtlocignlkigojaaW.PrintLast Go.Proofs.YtlocignlkigojaaW.PrintMore
set_option linter.unusedVariables false
set_option linter.unusedSimpArgs false

theorem rd_rowL (l : List (List Int)) (i : Nat) (h : i < l.length) : rd_L5 l (i : Int) = l[i] := by
  unfold rd_L5
  rw [Int.toNat_natCast, getD_get l i _ h]
def SmallR (l : List (List Int)) : Prop := l.length ≤ 1048576 ∧ ∀ x ∈ l, x.length ≤ 1048576
theorem toInt64SS_ev (l : List (List Int)) (hs : SmallR l) : Ev (fun k => laws_toInt64SS.f k l) l := by
  obtain ⟨hl, hb⟩ := hs
  have h := map_loop (fun k y i => laws_toInt64SS.l0 k l y i) l id (fun i hi y hy => fun r hr => by
    refine Ev.step (f := ?f) (fun k => ?_) ?_
    rotate_left
    · simp only [laws_toInt64SS.l0]
      rw [if_pos (by omega), if_pos (by omega), rd_rowL l i hi, up64 i l.length hi (by omega), Int.toNat_natCast]
      all_goals exact rfl
    · refine Ev.bind (a := l[i]) (toInt64S_ev _ (hb _ (List.getElem_mem hi))) ?_
      refine Ev.congr (fun k => ?_) hr
      rw [if_pos (by omega)]
      rfl) (fun k y => by simp only [laws_toInt64SS.l0]; rw [if_neg (by omega)]) (List.replicate ((l.length : Int) : Int).toNat []) (by simp)
  rw [List.map_id] at h
  refine Ev.congr (fun k => ?_) h
  unfold laws_toInt64SS.f
  rw [if_pos (by omega), if_pos (by omega)]
theorem eqInt64SS_ev (l : List (List Int)) (hs : SmallR l) : Ev (fun k => laws_eqInt64SS.f k l l) true := by
  obtain ⟨hl, hb⟩ := hs
  refine Ev.congr (fun k => ?_) (eq_loop l.length (fun k i => laws_eqInt64SS.l0 k l l i) (fun i hi => fun r hr => by
    refine Ev.step (f := ?f) (fun k => ?_) ?_
    rotate_left
    · simp only [laws_eqInt64SS.l0]
      rw [if_pos (by omega), if_pos (by omega), if_pos (by omega), up64 i l.length hi (by omega), rd_rowL l i hi]
      all_goals exact rfl
    · exact Ev.bind (a := true) (eqInt64S_ev _ (by have := hb _ (List.getElem_mem hi); omega)) (Ev.congr (fun k => if_pos rfl) hr)) (fun k => by simp only [laws_eqInt64SS.l0]; rw [if_neg (by omega)]))
  unfold laws_eqInt64SS.f
  rw [if_pos rfl]
theorem szInt64SS_ev (l : List (List Int)) (left : Int) (hl : l.length ≤ 9223372036854775807) (hb : ∀ x ∈ l, x.length ≤ 9223372036854775807) (h0 : 0 ≤ left) (h1 : left ≤ 1048576) :
    ∃ t, (0 ≤ t → t ≤ 1048576 ∧ SmallR l) ∧ Ev (fun k => laws_szInt64SS.f k l left) t := by
  have e : wrap64 (left - (l.length : Int)) = left - (l.length : Int) := by unfold wrap64; omega
  unfold laws_szInt64SS.f
  simp only [e]
  by_cases h : (left - (l.length : Int)) < 0
  · simp only [if_pos h]
    exact ⟨-1, by omega, Ev.now _⟩
  · simp only [if_neg h]
    refine loop_up l.length (fun k s i => laws_szInt64SS.l0 k l s i) (fun i s => 0 ≤ s ∧ s ≤ 1048576 ∧ ∀ x ∈ l.take i, x.length ≤ 1048576) _ ?_ ?_ _ ⟨by omega, by omega, by simp⟩
    · intro i s hi ⟨g0, g1, g2⟩
      have hsz := hb l[i] (List.getElem_mem hi)
      have hz := szInt64S_is l[i] s hsz g0 g1
      have hu : ∀ k, laws_szInt64SS.l0 (k + 1) l s i = (laws_szInt64S.f l[i] s).bind fun t => if t < 0 then some (-1) else laws_szInt64SS.l0 k l t ((i + 1 : Nat) : Int) := fun k => by
        simp only [laws_szInt64SS.l0]
        rw [if_pos (by omega), if_pos (by omega), rd_rowL l i hi, up64 i l.length hi hl]
      by_cases c : (l[i].length : Int) ≤ s
      · refine .inr ⟨s - (l[i].length : Int), ⟨by omega, by omega, fun x hx => ?_⟩, ev_next (fun k => ?_)⟩
        · rw [List.take_succ_eq_append_getElem hi] at hx
          rcases List.mem_append.1 hx with hx | hx
          · exact g2 x hx
          · simp only [List.mem_singleton] at hx
            subst hx
            omega
        · rw [hu k, hz, if_pos c]
          simp only [Option.bind_some]
          rw [if_neg (by omega)]
      · refine .inl ⟨-1, by omega, ev_end (fun k => ?_)⟩
        rw [hu k, hz, if_neg c]
        simp
    · intro s ⟨g0, g1, g2⟩
      rw [List.take_length] at g2
      refine ⟨s, fun _ => ⟨by omega, by omega, g2⟩, ev_end (fun k => ?_)⟩
      simp only [laws_szInt64SS.l0]
      rw [if_neg (by omega)]

end Go.Proofs.Ytlocignlkigojaa.Pure
