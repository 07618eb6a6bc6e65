/- Walks and plain laws of one claim, several texts in one. -/
import Derived.Test.YtkadeelplnkpgaaQ0
import Derived.Test.YtkadeelplnkpgaaQf74
import Derived.Test.YtkadeelplnkpgaaQf75
import Derived.Test.YtkadeelplnkpgaaOTreeC
import Derived.Test.YtkadeelplnkpgaaQf13
import Derived.Test.YtkadeelplnkpgaaQf15
import Derived.Test.YtkadeelplnkpgaaQf17
import Derived.Test.YtkadeelplnkpgaaQf21
import Derived.Test.YtkadeelplnkpgaaQf31
import Derived.Test.YtkadeelplnkpgaaQf32
import Derived.Test.YtkadeelplnkpgaaQf34
import Derived.Test.YtkadeelplnkpgaaWBMore
import Derived.Test.YtkadeelplnkpgaaQf19
import Derived.Test.YtkadeelplnkpgaaOTypes
import Derived.Test.YtkadeelplnkpgaaQf54
import Derived.Test.YtkadeelplnkpgaaQf62
import Derived.Test.YtkadeelplnkpgaaQf83
import Derived.Test.YtkadeelplnkpgaaQf58
import Derived.Test.YtkadeelplnkpgaaQf50
import Derived.Test.YtkadeelplnkpgaaOSort
import Derived.Test.YtkadeelplnkpgaaQf73
import Derived.Test.YtkadeelplnkpgaaQf72
import Derived.Test.YtkadeelplnkpgaaQf104
import Derived.Test.YtkadeelplnkpgaaQf82
-- text Qf33
namespace Go.Proofs.Ytkadeelplnkpgaa.Q
open Go.RowKit Go.Proofs.YtkadeelplnkpgaaW.PrintWords Go.Proofs.YtkadeelplnkpgaaW.PrintLast Go.Proofs.YtkadeelplnkpgaaW.PrintMore
attribute [local go_sem] max2_int min2_int max_two min_two max_three min_three max_four min_four   -- for this text's walks alone
set_option linter.unusedVariables false
set_option linter.unusedSimpArgs false

/-! ### laws_markTree: function 33 -/
def laws_markTree.f (k : Nat) (D : List S50) (B : List S108) (a1 : Int) : Option Int := (laws_markDeviceS.f k D a1).bind fun m => laws_markBucketS.f k B m.1
set_option maxHeartbeats 4000000 in
set_option maxRecDepth 100000 in
theorem laws_markTree.calls (k : Nat) (P0_ P1_ : Nat → Prop) (v0 v1 : Value) (D : List S50) (B : List S108) (a1 r : Int) (w0 w : World) (hB : Below w0.heap.size w0 w) (ho0 : Kd.R k50 50 w w0.heap.size P0_ v0 D) (ho1 : Kd.S k108 108 w w0.heap.size P1_ v1 B) (hne : ∀ k, P1_ k → ¬ P0_ k) (h : laws_markTree.f k D B a1 = some r) :
    Calls Try.prog 33 #[.agg #[v0, v1], .int .i64 a1] w fun e w' => e = .returned (.int .i64 r) ∧ Below w0.heap.size w0 w' ∧ Kept w w' (fun k_ => P0_ k_ ∨ P1_ k_) := by
  obtain ⟨A0, c0, e0⟩ := Kd.R_slice ho0
  obtain ⟨A1, c1, e1⟩ := Kd.S_slice ho1
  subst e0 e1
  obtain ⟨m, hm, h2⟩ := Option.bind_eq_some_iff.1 h
  have HM := Aside0.mk hm
  have HN := Aside0.mk h2
  have HR := Aside0.mk (Kd.R_mono (Kd.R_bound ho0) (ok' := fun k => P0_ k ∧ k < w.heap.size) (fun k hk => ⟨hk.1, hk.2.2.1⟩))
  have HS := Aside0.mk (Kd.S_mono (Kd.S_bound ho1) (ok' := fun k => P1_ k ∧ k < w.heap.size) (fun k hk => ⟨hk.1, hk.2.2.1⟩))
  have HE := Aside0.mk hne
  have HB0 := Aside0.mk hB
  clear ho0 ho1 h hm h2 hne hB
  go_enter Try.func33, Try.ntmps33
  go_wp2_with fail
  have BK := Aside0.mk (blk_new w (.cells #[.slice A0 D.length c0, .slice A1 B.length c1] 31))
  have HK := Aside0.mk (Kept.alloc (Kept.refl w (fun k_ => P0_ k_ ∨ P1_ k_)) (.cells #[.slice A0 D.length c0, .slice A1 B.length c1] 31))
  replace HB0 := Aside0.mk (below_alloc HB0.out (.cells #[.slice A0 D.length c0, .slice A1 B.length c1] 31))
  replace HR := Aside0.mk (Kd.R_alloc HR.out (.cells #[.slice A0 D.length c0, .slice A1 B.length c1] 31))
  replace HS := Aside0.mk (Kd.S_alloc HS.out (.cells #[.slice A0 D.length c0, .slice A1 B.length c1] 31))
  generalize (w.alloc (.cells #[.slice A0 D.length c0, .slice A1 B.length c1] 31)) = w1 at BK HK HB0 HR HS ⊢
  refine (laws_markDeviceS.calls k _ _ D a1 m.1 m.2 w0 w1 HB0.out HR.out HM.out).mono ?_
  rintro e w2 ⟨rfl, hr, hb, hk⟩
  replace BK := Aside0.mk (blk_kept BK.out hk (fun hx => absurd hx.2 (Nat.lt_irrefl _)))
  replace HK := Aside0.mk (HK.out.then_ hk (fun k_ hx => .inl (.inl hx.1)))
  replace HB0 := Aside0.mk hb
  replace HS := Aside0.mk (Kd.S_step HS.out (fun k_ h1 hlt => hk.2 k_ hlt (fun h2 => HE.out k_ h1.1 h2.1)))
  clear hr hb hk HR HM
  have hx0 := (blk_cell BK.out 0).trans rfl
  have hx1 := (blk_cell BK.out 1).trans rfl
  go_wp2_with fail
  refine (laws_markBucketS.calls k _ _ B m.1 r w0 w2 HB0.out HS.out HN.out).mono ?_
  rintro e w3 ⟨rfl, hb, hk⟩
  replace HK := Aside0.mk (HK.out.then_ hk (fun k_ hx => .inl (.inr hx.1)))
  replace HB0 := Aside0.mk hb
  clear hb hk hx0 hx1 BK HS
  go_wp2_with fail
  go_ret
  exact ⟨rfl, HB0.out, HK.out⟩

end Go.Proofs.Ytkadeelplnkpgaa.Q

-- text Qf35
namespace Go.Proofs.Ytkadeelplnkpgaa.Q
open Go.RowKit Go.Proofs.YtkadeelplnkpgaaW.PrintWords Go.Proofs.YtkadeelplnkpgaaW.PrintLast Go.Proofs.YtkadeelplnkpgaaW.PrintMore
attribute [local go_sem] max2_int min2_int max_two min_two max_three min_three max_four min_four   -- for this text's walks alone
set_option linter.unusedVariables false
set_option linter.unusedSimpArgs false

/-! ### laws_heldInt64S: function 35 -/
def laws_heldInt64S.l0 : Nat → List Int → Int → Int → Option (Int)
  | 0, _, _, _ => none
  | k + 1, x0, x1, x5 => if x5 < (x0.length : Int) then (if 0 ≤ x5 then (if (rd x0 x5) = x1 then (laws_heldInt64S.l0 k x0 (wrap64 (x1 + 1)) (wrap64 (x5 + 1))) else (some (-1))) else (none)) else (some x1)
def laws_heldInt64S.f (k : Nat) (l0 : List Int) (a1 : Int) : Option (Int) := laws_heldInt64S.l0 k l0 a1 0
set_option maxHeartbeats 8000000 in
set_option maxRecDepth 100000 in
theorem laws_heldInt64S.calls (k : Nat) (A0 : Option Addr) (c0 : Nat) (l0 : List Int) (a1 : Int) (r : Int) (w : World) (hr0 : Kd.C (Kd.int .i64) w A0 l0.length l0) (hc0 : l0.length ≤ c0) (h : laws_heldInt64S.f k l0 a1 = some r) :
    Calls Try.prog 35 #[.slice A0 l0.length c0, .int .i64 a1] w fun e w' => e = .returned (.int .i64 r) ∧ Drawn0 w w' := by
  have HR0 := Aside0.mk hr0
  have HC0 := Aside0.mk hc0
  clear hr0 hc0
  have H : (laws_heldInt64S.l0 k l0 a1 0) = some r := h
  clear h
  have H' := Aside0.mk H
  clear H
  go_enter Try.func35, Try.ntmps35
  go_wp2
  go_loopg [1, 5] k (fun kq v1 v5 w' => ∃ (x1_1 : Int) (x5_1 : Int), v1 = .int .i64 x1_1 ∧ v5 = .int .i64 x5_1 ∧ Aside0 (laws_heldInt64S.l0 kq l0 x1_1 x5_1 = some r) ∧ Aside0 (kq ≤ k) ∧ Drawn0 w w')
  case atStart => exact ⟨(a1), (0), (by first | rfl | (simp; done) | (simp [*]; done)), (by first | rfl | (simp; done) | (simp [*]; done)), H', ⟨Nat.le_refl _⟩, by repeat (first | exact Drawn0.refl _ | apply Drawn0.step)⟩
  case round =>
    clear H'
    try clear p2
    obtain ⟨x1_1, x5_1, rfl, rfl, HA, HK1, ⟨m1, rfl⟩⟩ := hrel
    cases gk with
    | zero => exact absurd HA.out (by simp [laws_heldInt64S.l0])
    | succ k1 =>
      have H := HA.out
      clear HA
      simp only [laws_heldInt64S.l0] at H
      by_cases c3 : x5_1 < (l0.length : Int)
      · rw [if_pos c3] at H
        have c3b0 : decide (x5_1 < (l0.length : Int)) = true := decide_eq_true c3
        clear c3
        by_cases c4 : 0 ≤ x5_1
        · rw [if_pos c4] at H
          have c4b0 : decide (0 ≤ x5_1) = true := decide_eq_true c4
          clear c4
          by_cases c5 : (rd l0 x5_1) = x1_1
          · rw [if_pos c5] at H
            have c5b0 : ((rd l0 x5_1) == x1_1) = true := beq_iff_eq.mpr c5
            have c5b1 : ((rd l0 x5_1) != x1_1) = false := bne_eq_false_iff_eq.mpr c5
            clear c5
            have H' := Aside0.mk H
            clear H
            have p725 : 0 ≤ (x5_1 : Int) := of_decide_eq_true (by assumption)
            have q725 : x5_1 < (l0.length : Int) := of_decide_eq_true (by assumption)
            obtain ⟨ad725, e725, hx725_0⟩ := Kd.at_int HR0.out x5_1 p725 q725
            cases e725
            replace p725 := eq_true p725
            replace q725 := eq_true q725
            go_wp2
            go_roundg k1
            case measure => have := HK1.out; omega
            case rel => exact ⟨(wrap64 (x1_1 + 1)), (wrap64 (x5_1 + 1)), (by first | rfl | (simp; done) | (simp [*]; done)), (by first | rfl | (simp; done) | (simp [*]; done)), H', ⟨by have := HK1.out; omega⟩, by repeat (first | exact Drawn0.refl _ | apply Drawn0.step)⟩
          · rw [if_neg c5] at H
            have c5b0 : ((rd l0 x5_1) == x1_1) = false := beq_eq_false_iff_ne.mpr c5
            have c5b1 : ((rd l0 x5_1) != x1_1) = true := bne_iff_ne.mpr c5
            obtain rfl := Option.some.inj H
            have p725 : 0 ≤ (x5_1 : Int) := of_decide_eq_true (by assumption)
            have q725 : x5_1 < (l0.length : Int) := of_decide_eq_true (by assumption)
            obtain ⟨ad725, e725, hx725_0⟩ := Kd.at_int HR0.out x5_1 p725 q725
            cases e725
            replace p725 := eq_true p725
            replace q725 := eq_true q725
            go_wp2
            go_ret
            exact ⟨by first | rfl | (simp; done) | (simp [*]; done), by repeat (first | exact Drawn0.refl _ | apply Drawn0.step)⟩
        · rw [if_neg c4] at H
          exact absurd H (by simp)
      · rw [if_neg c3] at H
        have c3b0 : decide (x5_1 < (l0.length : Int)) = false := decide_eq_false c3
        clear c3
        obtain rfl := Option.some.inj H
        go_wp2
        go_ret
        exact ⟨by first | rfl | (simp; done) | (simp [*]; done), by repeat (first | exact Drawn0.refl _ | apply Drawn0.step)⟩

end Go.Proofs.Ytkadeelplnkpgaa.Q

-- text Qf7
namespace Go.Proofs.Ytkadeelplnkpgaa.Q
open Go.RowKit Go.Proofs.YtkadeelplnkpgaaW.PrintWords Go.Proofs.YtkadeelplnkpgaaW.PrintLast Go.Proofs.YtkadeelplnkpgaaW.PrintMore
attribute [local go_sem] max2_int min2_int max_two min_two max_three min_three max_four min_four   -- for this text's walks alone
set_option linter.unusedVariables false
set_option linter.unusedSimpArgs false

/-! ### laws_FnExactNodesUnder: function 7 -/
section
variable {w W : World} {base base' : Nat} {ok ok' : Nat → Prop} {v0 v1 : Value} {D : List S50} {B : List S108}
theorem tree_own (h0 : Kd.R k50 50 w base ok v0 D) (h1 : Kd.S k108 108 w base ok' v1 B) : ∃ P0 P1 : Nat → Prop, Kd.R k50 50 w base P0 v0 D ∧ Kd.S k108 108 w base P1 v1 B ∧ (∀ k, P0 k ∨ P1 k → base ≤ k ∧ k < w.heap.size) ∧ ∀ k, P1 k → ¬ P0 k := by
  refine ⟨_, _, Kd.R_bound h0, Kd.S_bound h1, fun k hk => hk.elim (fun h => ⟨h.2.1, h.2.2.1⟩) (fun h => ⟨h.2.1, h.2.2.1⟩), ?_⟩
  rintro k ⟨_, _, _, q, hq, cells, hc⟩ ⟨_, _, _, q2, hq2, cells2, hc2⟩
  have e := hc.symm.trans hc2
  have hq : q ∈ [108, 2] := hq
  have hq2 : q2 ∈ [50] := hq2
  simp only [List.mem_cons, List.not_mem_nil, or_false] at hq hq2
  injection e with e
  injection e with _ e
  subst e
  omega
theorem tree_reads (h0 : Kd.R k50 50 w base ok v0 D) (h1 : Kd.S k108 108 w base' ok' v1 B) : ∃ A0 c0 A1 c1, v0 = .slice A0 D.length c0 ∧ v1 = .slice A1 B.length c1 ∧ TreeC w A0 c0 D A1 c1 B := by
  obtain ⟨A0, c0, e0, hl0, hC0⟩ := Kd.R_reads h0
  obtain ⟨A1, c1, e1⟩ := Kd.S_slice h1
  subst e0 e1
  obtain ⟨-, hl1, hC1⟩ := Kd.S_reads' h1
  exact ⟨A0, c0, A1, c1, rfl, rfl, ⟨hC0, hl0, hC1, hl1⟩⟩
variable {A0 A1 : Option Addr} {c0 c1 n0 n1 : Nat} {l0 l1 : List Int}
theorem eqInts_own (k : Nat) (r : Bool) (h0 : (Kd.int .i64).R 2 w base ok (.slice A0 n0 c0) l0) (h1 : (Kd.int .i64).R 2 w base' ok' (.slice A1 n1 c1) l1) (h : laws_eqInt64S.f k l0 l1 = some r) : Calls Try.prog 21 #[.slice A0 n0 c0, .slice A1 n1 c1] w fun e w' => e = .returned (.bool r) ∧ Below w.heap.size w w' := by
  obtain ⟨rfl, hl0, hC0⟩ := Kd.R_reads' h0
  obtain ⟨rfl, hl1, hC1⟩ := Kd.R_reads' h1
  exact (laws_eqInt64S.calls k A0 c0 l0 A1 c1 l1 r w hC0 hl0 hC1 hl1 h).mono fun e w' h => ⟨h.1, h.2.below⟩
theorem heldInts_own (k : Nat) (a1 r : Int) (h0 : (Kd.int .i64).R 2 w base ok (.slice A0 n0 c0) l0) (h : laws_heldInt64S.f k l0 a1 = some r) : Calls Try.prog 35 #[.slice A0 n0 c0, .int .i64 a1] w fun e w' => e = .returned (.int .i64 r) ∧ Below w.heap.size w w' := by
  obtain ⟨rfl, hl0, hC0⟩ := Kd.R_reads' h0
  exact (laws_heldInt64S.calls k A0 c0 l0 a1 r w hC0 hl0 h).mono fun e w' h => ⟨h.1, h.2.below⟩
end
def laws_FnExactNodesUnder.f (k : Nat) (l0_0 : List S110) (l0_1 : List S106) (a1 : Int) : Option Bool :=
  (laws_szTree.f k l0_0 l0_1 1048576).bind fun t => if t < 0 then some true else (laws_toTree.f k l0_0 l0_1).bind fun b => (spec_NodesUnder.f k b.1 b.2 a1).bind fun s => (impl_NodesUnder.f k b.1 b.2 a1).bind fun v => (laws_eqInt64S.f k s.1 s.1).bind fun q => (laws_eqTree.f k b.1 b.2 b.1 b.2).bind fun qt => (laws_markTree.f k b.1 b.2 1).bind fun m => (laws_markInt64S.f k s.1 1).bind fun mi => (laws_heldInt64S.f k mi.2 1).bind fun h => if v.1 = s.1 ∧ v.2 = s.2 ∧ q = true ∧ qt = true ∧ 0 ≤ m ∧ h = mi.1 ∧ 0 ≤ h then some true else none
set_option maxHeartbeats 8000000 in
set_option maxRecDepth 100000 in
theorem laws_FnExactNodesUnder.calls (k : Nat) (A0_0 : Option Addr) (c0_0 : Nat) (l0_0 : List S110) (A0_1 : Option Addr) (c0_1 : Nat) (l0_1 : List S106) (a1 : Int) (r : Bool) (w : World) (hr0_0 : Kd.C k110 w A0_0 l0_0.length l0_0) (hc0_0 : l0_0.length ≤ c0_0) (hr0_1 : Kd.C k106 w A0_1 l0_1.length l0_1) (hc0_1 : l0_1.length ≤ c0_1) (h : laws_FnExactNodesUnder.f k l0_0 l0_1 a1 = some r) :
    Calls Try.prog 7 #[.agg #[.slice A0_0 l0_0.length c0_0, .slice A0_1 l0_1.length c0_1], .int .i64 a1] w fun e w' => e = .returned (.bool r) ∧ Below w.heap.size w w' := by
  have HA0 := Aside0.mk hr0_0
  have HA1 := Aside0.mk hr0_1
  have HC0 := Aside0.mk hc0_0
  have HC1 := Aside0.mk hc0_1
  clear hr0_0 hr0_1 hc0_0 hc0_1
  unfold laws_FnExactNodesUnder.f at h
  obtain ⟨t1, E1, h⟩ := Option.bind_eq_some_iff.1 h
  replace E1 := Aside0.mk E1
  have H := Aside0.mk h
  clear h
  go_enter Try.func7, Try.ntmps7
  go_wp2_with fail
  have BA := Aside0.mk (blk_new w (.cells #[.slice A0_0 l0_0.length c0_0, .slice A0_1 l0_1.length c0_1] 25))
  have HB := Aside0.mk (below_alloc (Below.refl w.heap.size w) (.cells #[.slice A0_0 l0_0.length c0_0, .slice A0_1 l0_1.length c0_1] 25))
  generalize (w.alloc (.cells #[.slice A0_0 l0_0.length c0_0, .slice A0_1 l0_1.length c0_1] 25)) = w1 at BA HB ⊢
  (with_reducible refine (laws_szTree.calls k A0_0 c0_0 l0_0 A0_1 c0_1 l0_1 1048576 t1 _ (Kd.C_below HA0.out HB.out) HC0.out (Kd.C_below HA1.out HB.out) HC1.out E1.out).mono ?_)
  rintro e w2 ⟨rfl, hb⟩
  replace BA := Aside0.mk (blk_below BA.out hb)
  replace HB := Aside0.mk (below_step HB.out hb)
  clear hb
  have hBA0 := (blk_cell BA.out 0).trans rfl
  have hBA1 := (blk_cell BA.out 1).trans rfl
  by_cases d1 : t1 < 0
  case pos =>
    have HF := Aside0.mk (show r = true from by have := H.out; rw [if_pos d1] at this; exact (Option.some.inj this).symm)
    have db := decide_eq_true d1
    clear d1
    go_wp2_with fail
    go_ret
    exact ⟨by rw [HF.out]; rfl, HB.out⟩
  have h := H.out
  rw [if_neg d1] at h
  clear H
  obtain ⟨⟨D, B⟩, E2, h⟩ := Option.bind_eq_some_iff.1 h
  obtain ⟨⟨s, se⟩, E3, h⟩ := Option.bind_eq_some_iff.1 h
  obtain ⟨⟨v, ve⟩, E4, h⟩ := Option.bind_eq_some_iff.1 h
  obtain ⟨q, E5, h⟩ := Option.bind_eq_some_iff.1 h
  obtain ⟨qt, E6, h⟩ := Option.bind_eq_some_iff.1 h
  obtain ⟨m, E7, h⟩ := Option.bind_eq_some_iff.1 h
  obtain ⟨⟨mm, ml⟩, E8, h⟩ := Option.bind_eq_some_iff.1 h
  obtain ⟨hh, E9, h⟩ := Option.bind_eq_some_iff.1 h
  by_cases hg : (v, ve).1 = (s, se).1 ∧ (v, ve).2 = (s, se).2 ∧ q = true ∧ qt = true ∧ 0 ≤ m ∧ hh = (mm, ml).1 ∧ 0 ≤ hh
  case neg => rw [if_neg hg] at h; cases h
  rw [if_pos hg] at h
  obtain rfl := Option.some.inj h
  clear h
  simp only at hg
  obtain ⟨rfl, rfl, rfl, rfl, hm0, rfl, hh0⟩ := hg
  replace E2 := Aside0.mk E2
  replace E3 := Aside0.mk E3
  replace E4 := Aside0.mk E4
  replace E5 := Aside0.mk E5
  replace E6 := Aside0.mk E6
  replace E7 := Aside0.mk E7
  replace E8 := Aside0.mk E8
  replace E9 := Aside0.mk E9
  have DM := decide_eq_false (show ¬ m < 0 by omega)
  have DH := decide_eq_false (show ¬ hh < 0 by omega)
  clear hm0 hh0
  have db1 := decide_eq_false d1
  clear d1
  go_wp2_with fail
  clear db1
  have HT := Aside0.mk (fun W (hW : Below w.heap.size w W) => laws_toTree.calls k A0_0 c0_0 l0_0 A0_1 c0_1 l0_1 D B W (Kd.C_below HA0.out hW) HC0.out (Kd.C_below HA1.out hW) HC1.out E2.out)
  (with_reducible refine (HT.out _ HB.out).mono ?_)
  rintro e w3 ⟨v0, v1, rfl, h0, h1, hb⟩
  clear hBA0 hBA1
  replace BA := Aside0.mk (blk_below BA.out hb)
  replace HB := Aside0.mk (below_step HB.out hb)
  clear hb
  have hBA0 := (blk_cell BA.out 0).trans rfl
  have hBA1 := (blk_cell BA.out 1).trans rfl
  obtain ⟨PA, pa, PB, pb, rfl, rfl, TP⟩ := tree_reads h0 h1
  clear h0 h1
  replace TP := Aside0.mk TP
  go_wp2_with fail
  (with_reducible refine (spec_NodesUnder.calls k PA pa D PB pb B a1 v ve _ TP.out.d TP.out.hd TP.out.b TP.out.hb E3.out).mono ?_)
  rintro e w4 ⟨vw, rfl, hw, hb⟩
  clear hBA0 hBA1
  replace BA := Aside0.mk (blk_below BA.out hb)
  replace HB := Aside0.mk (below_step HB.out hb)
  replace TP := Aside0.mk (TP.out.below hb)
  clear hb
  have hBA0 := (blk_cell BA.out 0).trans rfl
  have hBA1 := (blk_cell BA.out 1).trans rfl
  clear TP
  obtain ⟨WA, wc, rfl⟩ := Kd.R_slice hw
  have HW := Aside0.mk (Kd.R_mono (Kd.R_bound hw) (ok' := fun k => k < w4.heap.size) (fun k hk => hk.2.2.1))
  have hn1 : w.heap.size < w4.heap.size := blk_lt BA.out
  have HN1 := Aside0.mk (Nat.le_refl w4.heap.size)
  clear hw
  obtain ⟨n1, en1⟩ : ∃ n, n = w4.heap.size := ⟨_, rfl⟩
  rw [← en1] at hn1
  have HN0 := Aside0.mk hn1
  replace HN1 := Aside0.mk (show n1 ≤ w4.heap.size by omega)
  replace HW := Aside0.mk (show (Kd.int .i64).R 2 w4 w3.heap.size (fun k => k < n1) (.slice WA v.length wc) v from by rw [en1]; exact HW.out)
  clear en1 hn1
  go_wp2_with fail
  (with_reducible refine (HT.out _ HB.out).mono ?_)
  rintro e w5 ⟨v0, v1, rfl, h0, h1, hb⟩
  clear hBA0 hBA1
  replace BA := Aside0.mk (blk_below BA.out hb)
  replace HB := Aside0.mk (below_step HB.out hb)
  replace HW := Aside0.mk (Kd.R_below HW.out hb)
  have hs5 := hb.size
  clear hb
  have hBA0a := fun o => (blk_cell (blk_alloc BA.out o) 0).trans rfl
  have hBA1a := fun o => (blk_cell (blk_alloc BA.out o) 1).trans rfl
  have hBA0 := (blk_cell BA.out 0).trans rfl
  have hBA1 := (blk_cell BA.out 1).trans rfl
  obtain ⟨P0, P1, h0, h1, hlt, hne⟩ := tree_own h0 h1
  obtain ⟨XA, xa, XB, xb, rfl, rfl, TX⟩ := tree_reads h0 h1
  replace TX := Aside0.mk TX
  have HX0 := Aside0.mk h0
  have HX1 := Aside0.mk h1
  have HNE := Aside0.mk hne
  replace HX0 := Aside0.mk (Kd.R_lower HX0.out (show w.heap.size ≤ w4.heap.size by have := HN0.out; have := HN1.out; omega))
  replace HX1 := Aside0.mk (Kd.S_lower HX1.out (show w.heap.size ≤ w4.heap.size by have := HN0.out; have := HN1.out; omega))
  have HN3 := Aside0.mk (show n1 ≤ w5.heap.size from Nat.le_trans HN1.out hs5)
  have HLT := Aside0.mk (fun k hk => (⟨Nat.le_trans HN1.out (hlt k hk).1, (hlt k hk).2⟩ : n1 ≤ k ∧ k < w5.heap.size))
  clear h0 h1 hlt hne HN1 hs5
  go_wp2_with fail
  have hb := below_alloc (Below.refl w5.heap.size w5) (.cells #[.slice XA D.length xa, .slice XB B.length xb] 31)
  have BX := Aside0.mk (blk_new w5 (.cells #[.slice XA D.length xa, .slice XB B.length xb] 31))
  clear hBA0 hBA1
  clear hBA0a hBA1a
  replace BA := Aside0.mk (blk_below BA.out hb)
  replace HB := Aside0.mk (below_step HB.out hb)
  replace HW := Aside0.mk (Kd.R_below HW.out hb)
  replace TX := Aside0.mk (TX.out.below hb)
  replace HX0 := Aside0.mk (Kd.R_below HX0.out hb)
  replace HX1 := Aside0.mk (Kd.S_below HX1.out hb)
  clear hb
  generalize (w5.alloc (.cells #[.slice XA D.length xa, .slice XB B.length xb] 31)) = wx at BA HB HW TX HX0 HX1 BX ⊢
  generalize w5.heap.size = gx at BX HLT HN3 ⊢
  have hBA0 := (blk_cell BA.out 0).trans rfl
  have hBA1 := (blk_cell BA.out 1).trans rfl
  have hBX0 := (blk_cell BX.out 0).trans rfl
  have hBX1 := (blk_cell BX.out 1).trans rfl
  have hx := blk_lt BX.out
  (with_reducible refine (impl_NodesUnder.calls k XA xa D XB xb B a1 v ve _ TX.out.d TX.out.hd TX.out.b TX.out.hb E4.out).mono ?_)
  rintro e w6 ⟨vg, rfl, hg, hb⟩
  clear hBA0 hBA1 hBX0 hBX1
  replace BA := Aside0.mk (blk_below BA.out hb)
  replace HB := Aside0.mk (below_step HB.out hb)
  replace HW := Aside0.mk (Kd.R_below HW.out hb)
  replace TX := Aside0.mk (TX.out.below hb)
  replace HX0 := Aside0.mk (Kd.R_below HX0.out hb)
  replace HX1 := Aside0.mk (Kd.S_below HX1.out hb)
  replace BX := Aside0.mk (blk_below BX.out hb)
  clear hb
  obtain ⟨GA, gc, rfl⟩ := Kd.R_slice hg
  have HG := Aside0.mk (Kd.R_lower (Kd.R_mono (Kd.R_bound hg) (ok' := fun k => gx < k) (fun k hk => Nat.lt_of_lt_of_le hx hk.2.1)) (show w.heap.size ≤ wx.heap.size by have := HN0.out; have := HN3.out; omega))
  clear hg hx
  generalize v.length = nv at HW HG ⊢
  have hBA0 := (blk_cell BA.out 0).trans rfl
  have hBA1 := (blk_cell BA.out 1).trans rfl
  have hBX0 := (blk_cell BX.out 0).trans rfl
  have hBX1 := (blk_cell BX.out 1).trans rfl
  go_wp2_with fail
  (with_reducible refine (eqInts_own k true HG.out HW.out E5.out).mono ?_)
  rintro e w7 ⟨rfl, hb⟩
  clear hBA0 hBA1 hBX0 hBX1
  replace BA := Aside0.mk (blk_below BA.out hb)
  replace HB := Aside0.mk (below_step HB.out hb)
  replace HW := Aside0.mk (Kd.R_below HW.out hb)
  replace TX := Aside0.mk (TX.out.below hb)
  replace HX0 := Aside0.mk (Kd.R_below HX0.out hb)
  replace HX1 := Aside0.mk (Kd.S_below HX1.out hb)
  replace BX := Aside0.mk (blk_below BX.out hb)
  replace HG := Aside0.mk (Kd.R_below HG.out hb)
  clear hb
  have hBA0 := (blk_cell BA.out 0).trans rfl
  have hBA1 := (blk_cell BA.out 1).trans rfl
  have hBX0 := (blk_cell BX.out 0).trans rfl
  have hBX1 := (blk_cell BX.out 1).trans rfl
  go_wp2_with fail
  have HK := Aside0.mk (show ∀ w', Below w7.heap.size w7 w' → (fun w' => w'.cell? ⟨w.heap.size, 0, none⟩ = some (.slice A0_0 l0_0.length c0_0) ∧ w'.cell? ⟨w.heap.size, 1, none⟩ = some (.slice A0_1 l0_1.length c0_1) ∧ w'.cell? ⟨gx, 0, none⟩ = some (.slice XA D.length xa) ∧ w'.cell? ⟨gx, 1, none⟩ = some (.slice XB B.length xb) ∧ Below w7.heap.size w7 w') w' from fun w' h => ⟨(h.cell (blk_lt BA.out)).trans hBA0, (h.cell (blk_lt BA.out)).trans hBA1, (h.cell (blk_lt BX.out)).trans hBX0, (h.cell (blk_lt BX.out)).trans hBX1, h⟩)
  go_region_held3 (fun w' => w'.cell? ⟨w.heap.size, 0, none⟩ = some (.slice A0_0 l0_0.length c0_0) ∧ w'.cell? ⟨w.heap.size, 1, none⟩ = some (.slice A0_1 l0_1.length c0_1) ∧ w'.cell? ⟨gx, 0, none⟩ = some (.slice XA D.length xa) ∧ w'.cell? ⟨gx, 1, none⟩ = some (.slice XB B.length xb) ∧ Below w7.heap.size w7 w') (first | exact HK.out _ hbb | exact HK.out _ (below_drew1 (Below.refl _ _)) | exact HK.out _ (Below.refl _ _)) (first | (go_at_call 15; go_split_ands; (with_reducible refine (HT.out _ (below_step HB.out (show Below w7.heap.size w7 _ by assumption))).mono ?_); rintro e wz ⟨u0, u1, rfl, hz0, hz1, hb⟩; have hbb : Below w7.heap.size w7 _ := below_step (by assumption) hb; obtain ⟨ZA, za, ZB, zb, rfl, rfl, TZ⟩ := tree_reads hz0 hz1; clear hz0 hz1) | (go_at_call 17; go_split_ands; (with_reducible refine (laws_eqTree.calls k XA xa D XB xb B ZA za D ZB zb B true _ (TX.out.below (show Below w7.heap.size w7 _ by assumption)).d TX.out.hd (TX.out.below (show Below w7.heap.size w7 _ by assumption)).b TX.out.hb TZ.d TZ.hd TZ.b TZ.hb E6.out).mono ?_); rintro e wy ⟨rfl, hb⟩; have hbb : Below w7.heap.size w7 _ := below_step (by assumption) hb))
  have hb := hbb
  clear hBA0 hBA1 hBX0 hBX1
  replace BA := Aside0.mk (blk_below BA.out hb)
  replace HB := Aside0.mk (below_step HB.out hb)
  replace HW := Aside0.mk (Kd.R_below HW.out hb)
  replace TX := Aside0.mk (TX.out.below hb)
  replace HX0 := Aside0.mk (Kd.R_below HX0.out hb)
  replace HX1 := Aside0.mk (Kd.S_below HX1.out hb)
  replace BX := Aside0.mk (blk_below BX.out hb)
  replace HG := Aside0.mk (Kd.R_below HG.out hb)
  clear hb HK
  clear TZ
  have hBA0 := (blk_cell BA.out 0).trans rfl
  have hBA1 := (blk_cell BA.out 1).trans rfl
  have hBX0 := (blk_cell BX.out 0).trans rfl
  have hBX1 := (blk_cell BX.out 1).trans rfl
  go_wp2_with fail
  (with_reducible refine (laws_markTree.calls k P0 P1 _ _ D B 1 m w _ HB.out HX0.out HX1.out HNE.out E7.out).mono ?_)
  rintro e w8 ⟨rfl, hb, hk⟩
  clear hBA0 hBA1 hBX0 hBX1
  replace BA := Aside0.mk (blk_kept BA.out hk (fun hx => by have := HLT.out _ hx; have := HN0.out; omega))
  replace HB := Aside0.mk hb
  replace HW := Aside0.mk (Kd.R_step HW.out (fun k_ ho hlt => hk.2 k_ hlt (fun hx => by have := HLT.out _ hx; omega)))
  replace HG := Aside0.mk (Kd.R_step HG.out (fun k_ ho hlt => hk.2 k_ hlt (fun hx => by have := HLT.out _ hx; omega)))
  clear hb hk
  clear TX
  clear HX0
  clear HX1
  clear BX
  have hBA0 := (blk_cell BA.out 0).trans rfl
  have hBA1 := (blk_cell BA.out 1).trans rfl
  go_wp2_with fail
  (with_reducible refine (eqInts_own k true HG.out HW.out E5.out).mono ?_)
  rintro e w9 ⟨rfl, hb⟩
  clear hBA0 hBA1
  replace BA := Aside0.mk (blk_below BA.out hb)
  replace HB := Aside0.mk (below_step HB.out hb)
  replace HW := Aside0.mk (Kd.R_below HW.out hb)
  replace HG := Aside0.mk (Kd.R_below HG.out hb)
  clear hb
  have hBA0 := (blk_cell BA.out 0).trans rfl
  have hBA1 := (blk_cell BA.out 1).trans rfl
  go_wp2_with fail
  (with_reducible refine (laws_markInt64S.calls k (fun k => gx < k) _ v 1 hh ml w _ HB.out HG.out E8.out).mono ?_)
  rintro e w10 ⟨rfl, hg2, hb, hk⟩
  clear hBA0 hBA1
  replace BA := Aside0.mk (blk_kept BA.out hk (fun hx => by have := HN0.out; have := HN3.out; omega))
  replace HB := Aside0.mk hb
  replace HW := Aside0.mk (Kd.R_step HW.out (fun k_ ho hlt => hk.2 k_ hlt (fun hx => by have := HN3.out; omega)))
  replace HG := Aside0.mk hg2
  clear hb hk
  clear hg2
  have hBA0 := (blk_cell BA.out 0).trans rfl
  have hBA1 := (blk_cell BA.out 1).trans rfl
  go_wp2_with fail
  (with_reducible refine (heldInts_own k 1 hh HG.out E9.out).mono ?_)
  rintro e w11 ⟨rfl, hb⟩
  clear hBA0 hBA1
  replace BA := Aside0.mk (blk_below BA.out hb)
  replace HB := Aside0.mk (below_step HB.out hb)
  replace HW := Aside0.mk (Kd.R_below HW.out hb)
  replace HG := Aside0.mk (Kd.R_below HG.out hb)
  clear hb
  have hBA0 := (blk_cell BA.out 0).trans rfl
  have hBA1 := (blk_cell BA.out 1).trans rfl
  go_wp2_with fail
  (with_reducible refine (HT.out _ HB.out).mono ?_)
  rintro e w12 ⟨v0, v1, rfl, h0, h1, hb⟩
  clear hBA0 hBA1
  replace BA := Aside0.mk (blk_below BA.out hb)
  replace HB := Aside0.mk (below_step HB.out hb)
  replace HW := Aside0.mk (Kd.R_below HW.out hb)
  replace HG := Aside0.mk (Kd.R_below HG.out hb)
  clear hb
  have hBA0 := (blk_cell BA.out 0).trans rfl
  have hBA1 := (blk_cell BA.out 1).trans rfl
  obtain ⟨PA, pa, PB, pb, rfl, rfl, TP⟩ := tree_reads h0 h1
  clear h0 h1
  replace TP := Aside0.mk TP
  go_wp2_with fail
  (with_reducible refine (impl_NodesUnder.calls k PA pa D PB pb B a1 v ve _ TP.out.d TP.out.hd TP.out.b TP.out.hb E4.out).mono ?_)
  rintro e w13 ⟨vh, rfl, hh2, hb⟩
  clear hBA0 hBA1
  replace BA := Aside0.mk (blk_below BA.out hb)
  replace HB := Aside0.mk (below_step HB.out hb)
  replace HW := Aside0.mk (Kd.R_below HW.out hb)
  replace HG := Aside0.mk (Kd.R_below HG.out hb)
  replace TP := Aside0.mk (TP.out.below hb)
  clear hb
  have hBA0 := (blk_cell BA.out 0).trans rfl
  have hBA1 := (blk_cell BA.out 1).trans rfl
  clear TP
  obtain ⟨HA, hc, rfl⟩ := Kd.R_slice hh2
  have HH := Aside0.mk hh2
  clear hh2
  go_wp2_with fail
  (with_reducible refine (eqInts_own k true HH.out HW.out E5.out).mono ?_)
  rintro e w14 ⟨rfl, hb⟩
  clear hBA0 hBA1
  replace BA := Aside0.mk (blk_below BA.out hb)
  replace HB := Aside0.mk (below_step HB.out hb)
  replace HW := Aside0.mk (Kd.R_below HW.out hb)
  replace HG := Aside0.mk (Kd.R_below HG.out hb)
  replace HH := Aside0.mk (Kd.R_below HH.out hb)
  clear hb
  have hBA0 := (blk_cell BA.out 0).trans rfl
  have hBA1 := (blk_cell BA.out 1).trans rfl
  go_wp2_with fail
  (with_reducible refine (heldInts_own k 1 hh HG.out E9.out).mono ?_)
  rintro e w15 ⟨rfl, hb⟩
  clear hBA0 hBA1
  replace BA := Aside0.mk (blk_below BA.out hb)
  replace HB := Aside0.mk (below_step HB.out hb)
  replace HW := Aside0.mk (Kd.R_below HW.out hb)
  replace HG := Aside0.mk (Kd.R_below HG.out hb)
  replace HH := Aside0.mk (Kd.R_below HH.out hb)
  clear hb
  have hBA0 := (blk_cell BA.out 0).trans rfl
  have hBA1 := (blk_cell BA.out 1).trans rfl
  go_wp2_with fail
  go_ret
  exact ⟨rfl, HB.out⟩

end Go.Proofs.Ytkadeelplnkpgaa.Q

-- text OLoop
namespace Go.Proofs.Ytkadeelplnkpgaa.Pure
open Go.RowKit Go.Proofs.YtkadeelplnkpgaaW.PrintWords Go.Proofs.YtkadeelplnkpgaaW.PrintLast Go.Proofs.YtkadeelplnkpgaaW.PrintMore
set_option linter.unusedVariables false
set_option linter.unusedSimpArgs false

theorem up64 (i n : Nat) (h : i < n) (hn : n ≤ 9223372036854775807) : wrap64 ((i : Int) + 1) = ((i + 1 : Nat) : Int) := by unfold wrap64; omega
/-- A loop over i from 0 to n: an invariant, and what is known of the answer. -/
theorem loop_from {σ ρ : Type} (n : Nat) (L : Nat → σ → Int → Option ρ) (I : Nat → σ → Prop) (Post : ρ → Prop)
    (hs : ∀ (i : Nat) s, i < n → I i s → (∃ r, Post r ∧ Ev (fun k => L k s (i : Int)) r) ∨ ∃ s', I (i + 1) s' ∧ ∀ r, Ev (fun k => L k s' ((i + 1 : Nat) : Int)) r → Ev (fun k => L k s (i : Int)) r)
    (he : ∀ s, I n s → ∃ r, Post r ∧ Ev (fun k => L k s (n : Int)) r) : ∀ (d i : Nat) s, i + d = n → I i s → ∃ r, Post r ∧ Ev (fun k => L k s (i : Int)) r
  | 0, i, s, hd, hI => by
    obtain rfl : i = n := by omega
    exact he s hI
  | d + 1, i, s, hd, hI => by
    rcases hs i s (by omega) hI with h | ⟨s', hI', h⟩
    · exact h
    · obtain ⟨r, hr, hE⟩ := loop_from n L I Post hs he d (i + 1) s' (by omega) hI'
      exact ⟨r, hr, h r hE⟩
theorem loop_up {σ ρ : Type} (n : Nat) (L : Nat → σ → Int → Option ρ) (I : Nat → σ → Prop) (Post : ρ → Prop)
    (hs : ∀ (i : Nat) s, i < n → I i s → (∃ r, Post r ∧ Ev (fun k => L k s (i : Int)) r) ∨ ∃ s', I (i + 1) s' ∧ ∀ r, Ev (fun k => L k s' ((i + 1 : Nat) : Int)) r → Ev (fun k => L k s (i : Int)) r)
    (he : ∀ s, I n s → ∃ r, Post r ∧ Ev (fun k => L k s (n : Int)) r) (s : σ) (h0 : I 0 s) : ∃ r, Post r ∧ Ev (fun k => L k s 0) r :=
  loop_from n L I Post hs he n 0 s (by omega) h0
/-- The same where one answer is told. -/
theorem loop_is {σ ρ : Type} (n : Nat) (L : Nat → σ → Int → Option ρ) (I : Nat → σ → Prop) (a : ρ)
    (hs : ∀ (i : Nat) s, i < n → I i s → Ev (fun k => L k s (i : Int)) a ∨ ∃ s', I (i + 1) s' ∧ ∀ r, Ev (fun k => L k s' ((i + 1 : Nat) : Int)) r → Ev (fun k => L k s (i : Int)) r)
    (he : ∀ s, I n s → Ev (fun k => L k s (n : Int)) a) (s : σ) (h0 : I 0 s) : Ev (fun k => L k s 0) a := by
  obtain ⟨r, hr, hE⟩ := loop_up n L I (· = a) (fun i s hi hI => (hs i s hi hI).imp (fun h => ⟨a, rfl, h⟩) id) (fun s hI => ⟨a, rfl, he s hI⟩) s h0
  exact hr ▸ hE
theorem ev_some {α : Type} {g : Nat → Option α} {r : α} (h : ∀ k, g k = some r) : Ev g r := ⟨0, fun k _ => h k⟩
theorem ev_next {α : Type} {g f : Nat → Option α} (h : ∀ k, g (k + 1) = f k) : ∀ r, Ev f r → Ev g r := fun _ k => Ev.step h k
theorem ev_end {α : Type} {g : Nat → Option α} {r : α} (h : ∀ k, g (k + 1) = some r) : Ev g r := Ev.step h (Ev.now r)
theorem ev_of {α : Type} {g : Nat → Option α} {r : α} {K : Nat} (h : ∀ k, K ≤ k → g k = some r) : Ev g r := ⟨K, h⟩
theorem ev_then1 {α : Type} {g : Nat → Option α} {r : α} (h : Ev g r) : Ev (fun k => (g k).bind fun t => some t) r := Ev.bind h (Ev.now r)
/-- what is bound comes to the same -/
theorem ev_bind_some {α β : Type} {a : α} {f : Nat → α → Option β} {r : β} (k : Ev (fun n => f n a) r) : Ev (fun n => (some a).bind (f n)) r := k

theorem take_set {α : Type} (l y : List α) (i : Nat) (v : α) (hl : y.length = l.length) (hi : i < l.length) (hv : v = l[i]) (h : y.take i = l.take i) : (y.set i v).take (i + 1) = l.take (i + 1) := by
  rw [List.take_succ_eq_append_getElem (by rw [List.length_set]; omega), List.take_succ_eq_append_getElem hi]
  congr 1
  · rw [List.take_set_of_le (by omega)]; exact h
  · simp [hv]
theorem take_all {α : Type} (l y : List α) (n : Nat) (hl : y.length = n) (hn : l.length = n) (h : y.take n = l.take n) : y = l := by
  rw [List.take_of_length_le (by omega), List.take_of_length_le (by omega)] at h
  exact h
theorem getD_get {α : Type} (l : List α) (i : Nat) (z : α) (h : i < l.length) : l.getD i z = l[i] := by
  rw [List.getD_eq_getElem?_getD, List.getElem?_eq_getElem h]; rfl
theorem map_loop {α β : Type} (L : Nat → List β → Int → Option (List β)) (l : List α) (c : α → β)
    (hs : ∀ (i : Nat) (h : i < l.length) y, y.length = l.length → ∀ r, Ev (fun k => L k (y.set i (c l[i])) ((i + 1 : Nat) : Int)) r → Ev (fun k => L k y (i : Int)) r)
    (he : ∀ k y, L (k + 1) y (l.length : Int) = some y) (y : List β) (hy : y.length = l.length) : Ev (fun k => L k y 0) (l.map c) := by
  refine loop_is l.length L (fun i y => y.length = l.length ∧ y.take i = (l.map c).take i) _ ?_ ?_ y ⟨hy, by simp⟩
  · intro i s hi ⟨h1, h2⟩
    exact .inr ⟨s.set i (c l[i]), ⟨by rw [List.length_set]; exact h1, take_set (l.map c) s i _ (by simpa using h1) (by simpa using hi) (by simp) h2⟩, hs i hi s h1⟩
  · intro s ⟨h1, h2⟩
    have e := take_all (l.map c) s l.length h1 (by simp) h2
    exact e ▸ ev_end (fun k => he k s)
theorem eq_loop (n : Nat) (L : Nat → Int → Option Bool) (hs : ∀ i : Nat, i < n → ∀ r, Ev (fun k => L k ((i + 1 : Nat) : Int)) r → Ev (fun k => L k (i : Int)) r) (he : ∀ k, L (k + 1) (n : Int) = some true) : Ev (fun k => L k 0) true :=
  loop_is n (fun k (_ : Unit) i => L k i) (fun _ _ => True) true (fun i _ hi _ => .inr ⟨(), trivial, hs i hi⟩) (fun _ _ => ev_end he) () trivial
theorem same_loop {α : Type} [DecidableEq α] (a b : List α) (hl : a.length = b.length) (L : Nat → Int → Option Bool)
    (hs : ∀ k (i : Nat) (h : i < a.length) (h' : i < b.length), L (k + 1) (i : Int) = if a[i] = b[i] then L k ((i + 1 : Nat) : Int) else some false) (he : ∀ k, L (k + 1) (a.length : Int) = some true) : Ev (fun k => L k 0) (decide (a = b)) := by
  refine loop_is a.length (fun k (_ : Unit) i => L k i) (fun i _ => a.take i = b.take i) _ ?_ ?_ () (by simp)
  · intro i _ hi hI
    have hi' : i < b.length := by omega
    by_cases c : a[i] = b[i]
    · refine .inr ⟨(), ?_, ev_next (fun k => ?_)⟩
      · rw [List.take_succ_eq_append_getElem hi, List.take_succ_eq_append_getElem hi', hI, c]
      · rw [hs k i hi hi', if_pos c]
    · left
      rw [decide_eq_false (fun e => c (by subst e; rfl))]
      exact ev_end (fun k => by rw [hs k i hi hi', if_neg c])
  · intro _ hI
    rw [List.take_length, hl, List.take_length] at hI
    rw [decide_eq_true hI]
    exact ev_end he
/-- numbers from c on -/
def cnt (c n : Nat) : List Int := (List.range n).map fun j => ((c + j : Nat) : Int)
theorem cnt_length (c n : Nat) : (cnt c n).length = n := by simp [cnt]
theorem cnt_get (c n i : Nat) (h : i < (cnt c n).length) : (cnt c n)[i] = ((c + i : Nat) : Int) := by simp [cnt]
theorem mark_loop (n c : Nat) (hc : c + n ≤ 4611686018427387904) (L : Nat → List Int × Int → Int → Option (Int × List Int))
    (hs : ∀ k (i : Nat) x (m : Nat), i < n → x.length = n → m ≤ 4611686018427387904 → L (k + 1) (x, (m : Int)) (i : Int) = L k (x.set i (m : Int), ((m + 1 : Nat) : Int)) ((i + 1 : Nat) : Int))
    (he : ∀ k x m, x.length = n → L (k + 1) (x, m) (n : Int) = some (m, x)) (x : List Int) (hx : x.length = n) : Ev (fun k => L k (x, (c : Int)) 0) (((c + n : Nat) : Int), cnt c n) := by
  refine loop_is n L (fun i s => s.1.length = n ∧ s.2 = ((c + i : Nat) : Int) ∧ s.1.take i = (cnt c n).take i) _ ?_ ?_ (x, (c : Int)) ⟨hx, by simp, by simp⟩
  · rintro i ⟨x, m⟩ hi ⟨h1, h2, h3⟩
    simp only at h1 h2 h3
    subst h2
    exact .inr ⟨(x.set i ((c + i : Nat) : Int), ((c + i + 1 : Nat) : Int)), ⟨by simpa using h1, rfl, take_set (cnt c n) x i _ (by rw [cnt_length]; exact h1) (by rw [cnt_length]; exact hi) (by rw [cnt_get]) h3⟩, ev_next (fun k => hs k i x (c + i) hi h1 (by omega))⟩
  · rintro ⟨x, m⟩ ⟨h1, h2, h3⟩
    simp only at h1 h2 h3
    have e := take_all (cnt c n) x n h1 (cnt_length c n) h3
    subst h2 e
    exact ev_end (fun k => he k _ _ h1)
theorem held_loop (n c : Nat) (hc : c + n ≤ 4611686018427387904) (L : Nat → Int → Int → Option Int)
    (hs : ∀ k (i : Nat), i < n → L (k + 1) ((c + i : Nat) : Int) (i : Int) = L k ((c + i + 1 : Nat) : Int) ((i + 1 : Nat) : Int))
    (he : ∀ k m, L (k + 1) m (n : Int) = some m) : Ev (fun k => L k (c : Int) 0) ((c + n : Nat) : Int) := by
  refine loop_is n L (fun i s => s = ((c + i : Nat) : Int)) _ ?_ ?_ (c : Int) (by simp)
  · rintro i _ hi rfl
    exact .inr ⟨((c + i + 1 : Nat) : Int), rfl, ev_next (fun k => hs k i hi)⟩
  · rintro _ rfl
    exact ev_end (fun k => he k _)
/-- marking rows of several numbers: how far it counts -/
theorem count_loop {α : Type} (n c w : Nat) (L : Nat → List α × Int → Int → Option (Int × List α))
    (hs : ∀ (i : Nat) x (m : Nat), i < n → x.length = n → m ≤ c + w * n → ∃ x' : List α, x'.length = n ∧ ∀ k, L (k + 1) (x, (m : Int)) (i : Int) = L k (x', ((m + w : Nat) : Int)) ((i + 1 : Nat) : Int))
    (he : ∀ k x m, x.length = n → L (k + 1) (x, m) (n : Int) = some (m, x)) (x : List α) (hx : x.length = n) : ∃ x', Ev (fun k => L k (x, (c : Int)) 0) (((c + w * n : Nat) : Int), x') := by
  obtain ⟨r, hr, hE⟩ := loop_up n L (fun i s => s.1.length = n ∧ s.2 = ((c + w * i : Nat) : Int)) (fun r : Int × List α => r.1 = ((c + w * n : Nat) : Int)) (by
    rintro i ⟨x, m⟩ hi ⟨h1, h2⟩
    simp only at h1 h2
    subst h2
    have hle : w * i ≤ w * n := Nat.mul_le_mul_left _ (by omega)
    obtain ⟨x', g1, g2⟩ := hs i x (c + w * i) hi h1 (by omega)
    exact .inr ⟨(x', ((c + w * i + w : Nat) : Int)), ⟨g1, by simp only [Nat.mul_add, Nat.mul_one, Nat.add_assoc]⟩, ev_next g2⟩) (by
    rintro ⟨x, m⟩ ⟨h1, h2⟩
    simp only at h1 h2
    subst h2
    exact ⟨_, rfl, ev_end (fun k => he k _ _ h1)⟩) (x, (c : Int)) ⟨hx, by simp⟩
  obtain ⟨a, b⟩ := r
  simp only at hr
  subst hr
  exact ⟨b, hE⟩

end Go.Proofs.Ytkadeelplnkpgaa.Pure

-- text OLInt
namespace Go.Proofs.Ytkadeelplnkpgaa.Pure
open Go.RowKit Go.Proofs.Ytkadeelplnkpgaa.Q Go.Proofs.YtkadeelplnkpgaaW.PrintWords Go.Proofs.YtkadeelplnkpgaaW.PrintLast Go.Proofs.YtkadeelplnkpgaaW.PrintMore
set_option linter.unusedVariables false
set_option linter.unusedSimpArgs false

theorem rd_get (l : List Int) (i : Nat) (h : i < l.length) : rd l (i : Int) = l[i] := by
  unfold rd
  rw [Int.toNat_natCast, getD_get l i 0 h]
theorem toInt64S_ev (l : List Int) (hl : l.length ≤ 1048576) : Ev (fun k => laws_toInt64S.f k l) l := by
  have h := map_loop (fun k y i => laws_toInt64S.l0 k l y i) l id (fun i hi y hy => ev_next (fun k => by
    simp only [laws_toInt64S.l0]
    rw [if_pos (by omega), if_pos (by omega), if_pos (by omega), up64 i l.length hi (by omega), Int.toNat_natCast, rd_get l i hi]
    rfl)) (fun k y => by simp only [laws_toInt64S.l0]; rw [if_neg (by omega)]) (List.replicate ((l.length : Int) : Int).toNat 0) (by simp)
  rw [List.map_id] at h
  refine Ev.congr (fun k => ?_) h
  unfold laws_toInt64S.f
  rw [if_pos (by omega), if_pos (by omega)]
theorem eqInt64S_ev (l : List Int) (hl : l.length ≤ 9223372036854775807) : Ev (fun k => laws_eqInt64S.f k l l) true := by
  refine Ev.congr (fun k => ?_) (eq_loop l.length (fun k i => laws_eqInt64S.l0 k l l i) (fun i hi => ev_next (fun k => by
    simp only [laws_eqInt64S.l0]
    rw [if_pos (by omega), if_pos (by omega), if_pos (by omega), if_pos trivial, up64 i l.length hi hl])) (fun k => by simp only [laws_eqInt64S.l0]; rw [if_neg (by omega)]))
  unfold laws_eqInt64S.f
  rw [if_pos rfl]

end Go.Proofs.Ytkadeelplnkpgaa.Pure

-- text OLTree
namespace Go.Proofs.Ytkadeelplnkpgaa.Pure
open Go.RowKit Go.Proofs.Ytkadeelplnkpgaa.Q Go.Proofs.Ytkadeelplnkpgaa.Opens Go.Proofs.YtkadeelplnkpgaaW.PrintWords Go.Proofs.YtkadeelplnkpgaaW.PrintLast Go.Proofs.YtkadeelplnkpgaaW.PrintMore
set_option linter.unusedVariables false
set_option linter.unusedSimpArgs false

def devOf (x : S110) : S50 := ⟨x.f0, x.f1⟩
def bktOf (x : S106) : S108 := ⟨x.f0, x.f1, x.f2⟩
theorem rd_devL (l : List S110) (i : Nat) (h : i < l.length) : rd_T110 l (i : Int) = l[i] := by
  unfold rd_T110
  rw [Int.toNat_natCast, getD_get l i _ h]
theorem rd_dev (l : List S50) (i : Nat) (h : i < l.length) : rd_T50 l (i : Int) = l[i] := by
  unfold rd_T50
  rw [Int.toNat_natCast, getD_get l i _ h]
theorem rd_bktL (l : List S106) (i : Nat) (h : i < l.length) : rd_T106 l (i : Int) = l[i] := by
  unfold rd_T106
  rw [Int.toNat_natCast, getD_get l i _ h]
theorem rd_bkt (l : List S108) (i : Nat) (h : i < l.length) : rd_T108 l (i : Int) = l[i] := by
  unfold rd_T108
  rw [Int.toNat_natCast, getD_get l i _ h]
theorem toDeviceS_ev (l : List S110) (hl : l.length ≤ 1048576) : Ev (fun k => laws_toDeviceS.f k l) (l.map devOf) := by
  have h := map_loop (fun k y i => laws_toDeviceS.l0 k l y i) l devOf (fun i hi y hy => ev_next (fun k => by
    simp only [laws_toDeviceS.l0, laws_toDevice.f, Option.bind_some]
    rw [if_pos (by omega), if_pos (by omega), if_pos (by omega), up64 i l.length hi (by omega), Int.toNat_natCast, rd_devL l i hi]
    all_goals exact rfl)) (fun k y => by simp only [laws_toDeviceS.l0]; rw [if_neg (by omega)]) (List.replicate ((l.length : Int) : Int).toNat z50) (by simp)
  refine Ev.congr (fun k => ?_) h
  unfold laws_toDeviceS.f
  rw [if_pos (by omega), if_pos (by omega)]
theorem toBucketS_ev (l : List S106) (hl : l.length ≤ 1048576) (hb : ∀ x ∈ l, x.f2.length ≤ 1048576) : Ev (fun k => laws_toBucketS.f k l) (l.map bktOf) := by
  have h := map_loop (fun k y i => laws_toBucketS.l0 k l y i) l bktOf (fun i hi y hy => fun r hr => by
    refine Ev.step (f := ?f) (fun k => ?_) ?_
    rotate_left
    · simp only [laws_toBucketS.l0]
      rw [if_pos (by omega), if_pos (by omega), rd_bktL l i hi, up64 i l.length hi (by omega), Int.toNat_natCast]
      all_goals exact rfl
    · refine Ev.bind (a := (l[i].f0, l[i].f1, l[i].f2)) ?_ ?_
      · unfold laws_toBucket.f
        exact Ev.bind (toInt64S_ev _ (hb _ (List.getElem_mem hi))) (Ev.now _)
      · refine Ev.congr (fun k => ?_) hr
        rw [if_pos (by omega)]
        rfl) (fun k y => by simp only [laws_toBucketS.l0]; rw [if_neg (by omega)]) (List.replicate ((l.length : Int) : Int).toNat z108) (by simp)
  refine Ev.congr (fun k => ?_) h
  unfold laws_toBucketS.f
  rw [if_pos (by omega), if_pos (by omega)]
theorem eqDeviceS_ev (l : List S50) (hl : l.length ≤ 9223372036854775807) : Ev (fun k => laws_eqDeviceS.f k l l) true := by
  refine Ev.congr (fun k => ?_) (eq_loop l.length (fun k i => laws_eqDeviceS.l0 k l l i) (fun i hi => ev_next (fun k => by
    simp only [laws_eqDeviceS.l0, laws_eqDevice.f, Option.bind_some, if_true]
    rw [if_pos (by omega), if_pos (by omega), if_pos (by omega), up64 i l.length hi hl])) (fun k => by simp only [laws_eqDeviceS.l0]; rw [if_neg (by omega)]))
  unfold laws_eqDeviceS.f
  rw [if_pos rfl]
theorem eqBucketS_ev (l : List S108) (hl : l.length ≤ 9223372036854775807) (hb : ∀ x ∈ l, x.f2.length ≤ 9223372036854775807) : Ev (fun k => laws_eqBucketS.f k l l) true := by
  refine Ev.congr (fun k => ?_) (eq_loop l.length (fun k i => laws_eqBucketS.l0 k l l i) (fun i hi => fun r hr => by
    refine Ev.step (f := ?f) (fun k => ?_) ?_
    rotate_left
    · simp only [laws_eqBucketS.l0]
      rw [if_pos (by omega), if_pos (by omega), if_pos (by omega), up64 i l.length hi hl, rd_bkt l i hi]
      all_goals exact rfl
    · refine Ev.bind (a := true) ?_ (Ev.congr (fun k => if_pos rfl) hr)
      unfold laws_eqBucket.f
      simp only [if_true]
      exact Ev.bind (eqInt64S_ev _ (hb _ (List.getElem_mem hi))) (ev_some fun k => if_pos rfl)) (fun k => by simp only [laws_eqBucketS.l0]; rw [if_neg (by omega)]))
  unfold laws_eqBucketS.f
  rw [if_pos rfl]
theorem szInt64S_left (l : List Int) (left : Int) (hl : l.length ≤ 9223372036854775807) (h0 : 0 ≤ left) (h1 : left ≤ 1048576) : laws_szInt64S.f l left = some (if (l.length : Int) ≤ left then left - (l.length : Int) else -1) := by
  have e : wrap64 (left - (l.length : Int)) = left - (l.length : Int) := by unfold wrap64; omega
  unfold laws_szInt64S.f
  rw [e]
  by_cases h : (l.length : Int) ≤ left
  · rw [if_neg (by omega), if_pos h]
  · rw [if_pos (by omega), if_neg h]
theorem szDeviceS_left (l : List S110) (left : Int) (hl : l.length ≤ 9223372036854775807) (h0 : 0 ≤ left) (h1 : left ≤ 1048576) : laws_szDeviceS.f l left = some (if (l.length : Int) ≤ left then left - (l.length : Int) else -1) := by
  have e : wrap64 (left - (l.length : Int)) = left - (l.length : Int) := by unfold wrap64; omega
  unfold laws_szDeviceS.f
  rw [e]
  by_cases h : (l.length : Int) ≤ left
  · rw [if_neg (by omega), if_pos h]
  · rw [if_pos (by omega), if_neg h]
/-- the sizes are small -/
def Small (d : List S110) (b : List S106) : Prop := d.length ≤ 1048576 ∧ b.length ≤ 1048576 ∧ ∀ x ∈ b, x.f2.length ≤ 1048576
theorem szBucketS_ev (l : List S106) (left : Int) (hl : l.length ≤ 9223372036854775807) (hb : ∀ x ∈ l, x.f2.length ≤ 9223372036854775807) (h0 : 0 ≤ left) (h1 : left ≤ 1048576) :
    ∃ t, (0 ≤ t → t ≤ 1048576 ∧ l.length ≤ 1048576 ∧ ∀ x ∈ l, x.f2.length ≤ 1048576) ∧ Ev (fun k => laws_szBucketS.f k l left) t := by
  have e : wrap64 (left - (l.length : Int)) = left - (l.length : Int) := by unfold wrap64; omega
  unfold laws_szBucketS.f
  simp only [e]
  by_cases h : (left - (l.length : Int)) < 0
  · simp only [if_pos h]
    exact ⟨-1, by omega, Ev.now _⟩
  · simp only [if_neg h]
    refine loop_up l.length (fun k s i => laws_szBucketS.l0 k l s i) (fun i s => 0 ≤ s ∧ s ≤ 1048576 ∧ ∀ x ∈ l.take i, x.f2.length ≤ 1048576) _ ?_ ?_ _ ⟨by omega, by omega, by simp⟩
    · intro i s hi ⟨g0, g1, g2⟩
      have hsz := hb l[i] (List.getElem_mem hi)
      have hz := szInt64S_left l[i].f2 s hsz g0 g1
      have hu : ∀ k, laws_szBucketS.l0 (k + 1) l s i = (laws_szBucket.f l[i].f0 l[i].f1 l[i].f2 s).bind fun t => if t < 0 then some (-1) else laws_szBucketS.l0 k l t ((i + 1 : Nat) : Int) := fun k => by
        simp only [laws_szBucketS.l0]
        rw [if_pos (by omega), if_pos (by omega), rd_bktL l i hi, up64 i l.length hi hl]
      unfold laws_szBucket.f at hu
      by_cases c : (l[i].f2.length : Int) ≤ s
      · refine .inr ⟨s - (l[i].f2.length : Int), ⟨by omega, by omega, fun x hx => ?_⟩, ev_next (fun k => ?_)⟩
        · rw [List.take_succ_eq_append_getElem hi] at hx
          rcases List.mem_append.1 hx with hx | hx
          · exact g2 x hx
          · simp only [List.mem_singleton] at hx
            subst hx
            omega
        · rw [hu k, hz, if_pos c]
          simp only [Option.bind_some]
          rw [if_neg (by omega), Option.bind_some, if_neg (by omega)]
      · refine .inl ⟨-1, by omega, ev_end (fun k => ?_)⟩
        rw [hu k, hz, if_neg c]
        simp
    · intro s ⟨g0, g1, g2⟩
      rw [List.take_length] at g2
      refine ⟨s, fun _ => ⟨by omega, by omega, g2⟩, ev_end (fun k => ?_)⟩
      simp only [laws_szBucketS.l0]
      rw [if_neg (by omega)]
theorem szTree_ev (d : List S110) (b : List S106) (left : Int) (hd : d.length ≤ 9223372036854775807) (hl : b.length ≤ 9223372036854775807) (hb : ∀ x ∈ b, x.f2.length ≤ 9223372036854775807) (h0 : 0 ≤ left) (h1 : left ≤ 1048576) :
    ∃ t, (0 ≤ t → t ≤ 1048576 ∧ Small d b) ∧ Ev (fun k => laws_szTree.f k d b left) t := by
  unfold laws_szTree.f
  simp only [szDeviceS_left d left hd h0 h1, Option.bind_some]
  by_cases c : (d.length : Int) ≤ left
  · simp only [if_pos c, show ¬ (left - (d.length : Int) < 0) by omega, if_false]
    obtain ⟨t, ht, hE⟩ := szBucketS_ev b (left - (d.length : Int)) hl hb (by omega) (by omega)
    by_cases c2 : t < 0
    · exact ⟨-1, by omega, Ev.bind hE (ev_some fun k => if_pos c2)⟩
    · have := ht (by omega)
      exact ⟨t, fun _ => ⟨this.1, by omega, this.2.1, this.2.2⟩, Ev.bind hE (ev_some fun k => if_neg c2)⟩
  · simp only [if_neg c]
    exact ⟨-1, by omega, ev_some fun k => by simp⟩
theorem toTree_ev (d : List S110) (b : List S106) (h : Small d b) : Ev (fun k => laws_toTree.f k d b) (d.map devOf, b.map bktOf) := by
  unfold laws_toTree.f
  exact Ev.bind (toDeviceS_ev d h.1) (Ev.bind (toBucketS_ev b h.2.1 h.2.2) (Ev.now _))
theorem eqTree_ev (d : List S110) (b : List S106) (h : Small d b) : Ev (fun k => laws_eqTree.f k (d.map devOf) (b.map bktOf) (d.map devOf) (b.map bktOf)) true := by
  obtain ⟨h1, h2, h3⟩ := h
  unfold laws_eqTree.f
  refine Ev.bind (eqDeviceS_ev _ (by rw [List.length_map]; omega)) ?_
  simp only [if_true]
  refine Ev.bind (eqBucketS_ev _ (by rw [List.length_map]; omega) (fun x hx => ?_)) (ev_some fun k => if_pos rfl)
  obtain ⟨y, hy, rfl⟩ := List.mem_map.1 hx
  have := h3 y hy
  show y.f2.length ≤ _
  omega
/-- the numbers of a law's topology are of their kind -/
theorem wf_of_good (d : List S110) (b : List S106) (hd : good_t22 d) (hb : good_t23 b) : wfTree (d.map devOf) (b.map bktOf) = true := by
  unfold wfTree
  rw [Bool.and_eq_true, List.all_eq_true, List.all_eq_true]
  constructor
  · intro x hx
    obtain ⟨y, hy, rfl⟩ := List.mem_map.1 hx
    have := hd.2 y hy
    rw [Bool.and_eq_true]
    exact ⟨wf_wfI this.1, wf_wfI this.2⟩
  · intro x hx
    obtain ⟨y, hy, rfl⟩ := List.mem_map.1 hx
    have := hb.2 y hy
    rw [Bool.and_eq_true, Bool.and_eq_true]
    refine ⟨⟨wf_wfI this.1, wf_wfI this.2.1⟩, ?_⟩
    rw [List.all_eq_true]
    intro z hz
    exact wf_wfI (this.2.2.2 z hz)
theorem small_of_good (d : List S110) (b : List S106) (hd : good_t22 d) (hb : good_t23 b) : d.length ≤ 9223372036854775807 ∧ b.length ≤ 9223372036854775807 ∧ ∀ x ∈ b, x.f2.length ≤ 9223372036854775807 :=
  ⟨hd.1, hb.1, fun x hx => (hb.2 x hx).2.2.1⟩

end Go.Proofs.Ytkadeelplnkpgaa.Pure

-- text OTree
namespace Go.Proofs.Ytkadeelplnkpgaa.Pure
open Go.RowKit Go.Proofs.Ytkadeelplnkpgaa.Q Go.Proofs.YtkadeelplnkpgaaW.PrintWords Go.Proofs.YtkadeelplnkpgaaW.PrintLast Go.Proofs.YtkadeelplnkpgaaW.PrintMore
set_option linter.unusedVariables false
set_option linter.unusedSimpArgs false

theorem in_inB (a b c : Int) : spec_l00In.f a b c = some (inB a b c) := between_inB a b c
/-- a loop that asks each place in turn -/
theorem all_loop (n : Nat) (L : Nat → Int → Option Bool) (c : Nat → Bool) (ht : ∀ i : Nat, i < n → c i = true → ∀ r, Ev (fun k => L k ((i + 1 : Nat) : Int)) r → Ev (fun k => L k (i : Int)) r)
    (hf : ∀ i : Nat, i < n → c i = false → Ev (fun k => L k (i : Int)) false) (he : ∀ k, L (k + 1) (n : Int) = some true) : Ev (fun k => L k 0) ((List.range n).all c) := by
  refine loop_is n (fun k (_ : Unit) i => L k i) (fun i _ => ∀ j, j < i → c j = true) _ ?_ ?_ () (fun j hj => absurd hj (Nat.not_lt_zero j))
  · intro i _ hi hI
    cases hc : c i with
    | true =>
      refine .inr ⟨(), fun j hj => ?_, ht i hi hc⟩
      rcases Nat.lt_succ_iff_lt_or_eq.1 hj with h | h
      · exact hI j h
      · rw [h]; exact hc
    | false =>
      left
      have e : (List.range n).all c = false := by
        rw [List.all_eq_false]
        exact ⟨i, by simpa using hi, by simp [hc]⟩
      rw [e]
      exact hf i hi hc
  · intro _ hI
    have e : (List.range n).all c = true := by
      rw [List.all_eq_true]
      intro j hj
      exact hI j (by simpa using hj)
    rw [e]
    exact ev_end he
theorem has_ev (l : List Int) (x : Int) (hl : l.length ≤ 9223372036854775807) : Ev (fun k => spec_l00Has.f k l x) (l.any fun y => y == x) := by
  refine loop_is l.length (fun k (_ : Unit) i => spec_l00Has.l0 k l x i) (fun i _ => (l.take i).any (fun y => y == x) = false) _ ?_ ?_ () (by simp)
  · intro i _ hi hI
    have hu : ∀ k, spec_l00Has.l0 (k + 1) l x i = if l[i] = x then some true else spec_l00Has.l0 k l x ((i + 1 : Nat) : Int) := fun k => by
      simp only [spec_l00Has.l0]
      rw [if_pos (by omega), if_pos (by omega), rd_get l i hi, up64 i l.length hi hl]
    by_cases c : l[i] = x
    · left
      have e : l.any (fun y => y == x) = true := by
        rw [List.any_eq_true]
        exact ⟨l[i], List.getElem_mem hi, by simpa using c⟩
      rw [e]
      exact ev_end (fun k => by rw [hu k, if_pos c])
    · refine .inr ⟨(), ?_, ev_next (fun k => by rw [hu k, if_neg c])⟩
      rw [List.take_succ_eq_append_getElem hi, List.any_append, hI]
      simpa using c
  · intro _ hI
    rw [List.take_length] at hI
    rw [hI]
    exact ev_end (fun k => by simp only [spec_l00Has.l0]; rw [if_neg (by omega)])
/-- the index of a device -/
def devAt (D : List S50) (id : Int) : Int := idxFrom (fun x : S50 => x.f0 == id) D 0
theorem idx_step {α : Type} (p : α → Bool) (l : List α) (i : Nat) (hi : i < l.length) : idxFrom p (l.drop i) i = if p l[i] = true then (i : Int) else idxFrom p (l.drop (i + 1)) ((i + 1 : Nat) : Int) := by
  rw [List.drop_eq_getElem_cons hi]
  rfl
theorem specDevice_ev (D : List S50) (B : List S108) (id : Int) (hD : D.length ≤ 9223372036854775807) : Ev (fun k => spec_l06Device.f k D B id) (devAt D id) := by
  refine loop_is D.length (fun k (_ : Unit) i => spec_l06Device.l0 k id i D B) (fun i _ => devAt D id = idxFrom (fun x : S50 => x.f0 == id) (D.drop i) i) _ ?_ ?_ () rfl
  · intro i _ hi hI
    have hu : ∀ k, spec_l06Device.l0 (k + 1) id i D B = if D[i].f0 = id then some (i : Int) else spec_l06Device.l0 k id ((i + 1 : Nat) : Int) D B := fun k => by
      simp only [spec_l06Device.l0]
      rw [if_pos (by omega), if_pos (by omega), rd_dev D i hi, up64 i D.length hi hD]
    rw [idx_step _ D i hi] at hI
    by_cases c : D[i].f0 = id
    · left
      rw [if_pos (by simpa using c)] at hI
      rw [hI]
      exact ev_end (fun k => by rw [hu k, if_pos c])
    · rw [if_neg (by simpa using c)] at hI
      exact .inr ⟨(), hI, ev_next (fun k => by rw [hu k, if_neg c])⟩
  · intro _ hI
    rw [List.drop_length] at hI
    rw [hI]
    exact ev_end (fun k => by simp only [spec_l06Device.l0]; rw [if_neg (by omega)]; rfl)
theorem specBucket_ev (D : List S50) (B : List S108) (id : Int) (hB : B.length ≤ 9223372036854775807) : Ev (fun k => spec_l06Bucket.f k D B id) (bucketAt B id) := by
  refine loop_is B.length (fun k (_ : Unit) i => spec_l06Bucket.l0 k id i D B) (fun i _ => bucketAt B id = idxFrom (fun x : S108 => x.f0 == id) (B.drop i) i) _ ?_ ?_ () rfl
  · intro i _ hi hI
    have hu : ∀ k, spec_l06Bucket.l0 (k + 1) id i D B = if B[i].f0 = id then some (i : Int) else spec_l06Bucket.l0 k id ((i + 1 : Nat) : Int) D B := fun k => by
      simp only [spec_l06Bucket.l0]
      rw [if_pos (by omega), if_pos (by omega), rd_bkt B i hi, up64 i B.length hi hB]
    rw [idx_step _ B i hi] at hI
    by_cases c : B[i].f0 = id
    · left
      rw [if_pos (by simpa using c)] at hI
      rw [hI]
      exact ev_end (fun k => by rw [hu k, if_pos c])
    · rw [if_neg (by simpa using c)] at hI
      exact .inr ⟨(), hI, ev_next (fun k => by rw [hu k, if_neg c])⟩
  · intro _ hI
    rw [List.drop_length] at hI
    rw [hI]
    exact ev_end (fun k => by simp only [spec_l06Bucket.l0]; rw [if_neg (by omega)]; rfl)
theorem specKind_ev (D : List S50) (B : List S108) (id : Int) (hD : D.length ≤ 9223372036854775807) (hB : B.length ≤ 9223372036854775807) : Ev (fun k => spec_l06Kind.f k D B id) (kindAt D B id) := by
  unfold spec_l06Kind.f
  have hk : kindAt D B id = if 0 ≤ devAt D id then 0 else if bucketAt B id < 0 then -1 else (rd_T108 B (bucketAt B id)).f1 := rfl
  refine Ev.bind (specDevice_ev D B id hD) ?_
  by_cases c : 0 ≤ devAt D id
  · rw [hk, if_pos c]
    simp only [show devAt D id ≥ 0 from c, if_true]
    exact Ev.now _
  · rw [hk, if_neg c]
    simp only [show ¬ (devAt D id ≥ 0) from c, if_false]
    refine Ev.bind (specBucket_ev D B id hB) ?_
    by_cases c2 : bucketAt B id < 0
    · rw [if_pos c2]
      simp only [show ¬ (bucketAt B id ≥ 0) by omega, if_false]
      exact Ev.now _
    · rw [if_neg c2]
      have := bucketAt_lt B id (by omega)
      simp only [show bucketAt B id ≥ 0 by omega, show 0 ≤ bucketAt B id by omega, this, if_true]
      exact Ev.now _
/-! numbers, each once -/
theorem mem_addOnce (acc : List Int) (x y : Int) : y ∈ addOnce acc x ↔ y ∈ acc ∨ y = x := by
  unfold addOnce
  split
  · rename_i h
    rw [List.any_eq_true] at h
    obtain ⟨z, hz, he⟩ := h
    have : z = x := by simpa using he
    subst this
    constructor
    · exact .inl
    · rintro (h | rfl)
      · exact h
      · exact hz
  · simp
theorem mem_fold_once : ∀ (S acc : List Int) (y : Int), y ∈ S.foldl addOnce acc ↔ y ∈ acc ∨ y ∈ S
  | [], acc, y => by simp
  | x :: S, acc, y => by
    rw [List.foldl_cons, mem_fold_once S, mem_addOnce]
    simp only [List.mem_cons]
    constructor
    · rintro ((h | h) | h)
      · exact .inl h
      · exact .inr (.inl h)
      · exact .inr (.inr h)
    · rintro (h | h | h)
      · exact .inl (.inl h)
      · exact .inl (.inr h)
      · exact .inr h
theorem nodup_addOnce (acc : List Int) (x : Int) (h : acc.Nodup) : (addOnce acc x).Nodup := by
  unfold addOnce
  split
  · exact h
  · rename_i hn
    rw [List.nodup_append]
    refine ⟨h, by simp, fun a ha b hb => ?_⟩
    simp only [List.mem_singleton] at hb
    subst hb
    intro e
    subst e
    exact hn (by rw [List.any_eq_true]; exact ⟨a, ha, by simp⟩)
theorem nodup_fold_once : ∀ (S acc : List Int), acc.Nodup → (S.foldl addOnce acc).Nodup
  | [], _, h => h
  | x :: S, acc, h => nodup_fold_once S _ (nodup_addOnce acc x h)
theorem mem_once (S : List Int) (y : Int) : y ∈ onceOf S ↔ y ∈ S := by
  unfold onceOf
  rw [mem_fold_once]
  simp
theorem nodup_once (S : List Int) : (onceOf S).Nodup := nodup_fold_once S [] List.nodup_nil
theorem once_one (S : List Int) : (onceOf S).length ≤ 1 ↔ ∀ x ∈ S, ∀ y ∈ S, x = y := by
  have hm := mem_once S
  have hn := nodup_once S
  generalize onceOf S = T at hm hn
  constructor
  · intro h x hx y hy
    match T, h with
    | [], _ => have := (hm x).2 hx; simp at this
    | [z], _ =>
      have h1 := (hm x).2 hx
      have h2 := (hm y).2 hy
      simp only [List.mem_singleton] at h1 h2
      rw [h1, h2]
  · intro h
    match T, hn with
    | [], _ => simp
    | [z], _ => simp
    | z :: z' :: T', hn =>
      have h1 := (hm z).1 (by simp)
      have h2 := (hm z').1 (by simp)
      have e := h z h1 z' h2
      subst e
      simp at hn

end Go.Proofs.Ytkadeelplnkpgaa.Pure

-- text OTreeOk
namespace Go.Proofs.Ytkadeelplnkpgaa.Pure
open Go.RowKit Go.Proofs.Ytkadeelplnkpgaa.Q Go.Proofs.YtkadeelplnkpgaaW.PrintWords Go.Proofs.YtkadeelplnkpgaaW.PrintLast Go.Proofs.YtkadeelplnkpgaaW.PrintMore
set_option linter.unusedVariables false
set_option linter.unusedSimpArgs false

/-! devices -/
def devStep (D : List S50) (i : Nat) : Bool := inB (rd_T50 D i).f0 0 15 && inB (rd_T50 D i).f1 0 8 && !(decide (0 < i) && decide ((rd_T50 D i).f0 ≤ (rd_T50 D ((i : Int) - 1)).f0))
def devsB (D : List S50) : Bool := (List.range D.length).all (devStep D) && decide (D.length ≤ 16)
theorem wrap_down (i : Nat) (h : 0 < i) (hn : i ≤ 9223372036854775807) : wrap64 ((i : Int) - 1) = (i : Int) - 1 := by unfold wrap64; omega
theorem spec_devs_ev (D : List S50) (B : List S108) : Ev (fun k => spec_l06Devices.f k D B) (devsB D) := by
  unfold spec_l06Devices.f devsB
  by_cases h : (D.length : Int) > 16
  · simp only [if_pos h, decide_eq_false (show ¬ (D.length ≤ 16) by omega), Bool.and_false]
    exact Ev.now _
  · simp only [if_neg h, decide_eq_true (show D.length ≤ 16 by omega), Bool.and_true]
    have hu : ∀ (i : Nat), i < D.length → ∀ k, spec_l06Devices.l0 (k + 1) i D B = if devStep D i = true then spec_l06Devices.l0 k ((i + 1 : Nat) : Int) D B else some false := fun i hi k => by
      simp only [spec_l06Devices.l0]
      rw [if_pos (by omega), if_pos (by omega), in_inB, in_inB, up64 i D.length hi (by omega)]
      simp only [Option.bind_some]
      unfold devStep
      cases inB (rd_T50 D i).f0 0 15 with
      | false => simp
      | true =>
        cases inB (rd_T50 D i).f1 0 8 with
        | false => simp
        | true =>
          by_cases c : 0 < i
          · rw [if_pos rfl, if_pos rfl, if_pos (by omega), wrap_down i c (by omega), if_pos (by omega), if_pos (by omega)]
            by_cases c2 : (rd_T50 D i).f0 ≤ (rd_T50 D ((i : Int) - 1)).f0 <;> simp [c, c2]
          · rw [if_pos rfl, if_pos rfl, if_neg (by omega)]
            simp [c]
    exact all_loop D.length (fun k i => spec_l06Devices.l0 k i D B) (devStep D) (fun i hi hc => ev_next (fun k => by rw [hu i hi k, if_pos hc])) (fun i hi hc => ev_end (fun k => by rw [hu i hi k, if_neg (by rw [hc]; decide)])) (fun k => by simp only [spec_l06Devices.l0]; rw [if_neg (by omega)])
theorem isNode_inB (a : Int) : impl_isNode.f a = some (inB a 0 15) := by
  unfold impl_isNode.f
  rw [between_inB]; rfl
theorem impl_devs_ev (D : List S50) (B : List S108) (hD : D.length ≤ 9223372036854775807) : Ev (fun k => impl_Tree_devicesOk.f k D B) (devsB D) := by
  have hu : ∀ (i : Nat), i < D.length → ∀ k, impl_Tree_devicesOk.l0 (k + 1) D D.length i D B = if devStep D i = true then impl_Tree_devicesOk.l0 k D D.length ((i + 1 : Nat) : Int) D B else some false := fun i hi k => by
    simp only [impl_Tree_devicesOk.l0]
    rw [if_pos (by omega), if_pos (by omega), if_pos (by omega), isNode_inB, up64 i D.length hi hD]
    simp only [Option.bind_some, between_inB]
    unfold devStep
    cases inB (rd_T50 D i).f0 0 15 with
    | false => simp
    | true =>
      by_cases c : 0 < i
      · rw [if_pos rfl, if_pos (by omega), wrap_down i c (by omega), if_pos (by omega), if_pos (by omega)]
        by_cases c2 : (rd_T50 D i).f0 ≤ (rd_T50 D ((i : Int) - 1)).f0
        · simp [c, c2]
        · cases inB (rd_T50 D i).f1 0 8 <;> simp [c, c2]
      · rw [if_pos rfl, if_neg (by omega)]
        cases inB (rd_T50 D i).f1 0 8 <;> simp [c]
  refine loop_is D.length (fun k (_ : Unit) i => impl_Tree_devicesOk.l0 k D D.length i D B) (fun i _ => ∀ j, j < i → devStep D j = true) _ ?_ ?_ () (fun j hj => absurd hj (Nat.not_lt_zero j))
  · intro i _ hi hI
    cases hc : devStep D i with
    | true =>
      refine .inr ⟨(), fun j hj => ?_, ev_next (fun k => by rw [hu i hi k, if_pos hc])⟩
      rcases Nat.lt_succ_iff_lt_or_eq.1 hj with h | h
      · exact hI j h
      · rw [h]; exact hc
    | false =>
      left
      have e : devsB D = false := by
        unfold devsB
        have : (List.range D.length).all (devStep D) = false := by
          rw [List.all_eq_false]
          exact ⟨i, by simpa using hi, by simp [hc]⟩
        rw [this, Bool.false_and]
      rw [e]
      exact ev_end (fun k => by rw [hu i hi k, if_neg (by rw [hc]; decide)])
  · intro _ hI
    have e : devsB D = decide ((D.length : Int) ≤ 16) := by
      unfold devsB
      have : (List.range D.length).all (devStep D) = true := by
        rw [List.all_eq_true]
        intro j hj
        exact hI j (by simpa using hj)
      rw [this, Bool.true_and]
      exact decide_eq_decide.2 (by omega)
    rw [e]
    exact ev_end (fun k => by simp only [impl_Tree_devicesOk.l0]; rw [if_neg (by omega)])
/-! buckets -/
def bktStep (B : List S108) (i : Nat) : Bool := inB (rd_T108 B i).f0 (-12) (-1) && inB (rd_T108 B i).f1 1 3 && decide ((rd_T108 B i).f2.length ≤ 8) && !(decide (0 < i) && decide ((rd_T108 B ((i : Int) - 1)).f0 ≤ (rd_T108 B i).f0))
def bktsB (B : List S108) : Bool := (List.range B.length).all (bktStep B) && decide (B.length ≤ 12)
theorem spec_bkts_ev (D : List S50) (B : List S108) : Ev (fun k => spec_l06Buckets.f k D B) (bktsB B) := by
  unfold spec_l06Buckets.f bktsB
  by_cases h : (B.length : Int) > 12
  · simp only [if_pos h, decide_eq_false (show ¬ (B.length ≤ 12) by omega), Bool.and_false]
    exact Ev.now _
  · simp only [if_neg h, decide_eq_true (show B.length ≤ 12 by omega), Bool.and_true]
    have hu : ∀ (i : Nat), i < B.length → ∀ k, spec_l06Buckets.l0 (k + 1) i D B = if bktStep B i = true then spec_l06Buckets.l0 k ((i + 1 : Nat) : Int) D B else some false := fun i hi k => by
      simp only [spec_l06Buckets.l0]
      rw [if_pos (by omega), if_pos (by omega), in_inB, in_inB, up64 i B.length hi (by omega)]
      simp only [Option.bind_some]
      unfold bktStep
      cases inB (rd_T108 B i).f0 (-12) (-1) with
      | false => simp
      | true =>
        cases inB (rd_T108 B i).f1 1 3 with
        | false => simp
        | true =>
          rw [if_pos rfl, if_pos rfl]
          by_cases c8 : (rd_T108 B i).f2.length ≤ 8
          · rw [if_neg (by omega)]
            by_cases c : 0 < i
            · rw [if_pos (by omega), wrap_down i c (by omega), if_pos (by omega), if_pos (by omega)]
              by_cases c2 : (rd_T108 B ((i : Int) - 1)).f0 ≤ (rd_T108 B i).f0 <;> simp [c, c2, c8]
            · rw [if_neg (by omega)]
              simp [c, c8]
          · rw [if_pos (by omega)]
            simp [c8]
    exact all_loop B.length (fun k i => spec_l06Buckets.l0 k i D B) (bktStep B) (fun i hi hc => ev_next (fun k => by rw [hu i hi k, if_pos hc])) (fun i hi hc => ev_end (fun k => by rw [hu i hi k, if_neg (by rw [hc]; decide)])) (fun k => by simp only [spec_l06Buckets.l0]; rw [if_neg (by omega)])
/-! nothing twice -/
def onceGo (B : List S108) : Nat → Int → List Int → Bool
  | 0, _, _ => true
  | d + 1, i, u => match useGo u (rd_T108 B i).f2 with | some u' => onceGo B d (i + 1) u' | none => false
def onceTail (B : List S108) (d : Nat) (i : Int) (u items : List Int) : Bool := match useGo u items with | some u' => onceGo B d (i + 1) u' | none => false
def onceB (B : List S108) : Bool := onceGo B B.length 0 []
theorem useGo_cons (u : List Int) (x : Int) (xs : List Int) : useGo u (x :: xs) = if (u.any fun y => y == x) = true then none else useGo (u ++ [x]) xs := rfl
theorem useGo_length : ∀ (items u u' : List Int), useGo u items = some u' → u' = u ++ items
  | [], u, u', h => by simp only [useGo, Option.some.injEq] at h; simp [h]
  | x :: xs, u, u', h => by
    unfold useGo at h
    split at h
    · cases h
    · rw [useGo_length xs _ _ h]; simp
theorem spec_once_ev (D : List S50) (B : List S108) (hB : B.length ≤ 12) (hI : ∀ x ∈ B, x.f2.length ≤ 8) : Ev (fun k => spec_l06Once.f k D B) (onceB B) := by
  refine loop_is B.length (fun k (u : List Int) i => spec_l06Once.l0 k u i D B) (fun i u => u.length ≤ 8 * i ∧ onceB B = onceGo B (B.length - i) i u) _ ?_ ?_ [] ⟨by simp, rfl⟩
  · rintro i u hi ⟨hu, hT⟩
    have hx := hI B[i] (List.getElem_mem hi)
    have hT1 : onceB B = onceTail B (B.length - (i + 1)) i u B[i].f2 := by
      rw [hT, show B.length - i = (B.length - (i + 1)) + 1 from by omega]
      unfold onceTail
      rw [← rd_bkt B i hi]
      rfl
    -- the inner loop
    have hinner : ∀ (r : Bool), (∀ u', useGo u B[i].f2 = some u' → Ev (fun k => spec_l06Once.l0 k u' ((i + 1 : Nat) : Int) D B) r) → (useGo u B[i].f2 = none → r = false) → Ev (fun k => spec_l06Once.l1 k u i 0 D B) r := by
      intro r hgood hbad
      refine loop_is B[i].f2.length (fun k (v : List Int) j => spec_l06Once.l1 k v i j D B) (fun j v => v.length = u.length + j ∧ useGo u B[i].f2 = useGo v (B[i].f2.drop j)) _ ?_ ?_ u ⟨by simp, by simp⟩
      · rintro j v hj ⟨hv, hG⟩
        have hd : B[i].f2.drop j = B[i].f2[j] :: B[i].f2.drop (j + 1) := List.drop_eq_getElem_cons hj
        have hstep : ∀ q, Ev (fun k => if (v.any fun y => y == B[i].f2[j]) = true then some false else (if v.length < 17592186044416 then spec_l06Once.l1 k (v ++ [B[i].f2[j]]) i ((j + 1 : Nat) : Int) D B else none)) q → Ev (fun k => spec_l06Once.l1 k v i j D B) q := fun q hq => by
          refine Ev.step (f := ?f) (fun k => ?_) ?_
          rotate_left
          · simp only [spec_l06Once.l1]
            rw [if_pos (by omega), if_pos (by omega), rd_bkt B i hi, if_pos (by omega), if_pos (by omega), rd_get _ j hj, up64 j B[i].f2.length hj (by omega)]
            all_goals exact rfl
          · exact Ev.bind (has_ev v _ (by omega)) hq
        rw [hd] at hG
        rw [useGo_cons] at hG
        by_cases c : (v.any fun y => y == B[i].f2[j]) = true
        · left
          rw [if_pos c] at hG
          rw [hbad hG]
          exact hstep _ (ev_some fun k => if_pos c)
        · rw [if_neg c] at hG
          exact .inr ⟨v ++ [B[i].f2[j]], ⟨by simp; omega, hG⟩, fun q hq => hstep q (Ev.congr (fun k => by rw [if_neg c, if_pos (by omega)]) hq)⟩
      · rintro v ⟨hv, hG⟩
        rw [List.drop_length] at hG
        refine Ev.step (fun k => ?_) (hgood v hG)
        simp only [spec_l06Once.l1]
        rw [if_pos (by omega), if_pos (by omega), rd_bkt B i hi, if_neg (by omega), up64 i B.length hi (by omega)]
    have hout : ∀ q, Ev (fun k => spec_l06Once.l1 k u i 0 D B) q → Ev (fun k => spec_l06Once.l0 k u i D B) q := fun q hq => Ev.step (fun k => by
      simp only [spec_l06Once.l0]
      rw [if_pos (by omega)]) hq
    cases hc : useGo u B[i].f2 with
    | none =>
      left
      have e : onceB B = false := by rw [hT1]; unfold onceTail; rw [hc]
      rw [e]
      refine hout _ (hinner false (fun u' h => ?_) (fun _ => rfl))
      rw [hc] at h; cases h
    | some u' =>
      have hl := useGo_length _ _ _ hc
      refine .inr ⟨u', ⟨by rw [hl, List.length_append]; omega, ?_⟩, fun q hq => hout q (hinner q (fun v h => ?_) (fun h => ?_))⟩
      · rw [hT1]; unfold onceTail; rw [hc]; rfl
      · rw [hc] at h
        obtain rfl := Option.some.inj h
        exact hq
      · rw [hc] at h; cases h
  · rintro u ⟨hu, hT⟩
    rw [hT, Nat.sub_self]
    exact ev_end (fun k => by simp only [spec_l06Once.l0]; rw [if_neg (by omega)]; rfl)

/-! what lies in a bucket -/
def fitOne (D : List S50) (B : List S108) (kd : Int) (items : List Int) (x : Int) : Bool := if kd < 3 then kindAt D B x == kd - 1 else kindAt D B x == kindAt D B (rd items 0) && (kindAt D B x == 1 || kindAt D B x == 2)
def fitsB (D : List S50) (B : List S108) (kd : Int) (items : List Int) : Bool := (List.range items.length).all fun j => fitOne D B kd items (rd items j)
theorem spec_fits_ev (D : List S50) (B : List S108) (hD : D.length ≤ 9223372036854775807) (hB : B.length ≤ 9223372036854775807) (id kd : Int) (items : List Int) (h1 : 1 ≤ kd) (h3 : kd ≤ 3) (hl : items.length ≤ 9223372036854775807) : Ev (fun k => spec_l06Fits.f k D B id kd items) (fitsB D B kd items) := by
  have hmain : ∀ (j : Nat), j < items.length → ∀ r, (fitOne D B kd items (rd items j) = true → Ev (fun k => spec_l06Fits.l0 k ((j + 1 : Nat) : Int) D B id kd items) r) → (fitOne D B kd items (rd items j) = false → r = false) → Ev (fun k => spec_l06Fits.l0 k j D B id kd items) r := by
    intro j hj r hgood hbad
    have hw : wrap64 (kd - 1) = kd - 1 := by unfold wrap64; omega
    refine Ev.step (f := ?f) (fun k => ?_) ?_
    rotate_left
    · simp only [spec_l06Fits.l0]
      rw [if_pos (by omega), if_pos (by omega)]
      all_goals exact rfl
    · refine Ev.bind (specKind_ev D B _ hD hB) ?_
      by_cases ck : kd < 3
      · simp only [if_pos ck, hw]
        refine Ev.step (f := ?g) (fun k => ?_) ?_
        rotate_left
        · simp only [spec_l06Fits.j1]
          exact rfl
        · unfold fitOne at hgood hbad
          rw [if_pos ck] at hgood hbad
          by_cases c : kindAt D B (rd items j) = kd - 1
          · refine Ev.congr (fun k => ?_) (hgood (by simpa using c))
            rw [if_neg (by simp [c]), if_neg (by omega), up64 j items.length hj hl]
          · have e := hbad (by simpa using c)
            subst e
            refine ev_some (fun k => ?_)
            rw [if_pos (by simpa using c)]
      · simp only [if_neg ck]
        refine Ev.step (f := ?g2) (fun k => ?_) ?_
        rotate_left
        · simp only [spec_l06Fits.j1]
          exact rfl
        · simp only [Bool.false_eq_true, if_false, show kd = 3 by omega, if_true, show (0 : Int) < (items.length : Int) by omega]
          unfold fitOne at hgood hbad
          rw [if_neg ck] at hgood hbad
          refine Ev.bind (specKind_ev D B _ hD hB) ?_
          by_cases c0 : kindAt D B (rd items j) = kindAt D B (rd items 0)
          · by_cases c1 : kindAt D B (rd items j) = 1
            · refine Ev.congr (fun k => ?_) (hgood (by simp [← c0, c1]))
              rw [if_pos c0, if_pos c1, up64 j items.length hj hl, show kd = 3 by omega]
            · by_cases c2 : kindAt D B (rd items j) = 2
              · refine Ev.congr (fun k => ?_) (hgood (by simp [← c0, c2]))
                rw [if_pos c0, if_neg c1, if_pos c2, up64 j items.length hj hl, show kd = 3 by omega]
              · have e := hbad (by simp [c1, c2])
                subst e
                exact ev_some fun k => by rw [if_pos c0, if_neg c1, if_neg c2]
          · have e := hbad (by simp [c0])
            subst e
            exact ev_some fun k => by rw [if_neg c0]
  exact all_loop items.length (fun k j => spec_l06Fits.l0 k j D B id kd items) (fun j => fitOne D B kd items (rd items j)) (fun j hj hc r hr => hmain j hj r (fun _ => hr) (fun h => by rw [hc] at h; cases h)) (fun j hj hc => hmain j hj false (fun h => by rw [hc] at h; cases h) (fun _ => rfl)) (fun k => by simp only [spec_l06Fits.l0]; rw [if_neg (by omega)])
theorem range_all (items : List Int) (p : Int → Bool) : ((List.range items.length).all fun j => p (rd items j)) = items.all p := by
  rw [Bool.eq_iff_iff, List.all_eq_true, List.all_eq_true]
  constructor
  · intro h x hx
    obtain ⟨j, hj, rfl⟩ := List.mem_iff_getElem.1 hx
    have := h j (by simpa using hj)
    rwa [rd_get items j hj] at this
  · intro h j hj
    have hj' : j < items.length := by simpa using hj
    rw [rd_get items j hj']
    exact h _ (List.getElem_mem hj')
theorem fits_items (D : List S50) (B : List S108) (kd : Int) (items : List Int) (h1 : 1 ≤ kd) (h3 : kd ≤ 3) : fitsB D B kd items = itemsOkB D B kd items := by
  unfold fitsB itemsOkB
  rw [range_all items (fitOne D B kd items)]
  have hw : wrap64 (kd - 1) = kd - 1 := by unfold wrap64; omega
  rw [hw]
  match items with
  | [] => simp
  | x :: xs =>
    rw [if_neg (by simp)]
    have ho := once_one ((x :: xs).map (kindAt D B))
    have hhead : rd (x :: xs) 0 = x := rfl
    unfold fitOne
    rw [hhead]
    have hm : ∀ y, y ∈ (x :: xs).map (kindAt D B) ↔ ∃ z ∈ x :: xs, kindAt D B z = y := fun y => List.mem_map
    generalize hS : (x :: xs).map (kindAt D B) = S at ho hm
    by_cases c1 : 1 < (onceOf S).length
    · rw [if_pos c1]
      rw [Bool.eq_false_iff]
      intro hall
      rw [List.all_eq_true] at hall
      refine absurd (ho.2 ?_) (by omega)
      intro a ha b hb
      obtain ⟨p, hp, rfl⟩ := (hm a).1 ha
      obtain ⟨q, hq, rfl⟩ := (hm b).1 hb
      have h1 := hall p hp
      have h2 := hall q hq
      by_cases ck : kd < 3
      · rw [if_pos ck] at h1 h2
        rw [eq_of_beq h1, eq_of_beq h2]
      · rw [if_neg ck, Bool.and_eq_true] at h1 h2
        rw [eq_of_beq h1.1, eq_of_beq h2.1]
    · rw [if_neg c1]
      have hsame := ho.1 (by omega)
      have hx : kindAt D B x ∈ S := (hm _).2 ⟨x, by simp, rfl⟩
      have hall : ∀ z ∈ x :: xs, kindAt D B z = kindAt D B x := fun z hz => hsame _ ((hm _).2 ⟨z, hz, rfl⟩) _ hx
      have hany : ∀ v : Int, (S.any fun y => y == v) = (kindAt D B x == v) := fun v => by
        rw [Bool.eq_iff_iff, List.any_eq_true]
        constructor
        · rintro ⟨y, hy, e⟩
          rw [hsame _ hx y hy]; exact e
        · intro e
          exact ⟨_, hx, e⟩
      rw [hany, hany, hany]
      by_cases ck : kd < 3
      · rw [if_neg (show ¬ kd = 3 by omega), Bool.eq_iff_iff, List.all_eq_true]
        constructor
        · intro h
          have := h x (by simp)
          rwa [if_pos ck] at this
        · intro h z hz
          rw [if_pos ck, hall z hz]; exact h
      · rw [if_pos (show kd = 3 by omega), Bool.eq_iff_iff, List.all_eq_true]
        constructor
        · intro h
          have := h x (by simp)
          rw [if_neg ck, Bool.and_eq_true] at this
          exact this.2
        · intro h z hz
          rw [if_neg ck, hall z hz, Bool.and_eq_true]
          exact ⟨by simp, h⟩
/-! the whole -/
def allB (D : List S50) (B : List S108) : Nat → Int → Bool
  | 0, _ => true
  | d + 1, i => bktB D B i && allB D B d (i + 1)
theorem treeGo_parts (D : List S50) (B : List S108) : ∀ (d : Nat) (i : Int) (u : List Int), treeGo D B d i u = (allB D B d i && onceGo B d i u)
  | 0, _, _ => rfl
  | d + 1, i, u => by
    have ht : treeGo D B (d + 1) i u = if bktB D B i = true then (match useGo u (rd_T108 B i).f2 with | some u' => treeGo D B d (i + 1) u' | none => false) else false := rfl
    have ho : onceGo B (d + 1) i u = match useGo u (rd_T108 B i).f2 with | some u' => onceGo B d (i + 1) u' | none => false := rfl
    have ha : allB D B (d + 1) i = (bktB D B i && allB D B d (i + 1)) := rfl
    rw [ht, ho, ha]
    cases bktB D B i with
    | false => rfl
    | true =>
      cases useGo u (rd_T108 B i).f2 with
      | none => simp
      | some u' => simp [treeGo_parts D B d (i + 1) u']
theorem allB_all (D : List S50) (B : List S108) : ∀ (d i : Nat), allB D B d i = true ↔ ∀ j, i ≤ j → j < i + d → bktB D B j = true
  | 0, i => by simp [allB]; intro j h1 h2; omega
  | d + 1, i => by
    have ha : allB D B (d + 1) i = (bktB D B i && allB D B d ((i + 1 : Nat) : Int)) := rfl
    rw [ha, Bool.and_eq_true, allB_all D B d (i + 1)]
    constructor
    · rintro ⟨h1, h2⟩ j hj1 hj2
      by_cases e : j = i
      · subst e; exact h1
      · exact h2 j (by omega) (by omega)
    · intro h
      exact ⟨h i (by omega) (by omega), fun j h1 h2 => h j (by omega) (by omega)⟩
theorem bktB_parts (D : List S50) (B : List S108) (i : Nat) : bktB D B i = (bktStep B i && itemsOkB D B (rd_T108 B i).f1 (rd_T108 B i).f2) := by
  unfold bktB bktStep
  have e : decide ((0 : Int) < (i : Int)) = decide (0 < i) := decide_eq_decide.2 (by omega)
  rw [e]
  cases inB (rd_T108 B i).f0 (-12) (-1) <;> cases inB (rd_T108 B i).f1 1 3 <;> cases decide (0 < i) <;> cases decide ((rd_T108 B ((i : Int) - 1)).f0 ≤ (rd_T108 B i).f0) <;> cases decide ((rd_T108 B i).f2.length ≤ 8) <;> rfl
/-- is a topology valid? -/
def treeOkB (D : List S50) (B : List S108) : Bool := devsB D && (decide (B.length ≤ 12) && treeB D B)
theorem fits_all_ev (D : List S50) (B : List S108) (hD : D.length ≤ 16) (hB : B.length ≤ 12) (hS : ∀ j, j < B.length → bktStep B j = true) : Ev (fun k => spec_l06OK.l0 k 0 D B) ((List.range B.length).all fun i => fitsB D B (rd_T108 B i).f1 (rd_T108 B i).f2) := by
  have hst : ∀ (i : Nat), i < B.length → (1 ≤ (rd_T108 B i).f1 ∧ (rd_T108 B i).f1 ≤ 3) ∧ (rd_T108 B i).f2.length ≤ 8 := fun i hi => by
    have := hS i hi
    unfold bktStep inB at this
    simp only [Bool.and_eq_true, decide_eq_true_eq] at this
    exact ⟨this.1.1.2, this.1.2⟩
  have hu : ∀ (i : Nat), i < B.length → ∀ r, Ev (fun k => if fitsB D B (rd_T108 B i).f1 (rd_T108 B i).f2 = true then spec_l06OK.l0 k ((i + 1 : Nat) : Int) D B else some false) r → Ev (fun k => spec_l06OK.l0 k i D B) r := fun i hi r hr => by
    obtain ⟨⟨h1, h3⟩, h8⟩ := hst i hi
    refine Ev.step (f := ?f) (fun k => ?_) ?_
    rotate_left
    · simp only [spec_l06OK.l0]
      rw [if_pos (by omega), if_pos (by omega), up64 i B.length hi (by omega)]
      all_goals exact rfl
    · exact Ev.bind (spec_fits_ev D B (by omega) (by omega) _ _ _ h1 h3 (by omega)) hr
  exact all_loop B.length (fun k i => spec_l06OK.l0 k i D B) _ (fun i hi hc r hr => hu i hi r (Ev.congr (fun k => by rw [if_pos hc]) hr)) (fun i hi hc => hu i hi false (ev_some fun k => by rw [if_neg (by rw [hc]; decide)])) (fun k => by simp only [spec_l06OK.l0]; rw [if_neg (by omega)])
theorem spec_ok_ev (D : List S50) (B : List S108) : Ev (fun k => spec_l06OK.f k D B) (treeOkB D B) := by
  unfold spec_l06OK.f
  refine Ev.bind (spec_devs_ev D B) ?_
  have hj : ∀ r, r = false → Ev (fun k => spec_l06OK.j0 k true D B) r := fun r hr => by
    subst hr
    exact ev_end fun k => by simp only [spec_l06OK.j0]; rw [if_pos trivial]
  unfold treeOkB
  cases hd : devsB D with
  | false =>
    simp only [Bool.false_eq_true, if_false, Bool.false_and]
    exact hj _ rfl
  | true =>
    simp only [if_true, Bool.true_and]
    refine Ev.bind (spec_bkts_ev D B) ?_
    have hparts : treeB D B = (allB D B B.length 0 && onceB B) := treeGo_parts D B B.length 0 []
    have hall := allB_all D B B.length 0
    rw [show ((0 : Nat) : Int) = 0 from rfl] at hall
    have hD : D.length ≤ 16 := by
      unfold devsB at hd
      rw [Bool.and_eq_true] at hd
      exact of_decide_eq_true hd.2
    cases hb : bktsB B with
    | false =>
      simp only [Bool.false_eq_true, if_false]
      refine hj _ ?_
      by_cases c : B.length ≤ 12
      · have : allB D B B.length 0 = false := by
          rw [Bool.eq_false_iff]
          intro h
          have h2 := hall.1 h
          have : bktsB B = true := by
            unfold bktsB
            rw [decide_eq_true c, Bool.and_true, List.all_eq_true]
            intro j hj
            have := h2 j (by omega) (by simpa using hj)
            rw [bktB_parts, Bool.and_eq_true] at this
            exact this.1
          rw [this] at hb; cases hb
        rw [hparts, this]; simp
      · rw [decide_eq_false c, Bool.false_and]
    | true =>
      unfold bktsB at hb
      rw [Bool.and_eq_true, List.all_eq_true] at hb
      have h12 := of_decide_eq_true hb.2
      have hS : ∀ j, j < B.length → bktStep B j = true := fun j hj => hb.1 j (by simpa using hj)
      have h8 : ∀ x ∈ B, x.f2.length ≤ 8 := fun x hx => by
        obtain ⟨j, hj, rfl⟩ := List.mem_iff_getElem.1 hx
        have := hS j hj
        unfold bktStep at this
        simp only [Bool.and_eq_true, decide_eq_true_eq] at this
        rw [rd_bkt B j hj] at this
        exact this.1.2
      simp only [if_true]
      refine Ev.bind (spec_once_ev D B h12 h8) ?_
      rw [decide_eq_true h12, Bool.true_and, hparts]
      cases onceB B with
      | false =>
        rw [Bool.and_false]
        exact hj _ rfl
      | true =>
        rw [Bool.and_true]
        refine Ev.step (f := ?f) (fun k => ?_) ?_
        rotate_left
        · simp only [spec_l06OK.j0]
          exact rfl
        · simp only [Bool.not_true, Bool.false_eq_true, if_false]
          have hf := fits_all_ev D B hD h12 hS
          have e : ((List.range B.length).all fun i => fitsB D B (rd_T108 B i).f1 (rd_T108 B i).f2) = allB D B B.length 0 := by
            rw [Bool.eq_iff_iff, hall, List.all_eq_true]
            have hk : ∀ j, j < B.length → (fitsB D B (rd_T108 B j).f1 (rd_T108 B j).f2 = true ↔ bktB D B j = true) := fun j hj => by
              have hs := hS j hj
              rw [bktB_parts, hs, Bool.true_and]
              unfold bktStep inB at hs
              simp only [Bool.and_eq_true, decide_eq_true_eq] at hs
              rw [fits_items D B _ _ hs.1.1.2.1 hs.1.1.2.2]
            constructor
            · intro h j _ hj
              exact (hk j (by omega)).1 (h j (by simp; omega))
            · intro h j hj
              have hj' : j < B.length := by simpa using hj
              exact (hk j hj').2 (h j (by omega) (by omega))
          rw [e] at hf
          exact hf
theorem impl_ok_ev (D : List S50) (B : List S108) (hD : D.length ≤ 9223372036854775807) (hw : wfTree D B = true) : Ev (fun k => impl_TreeOk.f k D B) (treeOkB D B) := by
  unfold impl_TreeOk.f treeOkB
  simp only [if_pos hw]
  refine Ev.bind (impl_devs_ev D B hD) ?_
  cases devsB D <;> simp <;> first | exact Ev.now _ | exact ev_some fun k => rfl

end Go.Proofs.Ytkadeelplnkpgaa.Pure

-- text OValid
namespace Go.Proofs.Ytkadeelplnkpgaa.Pure
open Go.RowKit Go.Proofs.Ytkadeelplnkpgaa.Q Go.Proofs.YtkadeelplnkpgaaW.PrintWords Go.Proofs.YtkadeelplnkpgaaW.PrintLast Go.Proofs.YtkadeelplnkpgaaW.PrintMore
set_option linter.unusedVariables false
set_option linter.unusedSimpArgs false

/-- what a valid topology holds -/
structure Valid (D : List S50) (B : List S108) : Prop where
  dev : D.length ≤ 16
  bkt : B.length ≤ 12
  devs : ∀ i (h : i < D.length), 0 ≤ D[i].f0 ∧ D[i].f0 ≤ 15 ∧ 0 ≤ D[i].f1 ∧ D[i].f1 ≤ 8
  bkts : ∀ i (h : i < B.length), (-12 ≤ B[i].f0 ∧ B[i].f0 ≤ -1) ∧ (1 ≤ B[i].f1 ∧ B[i].f1 ≤ 3) ∧ B[i].f2.length ≤ 8
  down : ∀ i (h : i + 1 < B.length), B[i + 1].f0 < B[i].f0
  up : ∀ i (h : i + 1 < D.length), D[i].f0 < D[i + 1].f0
  fits : ∀ i (h : i < B.length), ∀ x ∈ B[i].f2, fitOne D B B[i].f1 B[i].f2 x = true
  once : onceB B = true
theorem valid_of (D : List S50) (B : List S108) (h : treeOkB D B = true) : Valid D B := by
  unfold treeOkB at h
  rw [Bool.and_eq_true, Bool.and_eq_true] at h
  obtain ⟨hd, h12, ht⟩ := h
  have h12 := of_decide_eq_true h12
  unfold devsB at hd
  rw [Bool.and_eq_true, List.all_eq_true] at hd
  have h16 := of_decide_eq_true hd.2
  have hparts : treeB D B = (allB D B B.length 0 && onceB B) := treeGo_parts D B B.length 0 []
  rw [hparts, Bool.and_eq_true] at ht
  have hall := (allB_all D B B.length 0).1 ht.1
  have hS : ∀ j, j < B.length → bktStep B j = true ∧ itemsOkB D B (rd_T108 B j).f1 (rd_T108 B j).f2 = true := fun j hj => by
    have := hall j (by omega) (by omega)
    rw [bktB_parts, Bool.and_eq_true] at this
    exact this
  have hdv : ∀ j, j < D.length → devStep D j = true := fun j hj => hd.1 j (by simpa using hj)
  have hk : ∀ i (h : i < B.length), (-12 ≤ B[i].f0 ∧ B[i].f0 ≤ -1) ∧ (1 ≤ B[i].f1 ∧ B[i].f1 ≤ 3) ∧ B[i].f2.length ≤ 8 := fun i h => by
    have := (hS i h).1
    unfold bktStep inB at this
    simp only [Bool.and_eq_true, decide_eq_true_eq] at this
    rw [rd_bkt B i h] at this
    exact ⟨this.1.1.1, this.1.1.2, this.1.2⟩
  refine ⟨h16, h12, ?_, hk, ?_, ?_, ?_, ht.2⟩
  · intro i h
    have := hdv i h
    unfold devStep inB at this
    simp only [Bool.and_eq_true, decide_eq_true_eq] at this
    rw [rd_dev D i h] at this
    exact ⟨this.1.1.1, this.1.1.2, this.1.2.1, this.1.2.2⟩
  · intro i h
    have := (hS (i + 1) h).1
    unfold bktStep at this
    rw [show (((i + 1 : Nat) : Int) - 1) = (i : Int) from by omega, rd_bkt B i (by omega), rd_bkt B (i + 1) h] at this
    simp at this
    omega
  · intro i h
    have := hdv (i + 1) h
    unfold devStep at this
    rw [show (((i + 1 : Nat) : Int) - 1) = (i : Int) from by omega, rd_dev D i (by omega), rd_dev D (i + 1) h] at this
    simp at this
    omega
  · intro i h x hx
    have h2 := (hS i h).2
    rw [rd_bkt B i h] at h2
    have hb := (hk i h).2.1
    rw [← fits_items D B _ _ hb.1 hb.2] at h2
    unfold fitsB at h2
    rw [range_all B[i].f2 (fitOne D B B[i].f1 B[i].f2), List.all_eq_true] at h2
    exact h2 x hx
theorem idx_none {α : Type} (p : α → Bool) (l : List α) (h : ∀ x ∈ l, p x = false) : ∀ (d i : Nat), i + d = l.length → idxFrom p (l.drop i) i = -1
  | 0, i, hd => by
    rw [List.drop_of_length_le (by omega)]; rfl
  | d + 1, i, hd => by
    rw [idx_step p l i (by omega), if_neg (by rw [h _ (List.getElem_mem (by omega))]; decide)]
    exact idx_none p l h d (i + 1) (by omega)
theorem idx_first {α : Type} (p : α → Bool) (l : List α) (n : Nat) (hn : n < l.length) (hp : p l[n] = true) (hb : ∀ j (h : j < n), p l[j] = false) : ∀ (d i : Nat), i + d = n → idxFrom p (l.drop i) i = (n : Int)
  | 0, i, hd => by
    obtain rfl : i = n := by omega
    rw [idx_step p l i hn, if_pos hp]
  | d + 1, i, hd => by
    rw [idx_step p l i (by omega), if_neg (by rw [hb i (by omega)]; decide)]
    exact idx_first p l n hn hp hb d (i + 1) (by omega)
/-- the index found is one that answers -/
theorem idx_hit {α : Type} (p : α → Bool) (l : List α) : ∀ (d i : Nat), i + d = l.length → idxFrom p (l.drop i) i = -1 ∨ ∃ n, ∃ (h : n < l.length), idxFrom p (l.drop i) i = (n : Int) ∧ p l[n] = true
  | 0, i, hd => by
    left
    rw [List.drop_of_length_le (by omega)]; rfl
  | d + 1, i, hd => by
    rw [idx_step p l i (by omega)]
    by_cases c : p (l[i]'(by omega)) = true
    · rw [if_pos c]
      exact .inr ⟨i, by omega, rfl, c⟩
    · rw [if_neg c]
      exact idx_hit p l d (i + 1) (by omega)
theorem bucketAt_hit (B : List S108) (id : Int) : bucketAt B id = -1 ∨ ∃ n, ∃ (h : n < B.length), bucketAt B id = (n : Int) ∧ B[n].f0 = id := by
  rcases idx_hit (fun x : S108 => x.f0 == id) B B.length 0 (by omega) with h | ⟨n, hn, h1, h2⟩
  · exact .inl h
  · exact .inr ⟨n, hn, h1, by simpa using h2⟩
theorem devAt_hit (D : List S50) (id : Int) : devAt D id = -1 ∨ ∃ n, ∃ (h : n < D.length), devAt D id = (n : Int) ∧ D[n].f0 = id := by
  rcases idx_hit (fun x : S50 => x.f0 == id) D D.length 0 (by omega) with h | ⟨n, hn, h1, h2⟩
  · exact .inl h
  · exact .inr ⟨n, hn, h1, by simpa using h2⟩
theorem down_lt {D : List S50} {B : List S108} (V : Valid D B) : ∀ (d i : Nat) (h : i + d + 1 < B.length), B[i + d + 1].f0 < B[i].f0
  | 0, i, h => V.down i h
  | d + 1, i, h => by
    have h1 := down_lt V d i (by omega)
    have h2 := V.down (i + d + 1) h
    exact Int.lt_trans h2 h1
theorem down_of {D : List S50} {B : List S108} (V : Valid D B) (i j : Nat) (hij : i < j) (h : j < B.length) : B[j].f0 < B[i].f0 := by
  obtain ⟨d, rfl⟩ : ∃ d, j = i + d + 1 := ⟨j - i - 1, by omega⟩
  exact down_lt V d i h
theorem bucketAt_own {D : List S50} {B : List S108} (V : Valid D B) (n : Nat) (hn : n < B.length) : bucketAt B B[n].f0 = (n : Int) :=
  idx_first (fun x : S108 => x.f0 == B[n].f0) B n hn (by simp) (fun j hj => by
    have := down_of V j n hj hn
    have : ¬ B[j].f0 = B[n].f0 := by omega
    simpa using this) n 0 (by omega)
theorem devAt_none {D : List S50} {B : List S108} (V : Valid D B) (id : Int) (h : id < 0) : devAt D id = -1 := by
  rcases devAt_hit D id with e | ⟨n, hn, _, e⟩
  · exact e
  · have := V.devs n hn
    omega
theorem kindAt_own {D : List S50} {B : List S108} (V : Valid D B) (n : Nat) (hn : n < B.length) : kindAt D B B[n].f0 = B[n].f1 := by
  have hk : kindAt D B B[n].f0 = if 0 ≤ devAt D B[n].f0 then 0 else if bucketAt B B[n].f0 < 0 then -1 else (rd_T108 B (bucketAt B B[n].f0)).f1 := rfl
  rw [hk, devAt_none V _ (by have := V.bkts n hn; omega), bucketAt_own V n hn, if_neg (by omega), if_neg (by omega), rd_bkt B n hn]
theorem kindAt_le {D : List S50} {B : List S108} (V : Valid D B) (id : Int) : -1 ≤ kindAt D B id ∧ kindAt D B id ≤ 3 := by
  have hk : kindAt D B id = if 0 ≤ devAt D id then 0 else if bucketAt B id < 0 then -1 else (rd_T108 B (bucketAt B id)).f1 := rfl
  rw [hk]
  split
  · omega
  · split
    · omega
    · rcases bucketAt_hit B id with e | ⟨n, hn, e, _⟩
      · omega
      · rw [e, rd_bkt B n hn]
        have := V.bkts n hn
        omega
/-- a kind of a bucket is a bucket's -/
theorem kindAt_bucket {D : List S50} {B : List S108} (V : Valid D B) (id : Int) (h : 1 ≤ kindAt D B id) : ∃ n, ∃ (h : n < B.length), bucketAt B id = (n : Int) ∧ B[n].f0 = id ∧ id < 0 ∧ kindAt D B id = B[n].f1 := by
  have hk : kindAt D B id = if 0 ≤ devAt D id then 0 else if bucketAt B id < 0 then -1 else (rd_T108 B (bucketAt B id)).f1 := rfl
  rw [hk] at h
  split at h
  · omega
  · split at h
    · omega
    · rcases bucketAt_hit B id with e | ⟨n, hn, e, e2⟩
      · omega
      · refine ⟨n, hn, e, e2, ?_, ?_⟩
        · have := V.bkts n hn; omega
        · rw [← e2]; exact kindAt_own V n hn
/-- what lies in a bucket is of a lower kind -/
theorem item_kind {D : List S50} {B : List S108} (V : Valid D B) (n : Nat) (hn : n < B.length) (x : Int) (hx : x ∈ B[n].f2) : 0 ≤ kindAt D B x ∧ kindAt D B x < B[n].f1 := by
  have h := V.fits n hn x hx
  have hb := (V.bkts n hn).2.1
  unfold fitOne at h
  by_cases c : B[n].f1 < 3
  · rw [if_pos c] at h
    have := eq_of_beq h
    omega
  · rw [if_neg c, Bool.and_eq_true, Bool.or_eq_true] at h
    rcases h.2 with h | h
    · have := eq_of_beq h; omega
    · have := eq_of_beq h; omega
end Go.Proofs.Ytkadeelplnkpgaa.Pure

-- text ORise
namespace Go.Proofs.Ytkadeelplnkpgaa.Pure
open Go.RowKit Go.Proofs.YtkadeelplnkpgaaW.PrintWords Go.Proofs.YtkadeelplnkpgaaW.PrintLast Go.Proofs.YtkadeelplnkpgaaW.PrintMore
set_option linter.unusedVariables false
set_option linter.unusedSimpArgs false

def Rise (l : List Int) : Prop := l.Pairwise (· < ·)
theorem rise_ext : ∀ (a b : List Int), Rise a → Rise b → (∀ x, x ∈ a ↔ x ∈ b) → a = b
  | [], [], _, _, _ => rfl
  | [], y :: b, _, _, h => absurd ((h y).2 (by simp)) (by simp)
  | x :: a, [], _, _, h => absurd ((h x).1 (by simp)) (by simp)
  | x :: a, y :: b, ha, hb, h => by
    obtain ⟨ha1, ha2⟩ := List.pairwise_cons.1 ha
    obtain ⟨hb1, hb2⟩ := List.pairwise_cons.1 hb
    have hxy : x = y := by
      rcases List.mem_cons.1 ((h x).1 (by simp)) with e | e
      · exact e
      · rcases List.mem_cons.1 ((h y).2 (by simp)) with e2 | e2
        · exact e2.symm
        · have := ha1 y e2
          have := hb1 x e
          omega
    subst hxy
    congr 1
    refine rise_ext a b ha2 hb2 (fun z => ⟨fun hz => ?_, fun hz => ?_⟩)
    · rcases List.mem_cons.1 ((h z).1 (List.mem_cons_of_mem _ hz)) with e | e
      · have := ha1 z hz
        omega
      · exact e
    · rcases List.mem_cons.1 ((h z).2 (List.mem_cons_of_mem _ hz)) with e | e
      · have := hb1 z hz
        omega
      · exact e
/-- a number put to its place, once -/
def putR : List Int → Int → List Int
  | [], n => [n]
  | x :: xs, n => if x < n then x :: putR xs n else if x = n then x :: xs else n :: x :: xs
theorem mem_putR (y n : Int) : ∀ l, y ∈ putR l n ↔ y = n ∨ y ∈ l
  | [] => by simp [putR]
  | x :: xs => by
    unfold putR
    by_cases c : x < n
    · rw [if_pos c, List.mem_cons, mem_putR y n xs, List.mem_cons]
      constructor
      · rintro (h | h | h)
        · exact .inr (.inl h)
        · exact .inl h
        · exact .inr (.inr h)
      · rintro (h | h | h)
        · exact .inr (.inl h)
        · exact .inl h
        · exact .inr (.inr h)
    · rw [if_neg c]
      by_cases c2 : x = n
      · rw [if_pos c2]
        subst c2
        simp
      · rw [if_neg c2]
        simp
theorem rise_putR (n : Int) : ∀ l, Rise l → Rise (putR l n)
  | [], _ => by simp [putR, Rise]
  | x :: xs, h => by
    obtain ⟨h1, h2⟩ := List.pairwise_cons.1 h
    unfold putR
    by_cases c : x < n
    · rw [if_pos c]
      refine List.pairwise_cons.2 ⟨fun y hy => ?_, rise_putR n xs h2⟩
      rcases (mem_putR y n xs).1 hy with rfl | hy
      · exact c
      · exact h1 y hy
    · rw [if_neg c]
      by_cases c2 : x = n
      · rw [if_pos c2]; exact h
      · rw [if_neg c2]
        refine List.pairwise_cons.2 ⟨fun y hy => ?_, h⟩
        rcases List.mem_cons.1 hy with rfl | hy
        · omega
        · have := h1 y hy
          omega
theorem putR_length (n : Int) : ∀ l, (putR l n).length ≤ l.length + 1
  | [] => by simp [putR]
  | x :: xs => by
    unfold putR
    have := putR_length n xs
    split
    · simp; omega
    · split <;> simp
theorem fold_putR : ∀ (l acc : List Int), Rise acc → Rise (l.foldl putR acc) ∧ (∀ y, y ∈ l.foldl putR acc ↔ y ∈ acc ∨ y ∈ l) ∧ (l.foldl putR acc).length ≤ acc.length + l.length
  | [], acc, h => ⟨h, by simp, by simp⟩
  | x :: l, acc, h => by
    obtain ⟨h1, h2, h3⟩ := fold_putR l (putR acc x) (rise_putR x acc h)
    refine ⟨h1, fun y => ?_, ?_⟩
    · rw [List.foldl_cons, h2 y, mem_putR, List.mem_cons]
      constructor
      · rintro ((h | h) | h)
        · exact .inr (.inl h)
        · exact .inl h
        · exact .inr (.inr h)
      · rintro (h | h | h)
        · exact .inl (.inr h)
        · exact .inl (.inl h)
        · exact .inr h
    · have := putR_length x acc
      rw [List.foldl_cons]
      simp only [List.length_cons]
      omega
theorem sortI_mem (l : List Int) (x : Int) : x ∈ sortI l ↔ x ∈ l := List.mem_mergeSort
theorem sortI_nodup (l : List Int) (h : l.Nodup) : (sortI l).Nodup := (List.mergeSort_perm l _).nodup_iff.2 h
theorem sortI_rise (l : List Int) (h : l.Nodup) : Rise (sortI l) := by
  have h1 : (sortI l).Pairwise fun a b => decide (a ≤ b) = true := List.pairwise_mergeSort (fun a b c => by simp only [decide_eq_true_eq]; omega) (fun a b => by simp only [Bool.or_eq_true, decide_eq_true_eq]; omega) l
  have h2 : (sortI l).Pairwise (· ≠ ·) := sortI_nodup l h
  exact (List.pairwise_and_iff.2 ⟨h1, h2⟩).imp (fun {a b} h => by have h1 := of_decide_eq_true h.1; have h2 := h.2; omega)
/-- put in one by one, or sorted at the end -/
theorem fold_sort (l : List Int) (h : l.Nodup) : l.foldl putR [] = sortI l := by
  obtain ⟨h1, h2, _⟩ := fold_putR l [] (by simp [Rise])
  exact rise_ext _ _ h1 (sortI_rise l h) (fun x => by rw [h2 x, sortI_mem]; simp)
theorem flatMap_length {α β : Type} (g : α → List β) (c : Nat) : ∀ l : List α, (∀ x ∈ l, (g x).length ≤ c) → (l.flatMap g).length ≤ l.length * c
  | [], _ => by simp
  | x :: xs, h => by
    rw [List.flatMap_cons, List.length_append, List.length_cons, Nat.add_mul, Nat.one_mul]
    have := flatMap_length g c xs (fun y hy => h y (List.mem_cons_of_mem _ hy))
    have := h x (by simp)
    omega
end Go.Proofs.Ytkadeelplnkpgaa.Pure

-- text OUnder
namespace Go.Proofs.Ytkadeelplnkpgaa.Pure
open Go.RowKit Go.Proofs.Ytkadeelplnkpgaa.Q Go.Proofs.YtkadeelplnkpgaaW.PrintWords Go.Proofs.YtkadeelplnkpgaaW.PrintLast Go.Proofs.YtkadeelplnkpgaaW.PrintMore
set_option linter.unusedVariables false
set_option linter.unusedSimpArgs false

/-- the devices below a thing, rising -/
def underN (B : List S108) : Nat → Int → List Int
  | 0, id => [id]
  | n + 1, id => if bucketAt B id < 0 then [id] else sortI ((rd_T108 B (bucketAt B id)).f2.flatMap (underN B n))
theorem bucket_kind {D : List S50} {B : List S108} (V : Valid D B) (id : Int) (h : ¬ bucketAt B id < 0) : ∃ j, ∃ (hj : j < B.length), bucketAt B id = (j : Int) ∧ B[j].f0 = id ∧ kindAt D B id = B[j].f1 ∧ rd_T108 B (bucketAt B id) = B[j] := by
  rcases bucketAt_hit B id with e | ⟨j, hj, e, e2⟩
  · omega
  · exact ⟨j, hj, e, e2, by rw [← e2]; exact kindAt_own V j hj, by rw [e]; exact rd_bkt B j hj⟩
theorem kind_dev {D : List S50} {B : List S108} (id : Int) (h : bucketAt B id < 0) (hk : 0 ≤ kindAt D B id) : 0 ≤ devAt D id ∧ kindAt D B id = 0 := by
  have e : kindAt D B id = if 0 ≤ devAt D id then 0 else if bucketAt B id < 0 then -1 else (rd_T108 B (bucketAt B id)).f1 := rfl
  by_cases c : 0 ≤ devAt D id
  · exact ⟨c, by rw [e, if_pos c]⟩
  · rw [e, if_neg c, if_pos h] at hk
    omega
theorem kind_zero {D : List S50} {B : List S108} (V : Valid D B) (id : Int) (h : kindAt D B id = 0) : bucketAt B id < 0 := by
  by_cases c : bucketAt B id < 0
  · exact c
  · obtain ⟨j, hj, _, _, e, _⟩ := bucket_kind V id c
    have := V.bkts j hj
    omega
theorem underN_length {D : List S50} {B : List S108} (V : Valid D B) : ∀ (n : Nat) (id : Int), (underN B n id).length ≤ 8 ^ n
  | 0, id => by simp [underN]
  | n + 1, id => by
    unfold underN
    by_cases c : bucketAt B id < 0
    · rw [if_pos c]
      exact Nat.one_le_pow _ _ (by omega)
    · rw [if_neg c, sortI_length]
      obtain ⟨j, hj, _, _, _, e⟩ := bucket_kind V id c
      rw [e]
      have h8 := (V.bkts j hj).2.2
      have h1 := flatMap_length (underN B n) (8 ^ n) B[j].f2 (fun x _ => underN_length V n x)
      have h2 : B[j].f2.length * 8 ^ n ≤ 8 * 8 ^ n := Nat.mul_le_mul_right _ h8
      rw [Nat.pow_succ, Nat.mul_comm]
      exact Nat.le_trans h1 h2
theorem useGo_nodup : ∀ (items u u' : List Int), useGo u items = some u' → u.Nodup → u'.Nodup
  | [], u, u', h, hn => by
    simp only [useGo, Option.some.injEq] at h
    subst h
    exact hn
  | x :: xs, u, u', h, hn => by
    rw [useGo_cons] at h
    by_cases c : (u.any fun y => y == x) = true
    · rw [if_pos c] at h; cases h
    · rw [if_neg c] at h
      refine useGo_nodup xs (u ++ [x]) u' h ?_
      rw [List.nodup_append]
      refine ⟨hn, by simp, fun a ha b hb e => ?_⟩
      simp only [List.mem_singleton] at hb
      subst hb
      subst e
      exact c (List.any_eq_true.2 ⟨a, ha, by simp⟩)
theorem onceGo_nodup (B : List S108) : ∀ (d i : Nat) (u : List Int), i + d = B.length → onceGo B d (i : Int) u = true → u.Nodup → (u ++ (B.drop i).flatMap (·.f2)).Nodup
  | 0, i, u, hd, _, hn => by
    rw [List.drop_of_length_le (by omega)]
    simpa using hn
  | d + 1, i, u, hd, h, hn => by
    have hi : i < B.length := by omega
    unfold onceGo at h
    rw [rd_bkt B i hi] at h
    cases hu : useGo u B[i].f2 with
    | none => rw [hu] at h; cases h
    | some u' =>
      rw [hu] at h
      have h' : onceGo B d (((i + 1 : Nat)) : Int) u' = true := h
      have := onceGo_nodup B d (i + 1) u' (by omega) h' (useGo_nodup _ _ _ hu hn)
      rw [useGo_length _ _ _ hu] at this
      rw [List.drop_eq_getElem_cons hi, List.flatMap_cons, ← List.append_assoc]
      exact this
theorem once_all {D : List S50} {B : List S108} (V : Valid D B) : (B.flatMap (·.f2)).Nodup := by
  have := onceGo_nodup B B.length 0 [] (by omega) V.once (by simp)
  simpa using this
theorem items_nodup {D : List S50} {B : List S108} (V : Valid D B) (j : Nat) (hj : j < B.length) : B[j].f2.Nodup := (List.pairwise_flatMap.1 (once_all V)).1 _ (List.getElem_mem hj)
theorem items_apart {D : List S50} {B : List S108} (V : Valid D B) (i j : Nat) (hi : i < B.length) (hj : j < B.length) (x : Int) (h1 : x ∈ B[i].f2) (h2 : x ∈ B[j].f2) : i = j := by
  have h := (List.pairwise_flatMap.1 (once_all V)).2
  rw [List.pairwise_iff_getElem] at h
  rcases Nat.lt_trichotomy i j with c | c | c
  · exact absurd rfl (h i j hi hj c x h1 x h2)
  · exact c
  · exact absurd rfl (h j i hj hi c x h2 x h1)
/-- the kinds of a bucket's things are all the same -/
theorem item_kinds {D : List S50} {B : List S108} (V : Valid D B) (j : Nat) (hj : j < B.length) (x y : Int) (hx : x ∈ B[j].f2) (hy : y ∈ B[j].f2) : kindAt D B x = kindAt D B y := by
  have h1 := V.fits j hj x hx
  have h2 := V.fits j hj y hy
  unfold fitOne at h1 h2
  by_cases c : B[j].f1 < 3
  · rw [if_pos c] at h1 h2
    rw [eq_of_beq h1, eq_of_beq h2]
  · rw [if_neg c, Bool.and_eq_true] at h1 h2
    rw [eq_of_beq h1.1, eq_of_beq h2.1]
theorem under_apart {D : List S50} {B : List S108} (V : Valid D B) (x : Int) : ∀ (n : Nat) (a b : Int), kindAt D B a = kindAt D B b → 0 ≤ kindAt D B a → kindAt D B a ≤ 2 → x ∈ underN B n a → x ∈ underN B n b → a = b
  | 0, a, b, _, _, _, ha, hb => by
    simp only [underN, List.mem_singleton] at ha hb
    rw [← ha, hb]
  | n + 1, a, b, hk, h0, h2, ha, hb => by
    unfold underN at ha hb
    by_cases c : bucketAt B a < 0
    · have ka := (kind_dev a c h0).2
      have cb := kind_zero V b (by rw [← hk]; exact ka)
      rw [if_pos c] at ha
      rw [if_pos cb] at hb
      simp only [List.mem_singleton] at ha hb
      rw [← ha, hb]
    · obtain ⟨i, hi, _, ea, ka, ra⟩ := bucket_kind V a c
      have hki := V.bkts i hi
      have cb : ¬ bucketAt B b < 0 := fun cb => by
        have := (kind_dev b cb (by rw [← hk]; exact h0)).2
        omega
      obtain ⟨j, hj, _, eb, kb, rb⟩ := bucket_kind V b cb
      rw [if_neg c, ra, sortI_mem, List.mem_flatMap] at ha
      rw [if_neg cb, rb, sortI_mem, List.mem_flatMap] at hb
      obtain ⟨y, hy, hxy⟩ := ha
      obtain ⟨z, hz, hxz⟩ := hb
      have fy := V.fits i hi y hy
      have fz := V.fits j hj z hz
      unfold fitOne at fy fz
      rw [if_pos (by omega)] at fy fz
      have fy := eq_of_beq fy
      have fz := eq_of_beq fz
      have hyz := under_apart V x n y z (by omega) (by omega) (by omega) hxy hxz
      subst hyz
      have hij := items_apart V i j hi hj y hy hz
      subst hij
      rw [← ea, ← eb]
theorem under_nodup {D : List S50} {B : List S108} (V : Valid D B) : ∀ (n : Nat) (id : Int), (underN B n id).Nodup
  | 0, id => by simp [underN]
  | n + 1, id => by
    unfold underN
    by_cases c : bucketAt B id < 0
    · rw [if_pos c]; simp
    · rw [if_neg c]
      obtain ⟨j, hj, _, _, _, e⟩ := bucket_kind V id c
      rw [e]
      refine sortI_nodup _ (List.pairwise_flatMap.2 ⟨fun a _ => under_nodup V n a, ?_⟩)
      refine List.Pairwise.imp_of_mem (fun {a b} ha hb hab x hx y hy hxy => ?_) (items_nodup V j hj)
      subst hxy
      have ka := item_kind V j hj a ha
      have := (V.bkts j hj).2.1
      exact hab (under_apart V x n a b (item_kinds V j hj a b ha hb) ka.1 (by omega) hx hy)
/-- the things of a bucket, their devices one behind the other: none twice -/
theorem flat_nodup {D : List S50} {B : List S108} (V : Valid D B) (n : Nat) (j : Nat) (hj : j < B.length) : (B[j].f2.flatMap (underN B n)).Nodup := by
  refine List.pairwise_flatMap.2 ⟨fun a _ => under_nodup V n a, ?_⟩
  refine List.Pairwise.imp_of_mem (fun {a b} ha hb hab x hx y hy hxy => ?_) (items_nodup V j hj)
  subst hxy
  have ka := item_kind V j hj a ha
  have := (V.bkts j hj).2.1
  exact hab (under_apart V x n a b (item_kinds V j hj a b ha hb) ka.1 (by omega) hx hy)
theorem under_dev {D : List S50} {B : List S108} (V : Valid D B) : ∀ (n : Nat) (id : Int), 0 ≤ kindAt D B id → kindAt D B id < n → ∀ x ∈ underN B n id, 0 ≤ devAt D x
  | 0, id, h0, h1, _, _ => by omega
  | n + 1, id, h0, h1, x, hx => by
    unfold underN at hx
    by_cases c : bucketAt B id < 0
    · rw [if_pos c] at hx
      simp only [List.mem_singleton] at hx
      subst hx
      exact (kind_dev x c h0).1
    · rw [if_neg c] at hx
      obtain ⟨j, hj, _, _, ek, e⟩ := bucket_kind V id c
      rw [e, sortI_mem, List.mem_flatMap] at hx
      obtain ⟨y, hy, hxy⟩ := hx
      have ky := item_kind V j hj y hy
      exact under_dev V n y ky.1 (by omega) x hxy
end Go.Proofs.Ytkadeelplnkpgaa.Pure

-- text OUnderEv
namespace Go.Proofs.Ytkadeelplnkpgaa.Pure
open Go.RowKit Go.Proofs.Ytkadeelplnkpgaa.Q Go.Proofs.YtkadeelplnkpgaaW.PrintWords Go.Proofs.YtkadeelplnkpgaaW.PrintLast Go.Proofs.YtkadeelplnkpgaaW.PrintMore
set_option linter.unusedVariables false
set_option linter.unusedSimpArgs false

/-- what the reference's put has come to -/
def PutAt (l : List Int) (n : Int) (i : Nat) (s : List Int × Bool) : Prop := s.1 ++ (if s.2 = true then l.drop i else putR (l.drop i) n) = putR l n ∧ s.1.length ≤ i + (if s.2 = true then 1 else 0)
theorem spec_put_ev (l : List Int) (n : Int) (hl : l.length ≤ 17592186044414) : Ev (fun k => spec_l00Put.f k l n) (putR l n) := by
  refine loop_is l.length (fun k (s : List Int × Bool) i => spec_l00Put.l0 k l n s.1 s.2 i) (PutAt l n) _ ?_ ?_ ([], false) ⟨rfl, by simp⟩
  · rintro i ⟨out, done⟩ hi ⟨h1, h2⟩
    simp only at h1 h2
    rw [List.drop_eq_getElem_cons hi] at h1
    cases done with
    | true =>
      simp only [if_true] at h1 h2
      refine .inr ⟨(out ++ [l[i]], true), ⟨by simpa using h1, by simp; omega⟩, fun r hr => Ev.step (f := fun k => spec_l00Put.j1 k l n out true i false) (fun k => ?_) (Ev.step (fun k => ?_) hr)⟩
      · simp only [spec_l00Put.l0]
        rw [if_pos (by omega)]
        rfl
      · simp only [spec_l00Put.j1, Bool.false_eq_true, if_false]
        rw [if_pos (by omega), if_pos (by omega), if_pos (by omega), up64 i l.length hi (by omega), rd_get l i hi]
    | false =>
      simp only [Bool.false_eq_true, if_false] at h1 h2
      simp only [putR] at h1
      have hstep : ∀ r, Ev (fun k => spec_l00Put.j1 k l n out false i (decide (l[i] ≥ n))) r → Ev (fun k => spec_l00Put.l0 k l n out false i) r := fun r hr => Ev.step (fun k => by
        simp only [spec_l00Put.l0]
        simp only [Bool.false_eq_true, if_false]
        rw [if_pos (by omega), if_pos (by omega), rd_get l i hi]) hr
      by_cases c : l[i] < n
      · rw [if_pos c] at h1
        refine .inr ⟨(out ++ [l[i]], false), ⟨by simpa using h1, by simp; omega⟩, fun r hr => hstep r ?_⟩
        rw [decide_eq_false (by omega)]
        refine Ev.step (fun k => ?_) hr
        simp only [spec_l00Put.j1, Bool.false_eq_true, if_false]
        rw [if_pos (by omega), if_pos (by omega), if_pos (by omega), up64 i l.length hi (by omega), rd_get l i hi]
      · rw [if_neg c] at h1
        by_cases c2 : l[i] = n
        · rw [if_pos c2] at h1
          refine .inr ⟨(out ++ [l[i]], true), ⟨by simpa using h1, by simp; omega⟩, fun r hr => hstep r ?_⟩
          rw [decide_eq_true (by omega)]
          refine Ev.step (fun k => ?_) hr
          simp only [spec_l00Put.j1, if_true]
          rw [if_pos (by omega), if_pos (by omega), rd_get l i hi, if_neg (by omega), if_pos (by omega), up64 i l.length hi (by omega)]
        · rw [if_neg c2] at h1
          refine .inr ⟨(out ++ [n] ++ [l[i]], true), ⟨by simpa using h1, ?_⟩, fun r hr => hstep r ?_⟩
          · simp only [List.length_append, List.length_singleton, if_true]; omega
          · rw [decide_eq_true (by omega)]
            refine Ev.step (fun k => ?_) hr
            simp only [spec_l00Put.j1, if_true]
            rw [if_pos (by omega), if_pos (by omega), rd_get l i hi, if_pos (by omega), if_pos (by omega)]
            simp only [Option.bind_some]
            rw [if_pos (by rw [List.length_append, List.length_singleton]; omega), up64 i l.length hi (by omega)]
  · rintro ⟨out, done⟩ ⟨h1, h2⟩
    simp only at h1 h2
    rw [List.drop_length] at h1
    cases done with
    | true =>
      refine ev_end (fun k => ?_)
      simp only [spec_l00Put.l0]
      rw [if_neg (by omega)]
      simp only [if_true, List.append_nil] at h1 ⊢
      rw [h1]
    | false =>
      refine ev_end (fun k => ?_)
      simp only [spec_l00Put.l0]
      simp only [Bool.false_eq_true, if_false, putR] at h1 h2 ⊢
      rw [if_neg (by omega), if_pos (by omega)]
      rw [h1]
theorem kind_neg {D : List S50} {B : List S108} (V : Valid D B) (id : Int) (h : kindAt D B id < 0) : bucketAt B id < 0 := by
  by_cases c : bucketAt B id < 0
  · exact c
  · obtain ⟨j, hj, _, _, e, _⟩ := bucket_kind V id c
    have := V.bkts j hj
    omega
theorem under_flat {D : List S50} {B : List S108} (V : Valid D B) (n : Nat) (j : Nat) (hj : j < B.length) (i : Nat) : ((B[j].f2.take i).flatMap (underN B n)).length ≤ 8 * 8 ^ n := by
  have h8 := (V.bkts j hj).2.2
  have h1 := flatMap_length (underN B n) (8 ^ n) (B[j].f2.take i) (fun x _ => underN_length V n x)
  exact Nat.le_trans h1 (Nat.mul_le_mul_right _ (by rw [List.length_take]; omega))
theorem underL_ev {D : List S50} {B : List S108} (V : Valid D B) (n : Nat) (j : Nat) (hj : j < B.length) (hn : 8 * 8 ^ n ≤ 1048576) (g : Nat → Int → Option (List Int)) (hg : ∀ x ∈ B[j].f2, Ev (fun k => g k x) (underN B n x)) : ∀ (d i : Nat), i + d = B[j].f2.length → Ev (fun k => underL (g k) ((B[j].f2.take i).flatMap (underN B n)) (B[j].f2.drop i)) (B[j].f2.flatMap (underN B n))
  | 0, i, hd => by
    rw [List.drop_of_length_le (by omega), List.take_of_length_le (by omega)]
    exact Ev.now _
  | d + 1, i, hd => by
    have hi : i < B[j].f2.length := by omega
    have h := underL_ev V n j hj hn g hg d (i + 1) (by omega)
    have hb := under_flat V n j hj (i + 1)
    rw [List.drop_eq_getElem_cons hi]
    simp only [underL]
    refine Ev.bind (hg _ (List.getElem_mem hi)) ?_
    rw [List.take_succ_eq_append_getElem hi, List.flatMap_append, List.flatMap_singleton] at h hb
    rw [List.length_append] at hb
    simp only [if_pos (Nat.le_trans hb hn)]
    exact h
theorem impl_under_ev {D : List S50} {B : List S108} (V : Valid D B) : ∀ (n : Nat) (id : Int), n ≤ 5 → kindAt D B id < n → Ev (fun k => impl_Tree_nodesUnder.f k D B id) (underN B n id)
  | 0, id, _, h => by
    refine ev_end (fun k => ?_)
    simp only [impl_Tree_nodesUnder.f]
    rw [if_pos (kind_neg V id (by omega))]
    rfl
  | n + 1, id, h5, h => by
    by_cases c : bucketAt B id < 0
    · refine ev_end (fun k => ?_)
      simp only [impl_Tree_nodesUnder.f, underN]
      rw [if_pos c, if_pos c]
    · obtain ⟨j, hj, _, _, ek, e⟩ := bucket_kind V id c
      have hn : 8 * 8 ^ n ≤ 1048576 := by
        have := Nat.pow_le_pow_right (n := 8) (by omega) (show n ≤ 4 by omega)
        omega
      have hL := underL_ev V n j hj hn (fun k x => impl_Tree_nodesUnder.f k D B x) (fun x hx => impl_under_ev V n x (by omega) (by have := item_kind V j hj x hx; omega)) B[j].f2.length 0 (by omega)
      refine Ev.step (f := ?f) (fun k => ?_) ?_
      rotate_left
      · simp only [impl_Tree_nodesUnder.f]
        rw [if_neg c, e]
        all_goals exact rfl
      · simp only [underN]
        rw [if_neg c, e]
        simp only [Option.map_eq_bind]
        exact Ev.bind hL (Ev.now _)
theorem spec_under_ev {D : List S50} {B : List S108} (V : Valid D B) : ∀ (n : Nat) (id : Int), n ≤ 5 → kindAt D B id < n → Ev (fun k => spec_l06Under.f k D B id) (underN B n id) := fun n id h5 h => by
  have hB := V.bkt
  refine Ev.step (f := fun k => (spec_l06Bucket.f k D B id).bind fun t => if t < 0 then some [id] else spec_l06Under.l0 k t [] 0 D B) (fun k => rfl) ?_
  refine Ev.bind (specBucket_ev D B id (by omega)) ?_
  by_cases c : bucketAt B id < 0
  · simp only [if_pos c]
    have e : underN B n id = [id] := by cases n with
      | zero => rfl
      | succ n => simp only [underN, if_pos c]
    rw [e]
    exact Ev.now _
  · simp only [if_neg c]
    obtain ⟨j, hj, ej, _, ek, e⟩ := bucket_kind V id c
    cases n with
    | zero => have := V.bkts j hj; omega
    | succ n =>
      have hu : underN B (n + 1) id = (B[j].f2.flatMap (underN B n)).foldl putR [] := by
        rw [fold_sort _ (flat_nodup V n j hj)]
        simp only [underN, if_neg c, e]
      have hn : 8 * 8 ^ n ≤ 1048576 := by
        have := Nat.pow_le_pow_right (n := 8) (by omega) (show n ≤ 4 by omega)
        omega
      rw [hu, ej]
      have h8 := (V.bkts j hj).2.2
      refine loop_is B[j].f2.length (fun k (s : List Int) i => spec_l06Under.l0 k j s i D B) (fun i s => s = ((B[j].f2.take i).flatMap (underN B n)).foldl putR []) _ ?_ ?_ [] (by simp)
      · rintro i s hi rfl
        refine .inr ⟨_, rfl, fun r hr => Ev.step (f := ?f) (fun k => ?_) ?_⟩
        rotate_left
        · simp only [spec_l06Under.l0]
          rw [if_pos (by omega), if_pos (by omega), rd_bkt B j hj, if_pos (by omega), if_pos (by omega), rd_get _ i hi]
          all_goals exact rfl
        · refine Ev.bind (spec_under_ev V n _ (by omega) (by have := item_kind V j hj _ (List.getElem_mem hi); omega)) ?_
          rw [List.take_succ_eq_append_getElem hi, List.flatMap_append, List.flatMap_singleton, List.foldl_append] at hr
          have hb : (((B[j].f2.take i).flatMap (underN B n)).foldl putR []).length ≤ 1048576 := by
            have := (fold_putR ((B[j].f2.take i).flatMap (underN B n)) [] (by simp [Rise])).2.2
            have h2 := under_flat V n j hj i
            simp only [List.length_nil] at this
            omega
          have hr0 := (fold_putR ((B[j].f2.take i).flatMap (underN B n)) [] (by simp [Rise])).1
          have ht : (underN B n B[j].f2[i]).length ≤ 1048576 := by have := underN_length V n B[j].f2[i]; omega
          generalize ((B[j].f2.take i).flatMap (underN B n)).foldl putR [] = acc at hr hb hr0 ⊢
          generalize underN B n B[j].f2[i] = t at hr ht ⊢
          refine loop_is t.length (fun k (s : List Int) u => spec_l06Under.l1 k j s i t u D B) (fun u s => s = (t.take u).foldl putR acc) _ ?_ ?_ acc (by simp)
          · rintro u s hu rfl
            refine .inr ⟨_, rfl, fun r hr => Ev.step (f := ?f2) (fun k => ?_) ?_⟩
            rotate_left
            · simp only [spec_l06Under.l1]
              rw [if_pos (by omega), if_pos (by omega), rd_get _ u hu, up64 u t.length hu (by omega)]
              all_goals exact rfl
            · have hl : ((t.take u).foldl putR acc).length ≤ 17592186044414 := by
                have := (fold_putR (t.take u) acc hr0).2.2
                rw [List.length_take] at this
                omega
              refine Ev.bind (spec_put_ev _ _ hl) ?_
              rw [List.take_succ_eq_append_getElem hu, List.foldl_append] at hr
              exact hr
          · rintro s rfl
            refine Ev.step (fun k => ?_) hr
            simp only [spec_l06Under.l1]
            rw [if_neg (by omega), up64 i B[j].f2.length hi (by omega), List.take_length]
      · rintro s rfl
        refine ev_end (fun k => ?_)
        simp only [spec_l06Under.l0]
        rw [if_pos (by omega), if_pos (by omega), rd_bkt B j hj, if_neg (by omega), List.take_length]
end Go.Proofs.Ytkadeelplnkpgaa.Pure

-- text Qf65
namespace Go.Proofs.Ytkadeelplnkpgaa.Q
open Go.RowKit Go.Proofs.YtkadeelplnkpgaaW.PrintWords Go.Proofs.YtkadeelplnkpgaaW.PrintLast Go.Proofs.YtkadeelplnkpgaaW.PrintMore
attribute [local go_sem] max2_int min2_int max_two min_two max_three min_three max_four min_four   -- for this text's walks alone
set_option linter.unusedVariables false
set_option linter.unusedSimpArgs false

/-! ### impl_Tree_weight: function 65 -/
def impl_Tree_weight.l0 : Nat → Int → List Int → Int → Int → List (S50) → List (S108) → Option (Int)
  | 0, _, _, _, _, _, _ => none
  | k + 1, x5, x10, x11, x12, x420000, x420001 => if x12 < x11 then (if 0 ≤ x12 then (if x12 < (x10.length : Int) then ((impl_Tree_device.f x420000 x420001 (rd x10 x12)).bind fun t424 => (if 0 ≤ t424 then (if t424 < (x420000.length : Int) then (impl_Tree_weight.l0 k (wrap64 (x5 + ((rd_T50 x420000 t424).f1))) x10 x11 (wrap64 (x12 + 1)) x420000 x420001) else (none)) else (none))) else (none)) else (none)) else (some x5)
def impl_Tree_weight.f (k : Nat) (l0_0 : List (S50)) (l0_1 : List (S108)) (a1 : Int) : Option (Int) := (impl_Tree_nodesUnder.f k l0_0 l0_1 a1).bind fun t420 => (impl_Tree_weight.l0 k 0 t420 (t420.length : Int) 0 l0_0 l0_1)
def impl_Tree_weight.T5 : Bool × List (List Nat × List Nat) := (true, [([], []), ([], []), ([1], [1]), ([], []), ([], []), ([3, 4], [3, 4]), ([2, 5], [2, 5]), ([6], [6]), ([7], [7]), ([0, 8], [0, 8]), ([9, 5, 0, 1, 2, 3, 4, 5, 6, 7, 8, 9], [0, 9])])
def impl_Tree_weight.B5 : List Nat := [0, 0, 2, 0, 0, 24, 62, 126, 254, 511, 1023]
theorem impl_Tree_weight.tab5 : rtab .any (opsOf Try.f65 5) = impl_Tree_weight.T5 := by kernel_rfl
theorem impl_Tree_weight.bits5 : waitsOk impl_Tree_weight.T5.2 impl_Tree_weight.B5 = true := by kernel_rfl
set_option maxHeartbeats 8000000 in
set_option maxRecDepth 100000 in
theorem impl_Tree_weight.calls (k : Nat) (A0_0 : Option Addr) (c0_0 : Nat) (l0_0 : List (S50)) (A0_1 : Option Addr) (c0_1 : Nat) (l0_1 : List (S108)) (a1 : Int) (r : Int) (w : World) (hr0_0 : Kd.C k50 w A0_0 l0_0.length l0_0) (hc0_0 : l0_0.length ≤ c0_0) (hr0_1 : Kd.C k108 w A0_1 l0_1.length l0_1) (hc0_1 : l0_1.length ≤ c0_1) (h : impl_Tree_weight.f k l0_0 l0_1 a1 = some r) :
    Calls Try.prog 65 #[.agg #[.slice A0_0 l0_0.length c0_0, .slice A0_1 l0_1.length c0_1], .int .i64 a1] w fun e w' => e = .returned (.int .i64 r) ∧ Below w.heap.size w w' := by
  have hu31 := Try.underlying31
  have HR0_0 := Aside0.mk hr0_0
  have HC0_0 := Aside0.mk hc0_0
  clear hr0_0 hc0_0
  have HR0_1 := Aside0.mk hr0_1
  have HC0_1 := Aside0.mk hc0_1
  clear hr0_1 hc0_1
  have HB := Aside0.mk (Below.refl w.heap.size w)
  have H : ((impl_Tree_nodesUnder.f k l0_0 l0_1 a1).bind fun t420 => (impl_Tree_weight.l0 k 0 t420 (t420.length : Int) 0 l0_0 l0_1)) = some r := h
  clear h
  replace H := Option.bind_eq_some_iff.mp H
  obtain ⟨t420, A30, H⟩ := H
  replace H : (impl_Tree_weight.l0 k 0 t420 (t420.length : Int) 0 l0_0 l0_1) = some r := H
  have A3 := Aside0.mk A30
  clear A30
  have H' := Aside0.mk H
  clear H
  go_enter Try.func65, Try.ntmps65
  go_wp2_with (first | ((with_reducible refine gate_dst (N := 2) rfl ?_); refine box_event ?hg (N := 2) ?hd (cs := #[.slice A0_0 l0_0.length c0_0, .slice A0_1 l0_1.length c0_1]) (t := 31) ?hr ?_; (case hd => rfl); (case hg => rfl); (case hr => first | (go_simp; done) | (go_simp; rfl)); intro gb419 hg w4 hbox hb; have n0_ := Aside0.mk (below_step (by repeat first | exact HB.out | apply below_alloc | apply pw_below_drewN | apply below_drew1) hb); have n1_ := Aside0.mk (hbox); have n2_ := Aside0.mk ((by rw [hg]; exact (below_size (by repeat first | exact HB.out | apply below_alloc | apply pw_below_drewN | apply below_drew1)) : w.heap.size ≤ gb419)); have n3_ := Aside0.mk ((by rw [hg]; exact (below_size (by repeat first | exact HB.out | apply below_alloc | apply pw_below_drewN | apply below_drew1)) : w.heap.size ≤ gb419)); clear HB; have HB := n0_; have BK419 := n1_; have GW419 := n2_; have GE419 := n3_; clear n0_ n1_ n2_ n3_; clear hb hbox hg; have hcz5_0 : w4.cell? ⟨gb419, 0, none⟩ = some (.slice A0_0 l0_0.length c0_0) := (blk_cell BK419.out 0).trans rfl; have hcz5_1 : w4.cell? ⟨gb419, 1, none⟩ = some (.slice A0_1 l0_1.length c0_1) := (blk_cell BK419.out 1).trans rfl; have hfz5_0 := blk_frozen BK419.out 0; have hfz5_1 := blk_frozen BK419.out 1) | ((with_reducible refine gate_callee (f := 73) rfl ?_); refine goesL_ (some 10) rfl rfl Try.func73 (by kernel_rfl) rfl #[.agg #[.slice A0_0 l0_0.length c0_0, .slice A0_1 l0_1.length c0_1], .int .i64 a1] rfl (by (try simp only [List.map_toArray, List.map_cons, List.map_nil]); first | done | rfl | (simp only [List.length_drop, List.length_take]; rfl)) ?_; (with_reducible refine (impl_Tree_nodesUnder.calls k _ _ l0_0 _ _ l0_1 a1 t420 _ ?side1 ?side2 ?side3 ?side4 A3.out).mono ?_); (case side1 => repeat (first | exact (Kd.C_below HR0_0.out HB.out) | (with_reducible refine Kd.C_alloc ?_ _) | (with_reducible refine Kd.C_drewN ?_ _) | (with_reducible refine Kd.C_drew ?_))); (case side2 => exact HC0_0.out); (case side3 => repeat (first | exact (Kd.C_below HR0_1.out HB.out) | (with_reducible refine Kd.C_alloc ?_ _) | (with_reducible refine Kd.C_drewN ?_ _) | (with_reducible refine Kd.C_drew ?_))); (case side4 => exact HC0_1.out); rintro e w6 ⟨v421, rfl, ho0, hb⟩; refine ⟨_, rfl, ?_⟩; have n0_ := Aside0.mk (Kd.R_lower ho0 (below_size (by repeat (first | (with_reducible first | exact HB.out | apply below_alloc | apply pw_below_drewN | apply below_drew1 | refine below_set ?_ GE419.out) | exact HB.out)))); have n1_ := Aside0.mk (blk_below (g := gb419) (o := .cells #[.slice A0_0 l0_0.length c0_0, .slice A0_1 l0_1.length c0_1] 31 (0, 0)) (by (with_reducible repeat first | apply blk_drewN | apply blk_drew | apply blk_alloc); exact BK419.out) hb); have n2_ := Aside0.mk (below_step (by repeat (first | (with_reducible first | exact HB.out | apply below_alloc | apply pw_below_drewN | apply below_drew1 | refine below_set ?_ GE419.out) | exact HB.out)) hb); clear BK419; clear HB; have HO422 := n0_; have BK419 := n1_; have HB := n2_; clear n0_ n1_ n2_; (try clear hb); (try clear hb2); (try clear hk); (try clear hi); (try clear ho0); obtain ⟨Ao7, co7, eo7⟩ := Kd.R_slice HO422.out; subst eo7))
  go_loopg [5, 12] k (fun kq v5 v12 w' => ∃ (x5_1 : Int) (x12_1 : Int), v5 = .int .i64 x5_1 ∧ v12 = .int .i64 x12_1 ∧ Aside0 (impl_Tree_weight.l0 kq x5_1 t420 (t420.length : Int) x12_1 l0_0 l0_1 = some r) ∧ Aside0 (kq ≤ k) ∧ Aside0 (Kd.R (Kd.int .i64) 2 w' w.heap.size (fun _ => True) (.slice Ao7 t420.length co7) t420) ∧ Aside0 (w'.heap[gb419]? = some (.cells #[(.slice A0_0 l0_0.length c0_0), (.slice A0_1 l0_1.length c0_1)] 31 (0, 0))) ∧ Aside0 (Below w.heap.size w w'))
  case atStart => exact ⟨(0), (0), (by first | rfl | (simp; done) | (simp [*]; done)), (by first | rfl | (simp; done) | (simp [*]; done)), H', ⟨Nat.le_refl _⟩, ⟨by (with_reducible repeat (first | apply Kd.R_alloc | apply Kd.R_drewN | apply Kd.R_drew)); exact HO422.out⟩, ⟨by (with_reducible repeat first | apply blk_drewN | apply blk_drew | apply blk_alloc); exact BK419.out⟩, ⟨by repeat (first | (with_reducible first | exact HB.out | apply below_alloc | apply pw_below_drewN | apply below_drew1 | refine below_set ?_ GE419.out) | exact HB.out)⟩⟩
  case round =>
    clear H'
    try clear p2
    try clear c6
    try clear c7
    try clear hcz5_0
    try clear hcz5_1
    try clear hfz5_0
    try clear hfz5_1
    obtain ⟨x5_1, x12_1, rfl, rfl, HA, HK1, HO_10, BK419, HB⟩ := hrel
    cases gk with
    | zero => exact absurd HA.out (by simp [impl_Tree_weight.l0])
    | succ k1 =>
      have H := HA.out
      clear HA
      simp only [impl_Tree_weight.l0] at H
      by_cases c8 : x12_1 < (t420.length : Int)
      · rw [if_pos c8] at H
        have c8b0 : decide (x12_1 < (t420.length : Int)) = true := decide_eq_true c8
        clear c8
        by_cases c9 : 0 ≤ x12_1
        · rw [if_pos c9] at H
          have c9b0 : decide (0 ≤ x12_1) = true := decide_eq_true c9
          clear c9
          by_cases c10 : x12_1 < (t420.length : Int)
          · rw [if_pos c10] at H
            have c10b0 : decide (x12_1 < (t420.length : Int)) = true := decide_eq_true c10
            clear c10
            replace H := Option.bind_eq_some_iff.mp H
            obtain ⟨t424, A110, H⟩ := H
            replace H : (if 0 ≤ t424 then (if t424 < (l0_0.length : Int) then (impl_Tree_weight.l0 k1 (wrap64 (x5_1 + ((rd_T50 l0_0 t424).f1))) t420 (t420.length : Int) (wrap64 (x12_1 + 1)) l0_0 l0_1) else (none)) else (none)) = some r := H
            have A11 := Aside0.mk A110
            clear A110
            by_cases c12 : 0 ≤ t424
            · rw [if_pos c12] at H
              have c12b0 : decide (0 ≤ t424) = true := decide_eq_true c12
              clear c12
              by_cases c13 : t424 < (l0_0.length : Int)
              · rw [if_pos c13] at H
                have c13b0 : decide (t424 < (l0_0.length : Int)) = true := decide_eq_true c13
                clear c13
                have H' := Aside0.mk H
                clear H
                have p423 : 0 ≤ (x12_1 : Int) := of_decide_eq_true (by assumption)
                have q423 : x12_1 < (t420.length : Int) := of_decide_eq_true (by assumption)
                obtain ⟨ad423, e423, hx423_0⟩ := Kd.at_int (Kd.R_reads' HO_10.out).2.2 x12_1 p423 q423
                cases e423
                replace p423 := eq_true p423
                replace q423 := eq_true q423
                try go_wp2
                have n0_ := Aside0.mk (Kd.R_drew HO_10.out)
                have n1_ := Aside0.mk (blk_drew BK419.out)
                have n2_ := Aside0.mk (below_drew1 HB.out)
                clear HO_10
                clear BK419
                clear HB
                have HO_10 := n0_
                have BK419 := n1_
                have HB := n2_
                clear n0_ n1_ n2_
                have p425 : 0 ≤ (t424 : Int) := of_decide_eq_true (by assumption)
                have q425 : t424 < (l0_0.length : Int) := of_decide_eq_true (by assumption)
                obtain ⟨ad425, e425, hx425_0, hx425_1⟩ := at_T50 HR0_0.out t424 p425 q425
                have hw425_1 := hx425_1
                have hw425_0 := hx425_0
                cases e425
                replace hx425_0 := (HB.out.cell (World.block_lt_of_cell? w _ hx425_0)).trans hx425_0
                replace hx425_1 := (HB.out.cell (World.block_lt_of_cell? w _ hx425_1)).trans hx425_1
                replace p425 := eq_true p425
                replace q425 := eq_true q425
                refine start_ (n := 11) (S := fun w' => w'.cell? ⟨gb419, 0, none⟩ = some (.slice (some ad425) l0_0.length c0_0) ∧ w'.cell? ⟨gb419, 1, none⟩ = some (.slice A0_1 l0_1.length c0_1) ∧ w'.cell? (ad425.add ((t424).toNat * 2)) = some (.int .i64 ((rd_T50 l0_0 t424).f0)) ∧ w'.cell? ⟨(ad425.add ((t424).toNat * 2)).block, (ad425.add ((t424).toNat * 2)).off + 1, none⟩ = some (.int .i64 ((rd_T50 l0_0 t424).f1))) (ds := []) #[false, false, false, false, false, false, false, false, false, false, false] (by kernel_rfl) rfl rfl ⟨(blk_cell BK419.out 0).trans rfl, (blk_cell BK419.out 1).trans rfl, ((HB.out.cell (World.block_lt_of_cell? w _ hw425_0)).trans hw425_0), ((HB.out.cell (World.block_lt_of_cell? w _ hw425_1)).trans hw425_1)⟩ (fun hHeld => ?_); refine with_tabW impl_Tree_weight.tab5 impl_Tree_weight.bits5 (fun HT_ HW_ => ?_)
                generalize wr.drew = w14 at HO_10 BK419 HB hx425_0 hx425_1 hHeld ⊢
                refine pure_ (i := 0) (N := some 16) (v := ?_) (a' := ?_) #[true, false, false, false, false, false, false, false, false, false, false] rfl rfl (any_of HT_.out (by kernel_rfl)) (fun _ _ _ h => h) (Or.inl ⟨by rfl, ?_⟩) ?_ ?_
                rotate_left
                · intro w'
                  go_simp
                  with_reducible rfl
                rotate_left
                · simp only [Act.put, List.setIfInBounds_toArray, List.set_cons_zero, List.set_cons_succ, i64_w, i32_w]
                  rfl
                refine pure_ (i := 1) (N := some 17) (v := ?_) (a' := ?_) #[true, true, false, false, false, false, false, false, false, false, false] rfl rfl (any_of HT_.out (by kernel_rfl)) (fun _ _ _ h => h) (Or.inl ⟨by rfl, ?_⟩) ?_ ?_
                rotate_left
                · intro w'
                  go_simp
                  with_reducible rfl
                rotate_left
                · simp only [Act.put, List.setIfInBounds_toArray, List.set_cons_zero, List.set_cons_succ, i64_w, i32_w]
                  rfl
                refine pure_ (i := 4) (N := some 20) (v := ?_) (a' := ?_) #[true, true, false, false, true, false, false, false, false, false, false] rfl rfl (any_of HT_.out (by kernel_rfl)) (fun _ _ _ h => h) (Or.inl ⟨by rfl, ?_⟩) ?_ ?_
                rotate_left
                · intro w'
                  go_simp
                  with_reducible rfl
                rotate_left
                · simp only [Act.put, List.setIfInBounds_toArray, List.set_cons_zero, List.set_cons_succ, i64_w, i32_w]
                  rfl
                refine take_ (i := 2) (N := some 18) (v := ?_) (a' := ?_) #[true, true, true, false, true, false, false, false, false, false, false] rfl rfl (take_ofW HT_.out HW_.out (by kernel_rfl)) (fun _ _ _ h => h) (Or.inl ⟨by rfl, ?_⟩) hHeld ?_ ?_
                rotate_left
                · rintro w' ⟨s0, s1, s2, s3⟩
                  go_simp
                  with_reducible rfl
                rotate_left
                · simp only [Act.put, List.setIfInBounds_toArray, List.set_cons_zero, List.set_cons_succ, i64_w, i32_w]
                  rfl
                refine take_ (i := 3) (N := some 19) (v := ?_) (a' := ?_) #[true, true, true, true, true, false, false, false, false, false, false] rfl rfl (take_ofW HT_.out HW_.out (by kernel_rfl)) (fun _ _ _ h => h) (Or.inl ⟨by rfl, ?_⟩) hHeld ?_ ?_
                rotate_left
                · rintro w' ⟨s0, s1, s2, s3⟩
                  go_simp
                  with_reducible rfl
                rotate_left
                · simp only [Act.put, List.setIfInBounds_toArray, List.set_cons_zero, List.set_cons_succ, i64_w, i32_w]
                  rfl
                refine one_ (i := 5) (N := some 21) #[true, true, true, true, true, true, false, false, false, false, false] rfl rfl (one_of HT_.out (by kernel_rfl)) (by decide) (fun K hK => ?_)
                refine goes_ Try.func104 (by kernel_rfl) rfl #[.agg #[.slice (some ad425) l0_0.length c0_0, .slice A0_1 l0_1.length c0_1], .int .i64 (rd t420 x12_1)] (by rfl) rfl rfl (by (try simp only [List.map_toArray, List.map_cons, List.map_nil]); first | done | rfl | (simp only [List.length_drop, List.length_take]; rfl)) ?_
                with_reducible refine (impl_Tree_device.calls _ _ l0_0 _ _ l0_1 (rd t420 x12_1) t424 _ ?side1 ?side2 ?side3 ?side4 A11.out).mono ?_
                (case side1 => repeat (first | exact (Kd.C_below HR0_0.out HB.out) | (with_reducible refine Kd.C_alloc ?_ _) | (with_reducible refine Kd.C_drewN ?_ _) | (with_reducible refine Kd.C_drew ?_)))
                (case side2 => exact HC0_0.out)
                (case side3 => repeat (first | exact (Kd.C_below HR0_1.out HB.out) | (with_reducible refine Kd.C_alloc ?_ _) | (with_reducible refine Kd.C_drewN ?_ _) | (with_reducible refine Kd.C_drew ?_)))
                (case side4 => exact HC0_1.out)
                rintro e w15 ⟨rfl, hb⟩
                refine ⟨_, rfl, ?_⟩
                have n0_ := Aside0.mk (Kd.R_below (by (with_reducible repeat (first | apply Kd.R_alloc | apply Kd.R_drewN | apply Kd.R_drew)); exact HO_10.out) hb)
                have n1_ := Aside0.mk (blk_below (g := gb419) (o := .cells #[.slice (some ad425) l0_0.length c0_0, .slice A0_1 l0_1.length c0_1] 31 (0, 0)) (by (with_reducible repeat first | apply blk_drewN | apply blk_drew | apply blk_alloc); exact BK419.out) hb)
                have n2_ := Aside0.mk (below_step (by repeat (first | (with_reducible first | exact HB.out | apply below_alloc | apply pw_below_drewN | apply below_drew1 | refine below_set ?_ GE419.out) | exact HB.out)) hb)
                clear HO_10
                clear BK419
                clear HB
                have HO_10 := n0_
                have BK419 := n1_
                have HB := n2_
                clear n0_ n1_ n2_
                (try clear hb)
                (try clear hb2)
                (try clear hk)
                (try clear hi)
                refine hK.out _ _ ⟨(blk_cell BK419.out 0).trans rfl, (blk_cell BK419.out 1).trans rfl, ((HB.out.cell (World.block_lt_of_cell? w _ hw425_0)).trans hw425_0), ((HB.out.cell (World.block_lt_of_cell? w _ hw425_1)).trans hw425_1)⟩ (fun hHeld => ?_)
                clear hK K
                refine norm_ (a' := ?_) ?_ ?_
                rotate_left
                · show Act.put _ (some 21) _ = _
                  simp only [Act.put, List.setIfInBounds_toArray, List.set_cons_zero, List.set_cons_succ, i64_w, i32_w]
                  rfl
                refine pure_ (i := 6) (N := some 22) (v := ?_) (a' := ?_) #[true, true, true, true, true, true, true, false, false, false, false] rfl rfl (any_of HT_.out (by kernel_rfl)) (fun _ _ _ h => h) (Or.inl ⟨by rfl, ?_⟩) ?_ ?_
                rotate_left
                · intro w'
                  go_simp
                  with_reducible rfl
                rotate_left
                · simp only [Act.put, List.setIfInBounds_toArray, List.set_cons_zero, List.set_cons_succ, i64_w, i32_w]
                  rfl
                refine pure_ (i := 7) (N := some 23) (v := ?_) (a' := ?_) #[true, true, true, true, true, true, true, true, false, false, false] rfl rfl (any_of HT_.out (by kernel_rfl)) (fun _ _ _ h => h) (Or.inl ⟨by rfl, ?_⟩) ?_ ?_
                rotate_left
                · intro w'
                  go_simp
                  with_reducible rfl
                rotate_left
                · simp only [Act.put, List.setIfInBounds_toArray, List.set_cons_zero, List.set_cons_succ, i64_w, i32_w]
                  rfl
                refine take_ (i := 8) (N := some 24) (v := ?_) (a' := ?_) #[true, true, true, true, true, true, true, true, true, false, false] rfl rfl (take_ofW HT_.out HW_.out (by kernel_rfl)) (fun _ _ _ h => h) (Or.inl ⟨by rfl, ?_⟩) hHeld ?_ ?_
                rotate_left
                · rintro w' ⟨s0, s1, s2, s3⟩
                  go_simp
                  with_reducible rfl
                rotate_left
                · simp only [Act.put, List.setIfInBounds_toArray, List.set_cons_zero, List.set_cons_succ, i64_w, i32_w]
                  rfl
                refine pure_ (i := 9) (N := some 25) (v := ?_) (a' := ?_) #[true, true, true, true, true, true, true, true, true, true, false] rfl rfl (any_of HT_.out (by kernel_rfl)) (fun _ _ _ h => h) (Or.inl ⟨by rfl, ?_⟩) ?_ ?_
                rotate_left
                · intro w'
                  go_simp
                  with_reducible rfl
                rotate_left
                · simp only [Act.put, List.setIfInBounds_toArray, List.set_cons_zero, List.set_cons_succ, i64_w, i32_w]
                  rfl
                refine pure_ (i := 10) (N := some 5) (v := ?_) (a' := ?_) #[true, true, true, true, true, true, true, true, true, true, true] rfl rfl (any_of HT_.out (by kernel_rfl)) (fun _ _ _ h => h) (Or.inl ⟨by rfl, ?_⟩) ?_ ?_
                rotate_left
                · intro w'
                  go_simp
                  with_reducible rfl
                rotate_left
                · simp only [Act.put, List.setIfInBounds_toArray, List.set_cons_zero, List.set_cons_succ, i64_w, i32_w]
                  rfl
                refine done_ (done_of HT_.out (by kernel_rfl)) ?_
                try go_wp2
                go_roundg k1
                case measure => have := HK1.out; omega
                case rel => exact ⟨(wrap64 (x5_1 + ((rd_T50 l0_0 t424).f1))), (wrap64 (x12_1 + 1)), (by first | rfl | (simp; done) | (simp [*]; done)), (by first | rfl | (simp; done) | (simp [*]; done)), H', ⟨by have := HK1.out; omega⟩, ⟨by (with_reducible repeat (first | apply Kd.R_alloc | apply Kd.R_drewN | apply Kd.R_drew)); exact HO_10.out⟩, ⟨by (with_reducible repeat first | apply blk_drewN | apply blk_drew | apply blk_alloc); exact BK419.out⟩, ⟨by repeat (first | (with_reducible first | exact HB.out | apply below_alloc | apply pw_below_drewN | apply below_drew1 | refine below_set ?_ GE419.out) | exact HB.out)⟩⟩
              · rw [if_neg c13] at H
                exact absurd H (by simp)
            · rw [if_neg c12] at H
              exact absurd H (by simp)
          · rw [if_neg c10] at H
            exact absurd H (by simp)
        · rw [if_neg c9] at H
          exact absurd H (by simp)
      · rw [if_neg c8] at H
        have c8b0 : decide (x12_1 < (t420.length : Int)) = false := decide_eq_false c8
        clear c8
        obtain rfl := Option.some.inj H
        go_wp2
        go_ret
        exact ⟨by first | rfl | (simp [*, errW_none, errW_some] <;> rfl), by repeat (first | (with_reducible first | exact HB.out | apply below_alloc | apply pw_below_drewN | apply below_drew1 | refine below_set ?_ GE419.out) | exact HB.out)⟩

end Go.Proofs.Ytkadeelplnkpgaa.Q

-- text Qf63
namespace Go.Proofs.Ytkadeelplnkpgaa.Q
open Go.RowKit Go.Proofs.YtkadeelplnkpgaaW.PrintWords Go.Proofs.YtkadeelplnkpgaaW.PrintLast Go.Proofs.YtkadeelplnkpgaaW.PrintMore
attribute [local go_sem] max2_int min2_int max_two min_two max_three min_three max_four min_four   -- for this text's walks alone
set_option linter.unusedVariables false
set_option linter.unusedSimpArgs false

/-! ### spec_l06Weight: function 63 -/
def spec_l06Weight.l0 : Nat → List Int → Int → Int → List (S50) → List (S108) → Option (Int)
  | 0, _, _, _, _, _ => none
  | k + 1, x5, x6, x7, x406000, x406001 => if x7 < (x5.length : Int) then (if 0 ≤ x7 then ((spec_l06Device.f k x406000 x406001 (rd x5 x7)).bind fun t410 => (if 0 ≤ t410 then (if t410 < (x406000.length : Int) then (spec_l06Weight.l0 k x5 (wrap64 (x6 + ((rd_T50 x406000 t410).f1))) (wrap64 (x7 + 1)) x406000 x406001) else (none)) else (none))) else (none)) else (some x6)
def spec_l06Weight.f (k : Nat) (l0_0 : List (S50)) (l0_1 : List (S108)) (a1 : Int) : Option (Int) := (spec_l06Under.f k l0_0 l0_1 a1).bind fun t406 => (spec_l06Weight.l0 k t406 0 0 l0_0 l0_1)
def spec_l06Weight.T6 : Bool × List (List Nat × List Nat) := (true, [([], []), ([], []), ([1], [1]), ([], []), ([], []), ([], []), ([4, 5], [4, 5]), ([6], [6]), ([3, 7], [3, 7]), ([2, 8], [2, 8]), ([9], [9]), ([10], [10]), ([0, 11], [0, 11]), ([12, 8, 0, 1, 2, 3, 4, 5, 6, 7, 8, 9, 10, 11, 12], [0, 12])])
def spec_l06Weight.B6 : List Nat := [0, 0, 2, 0, 0, 0, 48, 112, 248, 510, 1022, 2046, 4095, 8191]
theorem spec_l06Weight.tab6 : rtab .any (opsOf Try.f63 6) = spec_l06Weight.T6 := by kernel_rfl
theorem spec_l06Weight.bits6 : waitsOk spec_l06Weight.T6.2 spec_l06Weight.B6 = true := by kernel_rfl
set_option maxHeartbeats 8000000 in
set_option maxRecDepth 100000 in
theorem spec_l06Weight.calls (k : Nat) (A0_0 : Option Addr) (c0_0 : Nat) (l0_0 : List (S50)) (A0_1 : Option Addr) (c0_1 : Nat) (l0_1 : List (S108)) (a1 : Int) (r : Int) (w : World) (hr0_0 : Kd.C k50 w A0_0 l0_0.length l0_0) (hc0_0 : l0_0.length ≤ c0_0) (hr0_1 : Kd.C k108 w A0_1 l0_1.length l0_1) (hc0_1 : l0_1.length ≤ c0_1) (h : spec_l06Weight.f k l0_0 l0_1 a1 = some r) :
    Calls Try.prog 63 #[.agg #[.slice A0_0 l0_0.length c0_0, .slice A0_1 l0_1.length c0_1], .int .i64 a1] w fun e w' => e = .returned (.int .i64 r) ∧ Below w.heap.size w w' := by
  have hu31 := Try.underlying31
  have HR0_0 := Aside0.mk hr0_0
  have HC0_0 := Aside0.mk hc0_0
  clear hr0_0 hc0_0
  have HR0_1 := Aside0.mk hr0_1
  have HC0_1 := Aside0.mk hc0_1
  clear hr0_1 hc0_1
  have HB := Aside0.mk (Below.refl w.heap.size w)
  have H : ((spec_l06Under.f k l0_0 l0_1 a1).bind fun t406 => (spec_l06Weight.l0 k t406 0 0 l0_0 l0_1)) = some r := h
  clear h
  replace H := Option.bind_eq_some_iff.mp H
  obtain ⟨t406, A30, H⟩ := H
  replace H : (spec_l06Weight.l0 k t406 0 0 l0_0 l0_1) = some r := H
  have A3 := Aside0.mk A30
  clear A30
  have H' := Aside0.mk H
  clear H
  go_enter Try.func63, Try.ntmps63
  go_wp2_with (first | ((with_reducible refine gate_dst (N := 2) rfl ?_); refine box_event ?hg (N := 2) ?hd (cs := #[.slice A0_0 l0_0.length c0_0, .slice A0_1 l0_1.length c0_1]) (t := 31) ?hr ?_; (case hd => rfl); (case hg => rfl); (case hr => first | (go_simp; done) | (go_simp; rfl)); intro gb405 hg w4 hbox hb; have n0_ := Aside0.mk (below_step (by repeat first | exact HB.out | apply below_alloc | apply pw_below_drewN | apply below_drew1) hb); have n1_ := Aside0.mk (hbox); have n2_ := Aside0.mk ((by rw [hg]; exact (below_size (by repeat first | exact HB.out | apply below_alloc | apply pw_below_drewN | apply below_drew1)) : w.heap.size ≤ gb405)); have n3_ := Aside0.mk ((by rw [hg]; exact (below_size (by repeat first | exact HB.out | apply below_alloc | apply pw_below_drewN | apply below_drew1)) : w.heap.size ≤ gb405)); clear HB; have HB := n0_; have BK405 := n1_; have GW405 := n2_; have GE405 := n3_; clear n0_ n1_ n2_ n3_; clear hb hbox hg; have hcz5_0 : w4.cell? ⟨gb405, 0, none⟩ = some (.slice A0_0 l0_0.length c0_0) := (blk_cell BK405.out 0).trans rfl; have hcz5_1 : w4.cell? ⟨gb405, 1, none⟩ = some (.slice A0_1 l0_1.length c0_1) := (blk_cell BK405.out 1).trans rfl; have hfz5_0 := blk_frozen BK405.out 0; have hfz5_1 := blk_frozen BK405.out 1) | ((with_reducible refine gate_callee (f := 72) rfl ?_); refine goesL_ (some 10) rfl rfl Try.func72 (by kernel_rfl) rfl #[.agg #[.slice A0_0 l0_0.length c0_0, .slice A0_1 l0_1.length c0_1], .int .i64 a1] rfl (by (try simp only [List.map_toArray, List.map_cons, List.map_nil]); first | done | rfl | (simp only [List.length_drop, List.length_take]; rfl)) ?_; (with_reducible refine (spec_l06Under.calls k _ _ l0_0 _ _ l0_1 a1 t406 _ ?side1 ?side2 ?side3 ?side4 A3.out).mono ?_); (case side1 => repeat (first | exact (Kd.C_below HR0_0.out HB.out) | (with_reducible refine Kd.C_alloc ?_ _) | (with_reducible refine Kd.C_drewN ?_ _) | (with_reducible refine Kd.C_drew ?_))); (case side2 => exact HC0_0.out); (case side3 => repeat (first | exact (Kd.C_below HR0_1.out HB.out) | (with_reducible refine Kd.C_alloc ?_ _) | (with_reducible refine Kd.C_drewN ?_ _) | (with_reducible refine Kd.C_drew ?_))); (case side4 => exact HC0_1.out); rintro e w6 ⟨v407, rfl, ho0, hb⟩; refine ⟨_, rfl, ?_⟩; have n0_ := Aside0.mk (Kd.R_lower ho0 (below_size (by repeat (first | (with_reducible first | exact HB.out | apply below_alloc | apply pw_below_drewN | apply below_drew1 | refine below_set ?_ GE405.out) | exact HB.out)))); have n1_ := Aside0.mk (blk_below (g := gb405) (o := .cells #[.slice A0_0 l0_0.length c0_0, .slice A0_1 l0_1.length c0_1] 31 (0, 0)) (by (with_reducible repeat first | apply blk_drewN | apply blk_drew | apply blk_alloc); exact BK405.out) hb); have n2_ := Aside0.mk (below_step (by repeat (first | (with_reducible first | exact HB.out | apply below_alloc | apply pw_below_drewN | apply below_drew1 | refine below_set ?_ GE405.out) | exact HB.out)) hb); clear BK405; clear HB; have HO408 := n0_; have BK405 := n1_; have HB := n2_; clear n0_ n1_ n2_; (try clear hb); (try clear hb2); (try clear hk); (try clear hi); (try clear ho0)))
  go_loopg [6, 7] k (fun kq v6 v7 w' => ∃ (x6_1 : Int) (x7_1 : Int), v6 = .int .i64 x6_1 ∧ v7 = .int .i64 x7_1 ∧ Aside0 (spec_l06Weight.l0 kq t406 x6_1 x7_1 l0_0 l0_1 = some r) ∧ Aside0 (kq ≤ k) ∧ Aside0 (Kd.R (Kd.int .i64) 2 w' w.heap.size (fun _ => True) v407 t406) ∧ Aside0 (w'.heap[gb405]? = some (.cells #[(.slice A0_0 l0_0.length c0_0), (.slice A0_1 l0_1.length c0_1)] 31 (0, 0))) ∧ Aside0 (Below w.heap.size w w'))
  case atStart => exact ⟨(0), (0), (by first | rfl | (simp; done) | (simp [*]; done)), (by first | rfl | (simp; done) | (simp [*]; done)), H', ⟨Nat.le_refl _⟩, ⟨by (with_reducible repeat (first | apply Kd.R_alloc | apply Kd.R_drewN | apply Kd.R_drew)); exact HO408.out⟩, ⟨by (with_reducible repeat first | apply blk_drewN | apply blk_drew | apply blk_alloc); exact BK405.out⟩, ⟨by repeat (first | (with_reducible first | exact HB.out | apply below_alloc | apply pw_below_drewN | apply below_drew1 | refine below_set ?_ GE405.out) | exact HB.out)⟩⟩
  case round =>
    clear H'
    try clear p2
    try clear c6
    try clear hcz5_0
    try clear hcz5_1
    try clear hfz5_0
    try clear hfz5_1
    obtain ⟨x6_1, x7_1, rfl, rfl, HA, HK1, HO_5, BK405, HB⟩ := hrel
    cases gk with
    | zero => exact absurd HA.out (by simp [spec_l06Weight.l0])
    | succ k1 =>
      have H := HA.out
      clear HA
      simp only [spec_l06Weight.l0] at H
      by_cases c7 : x7_1 < (t406.length : Int)
      · rw [if_pos c7] at H
        have c7b0 : decide (x7_1 < (t406.length : Int)) = true := decide_eq_true c7
        clear c7
        by_cases c8 : 0 ≤ x7_1
        · rw [if_pos c8] at H
          have c8b0 : decide (0 ≤ x7_1) = true := decide_eq_true c8
          clear c8
          replace H := Option.bind_eq_some_iff.mp H
          obtain ⟨t410, A90, H⟩ := H
          replace H : (if 0 ≤ t410 then (if t410 < (l0_0.length : Int) then (spec_l06Weight.l0 k1 t406 (wrap64 (x6_1 + ((rd_T50 l0_0 t410).f1))) (wrap64 (x7_1 + 1)) l0_0 l0_1) else (none)) else (none)) = some r := H
          have A9 := Aside0.mk A90
          clear A90
          by_cases c10 : 0 ≤ t410
          · rw [if_pos c10] at H
            have c10b0 : decide (0 ≤ t410) = true := decide_eq_true c10
            clear c10
            by_cases c11 : t410 < (l0_0.length : Int)
            · rw [if_pos c11] at H
              have c11b0 : decide (t410 < (l0_0.length : Int)) = true := decide_eq_true c11
              clear c11
              have H' := Aside0.mk H
              clear H
              obtain ⟨Ao12, co12, eo12⟩ := Kd.R_slice HO_5.out
              subst eo12
              try go_wp2
              have n0_ := Aside0.mk (Kd.R_drew HO_5.out)
              have n1_ := Aside0.mk (blk_drew BK405.out)
              have n2_ := Aside0.mk (below_drew1 HB.out)
              clear HO_5
              clear BK405
              clear HB
              have HO_5 := n0_
              have BK405 := n1_
              have HB := n2_
              clear n0_ n1_ n2_
              have p409 : 0 ≤ (x7_1 : Int) := of_decide_eq_true (by assumption)
              have q409 : x7_1 < (t406.length : Int) := of_decide_eq_true (by assumption)
              obtain ⟨ad409, e409, hx409_0⟩ := Kd.at_int (Kd.R_reads' HO_5.out).2.2 x7_1 p409 q409
              cases e409
              replace p409 := eq_true p409
              replace q409 := eq_true q409
              have p411 : 0 ≤ (t410 : Int) := of_decide_eq_true (by assumption)
              have q411 : t410 < (l0_0.length : Int) := of_decide_eq_true (by assumption)
              obtain ⟨ad411, e411, hx411_0, hx411_1⟩ := at_T50 HR0_0.out t410 p411 q411
              have hw411_1 := hx411_1
              have hw411_0 := hx411_0
              cases e411
              replace hx411_0 := (HB.out.cell (World.block_lt_of_cell? w _ hx411_0)).trans hx411_0
              replace hx411_1 := (HB.out.cell (World.block_lt_of_cell? w _ hx411_1)).trans hx411_1
              replace p411 := eq_true p411
              replace q411 := eq_true q411
              refine start_ (n := 14) (S := fun w' => w'.cell? ⟨gb405, 0, none⟩ = some (.slice (some ad411) l0_0.length c0_0) ∧ w'.cell? ⟨gb405, 1, none⟩ = some (.slice A0_1 l0_1.length c0_1) ∧ w'.cell? (ad409.add (x7_1).toNat) = some (.int .i64 (rd t406 x7_1)) ∧ w'.cell? (ad411.add ((t410).toNat * 2)) = some (.int .i64 ((rd_T50 l0_0 t410).f0)) ∧ w'.cell? ⟨(ad411.add ((t410).toNat * 2)).block, (ad411.add ((t410).toNat * 2)).off + 1, none⟩ = some (.int .i64 ((rd_T50 l0_0 t410).f1))) (ds := []) #[false, false, false, false, false, false, false, false, false, false, false, false, false, false] (by kernel_rfl) rfl rfl ⟨(blk_cell BK405.out 0).trans rfl, (blk_cell BK405.out 1).trans rfl, hx409_0, ((HB.out.cell (World.block_lt_of_cell? w _ hw411_0)).trans hw411_0), ((HB.out.cell (World.block_lt_of_cell? w _ hw411_1)).trans hw411_1)⟩ (fun hHeld => ?_); refine with_tabW spec_l06Weight.tab6 spec_l06Weight.bits6 (fun HT_ HW_ => ?_)
              generalize wr.drew = w13 at HO_5 BK405 HB hx409_0 hx411_0 hx411_1 hHeld ⊢
              refine pure_ (i := 0) (N := some 17) (v := ?_) (a' := ?_) #[true, false, false, false, false, false, false, false, false, false, false, false, false, false] rfl rfl (any_of HT_.out (by kernel_rfl)) (fun _ _ _ h => h) (Or.inl ⟨by rfl, ?_⟩) ?_ ?_
              rotate_left
              · intro w'
                go_simp
                with_reducible rfl
              rotate_left
              · simp only [Act.put, List.setIfInBounds_toArray, List.set_cons_zero, List.set_cons_succ, i64_w, i32_w]
                rfl
              refine pure_ (i := 1) (N := some 18) (v := ?_) (a' := ?_) #[true, true, false, false, false, false, false, false, false, false, false, false, false, false] rfl rfl (any_of HT_.out (by kernel_rfl)) (fun _ _ _ h => h) (Or.inl ⟨by rfl, ?_⟩) ?_ ?_
              rotate_left
              · intro w'
                go_simp
                with_reducible rfl
              rotate_left
              · simp only [Act.put, List.setIfInBounds_toArray, List.set_cons_zero, List.set_cons_succ, i64_w, i32_w]
                rfl
              refine pure_ (i := 4) (N := some 21) (v := ?_) (a' := ?_) #[true, true, false, false, true, false, false, false, false, false, false, false, false, false] rfl rfl (any_of HT_.out (by kernel_rfl)) (fun _ _ _ h => h) (Or.inl ⟨by rfl, ?_⟩) ?_ ?_
              rotate_left
              · intro w'
                go_simp
                with_reducible rfl
              rotate_left
              · simp only [Act.put, List.setIfInBounds_toArray, List.set_cons_zero, List.set_cons_succ, i64_w, i32_w]
                rfl
              refine pure_ (i := 5) (N := some 22) (v := ?_) (a' := ?_) #[true, true, false, false, true, true, false, false, false, false, false, false, false, false] rfl rfl (any_of HT_.out (by kernel_rfl)) (fun _ _ _ h => h) (Or.inl ⟨by rfl, ?_⟩) ?_ ?_
              rotate_left
              · intro w'
                go_simp
                with_reducible rfl
              rotate_left
              · simp only [Act.put, List.setIfInBounds_toArray, List.set_cons_zero, List.set_cons_succ, i64_w, i32_w]
                rfl
              refine pure_ (i := 6) (N := some 23) (v := ?_) (a' := ?_) #[true, true, false, false, true, true, true, false, false, false, false, false, false, false] rfl rfl (any_of HT_.out (by kernel_rfl)) (fun _ _ _ h => h) (Or.inl ⟨by rfl, ?_⟩) ?_ ?_
              rotate_left
              · intro w'
                go_simp
                with_reducible rfl
              rotate_left
              · simp only [Act.put, List.setIfInBounds_toArray, List.set_cons_zero, List.set_cons_succ, i64_w, i32_w]
                rfl
              refine take_ (i := 2) (N := some 19) (v := ?_) (a' := ?_) #[true, true, true, false, true, true, true, false, false, false, false, false, false, false] rfl rfl (take_ofW HT_.out HW_.out (by kernel_rfl)) (fun _ _ _ h => h) (Or.inl ⟨by rfl, ?_⟩) hHeld ?_ ?_
              rotate_left
              · rintro w' ⟨s0, s1, s2, s3, s4⟩
                go_simp
                with_reducible rfl
              rotate_left
              · simp only [Act.put, List.setIfInBounds_toArray, List.set_cons_zero, List.set_cons_succ, i64_w, i32_w]
                rfl
              refine take_ (i := 3) (N := some 20) (v := ?_) (a' := ?_) #[true, true, true, true, true, true, true, false, false, false, false, false, false, false] rfl rfl (take_ofW HT_.out HW_.out (by kernel_rfl)) (fun _ _ _ h => h) (Or.inl ⟨by rfl, ?_⟩) hHeld ?_ ?_
              rotate_left
              · rintro w' ⟨s0, s1, s2, s3, s4⟩
                go_simp
                with_reducible rfl
              rotate_left
              · simp only [Act.put, List.setIfInBounds_toArray, List.set_cons_zero, List.set_cons_succ, i64_w, i32_w]
                rfl
              refine take_ (i := 7) (N := some 24) (v := ?_) (a' := ?_) #[true, true, true, true, true, true, true, true, false, false, false, false, false, false] rfl rfl (take_ofW HT_.out HW_.out (by kernel_rfl)) (fun _ _ _ h => h) (Or.inl ⟨by rfl, ?_⟩) hHeld ?_ ?_
              rotate_left
              · rintro w' ⟨s0, s1, s2, s3, s4⟩
                go_simp
                with_reducible rfl
              rotate_left
              · simp only [Act.put, List.setIfInBounds_toArray, List.set_cons_zero, List.set_cons_succ, i64_w, i32_w]
                rfl
              refine one_ (i := 8) (N := some 25) #[true, true, true, true, true, true, true, true, true, false, false, false, false, false] rfl rfl (one_of HT_.out (by kernel_rfl)) (by decide) (fun K hK => ?_)
              refine goes_ Try.func82 (by kernel_rfl) rfl #[.agg #[.slice (some ad411) l0_0.length c0_0, .slice A0_1 l0_1.length c0_1], .int .i64 (rd t406 x7_1)] (by rfl) rfl rfl (by (try simp only [List.map_toArray, List.map_cons, List.map_nil]); first | done | rfl | (simp only [List.length_drop, List.length_take]; rfl)) ?_
              with_reducible refine (spec_l06Device.calls k1 _ _ l0_0 _ _ l0_1 (rd t406 x7_1) t410 _ ?side1 ?side2 ?side3 ?side4 A9.out).mono ?_
              (case side1 => repeat (first | exact (Kd.C_below HR0_0.out HB.out) | (with_reducible refine Kd.C_alloc ?_ _) | (with_reducible refine Kd.C_drewN ?_ _) | (with_reducible refine Kd.C_drew ?_)))
              (case side2 => exact HC0_0.out)
              (case side3 => repeat (first | exact (Kd.C_below HR0_1.out HB.out) | (with_reducible refine Kd.C_alloc ?_ _) | (with_reducible refine Kd.C_drewN ?_ _) | (with_reducible refine Kd.C_drew ?_)))
              (case side4 => exact HC0_1.out)
              rintro e w14 ⟨rfl, hb⟩
              have HS2_ := (hb.cell (World.block_lt_of_cell? _ _ (hHeld.2.2.1))).trans (hHeld.2.2.1)
              refine ⟨_, rfl, ?_⟩
              have n0_ := Aside0.mk (Kd.R_below (by (with_reducible repeat (first | apply Kd.R_alloc | apply Kd.R_drewN | apply Kd.R_drew)); exact HO_5.out) hb)
              have n1_ := Aside0.mk (blk_below (g := gb405) (o := .cells #[.slice (some ad411) l0_0.length c0_0, .slice A0_1 l0_1.length c0_1] 31 (0, 0)) (by (with_reducible repeat first | apply blk_drewN | apply blk_drew | apply blk_alloc); exact BK405.out) hb)
              have n2_ := Aside0.mk (below_step (by repeat (first | (with_reducible first | exact HB.out | apply below_alloc | apply pw_below_drewN | apply below_drew1 | refine below_set ?_ GE405.out) | exact HB.out)) hb)
              clear HO_5
              clear BK405
              clear HB
              have HO_5 := n0_
              have BK405 := n1_
              have HB := n2_
              clear n0_ n1_ n2_
              (try clear hb)
              (try clear hb2)
              (try clear hk)
              (try clear hi)
              refine hK.out _ _ ⟨(blk_cell BK405.out 0).trans rfl, (blk_cell BK405.out 1).trans rfl, HS2_, ((HB.out.cell (World.block_lt_of_cell? w _ hw411_0)).trans hw411_0), ((HB.out.cell (World.block_lt_of_cell? w _ hw411_1)).trans hw411_1)⟩ (fun hHeld => ?_)
              clear hK K
              refine norm_ (a' := ?_) ?_ ?_
              rotate_left
              · show Act.put _ (some 25) _ = _
                simp only [Act.put, List.setIfInBounds_toArray, List.set_cons_zero, List.set_cons_succ, i64_w, i32_w]
                rfl
              refine pure_ (i := 9) (N := some 26) (v := ?_) (a' := ?_) #[true, true, true, true, true, true, true, true, true, true, false, false, false, false] rfl rfl (any_of HT_.out (by kernel_rfl)) (fun _ _ _ h => h) (Or.inl ⟨by rfl, ?_⟩) ?_ ?_
              rotate_left
              · intro w'
                go_simp
                with_reducible rfl
              rotate_left
              · simp only [Act.put, List.setIfInBounds_toArray, List.set_cons_zero, List.set_cons_succ, i64_w, i32_w]
                rfl
              refine pure_ (i := 10) (N := some 27) (v := ?_) (a' := ?_) #[true, true, true, true, true, true, true, true, true, true, true, false, false, false] rfl rfl (any_of HT_.out (by kernel_rfl)) (fun _ _ _ h => h) (Or.inl ⟨by rfl, ?_⟩) ?_ ?_
              rotate_left
              · intro w'
                go_simp
                with_reducible rfl
              rotate_left
              · simp only [Act.put, List.setIfInBounds_toArray, List.set_cons_zero, List.set_cons_succ, i64_w, i32_w]
                rfl
              refine take_ (i := 11) (N := some 28) (v := ?_) (a' := ?_) #[true, true, true, true, true, true, true, true, true, true, true, true, false, false] rfl rfl (take_ofW HT_.out HW_.out (by kernel_rfl)) (fun _ _ _ h => h) (Or.inl ⟨by rfl, ?_⟩) hHeld ?_ ?_
              rotate_left
              · rintro w' ⟨s0, s1, s2, s3, s4⟩
                go_simp
                with_reducible rfl
              rotate_left
              · simp only [Act.put, List.setIfInBounds_toArray, List.set_cons_zero, List.set_cons_succ, i64_w, i32_w]
                rfl
              refine pure_ (i := 12) (N := some 29) (v := ?_) (a' := ?_) #[true, true, true, true, true, true, true, true, true, true, true, true, true, false] rfl rfl (any_of HT_.out (by kernel_rfl)) (fun _ _ _ h => h) (Or.inl ⟨by rfl, ?_⟩) ?_ ?_
              rotate_left
              · intro w'
                go_simp
                with_reducible rfl
              rotate_left
              · simp only [Act.put, List.setIfInBounds_toArray, List.set_cons_zero, List.set_cons_succ, i64_w, i32_w]
                rfl
              refine pure_ (i := 13) (N := some 6) (v := ?_) (a' := ?_) #[true, true, true, true, true, true, true, true, true, true, true, true, true, true] rfl rfl (any_of HT_.out (by kernel_rfl)) (fun _ _ _ h => h) (Or.inl ⟨by rfl, ?_⟩) ?_ ?_
              rotate_left
              · intro w'
                go_simp
                with_reducible rfl
              rotate_left
              · simp only [Act.put, List.setIfInBounds_toArray, List.set_cons_zero, List.set_cons_succ, i64_w, i32_w]
                rfl
              refine done_ (done_of HT_.out (by kernel_rfl)) ?_
              try go_wp2
              go_roundg k1
              case measure => have := HK1.out; omega
              case rel => exact ⟨(wrap64 (x6_1 + ((rd_T50 l0_0 t410).f1))), (wrap64 (x7_1 + 1)), (by first | rfl | (simp; done) | (simp [*]; done)), (by first | rfl | (simp; done) | (simp [*]; done)), H', ⟨by have := HK1.out; omega⟩, ⟨by (with_reducible repeat (first | apply Kd.R_alloc | apply Kd.R_drewN | apply Kd.R_drew)); exact HO_5.out⟩, ⟨by (with_reducible repeat first | apply blk_drewN | apply blk_drew | apply blk_alloc); exact BK405.out⟩, ⟨by repeat (first | (with_reducible first | exact HB.out | apply below_alloc | apply pw_below_drewN | apply below_drew1 | refine below_set ?_ GE405.out) | exact HB.out)⟩⟩
            · rw [if_neg c11] at H
              exact absurd H (by simp)
          · rw [if_neg c10] at H
            exact absurd H (by simp)
        · rw [if_neg c8] at H
          exact absurd H (by simp)
      · rw [if_neg c7] at H
        have c7b0 : decide (x7_1 < (t406.length : Int)) = false := decide_eq_false c7
        clear c7
        obtain rfl := Option.some.inj H
        obtain ⟨Ao15, co15, eo15⟩ := Kd.R_slice HO_5.out
        subst eo15
        go_wp2
        go_ret
        exact ⟨by first | rfl | (simp [*, errW_none, errW_some] <;> rfl), by repeat (first | (with_reducible first | exact HB.out | apply below_alloc | apply pw_below_drewN | apply below_drew1 | refine below_set ?_ GE405.out) | exact HB.out)⟩

end Go.Proofs.Ytkadeelplnkpgaa.Q

-- text OWeight
namespace Go.Proofs.Ytkadeelplnkpgaa.Pure
open Go.RowKit Go.Proofs.Ytkadeelplnkpgaa.Q Go.Proofs.YtkadeelplnkpgaaW.PrintWords Go.Proofs.YtkadeelplnkpgaaW.PrintLast Go.Proofs.YtkadeelplnkpgaaW.PrintMore
set_option linter.unusedVariables false
set_option linter.unusedSimpArgs false

/-- the weight of a device -/
def wOne (D : List S50) (x : Int) : Int := (rd_T50 D (devAt D x)).f1
/-- the weight of a thing: of all devices below it -/
def wL (D : List S50) (l : List Int) : Int := l.foldl (fun s x => s + wOne D x) 0
def weightN (D : List S50) (B : List S108) (id : Int) : Int := wL D (underN B 5 id)
theorem wOne_range {D : List S50} {B : List S108} (V : Valid D B) (x : Int) (h : 0 ≤ devAt D x) : (0 ≤ wOne D x ∧ wOne D x ≤ 8) ∧ devAt D x < (D.length : Int) := by
  rcases devAt_hit D x with e | ⟨n, hn, e, _⟩
  · omega
  · unfold wOne
    rw [e, rd_dev D n hn]
    have := V.devs n hn
    omega
theorem wL_take {D : List S50} (l : List Int) (i : Nat) (h : i < l.length) : wL D (l.take (i + 1)) = wL D (l.take i) + wOne D l[i] := by
  unfold wL
  rw [List.take_succ_eq_append_getElem h, List.foldl_append]
  rfl
theorem wL_range {D : List S50} {B : List S108} (V : Valid D B) (l : List Int) (h : ∀ x ∈ l, 0 ≤ devAt D x) : ∀ i, i ≤ l.length → 0 ≤ wL D (l.take i) ∧ wL D (l.take i) ≤ 8 * i
  | 0, _ => by simp [wL]
  | i + 1, hi => by
    have h1 := wL_range V l h i (by omega)
    have h2 := wOne_range V l[i] (h _ (List.getElem_mem (by omega)))
    rw [wL_take l i (by omega)]
    omega
theorem impl_sum_ev {D : List S50} {B : List S108} (V : Valid D B) (l : List Int) (hl : l.length ≤ 1048576) (h : ∀ x ∈ l, 0 ≤ devAt D x) : Ev (fun k => impl_Tree_weight.l0 k 0 l l.length 0 D B) (wL D l) := by
  refine loop_is l.length (fun k (s : Int) i => impl_Tree_weight.l0 k s l l.length i D B) (fun i s => s = wL D (l.take i)) _ ?_ ?_ 0 rfl
  · rintro i s hi rfl
    refine .inr ⟨_, rfl, fun r hr => Ev.step (fun k => ?_) hr⟩
    have h1 := wL_range V l h i (by omega)
    have h2 := wOne_range V l[i] (h _ (List.getElem_mem hi))
    have h3 := h _ (List.getElem_mem hi)
    have e : impl_Tree_device.f D B (rd l i) = some (devAt D l[i]) := by rw [rd_get l i hi]; rfl
    simp only [impl_Tree_weight.l0]
    rw [if_pos (by omega), if_pos (by omega), if_pos (by omega), e]
    simp only [Option.bind_some]
    rw [if_pos h3, if_pos h2.2, up64 i l.length hi (by omega), wL_take l i hi]
    have e2 : wrap64 (wL D (l.take i) + (rd_T50 D (devAt D l[i])).f1) = wL D (l.take i) + wOne D l[i] := by
      have : (rd_T50 D (devAt D l[i])).f1 = wOne D l[i] := rfl
      rw [this]
      unfold wrap64
      omega
    rw [e2]
  · rintro s rfl
    refine ev_end (fun k => ?_)
    simp only [impl_Tree_weight.l0]
    rw [if_neg (by omega), List.take_length]
theorem spec_sum_ev {D : List S50} {B : List S108} (V : Valid D B) (l : List Int) (hl : l.length ≤ 1048576) (h : ∀ x ∈ l, 0 ≤ devAt D x) : Ev (fun k => spec_l06Weight.l0 k l 0 0 D B) (wL D l) := by
  have hD := V.dev
  refine loop_is l.length (fun k (s : Int) i => spec_l06Weight.l0 k l s i D B) (fun i s => s = wL D (l.take i)) _ ?_ ?_ 0 rfl
  · rintro i s hi rfl
    have h1 := wL_range V l h i (by omega)
    have h2 := wOne_range V l[i] (h _ (List.getElem_mem hi))
    have h3 := h _ (List.getElem_mem hi)
    refine .inr ⟨_, rfl, fun r hr => Ev.step (f := ?f) (fun k => ?_) ?_⟩
    rotate_left
    · simp only [spec_l06Weight.l0]
      rw [if_pos (by omega), if_pos (by omega), rd_get l i hi, up64 i l.length hi (by omega)]
      all_goals exact rfl
    · refine Ev.bind (specDevice_ev D B l[i] (by omega)) ?_
      simp only [if_pos h3, if_pos h2.2]
      have e2 : wrap64 (wL D (l.take i) + (rd_T50 D (devAt D l[i])).f1) = wL D (l.take i) + wOne D l[i] := by
        have : (rd_T50 D (devAt D l[i])).f1 = wOne D l[i] := rfl
        rw [this]
        unfold wrap64
        omega
      rw [wL_take l i hi] at hr
      rw [e2]
      exact hr
  · rintro s rfl
    refine ev_end (fun k => ?_)
    simp only [spec_l06Weight.l0]
    rw [if_neg (by omega), List.take_length]
theorem under5 {D : List S50} {B : List S108} (V : Valid D B) (id : Int) : (underN B 5 id).length ≤ 1048576 := by
  have := underN_length V 5 id
  omega
theorem impl_weight_ev {D : List S50} {B : List S108} (V : Valid D B) (id : Int) (h : 0 ≤ kindAt D B id) : Ev (fun k => impl_Tree_weight.f k D B id) (weightN D B id) := by
  have hk := kindAt_le V id
  unfold impl_Tree_weight.f
  exact Ev.bind (impl_under_ev V 5 id (by omega) (by omega)) (impl_sum_ev V _ (under5 V id) (under_dev V 5 id h (by omega)))
theorem spec_weight_ev {D : List S50} {B : List S108} (V : Valid D B) (id : Int) (h : 0 ≤ kindAt D B id) : Ev (fun k => spec_l06Weight.f k D B id) (weightN D B id) := by
  have hk := kindAt_le V id
  unfold spec_l06Weight.f
  exact Ev.bind (spec_under_ev V 5 id (by omega) (by omega)) (spec_sum_ev V _ (under5 V id) (under_dev V 5 id h (by omega)))
theorem weight_range {D : List S50} {B : List S108} (V : Valid D B) (id : Int) (h : 0 ≤ kindAt D B id) : 0 ≤ weightN D B id ∧ weightN D B id ≤ 8388608 := by
  have hk := kindAt_le V id
  have := wL_range V _ (under_dev V 5 id h (by omega)) (underN B 5 id).length (by omega)
  rw [List.take_length] at this
  have := under5 V id
  unfold weightN
  omega
end Go.Proofs.Ytkadeelplnkpgaa.Pure

-- text OLMarkT
namespace Go.Proofs.Ytkadeelplnkpgaa.Pure
open Go.RowKit Go.Proofs.Ytkadeelplnkpgaa.Q Go.Proofs.YtkadeelplnkpgaaW.PrintWords Go.Proofs.YtkadeelplnkpgaaW.PrintLast Go.Proofs.YtkadeelplnkpgaaW.PrintMore
set_option linter.unusedVariables false
set_option linter.unusedSimpArgs false

theorem wrapN (m : Nat) (h : m ≤ 4611686018427387904) : wrap64 ((m : Int) + 1) = ((m + 1 : Nat) : Int) := by unfold wrap64; omega
theorem markInts_ev (l : List Int) (c : Nat) (hl : l.length ≤ 1048576) (hc : c ≤ 1152921504606846976) : Ev (fun k => laws_markInt64S.f k l c) (((c + l.length : Nat) : Int), cnt c l.length) :=
  mark_loop l.length c (by omega) (fun k s i => laws_markInt64S.l0 k s.1 s.2 i) (fun k i x m hi hx hm => by
    simp only [laws_markInt64S.l0]
    rw [if_pos (by omega), if_pos (by omega), up64 i l.length hi (by omega), wrapN m hm, Int.toNat_natCast]) (fun k x m hx => by
    simp only [laws_markInt64S.l0]
    rw [if_neg (by omega)]) l rfl
theorem heldInts_ev (c n : Nat) (hn : n ≤ 1048576) (hc : c ≤ 1152921504606846976) : Ev (fun k => laws_heldInt64S.f k (cnt c n) c) ((c + n : Nat) : Int) :=
  held_loop n c (by omega) (fun k m i => laws_heldInt64S.l0 k (cnt c n) m i) (fun k i hi => by
    simp only [laws_heldInt64S.l0]
    rw [if_pos (by rw [cnt_length]; omega), if_pos (by omega), rd_get _ i (by rw [cnt_length]; omega), cnt_get, if_pos rfl, up64 i n hi (by omega), wrapN (c + i) (by omega)]) (fun k m => by
    simp only [laws_heldInt64S.l0]
    rw [if_neg (by rw [cnt_length]; omega)])
theorem markDevs_ev (l : List S50) (c : Nat) (hl : l.length ≤ 1048576) (hc : c ≤ 1000000) : ∃ y, Ev (fun k => laws_markDeviceS.f k l c) (((c + 2 * l.length : Nat) : Int), y) :=
  count_loop l.length c 2 (fun k s i => laws_markDeviceS.l0 k s.1 s.2 i) (fun i x m hi hx hm => ⟨(x.set (i : Int).toNat (⟨(m : Int), (rd_T50 x (i : Int)).f1⟩ : S50)).set (i : Int).toNat (⟨(rd_T50 (x.set (i : Int).toNat (⟨(m : Int), (rd_T50 x (i : Int)).f1⟩ : S50)) (i : Int)).f0, ((m + 1 : Nat) : Int)⟩ : S50), (by rw [List.length_set, List.length_set]; exact hx), fun k => by
    simp only [laws_markDeviceS.l0, Option.bind_some]
    rw [if_pos (by omega), if_pos (by omega), up64 i l.length hi (by omega), wrapN m (by omega), wrapN (m + 1) (by omega)]⟩) (fun k x m hx => by
    simp only [laws_markDeviceS.l0]
    rw [if_neg (by omega)]) l rfl
/-- where the marks of buckets have come to -/
def MarkAt (n c i : Nat) (s : List S108 × Int) : Prop := s.1.length = n ∧ (∀ x ∈ s.1, x.f2.length ≤ 1048576) ∧ ∃ m : Nat, s.2 = (m : Int) ∧ m ≤ c + i * 1048578
theorem markBkts_ev (l : List S108) (c : Nat) (hl : l.length ≤ 1048576) (hb : ∀ x ∈ l, x.f2.length ≤ 1048576) (hc : c ≤ 1000000000) : ∃ r : Int, 0 ≤ r ∧ Ev (fun k => laws_markBucketS.f k l c) r := by
  refine loop_up l.length (fun k (s : List S108 × Int) i => laws_markBucketS.l0 k s.1 s.2 i) (MarkAt l.length c) (fun r => 0 ≤ r) ?_ ?_ (l, (c : Int)) ⟨rfl, hb, c, rfl, by omega⟩
  · rintro i ⟨x, q⟩ hi ⟨h1, h2, m, h3, h4⟩
    simp only at h1 h2 h3
    subst h3
    have hi' : i < x.length := by omega
    have h5 : i * 1048578 ≤ 1048576 * 1048578 := Nat.mul_le_mul_right _ (by omega)
    have h6 := h2 x[i] (List.getElem_mem hi')
    refine .inr ⟨(x.set i ⟨(m : Int), ((m + 1 : Nat) : Int), cnt (m + 2) x[i].f2.length⟩, ((m + 2 + x[i].f2.length : Nat) : Int)), ⟨by simpa using h1, ?_, _, rfl, by omega⟩, fun r hr => Ev.step (f := ?f) (fun k => ?_) ?_⟩
    · intro y hy
      rcases List.mem_or_eq_of_mem_set hy with hy | rfl
      · exact h2 y hy
      · simpa [cnt_length] using h6
    rotate_left
    · simp only [laws_markBucketS.l0]
      rw [if_pos (by omega), if_pos (by omega), rd_bkt x i hi', up64 i l.length hi (by omega), wrapN m (by omega), wrapN (m + 1) (by omega), Int.toNat_natCast]
      all_goals exact rfl
    · exact Ev.bind (markInts_ev _ (m + 2) h6 (by omega)) hr
  · rintro ⟨x, q⟩ ⟨h1, h2, m, h3, h4⟩
    simp only at h1 h3
    subst h3
    refine ⟨(m : Int), by omega, ev_end (fun k => ?_)⟩
    simp only [laws_markBucketS.l0]
    rw [if_neg (by omega)]
theorem markTree_ev (D : List S50) (B : List S108) (hD : D.length ≤ 1048576) (hB : B.length ≤ 1048576) (hb : ∀ x ∈ B, x.f2.length ≤ 1048576) : ∃ r : Int, 0 ≤ r ∧ Ev (fun k => laws_markTree.f k D B 1) r := by
  obtain ⟨y, h1⟩ := markDevs_ev D 1 hD (by omega)
  obtain ⟨r, h0, h2⟩ := markBkts_ev B (1 + 2 * D.length) hB hb (by omega)
  exact ⟨r, h0, Ev.bind h1 h2⟩
end Go.Proofs.Ytkadeelplnkpgaa.Pure

-- text PureFnExactNodesUnder
namespace Go.Proofs.Ytkadeelplnkpgaa.Pure
open Go.RowKit Go.Proofs.Ytkadeelplnkpgaa.Q Go.Proofs.Ytkadeelplnkpgaa.Opens Go.Proofs.YtkadeelplnkpgaaW.PrintWords Go.Proofs.YtkadeelplnkpgaaW.PrintLast Go.Proofs.YtkadeelplnkpgaaW.PrintMore
set_option linter.unusedVariables false
set_option linter.unusedSimpArgs false

/-- the answer, and which error -/
def underAns (D : List S50) (B : List S108) (id : Int) : List Int × Int := if treeOkB D B = true then (if kindAt D B id < 0 then ([], 3) else (underN B 5 id, 0)) else ([], 1)
theorem underAns_length (D : List S50) (B : List S108) (id : Int) : (underAns D B id).1.length ≤ 1048576 := by
  unfold underAns
  by_cases c : treeOkB D B = true
  · rw [if_pos c]
    by_cases c2 : kindAt D B id < 0
    · rw [if_pos c2]; exact Nat.zero_le _
    · rw [if_neg c2]; exact under5 (valid_of D B c) id
  · rw [if_neg c]; exact Nat.zero_le _
theorem spec_nodesUnder (D : List S50) (B : List S108) (hD : D.length ≤ 9223372036854775807) (id : Int) : Ev (fun k => spec_NodesUnder.f k D B id) (underAns D B id) := by
  unfold spec_NodesUnder.f underAns
  refine Ev.bind (spec_ok_ev D B) ?_
  by_cases c : treeOkB D B = true
  · simp only [if_pos c]
    have V := valid_of D B c
    have hB := V.bkt
    have hk := kindAt_le V id
    refine Ev.bind (specKind_ev D B id hD (by omega)) ?_
    by_cases c2 : kindAt D B id < 0
    · simp only [if_pos c2]
      exact Ev.now _
    · simp only [if_neg c2]
      exact Ev.bind (spec_under_ev V 5 id (by omega) (by omega)) (Ev.now _)
  · simp only [if_neg c]
    exact Ev.now _
theorem impl_code_ev (D : List S50) (B : List S108) (hD : D.length ≤ 9223372036854775807) (hw : wfTree D B = true) (id : Int) : Ev (fun k => impl_treeCode.f k D B id) (if treeOkB D B = true then (if kindAt D B id < 0 then (3 : Int) else 0) else 1) := by
  unfold impl_treeCode.f
  refine Ev.bind (impl_ok_ev D B hD hw) ?_
  have ek : impl_Tree_kindOf.f D B id = some (kindAt D B id) := rfl
  by_cases c : treeOkB D B = true
  · simp only [if_pos c, ek, Option.bind_some]
    by_cases c2 : kindAt D B id < 0
    · simp only [if_pos c2]
      exact Ev.now _
    · simp only [if_neg c2]
      exact Ev.now _
  · simp only [if_neg c]
    exact Ev.now _
theorem impl_nodesUnder (D : List S50) (B : List S108) (hD : D.length ≤ 9223372036854775807) (hw : wfTree D B = true) (id : Int) : Ev (fun k => impl_NodesUnder.f k D B id) (underAns D B id) := by
  unfold impl_NodesUnder.f underAns
  refine Ev.bind (impl_code_ev D B hD hw id) ?_
  by_cases c : treeOkB D B = true
  · simp only [if_pos c]
    have V := valid_of D B c
    have hk := kindAt_le V id
    by_cases c2 : kindAt D B id < 0
    · simp only [if_pos c2, show ¬ ((3 : Int) = 0) by decide, if_false]
      exact Ev.now _
    · simp only [if_neg c2, if_true]
      exact Ev.bind (impl_under_ev V 5 id (by omega) (by omega)) (Ev.now _)
  · simp only [if_neg c, show ¬ ((1 : Int) = 0) by decide, if_false]
    exact Ev.now _
theorem FnExactNodesUnder (l0_0 : List S110) (l0_1 : List S106) (a1 : Int) (hd : good_t22 l0_0) (hb : good_t23 l0_1) (_ : (Lit.int .i64 a1).wf = true) : ∃ k, laws_FnExactNodesUnder.f k l0_0 l0_1 a1 = some true := by
  obtain ⟨g1, g2, g3⟩ := small_of_good l0_0 l0_1 hd hb
  obtain ⟨t, ht, hsz⟩ := szTree_ev l0_0 l0_1 1048576 g1 g2 g3 (by omega) (by omega)
  have hwf := wf_of_good l0_0 l0_1 hd hb
  refine Ev.rounds (r := true) ?_
  unfold laws_FnExactNodesUnder.f
  refine Ev.bind hsz ?_
  by_cases c : t < 0
  · exact ev_some fun k => if_pos c
  · simp only [if_neg c]
    have hs := (ht (by omega)).2
    have hto := toTree_ev l0_0 l0_1 hs
    have heq := eqTree_ev l0_0 l0_1 hs
    have hD : (l0_0.map devOf).length ≤ 9223372036854775807 := by rw [List.length_map]; exact g1
    obtain ⟨m, hm0, hm⟩ := markTree_ev (l0_0.map devOf) (l0_1.map bktOf) (by rw [List.length_map]; exact hs.1) (by rw [List.length_map]; exact hs.2.1) (fun x hx => by
      obtain ⟨y, hy, rfl⟩ := List.mem_map.1 hx
      exact hs.2.2 y hy)
    generalize l0_0.map devOf = D at *
    generalize l0_1.map bktOf = B at *
    have hl := underAns_length D B a1
    refine Ev.bind hto (Ev.bind (spec_nodesUnder D B hD a1) (Ev.bind (impl_nodesUnder D B hD hwf a1) (Ev.bind (eqInt64S_ev _ (by omega)) (Ev.bind heq (Ev.bind hm (Ev.bind (markInts_ev _ 1 hl (by omega)) (Ev.bind (heldInts_ev 1 _ hl (by omega)) ?_)))))))
    exact ev_some fun k => if_pos ⟨rfl, rfl, rfl, rfl, hm0, rfl, by omega⟩

end Go.Proofs.Ytkadeelplnkpgaa.Pure
