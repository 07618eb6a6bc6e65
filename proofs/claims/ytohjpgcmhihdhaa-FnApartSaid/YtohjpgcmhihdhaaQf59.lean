/- Walks of the Go functions that the laws call: each returns what a plain Lean function says. Written by a program for these claims. -/
import Derived.Test.YtohjpgcmhihdhaaQ0
import Derived.Test.YtohjpgcmhihdhaaQf30
namespace Go.Proofs.Ytohjpgcmhihdhaa.Q
open Go.RowKit Go.Proofs.YtohjpgcmhihdhaaW.PrintWords Go.Proofs.YtohjpgcmhihdhaaW.PrintLast Go.Proofs.YtohjpgcmhihdhaaW.PrintMore
attribute [local go_sem] max2_int min2_int max_two min_two max_three min_three max_four min_four   -- for this text's walks alone
set_option linter.unusedVariables false
set_option linter.unusedSimpArgs false

/-! ### impl_Tree_conflict: function 59 -/
mutual
def impl_Tree_conflict.l0 : Nat → Int → Int → Int → Int → List Int → Int → Int → List (S34) → List (S70) → Option (Bool)
  | 0, _, _, _, _, _, _, _, _, _ => none
  | k + 1, x1, x3, x4, x11, x24, x25, x26, x329000, x329001 => if x26 < x25 then (if 0 ≤ x26 then (if x26 < (x24.length : Int) then (if x26 = x3 then (impl_Tree_conflict.j1 k x1 x3 x4 x11 (rd x24 x26) x24 x25 x26 true x329000 x329001) else (impl_Tree_conflict.j1 k x1 x3 x4 x11 (rd x24 x26) x24 x25 x26 (decide ((rd x24 x26) < 0)) x329000 x329001)) else (none)) else (none)) else (some false)
def impl_Tree_conflict.j1 : Nat → Int → Int → Int → Int → Int → List Int → Int → Int → Bool → List (S34) → List (S70) → Option (Bool)
  | 0, _, _, _, _, _, _, _, _, _, _, _ => none
  | k + 1, x1, x3, x4, x11, x14, x24, x25, x26, x37, x329000, x329001 => if x37 = true then (impl_Tree_conflict.l0 k x1 x3 x4 x11 x24 x25 (wrap64 (x26 + 1)) x329000 x329001) else ((impl_Tree_domain.f k x329000 x329001 x1 x14).bind fun bt332 => (if x14 = x4 then (some true) else (if bt332.1 = x11 then (some true) else (impl_Tree_conflict.l0 k x1 x3 x4 x11 x24 x25 (wrap64 (x26 + 1)) x329000 x329001))))
end
def impl_Tree_conflict.f (k : Nat) (l0_0 : List (S34)) (l0_1 : List (S70)) (a1 : Int) (l2 : List Int) (a3 : Int) (a4 : Int) : Option (Bool) := (impl_Tree_domain.f k l0_0 l0_1 a1 a4).bind fun bt329 => (impl_Tree_conflict.l0 k a1 a3 a4 bt329.1 l2 (l2.length : Int) 0 l0_0 l0_1)
set_option maxHeartbeats 8000000 in
set_option maxRecDepth 100000 in
theorem impl_Tree_conflict.calls (k : Nat) (A0_0 : Option Addr) (c0_0 : Nat) (l0_0 : List (S34)) (A0_1 : Option Addr) (c0_1 : Nat) (l0_1 : List (S70)) (a1 : Int) (A2 : Option Addr) (c2 : Nat) (l2 : List Int) (a3 : Int) (a4 : Int) (r : Bool) (w : World) (hr0_0 : Kd.C k34 w A0_0 l0_0.length l0_0) (hc0_0 : l0_0.length ≤ c0_0) (hr0_1 : Kd.C k70 w A0_1 l0_1.length l0_1) (hc0_1 : l0_1.length ≤ c0_1) (hr2 : Kd.C (Kd.int .i64) w A2 l2.length l2) (hc2 : l2.length ≤ c2) (h : impl_Tree_conflict.f k l0_0 l0_1 a1 l2 a3 a4 = some r) :
    Calls Try.prog 59 #[.agg #[.slice A0_0 l0_0.length c0_0, .slice A0_1 l0_1.length c0_1], .int .i64 a1, .slice A2 l2.length c2, .int .i64 a3, .int .i64 a4] w fun e w' => e = .returned (.bool r) ∧ Below w.heap.size w w' := by
  have hu26 := Try.underlying26
  have HR0_0 := Aside0.mk hr0_0
  have HC0_0 := Aside0.mk hc0_0
  clear hr0_0 hc0_0
  have HR0_1 := Aside0.mk hr0_1
  have HC0_1 := Aside0.mk hc0_1
  clear hr0_1 hc0_1
  have HR2 := Aside0.mk hr2
  have HC2 := Aside0.mk hc2
  clear hr2 hc2
  have HB := Aside0.mk (Below.refl w.heap.size w)
  have H : ((impl_Tree_domain.f k l0_0 l0_1 a1 a4).bind fun bt329 => (impl_Tree_conflict.l0 k a1 a3 a4 bt329.1 l2 (l2.length : Int) 0 l0_0 l0_1)) = some r := h
  clear h
  replace H := Option.bind_eq_some_iff.mp H
  obtain ⟨⟨t329, t330⟩, A60, H⟩ := H
  set_option simprocs false in try dsimp only at H
  have A6 := Aside0.mk A60
  clear A60
  have H' := Aside0.mk H
  clear H
  go_enter Try.func59, Try.ntmps59
  go_wp2_with (first | ((with_reducible refine gate_dst (N := 5) rfl ?_); refine box_event ?hg (N := 5) ?hd (cs := #[.slice A0_0 l0_0.length c0_0, .slice A0_1 l0_1.length c0_1]) (t := 26) ?hr ?_; (case hd => rfl); (case hg => rfl); (case hr => first | (go_simp; done) | (go_simp; rfl)); intro gb328 hg w7 hbox hb; have n0_ := Aside0.mk (below_step (by repeat first | exact HB.out | apply pw_below_drewN) hb); have n1_ := Aside0.mk (hbox); clear HB; have HB := n0_; have BK328 := n1_; clear n0_ n1_; clear hb hbox hg; have hcz8_0 := (blk_cell BK328.out 0).trans rfl; have hcz8_1 := (blk_cell BK328.out 1).trans rfl) | ((with_reducible refine gate_callee (f := 30) rfl ?_); refine goesL_ (some 21) rfl rfl Try.func30 (by kernel_rfl) rfl #[.agg #[.slice A0_0 l0_0.length c0_0, .slice A0_1 l0_1.length c0_1], .int .i64 a1, .int .i64 a4] rfl (by (try simp only [List.map_toArray, List.map_cons, List.map_nil]); first | done | rfl) ?_; (with_reducible refine (impl_Tree_domain.calls k _ _ l0_0 _ _ l0_1 a1 a4 t329 t330 _ ?side1 ?side2 ?side3 ?side4 A6.out).mono ?_); (case side1 => exact (Kd.C_below HR0_0.out HB.out)); (case side2 => exact HC0_0.out); (case side3 => exact (Kd.C_below HR0_1.out HB.out)); (case side4 => exact HC0_1.out); rintro e w9 ⟨rfl, hb⟩; refine ⟨_, rfl, ?_⟩; have n0_ := Aside0.mk (blk_below (by exact BK328.out) hb); have n1_ := Aside0.mk (below_step (by repeat first | exact HB.out | apply pw_below_drewN) hb); clear BK328; clear HB; have BK328 := n0_; have HB := n1_; clear n0_ n1_; (try clear hb); (try clear hb2); (try clear hk); (try clear hi)))
  go_loopg [26] k (fun kq v26 w' => ∃ (x26_1 : Int), v26 = .int .i64 x26_1 ∧ Aside0 (impl_Tree_conflict.l0 kq a1 a3 a4 t329 l2 (l2.length : Int) x26_1 l0_0 l0_1 = some r) ∧ Aside0 (kq ≤ k) ∧ Aside0 (w'.heap[gb328]? = some (.cells #[(.slice A0_0 l0_0.length c0_0), (.slice A0_1 l0_1.length c0_1)] 26 (0, 0))) ∧ Aside0 (Below w.heap.size w w'))
  case atStart => exact ⟨(0), (by first | rfl | (simp; done) | (simp [*]; done)), H', ⟨Nat.le_refl _⟩, ⟨by exact BK328.out⟩, ⟨by repeat first | exact HB.out | apply pw_below_drewN⟩⟩
  case round =>
    clear H'
    try clear c2
    try clear p2
    try clear c3
    try clear c5
    try clear hcz8_0
    try clear hcz8_1
    obtain ⟨x26_1, rfl, HA, HK1, BK328, HB⟩ := hrel
    cases gk with
    | zero => exact absurd HA.out (by simp [impl_Tree_conflict.l0])
    | succ k1 =>
      have H := HA.out
      clear HA
      simp only [impl_Tree_conflict.l0] at H
      by_cases c10 : x26_1 < (l2.length : Int)
      · rw [if_pos c10] at H
        have c10b0 : decide (x26_1 < (l2.length : Int)) = true := decide_eq_true c10
        clear c10
        by_cases c11 : 0 ≤ x26_1
        · rw [if_pos c11] at H
          have c11b0 : decide (0 ≤ x26_1) = true := decide_eq_true c11
          clear c11
          by_cases c12 : x26_1 < (l2.length : Int)
          · rw [if_pos c12] at H
            have c12b0 : decide (x26_1 < (l2.length : Int)) = true := decide_eq_true c12
            clear c12
            have HC13 := Aside0.mk H
            clear H
            have p331 : 0 ≤ (x26_1 : Int) := of_decide_eq_true (by assumption)
            have q331 : x26_1 < (l2.length : Int) := of_decide_eq_true (by assumption)
            obtain ⟨ad331, e331, hx331_0⟩ := Kd.at_int HR2.out x26_1 p331 q331
            cases e331
            replace hx331_0 := (HB.out.cell (World.block_lt_of_cell? w _ hx331_0)).trans hx331_0
            replace p331 := eq_true p331
            replace q331 := eq_true q331
            go_upto_region 5 with (fail)
            go_cut [37] (fun v37 wc => ∃ (kq : Nat) (x37_12 : Bool), v37 = .bool x37_12 ∧ Aside0 (impl_Tree_conflict.j1 kq a1 a3 a4 t329 (rd l2 x26_1) l2 (l2.length : Int) x26_1 x37_12 l0_0 l0_1 = some r) ∧ Aside0 (kq ≤ k1) ∧ Aside0 (wc.heap[gb328]? = some (.cells #[(.slice A0_0 l0_0.length c0_0), (.slice A0_1 l0_1.length c0_1)] 26 (0, 0))) ∧ Aside0 (Below w.heap.size w wc))
            case first =>
              have H := HC13.out
              clear HC13
              by_cases c14 : x26_1 = a3
              · rw [if_pos c14] at H
                have c14b0 : (x26_1 == a3) = true := beq_iff_eq.mpr c14
                have c14b1 : (x26_1 != a3) = false := bne_eq_false_iff_eq.mpr c14
                clear c14
                (first | rw [c14b0] | (simp only [i64_w, i32_w]; rw [c14b0]) | skip)
                have H' := Aside0.mk H
                clear H
                go_wp2
                go_meet
                case rel => exact ⟨_, (true), (by first | rfl | (simp; done) | (simp [*]; done)), H', ⟨by have := HK1.out; first | omega | exact Nat.le_refl _⟩, ⟨by exact BK328.out⟩, ⟨by repeat first | exact HB.out | apply pw_below_drewN⟩⟩
              · rw [if_neg c14] at H
                have c14b0 : (x26_1 == a3) = false := beq_eq_false_iff_ne.mpr c14
                have c14b1 : (x26_1 != a3) = true := bne_iff_ne.mpr c14
                (first | rw [c14b0] | (simp only [i64_w, i32_w]; rw [c14b0]) | skip)
                have H' := Aside0.mk H
                clear H
                go_wp2
                go_meet
                case rel => exact ⟨_, (decide ((rd l2 x26_1) < 0)), (by first | rfl | (simp; done) | (simp [*]; done)), H', ⟨by have := HK1.out; first | omega | exact Nat.le_refl _⟩, ⟨by exact BK328.out⟩, ⟨by repeat first | exact HB.out | apply pw_below_drewN⟩⟩
            case rest =>
              clear HC13
              try clear c1
              try clear c2
              try clear p2
              try clear c3
              try clear p3
              try clear q3
              try clear hx3
              try clear c5
              try clear c10
              try clear c10b0
              try clear c11
              try clear c11b0
              try clear c12
              try clear c12b0
              try clear c14
              try clear c14b0
              try clear c14b1
              try clear hcz8_0
              try clear hcz8_1
              try clear hx331_0
              try clear p2
              try clear p331
              try clear q331
              obtain ⟨kq, x37_12, rfl, HA, HJ12, BK328, HB⟩ := hcut
              cases kq with
              | zero => exact absurd HA.out (by simp [impl_Tree_conflict.j1])
              | succ kj12 =>
                have H := HA.out
                clear HA
                simp only [impl_Tree_conflict.j1] at H
                by_cases c15 : x37_12 = true
                · subst c15
                  rw [if_pos rfl] at H
                  have H' := Aside0.mk H
                  clear H
                  go_wp2
                  go_roundg kj12
                  case measure => have := HK1.out; have := HJ12.out; omega
                  case rel => exact ⟨(wrap64 (x26_1 + 1)), (by first | rfl | (simp; done) | (simp [*]; done)), H', ⟨by have := HK1.out; have := HJ12.out; omega⟩, ⟨by exact BK328.out⟩, ⟨by repeat first | exact HB.out | apply pw_below_drewN⟩⟩
                · replace c15 := Bool.eq_false_iff.mpr c15
                  subst c15
                  rw [if_neg (show ¬ (false = true) by decide)] at H
                  replace H := Option.bind_eq_some_iff.mp H
                  obtain ⟨⟨t332, t333⟩, A160, H⟩ := H
                  set_option simprocs false in try dsimp only at H
                  have A16 := Aside0.mk A160
                  clear A160
                  by_cases c17 : (rd l2 x26_1) = a4
                  · rw [if_pos c17] at H
                    have c17b0 : ((rd l2 x26_1) == a4) = true := beq_iff_eq.mpr c17
                    have c17b1 : ((rd l2 x26_1) != a4) = false := bne_eq_false_iff_eq.mpr c17
                    clear c17
                    obtain rfl := Option.some.inj H
                    have hcz18_0 := (blk_cell BK328.out 0).trans rfl
                    have hcz18_1 := (blk_cell BK328.out 1).trans rfl
                    go_wp2_with (first | ((with_reducible refine gate_callee (f := 30) rfl ?_); refine goesL_ (some 42) rfl rfl Try.func30 (by kernel_rfl) rfl #[.agg #[.slice A0_0 l0_0.length c0_0, .slice A0_1 l0_1.length c0_1], .int .i64 a1, .int .i64 (rd l2 x26_1)] rfl (by (try simp only [List.map_toArray, List.map_cons, List.map_nil]); first | done | rfl) ?_; (with_reducible refine (impl_Tree_domain.calls kj12 _ _ l0_0 _ _ l0_1 a1 (rd l2 x26_1) t332 t333 _ ?side1 ?side2 ?side3 ?side4 A16.out).mono ?_); (case side1 => exact (Kd.C_below HR0_0.out HB.out)); (case side2 => exact HC0_0.out); (case side3 => exact (Kd.C_below HR0_1.out HB.out)); (case side4 => exact HC0_1.out); rintro e w19 ⟨rfl, hb⟩; refine ⟨_, rfl, ?_⟩; have n0_ := Aside0.mk (blk_below (by exact BK328.out) hb); have n1_ := Aside0.mk (below_step (by repeat first | exact HB.out | apply pw_below_drewN) hb); clear BK328; clear HB; have BK328 := n0_; have HB := n1_; clear n0_ n1_; (try clear hb); (try clear hb2); (try clear hk); (try clear hi)))
                    go_ret
                    exact ⟨by first | rfl | (simp [*, errW_none, errW_some] <;> rfl), by repeat first | exact HB.out | apply pw_below_drewN⟩
                  · rw [if_neg c17] at H
                    have c17b0 : ((rd l2 x26_1) == a4) = false := beq_eq_false_iff_ne.mpr c17
                    have c17b1 : ((rd l2 x26_1) != a4) = true := bne_iff_ne.mpr c17
                    by_cases c20 : t332 = t329
                    · rw [if_pos c20] at H
                      have c20b0 : (t332 == t329) = true := beq_iff_eq.mpr c20
                      have c20b1 : (t332 != t329) = false := bne_eq_false_iff_eq.mpr c20
                      clear c20
                      obtain rfl := Option.some.inj H
                      have hcz21_0 := (blk_cell BK328.out 0).trans rfl
                      have hcz21_1 := (blk_cell BK328.out 1).trans rfl
                      go_wp2_with (first | ((with_reducible refine gate_callee (f := 30) rfl ?_); refine goesL_ (some 42) rfl rfl Try.func30 (by kernel_rfl) rfl #[.agg #[.slice A0_0 l0_0.length c0_0, .slice A0_1 l0_1.length c0_1], .int .i64 a1, .int .i64 (rd l2 x26_1)] rfl (by (try simp only [List.map_toArray, List.map_cons, List.map_nil]); first | done | rfl) ?_; (with_reducible refine (impl_Tree_domain.calls kj12 _ _ l0_0 _ _ l0_1 a1 (rd l2 x26_1) t332 t333 _ ?side1 ?side2 ?side3 ?side4 A16.out).mono ?_); (case side1 => exact (Kd.C_below HR0_0.out HB.out)); (case side2 => exact HC0_0.out); (case side3 => exact (Kd.C_below HR0_1.out HB.out)); (case side4 => exact HC0_1.out); rintro e w22 ⟨rfl, hb⟩; refine ⟨_, rfl, ?_⟩; have n0_ := Aside0.mk (blk_below (by exact BK328.out) hb); have n1_ := Aside0.mk (below_step (by repeat first | exact HB.out | apply pw_below_drewN) hb); clear BK328; clear HB; have BK328 := n0_; have HB := n1_; clear n0_ n1_; (try clear hb); (try clear hb2); (try clear hk); (try clear hi)))
                      go_ret
                      exact ⟨by first | rfl | (simp [*, errW_none, errW_some] <;> rfl), by repeat first | exact HB.out | apply pw_below_drewN⟩
                    · rw [if_neg c20] at H
                      have c20b0 : (t332 == t329) = false := beq_eq_false_iff_ne.mpr c20
                      have c20b1 : (t332 != t329) = true := bne_iff_ne.mpr c20
                      have H' := Aside0.mk H
                      clear H
                      have hcz23_0 := (blk_cell BK328.out 0).trans rfl
                      have hcz23_1 := (blk_cell BK328.out 1).trans rfl
                      go_wp2_with (first | ((with_reducible refine gate_callee (f := 30) rfl ?_); refine goesL_ (some 42) rfl rfl Try.func30 (by kernel_rfl) rfl #[.agg #[.slice A0_0 l0_0.length c0_0, .slice A0_1 l0_1.length c0_1], .int .i64 a1, .int .i64 (rd l2 x26_1)] rfl (by (try simp only [List.map_toArray, List.map_cons, List.map_nil]); first | done | rfl) ?_; (with_reducible refine (impl_Tree_domain.calls kj12 _ _ l0_0 _ _ l0_1 a1 (rd l2 x26_1) t332 t333 _ ?side1 ?side2 ?side3 ?side4 A16.out).mono ?_); (case side1 => exact (Kd.C_below HR0_0.out HB.out)); (case side2 => exact HC0_0.out); (case side3 => exact (Kd.C_below HR0_1.out HB.out)); (case side4 => exact HC0_1.out); rintro e w24 ⟨rfl, hb⟩; refine ⟨_, rfl, ?_⟩; have n0_ := Aside0.mk (blk_below (by exact BK328.out) hb); have n1_ := Aside0.mk (below_step (by repeat first | exact HB.out | apply pw_below_drewN) hb); clear BK328; clear HB; have BK328 := n0_; have HB := n1_; clear n0_ n1_; (try clear hb); (try clear hb2); (try clear hk); (try clear hi)))
                      go_roundg kj12
                      case measure => have := HK1.out; have := HJ12.out; omega
                      case rel => exact ⟨(wrap64 (x26_1 + 1)), (by first | rfl | (simp; done) | (simp [*]; done)), H', ⟨by have := HK1.out; have := HJ12.out; omega⟩, ⟨by exact BK328.out⟩, ⟨by repeat first | exact HB.out | apply pw_below_drewN⟩⟩
          · rw [if_neg c12] at H
            exact absurd H (by simp)
        · rw [if_neg c11] at H
          exact absurd H (by simp)
      · rw [if_neg c10] at H
        have c10b0 : decide (x26_1 < (l2.length : Int)) = false := decide_eq_false c10
        clear c10
        obtain rfl := Option.some.inj H
        go_wp2
        go_ret
        exact ⟨by first | rfl | (simp [*, errW_none, errW_some] <;> rfl), by repeat first | exact HB.out | apply pw_below_drewN⟩

end Go.Proofs.Ytohjpgcmhihdhaa.Q
