/- Walks and plain laws of one claim, several texts in one. -/
import Derived.Test.YtohjpgcmhihdhaaDoorQ0
import Derived.Test.YtohjpgcmhihdhaaDoorQf60
import Derived.Test.YtohjpgcmhihdhaaDoorOSteps
import Derived.Test.YtohjpgcmhihdhaaDoorQf61
import Derived.Test.YtohjpgcmhihdhaaDoorQf30
import Derived.Test.YtohjpgcmhihdhaaDoorQf31
import Derived.Test.YtohjpgcmhihdhaaDoorOTree
import Derived.Test.YtohjpgcmhihdhaaDoorQf19
import Derived.Test.YtohjpgcmhihdhaaDoorQf37
import Derived.Test.YtohjpgcmhihdhaaDoorQf63
import Derived.Test.YtohjpgcmhihdhaaDoorOText
import Derived.Test.YtohjpgcmhihdhaaDoorQf34
import Derived.Test.YtohjpgcmhihdhaaDoorONumT
import Derived.Test.YtohjpgcmhihdhaaDoorQf7
import Derived.Test.YtohjpgcmhihdhaaDoorQf62
import Derived.Test.YtohjpgcmhihdhaaDoorQf5
import Derived.Test.YtohjpgcmhihdhaaDoorQf9
import Derived.Test.YtohjpgcmhihdhaaDoorOLTree
import Derived.Test.YtohjpgcmhihdhaaDoorOTypes
namespace Go.Proofs.YtohjpgcmhihdhaaDoor.Q
open Go.RowKit Go.Proofs.YtohjpgcmhihdhaaDoorW.PrintWords Go.Proofs.YtohjpgcmhihdhaaDoorW.PrintLast Go.Proofs.YtohjpgcmhihdhaaDoorW.PrintMore
attribute [local go_sem] max2_int min2_int max_two min_two max_three min_three max_four min_four   -- for this text's walks alone
set_option linter.unusedVariables false
set_option linter.unusedSimpArgs false
/-! ### spec_l06Once: function 32 -/
mutual
def spec_l06Once.l0 : Nat → List Int → Int → List (S65) → List (S62) → Option (Bool)
  | 0, _, _, _, _ => none
  | k + 1, x3, x4, x122000, x122001 => if x4 < (x122001.length : Int) then (spec_l06Once.l1 k x3 x4 0 x122000 x122001) else (some true)
def spec_l06Once.l1 : Nat → List Int → Int → Int → List (S65) → List (S62) → Option (Bool)
  | 0, _, _, _, _, _ => none
  | k + 1, x3, x4, x5, x122000, x122001 => if 0 ≤ x4 then (if x4 < (x122001.length : Int) then (if x5 < (((rd_T62 x122001 x4).f2).length : Int) then (if 0 ≤ x5 then ((spec_l00Has.f k x3 (rd ((rd_T62 x122001 x4).f2) x5)).bind fun t128 => (if t128 = true then (some false) else (if x3.length < 17592186044416 then (spec_l06Once.l1 k (x3 ++ [rd ((rd_T62 x122001 x4).f2) x5]) x4 (wrap64 (x5 + 1)) x122000 x122001) else (none)))) else (none)) else (spec_l06Once.l0 k x3 (wrap64 (x4 + 1)) x122000 x122001)) else (none)) else (none)
end
def spec_l06Once.f (k : Nat) (l0_0 : List (S65)) (l0_1 : List (S62)) : Option (Bool) := spec_l06Once.l0 k (([] : List Int)) 0 l0_0 l0_1
set_option maxHeartbeats 8000000 in
set_option maxRecDepth 100000 in
theorem spec_l06Once.calls (k : Nat) (A0_0 : Option Addr) (c0_0 : Nat) (l0_0 : List (S65)) (A0_1 : Option Addr) (c0_1 : Nat) (l0_1 : List (S62)) (r : Bool) (w : World) (hr0_0 : Kd.C k65 w A0_0 l0_0.length l0_0) (hc0_0 : l0_0.length ≤ c0_0) (hr0_1 : Kd.C k62 w A0_1 l0_1.length l0_1) (hc0_1 : l0_1.length ≤ c0_1) (h : spec_l06Once.f k l0_0 l0_1 = some r) :
    Calls Tryd.prog 32 #[.agg #[.slice A0_0 l0_0.length c0_0, .slice A0_1 l0_1.length c0_1]] w fun e w' => e = .returned (.bool r) ∧ Below w.heap.size w w' := by
  have hu32 := Tryd.underlying32
  have HR0_0 := Aside0.mk hr0_0
  have HC0_0 := Aside0.mk hc0_0
  clear hr0_0 hc0_0
  have HR0_1 := Aside0.mk hr0_1
  have HC0_1 := Aside0.mk hc0_1
  clear hr0_1 hc0_1
  have HB := Aside0.mk (Below.refl w.heap.size w)
  have H : (spec_l06Once.l0 k (([] : List Int)) 0 l0_0 l0_1) = some r := h
  clear h
  obtain ⟨y122, hy122⟩ : ∃ y_ : List Int, y_ = (([] : List Int)) := ⟨_, rfl⟩
  replace H : (spec_l06Once.l0 k y122 0 l0_0 l0_1) = some r := by first | (rw [hy122]; with_reducible exact H) | (have H2_ := (Option.bind_some _ _).symm.trans H; rw [hy122]; with_reducible exact H2_) | (have H2_ := (Option.bind_some _ _).symm.trans H; with_reducible exact H2_) | with_reducible exact H | (rw [hy122]; exact H) | exact H
  have Ny122 := Aside0.mk hy122
  clear hy122
  have H' := Aside0.mk H
  clear H
  go_enter Tryd.func32, Tryd.ntmps32
  go_wp2_with (first | ((with_reducible refine gate_dst (N := 1) rfl ?_); refine box_event ?hg (N := 1) ?hd (cs := #[.slice A0_0 l0_0.length c0_0, .slice A0_1 l0_1.length c0_1]) (t := 32) ?hr ?_; (case hd => rfl); (case hg => rfl); (case hr => first | (go_simp; done) | (go_simp; rfl)); intro gb121 hg w2 hbox hb; have n0_ := Aside0.mk (below_step (by repeat first | exact HB.out | apply pw_below_drewN) hb); have n1_ := Aside0.mk (hbox); clear HB; have HB := n0_; have BK121 := n1_; clear n0_ n1_; clear hb hbox hg) | ((with_reducible refine gate_dst (N := 7) rfl ?_); refine Kd.R_lit (Kd.int .i64) _ 2 ?hg (N := 7) ?hd (xs := ([] : List Int)) (inner := []) (ok := fun _ => True) (okp := fun _ => True) ?hr ?hp (fun _ hk => hk) trivial (Below.refl _ _) (Nat.le_refl _) (by simp) ?_; (case hd => rfl); (case hg => rfl); (case hr => first | (go_simp; done) | (go_simp; rfl)); (case hp => exact (Reps.none _ _)); intro v123 w3 ho4 hb hg_ hnew_; clear hg_ hnew_; (first | rw [← Ny122.out] at ho4 | (simp only [Int.reduceToNat] at ho4; rw [← Ny122.out] at ho4)); have n0_ := Aside0.mk (Kd.R_lower ho4 (below_size (by repeat first | exact HB.out | apply pw_below_drewN))); have n1_ := Aside0.mk (blk_below (by exact BK121.out) hb); have n2_ := Aside0.mk (below_step (by repeat first | exact HB.out | apply pw_below_drewN) hb); clear BK121; clear HB; have HO124 := n0_; have BK121 := n1_; have HB := n2_; clear n0_ n1_ n2_; clear hb ho4))
  go_loopg [3, 4] k (fun kq v3 v4 w' => ∃ (x3_1 : List Int) (x4_1 : Int), v4 = .int .i64 x4_1 ∧ Aside0 (spec_l06Once.l0 kq x3_1 x4_1 l0_0 l0_1 = some r) ∧ Aside0 (kq ≤ k) ∧ Aside0 (Kd.R (Kd.int .i64) 2 w' w.heap.size (fun _ => True) v3 x3_1) ∧ Aside0 (w'.heap[gb121]? = some (.cells #[(.slice A0_0 l0_0.length c0_0), (.slice A0_1 l0_1.length c0_1)] 32 (0, 0))) ∧ Aside0 (Below w.heap.size w w'))
  case atStart => exact ⟨(y122), (0), (by first | rfl | (simp; done) | (simp [*]; done)), H', ⟨Nat.le_refl _⟩, ⟨by (with_reducible repeat (first | apply Kd.R_alloc | apply Kd.R_drewN | apply Kd.R_drew)); exact HO124.out⟩, ⟨by exact BK121.out⟩, ⟨by repeat first | exact HB.out | apply pw_below_drewN⟩⟩
  case round =>
    clear H'
    try clear p2
    try clear c3
    obtain ⟨x3_1, x4_1, rfl, HA, HK1, HO_3, BK121, HB⟩ := hrel
    cases gk with
    | zero => exact absurd HA.out (by simp [spec_l06Once.l0])
    | succ k1 =>
      have H := HA.out
      clear HA
      simp only [spec_l06Once.l0] at H
      by_cases c5 : x4_1 < (l0_1.length : Int)
      · rw [if_pos c5] at H
        have c5b0 : decide (x4_1 < (l0_1.length : Int)) = true := decide_eq_true c5
        clear c5
        have H' := Aside0.mk H
        clear H
        have hcz6_0 := (blk_cell BK121.out 0).trans rfl
        have hcz6_1 := (blk_cell BK121.out 1).trans rfl
        go_wp2
        go_loopg [3, 5] k1 (fun kq v3 v5 w' => ∃ (x3_2 : List Int) (x5_2 : Int), v5 = .int .i64 x5_2 ∧ Aside0 (spec_l06Once.l1 kq x3_2 x4_1 x5_2 l0_0 l0_1 = some r) ∧ Aside0 (kq ≤ k1) ∧ Aside0 (Kd.R (Kd.int .i64) 2 w' w.heap.size (fun _ => True) v3 x3_2) ∧ Aside0 (w'.heap[gb121]? = some (.cells #[(.slice A0_0 l0_0.length c0_0), (.slice A0_1 l0_1.length c0_1)] 32 (0, 0))) ∧ Aside0 (Below w.heap.size w w'))
        case atStart => exact ⟨(x3_1), (0), (by first | rfl | (simp; done) | (simp [*]; done)), H', ⟨Nat.le_refl _⟩, ⟨by (with_reducible repeat (first | apply Kd.R_alloc | apply Kd.R_drewN | apply Kd.R_drew)); exact HO_3.out⟩, ⟨by exact BK121.out⟩, ⟨by repeat first | exact HB.out | apply pw_below_drewN⟩⟩
        case round =>
          clear H'
          try clear p2
          try clear c3
          try clear c5
          try clear c5b0
          try clear hcz6_0
          try clear hcz6_1
          try clear p2
          obtain ⟨x3_2, x5_2, rfl, HA, HK2, HO_3, BK121, HB⟩ := hrel
          cases gk with
          | zero => exact absurd HA.out (by simp [spec_l06Once.l1])
          | succ k2 =>
            have H := HA.out
            clear HA
            simp only [spec_l06Once.l1] at H
            by_cases c7 : 0 ≤ x4_1
            · rw [if_pos c7] at H
              have c7b0 : decide (0 ≤ x4_1) = true := decide_eq_true c7
              clear c7
              by_cases c8 : x4_1 < (l0_1.length : Int)
              · rw [if_pos c8] at H
                have c8b0 : decide (x4_1 < (l0_1.length : Int)) = true := decide_eq_true c8
                clear c8
                by_cases c9 : x5_2 < (((rd_T62 l0_1 x4_1).f2).length : Int)
                · rw [if_pos c9] at H
                  have c9b0 : decide (x5_2 < (((rd_T62 l0_1 x4_1).f2).length : Int)) = true := decide_eq_true c9
                  clear c9
                  by_cases c10 : 0 ≤ x5_2
                  · rw [if_pos c10] at H
                    have c10b0 : decide (0 ≤ x5_2) = true := decide_eq_true c10
                    clear c10
                    replace H := Option.bind_eq_some_iff.mp H
                    obtain ⟨t128, A110, H⟩ := H
                    set_option simprocs false in try dsimp only at H
                    have A11 := Aside0.mk A110
                    clear A110
                    by_cases c12 : t128 = true
                    · subst c12
                      rw [if_pos rfl] at H
                      obtain rfl := Option.some.inj H
                      have hcz13_0 := (blk_cell BK121.out 0).trans rfl
                      have hcz13_1 := (blk_cell BK121.out 1).trans rfl
                      have p125 : 0 ≤ (x4_1 : Int) := of_decide_eq_true (by assumption)
                      have q125 : x4_1 < (l0_1.length : Int) := of_decide_eq_true (by assumption)
                      obtain ⟨ad125, A125_2, c125_2, e125, hx125_0, hx125_1, hx125_2, hl125_2, hi125_2⟩ := at_T62 HR0_1.out x4_1 p125 q125
                      cases e125
                      replace hx125_0 := (HB.out.cell (World.block_lt_of_cell? w _ hx125_0)).trans hx125_0
                      replace hx125_1 := (HB.out.cell (World.block_lt_of_cell? w _ hx125_1)).trans hx125_1
                      replace hx125_2 := (HB.out.cell (World.block_lt_of_cell? w _ hx125_2)).trans hx125_2
                      have HR125_2 := Aside0.mk hi125_2
                      have HC125_2 := Aside0.mk hl125_2
                      clear hi125_2 hl125_2
                      replace p125 := eq_true p125
                      replace q125 := eq_true q125
                      have p126 : 0 ≤ (x4_1 : Int) := of_decide_eq_true (by assumption)
                      have q126 : x4_1 < (l0_1.length : Int) := of_decide_eq_true (by assumption)
                      obtain ⟨ad126, A126_2, c126_2, e126, hx126_0, hx126_1, hx126_2, hl126_2, hi126_2⟩ := at_T62 HR0_1.out x4_1 p126 q126
                      obtain rfl : ad125 = ad126 := (by injection e126)
                      replace hx126_0 := (HB.out.cell (World.block_lt_of_cell? w _ hx126_0)).trans hx126_0
                      replace hx126_1 := (HB.out.cell (World.block_lt_of_cell? w _ hx126_1)).trans hx126_1
                      replace hx126_2 := (HB.out.cell (World.block_lt_of_cell? w _ hx126_2)).trans hx126_2
                      have HR126_2 := Aside0.mk hi126_2
                      have HC126_2 := Aside0.mk hl126_2
                      clear hi126_2 hl126_2
                      replace p126 := eq_true p126
                      replace q126 := eq_true q126
                      have ea_ := Option.some.inj (hx125_2.symm.trans hx126_2)
                      injection ea_ with ea_ en_ ec_
                      subst ea_
                      subst ec_
                      clear en_
                      have p127 : 0 ≤ (x5_2 : Int) := of_decide_eq_true (by assumption)
                      have q127 : x5_2 < (((rd_T62 l0_1 x4_1).f2).length : Int) := of_decide_eq_true (by assumption)
                      obtain ⟨ad127, e127, hx127_0⟩ := Kd.at_int HR126_2.out x5_2 p127 q127
                      cases e127
                      replace hx127_0 := (HB.out.cell (World.block_lt_of_cell? w _ hx127_0)).trans hx127_0
                      replace p127 := eq_true p127
                      replace q127 := eq_true q127
                      obtain ⟨Ao14, co14, eo14⟩ := Kd.R_slice HO_3.out
                      subst eo14
                      go_wp2_with (first | ((with_reducible refine gate_callee (f := 60) rfl ?_); refine goesL_ (some 37) rfl rfl Tryd.func60 (by kernel_rfl) rfl #[.slice Ao14 x3_2.length co14, .int .i64 (rd ((rd_T62 l0_1 x4_1).f2) x5_2)] rfl (by (try simp only [List.map_toArray, List.map_cons, List.map_nil]); first | done | rfl) ?_; (with_reducible refine (spec_l00Has.calls k2 _ _ x3_2 (rd ((rd_T62 l0_1 x4_1).f2) x5_2) true _ ?side1 ?side2 A11.out).mono ?_); (case side1 => exact (Kd.R_reads' HO_3.out).2.2); (case side2 => exact (Kd.R_reads' HO_3.out).2.1); rintro e w' ⟨rfl, ⟨nd, rfl⟩⟩; refine ⟨_, rfl, ?_⟩))
                      go_ret
                      exact ⟨by first | rfl | (simp [*, errW_none, errW_some] <;> rfl), by repeat first | exact HB.out | apply pw_below_drewN⟩
                    · replace c12 := Bool.eq_false_iff.mpr c12
                      subst c12
                      rw [if_neg (show ¬ (false = true) by decide)] at H
                      by_cases c15 : x3_2.length < 17592186044416
                      · rw [if_pos c15] at H
                        have LMc15 := Aside0.mk c15
                        clear c15
                        obtain ⟨y129, hy129⟩ : ∃ y_ : List Int, y_ = (x3_2 ++ [rd ((rd_T62 l0_1 x4_1).f2) x5_2]) := ⟨_, rfl⟩
                        replace H : (spec_l06Once.l1 k2 y129 x4_1 (wrap64 (x5_2 + 1)) l0_0 l0_1) = some r := by first | (rw [hy129]; with_reducible exact H) | (have H2_ := (Option.bind_some _ _).symm.trans H; rw [hy129]; with_reducible exact H2_) | (have H2_ := (Option.bind_some _ _).symm.trans H; with_reducible exact H2_) | with_reducible exact H | (rw [hy129]; exact H) | exact H
                        have Ny129 := Aside0.mk hy129
                        clear hy129
                        have H' := Aside0.mk H
                        clear H
                        have hcz16_0 := (blk_cell BK121.out 0).trans rfl
                        have hcz16_1 := (blk_cell BK121.out 1).trans rfl
                        have p125 : 0 ≤ (x4_1 : Int) := of_decide_eq_true (by assumption)
                        have q125 : x4_1 < (l0_1.length : Int) := of_decide_eq_true (by assumption)
                        obtain ⟨ad125, A125_2, c125_2, e125, hx125_0, hx125_1, hx125_2, hl125_2, hi125_2⟩ := at_T62 HR0_1.out x4_1 p125 q125
                        cases e125
                        replace hx125_0 := (HB.out.cell (World.block_lt_of_cell? w _ hx125_0)).trans hx125_0
                        replace hx125_1 := (HB.out.cell (World.block_lt_of_cell? w _ hx125_1)).trans hx125_1
                        replace hx125_2 := (HB.out.cell (World.block_lt_of_cell? w _ hx125_2)).trans hx125_2
                        have HR125_2 := Aside0.mk hi125_2
                        have HC125_2 := Aside0.mk hl125_2
                        clear hi125_2 hl125_2
                        replace p125 := eq_true p125
                        replace q125 := eq_true q125
                        have p126 : 0 ≤ (x4_1 : Int) := of_decide_eq_true (by assumption)
                        have q126 : x4_1 < (l0_1.length : Int) := of_decide_eq_true (by assumption)
                        obtain ⟨ad126, A126_2, c126_2, e126, hx126_0, hx126_1, hx126_2, hl126_2, hi126_2⟩ := at_T62 HR0_1.out x4_1 p126 q126
                        obtain rfl : ad125 = ad126 := (by injection e126)
                        replace hx126_0 := (HB.out.cell (World.block_lt_of_cell? w _ hx126_0)).trans hx126_0
                        replace hx126_1 := (HB.out.cell (World.block_lt_of_cell? w _ hx126_1)).trans hx126_1
                        replace hx126_2 := (HB.out.cell (World.block_lt_of_cell? w _ hx126_2)).trans hx126_2
                        have HR126_2 := Aside0.mk hi126_2
                        have HC126_2 := Aside0.mk hl126_2
                        clear hi126_2 hl126_2
                        replace p126 := eq_true p126
                        replace q126 := eq_true q126
                        have ea_ := Option.some.inj (hx125_2.symm.trans hx126_2)
                        injection ea_ with ea_ en_ ec_
                        subst ea_
                        subst ec_
                        clear en_
                        have p127 : 0 ≤ (x5_2 : Int) := of_decide_eq_true (by assumption)
                        have q127 : x5_2 < (((rd_T62 l0_1 x4_1).f2).length : Int) := of_decide_eq_true (by assumption)
                        obtain ⟨ad127, e127, hx127_0⟩ := Kd.at_int HR126_2.out x5_2 p127 q127
                        cases e127
                        replace hx127_0 := (HB.out.cell (World.block_lt_of_cell? w _ hx127_0)).trans hx127_0
                        replace p127 := eq_true p127
                        replace q127 := eq_true q127
                        obtain ⟨Ao17, co17, eo17⟩ := Kd.R_slice HO_3.out
                        subst eo17
                        go_wp2_with (first | ((with_reducible refine gate_callee (f := 60) rfl ?_); refine goesL_ (some 37) rfl rfl Tryd.func60 (by kernel_rfl) rfl #[.slice Ao17 x3_2.length co17, .int .i64 (rd ((rd_T62 l0_1 x4_1).f2) x5_2)] rfl (by (try simp only [List.map_toArray, List.map_cons, List.map_nil]); first | done | rfl) ?_; (with_reducible refine (spec_l00Has.calls k2 _ _ x3_2 (rd ((rd_T62 l0_1 x4_1).f2) x5_2) false _ ?side1 ?side2 A11.out).mono ?_); (case side1 => exact (Kd.R_reads' HO_3.out).2.2); (case side2 => exact (Kd.R_reads' HO_3.out).2.1); rintro e w' ⟨rfl, ⟨nd, rfl⟩⟩; refine ⟨_, rfl, ?_⟩) | ((with_reducible refine gate_builtin (b := .append) (xs := #[.tmp 38, .tmp 40]) rfl ?_); at_builtin; refine Kd.R_append (Kd.int .i64) (w0 := w) w.heap.size rfl (.tmp 38) (.tmp 40) 58 2 (.int .i64 0) 8 rfl Tryd.underlying58 info2 rfl (by decide) (by omega) (.slice Ao17 x3_2.length co17) x3_2 (rd ((rd_T62 l0_1 x4_1).f2) x5_2) [.int .i64 (rd ((rd_T62 l0_1 x4_1).f2) x5_2)] (fun _ => True) (fun _ => False) rfl rfl ?aP (fun _ hk => hk.elim) ?aF ?aO ?aB ?aS ?aL ?_; (case aP => exact rfl); (case aB => exact (by repeat first | exact HB.out | apply pw_below_drewN)); (case aF => exact (fun _ _ => trivial)); (case aO => exact (by (with_reducible repeat (first | apply Kd.R_alloc | apply Kd.R_drewN | apply Kd.R_drew)); exact HO_3.out)); (case aS => exact (below_size (by repeat first | exact HB.out | apply pw_below_drewN))); (case aL => have := LMc15.out; omega); intro v130 w18 ho hb hg hat; rw [← Ny129.out] at ho; have n0_ := Aside0.mk (blk_grown (g := gb121) (o := .cells #[.slice A0_0 l0_0.length c0_0, .slice (some ad125) l0_1.length c0_1] 32 (0, 0)) (by exact BK121.out) hg (Kd.R_ne HO_3.out BK121.out (by decide))); have n1_ := Aside0.mk (hb); have n2_ := Aside0.mk (ho); clear BK121; clear HB; clear HO_3; have BK121 := n0_; have HB := n1_; have HO131 := n2_; clear n0_ n1_ n2_; clear ho hb hg hat))
                        go_roundg k2
                        case measure => have := HK1.out; have := HK2.out; omega
                        case rel => exact ⟨(y129), (wrap64 (x5_2 + 1)), (by first | rfl | (simp; done) | (simp [*]; done)), H', ⟨by have := HK1.out; have := HK2.out; omega⟩, ⟨by (with_reducible repeat (first | apply Kd.R_alloc | apply Kd.R_drewN | apply Kd.R_drew)); exact HO131.out⟩, ⟨by exact BK121.out⟩, ⟨by repeat first | exact HB.out | apply pw_below_drewN⟩⟩
                      · rw [if_neg c15] at H
                        exact absurd H (by simp)
                  · rw [if_neg c10] at H
                    exact absurd H (by simp)
                · rw [if_neg c9] at H
                  have c9b0 : decide (x5_2 < (((rd_T62 l0_1 x4_1).f2).length : Int)) = false := decide_eq_false c9
                  clear c9
                  have H' := Aside0.mk H
                  clear H
                  have hcz19_0 := (blk_cell BK121.out 0).trans rfl
                  have hcz19_1 := (blk_cell BK121.out 1).trans rfl
                  have p125 : 0 ≤ (x4_1 : Int) := of_decide_eq_true (by assumption)
                  have q125 : x4_1 < (l0_1.length : Int) := of_decide_eq_true (by assumption)
                  obtain ⟨ad125, A125_2, c125_2, e125, hx125_0, hx125_1, hx125_2, hl125_2, hi125_2⟩ := at_T62 HR0_1.out x4_1 p125 q125
                  cases e125
                  replace hx125_0 := (HB.out.cell (World.block_lt_of_cell? w _ hx125_0)).trans hx125_0
                  replace hx125_1 := (HB.out.cell (World.block_lt_of_cell? w _ hx125_1)).trans hx125_1
                  replace hx125_2 := (HB.out.cell (World.block_lt_of_cell? w _ hx125_2)).trans hx125_2
                  have HR125_2 := Aside0.mk hi125_2
                  have HC125_2 := Aside0.mk hl125_2
                  clear hi125_2 hl125_2
                  replace p125 := eq_true p125
                  replace q125 := eq_true q125
                  go_wp2
                  go_roundg k2
                  case measure => have := HK1.out; have := HK2.out; omega
                  case rel => exact ⟨(x3_2), (wrap64 (x4_1 + 1)), (by first | rfl | (simp; done) | (simp [*]; done)), H', ⟨by have := HK1.out; have := HK2.out; omega⟩, ⟨by (with_reducible repeat (first | apply Kd.R_alloc | apply Kd.R_drewN | apply Kd.R_drew)); exact HO_3.out⟩, ⟨by exact BK121.out⟩, ⟨by repeat first | exact HB.out | apply pw_below_drewN⟩⟩
              · rw [if_neg c8] at H
                exact absurd H (by simp)
            · rw [if_neg c7] at H
              exact absurd H (by simp)
      · rw [if_neg c5] at H
        have c5b0 : decide (x4_1 < (l0_1.length : Int)) = false := decide_eq_false c5
        clear c5
        obtain rfl := Option.some.inj H
        have hcz20_0 := (blk_cell BK121.out 0).trans rfl
        have hcz20_1 := (blk_cell BK121.out 1).trans rfl
        go_wp2
        go_ret
        exact ⟨by first | rfl | (simp [*, errW_none, errW_some] <;> rfl), by repeat first | exact HB.out | apply pw_below_drewN⟩

/-! ### spec_l06Fits: function 33 -/
mutual
def spec_l06Fits.l0 : Nat → Int → List (S65) → List (S62) → Int → Int → List Int → Option (Bool)
  | 0, _, _, _, _, _, _ => none
  | k + 1, x5, x141000, x141001, x142000, x142001, x142002 => if x5 < (x142002.length : Int) then (if 0 ≤ x5 then ((spec_l06Kind.f k x141000 x141001 (rd x142002 x5)).bind fun t143 => (if x142001 < 3 then (spec_l06Fits.j1 k x5 t143 (t143 != (wrap64 (x142001 - 1))) x141000 x141001 x142000 x142001 x142002) else (spec_l06Fits.j1 k x5 t143 false x141000 x141001 x142000 x142001 x142002))) else (none)) else (some true)
def spec_l06Fits.j1 : Nat → Int → Int → Bool → List (S65) → List (S62) → Int → Int → List Int → Option (Bool)
  | 0, _, _, _, _, _, _, _, _ => none
  | k + 1, x5, x6, x30, x141000, x141001, x142000, x142001, x142002 => if x30 = true then (some false) else (if x142001 = 3 then (if 0 < (x142002.length : Int) then ((spec_l06Kind.f k x141000 x141001 (rd x142002 0)).bind fun t145 => (if x6 = t145 then (if x6 = 1 then (spec_l06Fits.l0 k (wrap64 (x5 + 1)) x141000 x141001 x142000 x142001 x142002) else (if x6 = 2 then (spec_l06Fits.l0 k (wrap64 (x5 + 1)) x141000 x141001 x142000 x142001 x142002) else (some false))) else (some false))) else (none)) else (spec_l06Fits.l0 k (wrap64 (x5 + 1)) x141000 x141001 x142000 x142001 x142002))
end
def spec_l06Fits.f (k : Nat) (l0_0 : List (S65)) (l0_1 : List (S62)) (a1_0 : Int) (a1_1 : Int) (l1_2 : List Int) : Option (Bool) := spec_l06Fits.l0 k 0 l0_0 l0_1 a1_0 a1_1 l1_2
def spec_l06Fits.T4 : Bool × List (List Nat × List Nat) := (true, [([], []), ([], []), ([1], [1]), ([], []), ([2, 3], [2, 3]), ([4], [4]), ([0, 5], [0, 5]), ([6, 6, 0, 1, 2, 3, 4, 5, 6], [6])])
def spec_l06Fits.B4 : List Nat := [0, 0, 2, 0, 14, 30, 63, 127]
theorem spec_l06Fits.tab4 : rtab .any (opsOf Tryd.f33 4) = spec_l06Fits.T4 := by kernel_rfl
theorem spec_l06Fits.bits4 : waitsOk spec_l06Fits.T4.2 spec_l06Fits.B4 = true := by kernel_rfl
def spec_l06Fits.T7 : Bool × List (List Nat × List Nat) := (true, [([], []), ([0], [0]), ([1], [1]), ([2], [2]), ([3], [3]), ([3], [3]), ([3], [3]), ([6, 3], [3, 6]), ([7, 3], [3, 7]), ([8, 3], [3, 8]), ([5, 9, 3, 3], [3, 5, 9]), ([4, 10, 3], [3, 4, 10]), ([11, 10, 3], [3, 11]), ([12], [12]), ([13, 12], [12, 13]), ([14, 12, 12], [12, 14]), ([15], [15]), ([16, 15], [15, 16]), ([15, 17, 12], [12, 15, 17]), ([12, 18, 3], [3, 12, 18]), ([3, 19], [3, 19])])
def spec_l06Fits.B7 : List Nat := [0, 1, 3, 7, 15, 15, 15, 79, 207, 463, 1007, 2047, 4095, 8191, 16383, 32767, 65535, 131071, 262143, 524287, 1048575]
theorem spec_l06Fits.tab7 : rtab .any (opsOf Tryd.f33 7) = spec_l06Fits.T7 := by kernel_rfl
theorem spec_l06Fits.bits7 : waitsOk spec_l06Fits.T7.2 spec_l06Fits.B7 = true := by kernel_rfl
def az_z33 (n m : Nat) : Array Bool := (List.replicate n true ++ List.replicate m false).toArray
def mz33_0 : Array Bool := az_z33 0 21
def mz33_1 : Array Bool := az_z33 1 20
def mz33_2 : Array Bool := az_z33 2 19
def mz33_3 : Array Bool := az_z33 3 18
def mz33_4 : Array Bool := az_z33 4 17
def mz33_5 : Array Bool := az_z33 5 16
def mz33_6 : Array Bool := #[true, true, true, true, true, false, true, false, false, false, false, false, false, false, false, false, false, false, false, false, false]
def mz33_7 : Array Bool := az_z33 7 14
def mz33_8 : Array Bool := az_z33 8 13
def mz33_9 : Array Bool := az_z33 9 12
def mz33_10 : Array Bool := az_z33 10 11
def mz33_11 : Array Bool := az_z33 11 10
def mz33_12 : Array Bool := az_z33 12 9
def mz33_13 : Array Bool := az_z33 13 8
def mz33_14 : Array Bool := az_z33 14 7
def mz33_15 : Array Bool := az_z33 15 6
def mz33_16 : Array Bool := az_z33 16 5
def mz33_17 : Array Bool := az_z33 17 4
def mz33_18 : Array Bool := az_z33 18 3
def mz33_19 : Array Bool := az_z33 19 2
def mz33_20 : Array Bool := az_z33 20 1
def mz33_21 : Array Bool := az_z33 21 0
def mz33_22 : Array Bool := az_z33 6 15
theorem pu_z33 {P : Program} {ops : Array Oper} {Q : Exit → Act → World → Prop} {md : Region.Mode} {S : World → Prop} {ds : List Nat} {oi : Oper} {fuel : Nat} {l : Array Bool} {a : Act} {w : World} (i : Nat) (N : Option Tmp) (v : Value) (l' : Array Bool) (hi : ops[i]? = some oi) (hN : oi.dst = N) (hc : anyB md ops l l' i = true)
    (hQ : ∀ c a w, Q (.panic c) (a.put oi.dst v) w → Q (.panic c) a w) (hy : Yields P ops oi v a) (a' : Act) (ha : a.put N v = a')
    (h : wpAnyLast P md ops Q S ds fuel l' a' w) : wpAnyLast P md ops Q S ds (fuel + 1) l a w := pure_ l' hi hN hc hQ hy ha h
theorem pq_z33 : (∀ (l : List Value) (i : Nat) (v : Value), l.toArray.setIfInBounds i v = (l.set i v).toArray) ∧ (∀ (x v : Value) (xs : List Value), (x :: xs).set 0 v = v :: xs) ∧ (∀ (x v : Value) (xs : List Value) (n : Nat), (x :: xs).set (n + 1) v = x :: xs.set n v) ∧ (∀ n : Int, IntKind.i64.wrap n = Go.RowKit.wrap64 n) ∧ (∀ n : Int, IntKind.i32.wrap n = Go.RowKit.wrap32 n) :=
  ⟨fun l i v => List.setIfInBounds_toArray l i v, fun _ _ _ => rfl, fun _ _ _ _ => rfl, i64_w, i32_w⟩
set_option maxHeartbeats 8000000 in
set_option maxRecDepth 100000 in
theorem spec_l06Fits.calls (k : Nat) (A0_0 : Option Addr) (c0_0 : Nat) (l0_0 : List (S65)) (A0_1 : Option Addr) (c0_1 : Nat) (l0_1 : List (S62)) (a1_0 : Int) (a1_1 : Int) (A1_2 : Option Addr) (c1_2 : Nat) (l1_2 : List Int) (r : Bool) (w : World) (hr0_0 : Kd.C k65 w A0_0 l0_0.length l0_0) (hc0_0 : l0_0.length ≤ c0_0) (hr0_1 : Kd.C k62 w A0_1 l0_1.length l0_1) (hc0_1 : l0_1.length ≤ c0_1) (hr1_2 : Kd.C (Kd.int .i64) w A1_2 l1_2.length l1_2) (hc1_2 : l1_2.length ≤ c1_2) (h : spec_l06Fits.f k l0_0 l0_1 a1_0 a1_1 l1_2 = some r) :
  Calls Tryd.prog 33 #[.agg #[.slice A0_0 l0_0.length c0_0, .slice A0_1 l0_1.length c0_1], .agg #[.int .i64 a1_0, .int .i64 a1_1, .slice A1_2 l1_2.length c1_2]] w fun e w' => e = .returned (.bool r) ∧ Below w.heap.size w w' := by
 have hu32 := Tryd.underlying32
 have hu62 := Tryd.underlying62
 have HR0_0 := Aside0.mk hr0_0
 have HC0_0 := Aside0.mk hc0_0
 clear hr0_0 hc0_0
 have HR0_1 := Aside0.mk hr0_1
 have HC0_1 := Aside0.mk hc0_1
 clear hr0_1 hc0_1
 have HR1_2 := Aside0.mk hr1_2
 have HC1_2 := Aside0.mk hc1_2
 clear hr1_2 hc1_2
 have HB := Aside0.mk (Below.refl w.heap.size w)
 have H : (spec_l06Fits.l0 k 0 l0_0 l0_1 a1_0 a1_1 l1_2) = some r := h
 clear h
 have H' := Aside0.mk H
 clear H
 go_enter Tryd.func33, Tryd.ntmps33
 go_wp2_with (first | ((with_reducible refine gate_dst (N := 2) rfl ?_); refine box_event ?hg (N := 2) ?hd (cs := #[.slice A0_0 l0_0.length c0_0, .slice A0_1 l0_1.length c0_1]) (t := 32) ?hr ?_; (case hd => rfl); (case hg => rfl); (case hr => first | (go_simp; done) | (go_simp; rfl)); intro gb140 hg w3 hbox hb; have n0_ := Aside0.mk (below_step (by repeat first | exact HB.out | apply pw_below_drewN) hb); have n1_ := Aside0.mk (hbox); clear HB; have HB := n0_; have BK140 := n1_; clear n0_ n1_; clear hb hbox hg) | ((with_reducible refine gate_dst (N := 3) rfl ?_); refine box_event ?hg (N := 3) ?hd (cs := #[.int .i64 a1_0, .int .i64 a1_1, .slice A1_2 l1_2.length c1_2]) (t := 62) ?hr ?_; (case hd => rfl); (case hg => rfl); (case hr => first | (go_simp; done) | (go_simp; rfl)); intro gb141 hg w4 hbox hb; have n0_ := Aside0.mk (blk_below (by exact BK140.out) hb); have n1_ := Aside0.mk (below_step (by repeat first | exact HB.out | apply pw_below_drewN) hb); have n2_ := Aside0.mk (hbox); clear BK140; clear HB; have BK140 := n0_; have HB := n1_; have BK141 := n2_; clear n0_ n1_ n2_; clear hb hbox hg))
 go_loopg [5] k (fun kq v5 w' => ∃ (x5_1 : Int), v5 = .int .i64 x5_1 ∧ Aside0 (spec_l06Fits.l0 kq x5_1 l0_0 l0_1 a1_0 a1_1 l1_2 = some r) ∧ Aside0 (kq ≤ k) ∧ Aside0 (w'.heap[gb140]? = some (.cells #[(.slice A0_0 l0_0.length c0_0), (.slice A0_1 l0_1.length c0_1)] 32 (0, 0))) ∧ Aside0 (w'.heap[gb141]? = some (.cells #[.int .i64 a1_0, .int .i64 a1_1, (.slice A1_2 l1_2.length c1_2)] 62 (0, 0))) ∧ Aside0 (Below w.heap.size w w'))
 case atStart => exact ⟨(0), (by first | rfl | (simp; done) | (simp [*]; done)), H', ⟨Nat.le_refl _⟩, ⟨by exact BK140.out⟩, ⟨by exact BK141.out⟩, ⟨by repeat first | exact HB.out | apply pw_below_drewN⟩⟩
 case round =>
  clear H'
  try clear c1
  try clear p2
  try clear c3
  obtain ⟨x5_1, rfl, HA, HK1, BK140, BK141, HB⟩ := hrel
  cases gk with
  | zero => exact absurd HA.out (by simp [spec_l06Fits.l0])
  | succ k1 =>
   have H := HA.out
   clear HA
   simp only [spec_l06Fits.l0] at H
   by_cases c5 : x5_1 < (l1_2.length : Int)
   ·rw [if_pos c5] at H
    have c5b0 : decide (x5_1 < (l1_2.length : Int)) = true := decide_eq_true c5
    clear c5
    by_cases c6 : 0 ≤ x5_1
    ·rw [if_pos c6] at H
     have c6b0 : decide (0 ≤ x5_1) = true := decide_eq_true c6
     clear c6
     replace H := Option.bind_eq_some_iff.mp H
     obtain ⟨t143, A70, H⟩ := H
     set_option simprocs false in try dsimp only at H
     have A7 := Aside0.mk A70
     clear A70
     have HC8 := Aside0.mk H
     clear H
     have hcz10_0 := (blk_cell BK141.out 0).trans rfl
     have hcz10_1 := (blk_cell BK141.out 1).trans rfl
     have hcz10_2 := (blk_cell BK141.out 2).trans rfl
     try go_wp2
     have n0_ := Aside0.mk (blk_drew BK140.out)
     have n1_ := Aside0.mk (blk_drew BK141.out)
     have n2_ := Aside0.mk (below_drew1 HB.out)
     clear BK140
     clear BK141
     clear HB
     have BK140 := n0_
     have BK141 := n1_
     have HB := n2_
     clear n0_ n1_ n2_
     have p142 : 0 ≤ (x5_1 : Int) := of_decide_eq_true (by assumption)
     have q142 : x5_1 < (l1_2.length : Int) := of_decide_eq_true (by assumption)
     obtain ⟨ad142, e142, hx142_0⟩ := Kd.at_int HR1_2.out x5_1 p142 q142
     have hw142_0 := hx142_0
     cases e142
     replace hx142_0 := (HB.out.cell (World.block_lt_of_cell? w _ hx142_0)).trans hx142_0
     replace p142 := eq_true p142
     replace q142 := eq_true q142
     refine start_ (n := 8) (S := fun w' => w'.cell? ⟨gb140, 0, none⟩ = some (.slice A0_0 l0_0.length c0_0) ∧ w'.cell? ⟨gb140, 1, none⟩ = some (.slice A0_1 l0_1.length c0_1) ∧ w'.cell? ⟨gb141, 0, none⟩ = some (.int .i64 a1_0) ∧ w'.cell? ⟨gb141, 1, none⟩ = some (.int .i64 a1_1) ∧ w'.cell? ⟨gb141, 2, none⟩ = some (.slice (some ad142) l1_2.length c1_2) ∧ w'.cell? (ad142.add (x5_1).toNat) = some (.int .i64 (rd l1_2 x5_1))) (ds := []) #[false, false, false, false, false, false, false, false] (by kernel_rfl) rfl rfl ⟨(blk_cell BK140.out 0).trans rfl, (blk_cell BK140.out 1).trans rfl, (blk_cell BK141.out 0).trans rfl, (blk_cell BK141.out 1).trans rfl, (blk_cell BK141.out 2).trans rfl, ((HB.out.cell (World.block_lt_of_cell? w _ hw142_0)).trans hw142_0)⟩ (fun hHeld => ?_); refine with_tabW spec_l06Fits.tab4 spec_l06Fits.bits4 (fun HT_ HW_ => ?_)
     generalize wr.drew = w11 at BK140 BK141 HB hx142_0 hHeld ⊢
     refine pu 1 (some 15) #[false, true, false, false, false, false, false, false] (any_of HT_.out (by kernel_rfl)) ?_
     refine pu 3 (some 17) #[false, true, false, true, false, false, false, false] (any_of HT_.out (by kernel_rfl)) ?_
     refine tk 0 (some 14) #[true, true, false, true, false, false, false, false] hHeld (take_ofW HT_.out HW_.out (by kernel_rfl)) ?_
     refine tk 2 (some 16) #[true, true, true, true, false, false, false, false] hHeld (take_ofW HT_.out HW_.out (by kernel_rfl)) ?_
     refine pu 4 (some 18) #[true, true, true, true, true, false, false, false] (any_of HT_.out (by kernel_rfl)) ?_
     refine tk 5 (some 19) #[true, true, true, true, true, true, false, false] hHeld (take_ofW HT_.out HW_.out (by kernel_rfl)) ?_
     refine one_ (i := 6) (N := some 20) #[true, true, true, true, true, true, true, false] rfl rfl (one_of HT_.out (by kernel_rfl)) (by decide) (fun K hK => ?_)
     refine goes_ Tryd.func61 (by kernel_rfl) rfl #[.agg #[.slice A0_0 l0_0.length c0_0, .slice A0_1 l0_1.length c0_1], .int .i64 (rd l1_2 x5_1)] (by rfl) rfl rfl (by (try simp only [List.map_toArray, List.map_cons, List.map_nil]); first | done | rfl) ?_
     with_reducible refine (spec_l06Kind.calls k1 _ _ l0_0 _ _ l0_1 (rd l1_2 x5_1) t143 _ ?side1 ?side2 ?side3 ?side4 A7.out).mono ?_
     (case side1 => exact (Kd.C_below HR0_0.out HB.out))
     (case side2 => exact HC0_0.out)
     (case side3 => exact (Kd.C_below HR0_1.out HB.out))
     (case side4 => exact HC0_1.out)
     rintro e w12 ⟨rfl, hb⟩
     refine ⟨_, rfl, ?_⟩
     have n0_ := Aside0.mk (blk_below (by exact BK140.out) hb)
     have n1_ := Aside0.mk (blk_below (by exact BK141.out) hb)
     have n2_ := Aside0.mk (below_step (by repeat first | exact HB.out | apply pw_below_drewN) hb)
     clear BK140
     clear BK141
     clear HB
     have BK140 := n0_
     have BK141 := n1_
     have HB := n2_
     clear n0_ n1_ n2_
     (try clear hb)
     (try clear hb2)
     (try clear hk)
     (try clear hi)
     refine hK.out _ _ ⟨(blk_cell BK140.out 0).trans rfl, (blk_cell BK140.out 1).trans rfl, (blk_cell BK141.out 0).trans rfl, (blk_cell BK141.out 1).trans rfl, (blk_cell BK141.out 2).trans rfl, ((HB.out.cell (World.block_lt_of_cell? w _ hw142_0)).trans hw142_0)⟩ (fun hHeld => ?_)
     clear hK K
     refine norm_ (a' := ?_) ?_ ?_
     (rotate_left; ·(show Act.put _ (some 20) _ = _; simp only [Act.put, pq_z33]; rfl))
     refine pu 7 (some 6) #[true, true, true, true, true, true, true, true] (any_of HT_.out (by kernel_rfl)) ?_
     refine done_ (done_of HT_.out (by kernel_rfl)) ?_
     go_upto_region 5 with (fail)
     go_cut [30] (fun v30 wc => ∃ (kq : Nat) (x30_7 : Bool), v30 = .bool x30_7 ∧ Aside0 (spec_l06Fits.j1 kq x5_1 t143 x30_7 l0_0 l0_1 a1_0 a1_1 l1_2 = some r) ∧ Aside0 (kq ≤ k1) ∧ Aside0 (wc.heap[gb140]? = some (.cells #[(.slice A0_0 l0_0.length c0_0), (.slice A0_1 l0_1.length c0_1)] 32 (0, 0))) ∧ Aside0 (wc.heap[gb141]? = some (.cells #[.int .i64 a1_0, .int .i64 a1_1, (.slice (some ad142) l1_2.length c1_2)] 62 (0, 0))) ∧ Aside0 (Below w.heap.size w wc))
     case first =>
      have H := HC8.out
      clear HC8
      by_cases c13 : a1_1 < 3
      ·rw [if_pos c13] at H
       have c13b0 : decide (a1_1 < 3) = true := decide_eq_true c13
       clear c13
       (first | rw [c13b0] | (simp only [i64_w, i32_w]; rw [c13b0]) | skip)
       have H' := Aside0.mk H
       clear H
       have hcz15_0 := (blk_cell BK141.out 0).trans rfl
       have hcz15_1 := (blk_cell BK141.out 1).trans rfl
       have hcz15_2 := (blk_cell BK141.out 2).trans rfl
       go_wp2
       go_meet
       case rel => exact ⟨_, ((t143 != (wrap64 (a1_1 - 1)))), (by first | rfl | (simp; done) | (simp [*]; done)), H', ⟨by have := HK1.out; first | omega | exact Nat.le_refl _⟩, ⟨by exact BK140.out⟩, ⟨by exact BK141.out⟩, ⟨by repeat first | exact HB.out | apply pw_below_drewN⟩⟩
      ·rw [if_neg c13] at H
       have c13b0 : decide (a1_1 < 3) = false := decide_eq_false c13
       clear c13
       (first | rw [c13b0] | (simp only [i64_w, i32_w]; rw [c13b0]) | skip)
       have H' := Aside0.mk H
       clear H
       have hcz17_0 := (blk_cell BK141.out 0).trans rfl
       have hcz17_1 := (blk_cell BK141.out 1).trans rfl
       have hcz17_2 := (blk_cell BK141.out 2).trans rfl
       go_wp2
       go_meet
       case rel => exact ⟨_, (false), (by first | rfl | (simp; done) | (simp [*]; done)), H', ⟨by have := HK1.out; first | omega | exact Nat.le_refl _⟩, ⟨by exact BK140.out⟩, ⟨by exact BK141.out⟩, ⟨by repeat first | exact HB.out | apply pw_below_drewN⟩⟩
     case rest =>
      clear HC8
      try clear c1
      try clear p1
      try clear q1
      try clear hx1
      try clear p2
      try clear c3
      try clear c5
      try clear c5b0
      try clear c6
      try clear c6b0
      try clear p6
      try clear c9
      try clear c13
      try clear c13b0
      try clear c14
      try clear p14
      try clear q14
      try clear hx14
      try clear c16
      try clear hcz10_0
      try clear hcz10_1
      try clear hcz10_2
      try clear hcz15_0
      try clear hcz15_1
      try clear hcz15_2
      try clear hcz17_0
      try clear hcz17_1
      try clear hcz17_2
      try clear hx142_0
      try clear p142
      try clear p2
      try clear q142
      obtain ⟨kq, x30_7, rfl, HA, HJ7, BK140, BK141, HB⟩ := hcut
      cases kq with
      | zero => exact absurd HA.out (by simp [spec_l06Fits.j1])
      | succ kj7 =>
       have H := HA.out
       clear HA
       simp only [spec_l06Fits.j1] at H
       by_cases c18 : x30_7 = true
       ·subst c18
        rw [if_pos rfl] at H
        obtain rfl := Option.some.inj H
        go_wp2
        go_ret
        exact ⟨by first | rfl | (simp [*, errW_none, errW_some] <;> rfl), by repeat first | exact HB.out | apply pw_below_drewN⟩
       ·replace c18 := Bool.eq_false_iff.mpr c18
        subst c18
        rw [if_neg (show ¬ (false = true) by decide)] at H
        by_cases c19 : a1_1 = 3
        ·rw [if_pos c19] at H
         have c19b0 : (a1_1 == 3) = true := beq_iff_eq.mpr c19
         have c19b1 : (a1_1 != 3) = false := bne_eq_false_iff_eq.mpr c19
         clear c19
         by_cases c20 : 0 < (l1_2.length : Int)
         ·rw [if_pos c20] at H
          have c20b0 : decide (0 < (l1_2.length : Int)) = true := decide_eq_true c20
          have c20b1 : decide (0 < l1_2.length) = true := decide_eq_true (by omega)
          clear c20
          replace H := Option.bind_eq_some_iff.mp H
          obtain ⟨t145, A210, H⟩ := H
          set_option simprocs false in try dsimp only at H
          have A21 := Aside0.mk A210
          clear A210
          by_cases c22 : t143 = t145
          ·rw [if_pos c22] at H
           have c22b0 : (t143 == t145) = true := beq_iff_eq.mpr c22
           have c22b1 : (t143 != t145) = false := bne_eq_false_iff_eq.mpr c22
           clear c22
           by_cases c23 : t143 = 1
           ·rw [if_pos c23] at H
            have c23b0 : (t143 == 1) = true := beq_iff_eq.mpr c23
            have c23b1 : (t143 != 1) = false := bne_eq_false_iff_eq.mpr c23
            clear c23
            have H' := Aside0.mk H
            clear H
            try go_wp2
            have n0_ := Aside0.mk (blk_drew BK140.out)
            have n1_ := Aside0.mk (blk_drew BK141.out)
            have n2_ := Aside0.mk (below_drew1 HB.out)
            clear BK140
            clear BK141
            clear HB
            have BK140 := n0_
            have BK141 := n1_
            have HB := n2_
            clear n0_ n1_ n2_
            have p144 : 0 ≤ (0 : Int) := (by omega)
            have q144 : 0 < (l1_2.length : Int) := of_decide_eq_true (by assumption)
            obtain ⟨ad144, e144, hx144_0⟩ := Kd.at_int HR1_2.out 0 p144 q144
            have hw144_0 := hx144_0
            (try rw [show ((0 : Int)).toNat = 0 from rfl] at hw144_0)
            (try rw [show 0 * 1 = 0 from rfl] at hw144_0)
            (try rw [Addr.add_zero'] at hw144_0)
            obtain rfl : ad142 = ad144 := (by injection e144)
            have qi144 : (0 < l1_2.length) = True := eq_true (by omega)
            (try rw [show ((0 : Int)).toNat = 0 from rfl] at hx144_0)
            (try rw [Addr.add_zero'] at hx144_0)
            replace hx144_0 := (HB.out.cell (World.block_lt_of_cell? w _ hx144_0)).trans hx144_0
            replace p144 := eq_true p144
            replace q144 := eq_true q144
            refine start_ (n := 21) (S := fun w' => w'.cell? ⟨gb141, 0, none⟩ = some (.int .i64 a1_0) ∧ w'.cell? ⟨gb141, 1, none⟩ = some (.int .i64 a1_1) ∧ w'.cell? ⟨gb141, 2, none⟩ = some (.slice (some ad142) l1_2.length c1_2) ∧ w'.cell? ⟨gb140, 0, none⟩ = some (.slice A0_0 l0_0.length c0_0) ∧ w'.cell? ⟨gb140, 1, none⟩ = some (.slice A0_1 l0_1.length c0_1) ∧ w'.cell? ad142 = some (.int .i64 (rd l1_2 0))) (ds := []) mz33_0 (by kernel_rfl) rfl rfl ⟨(blk_cell BK141.out 0).trans rfl, (blk_cell BK141.out 1).trans rfl, (blk_cell BK141.out 2).trans rfl, (blk_cell BK140.out 0).trans rfl, (blk_cell BK140.out 1).trans rfl, ((HB.out.cell (World.block_lt_of_cell? w _ hw144_0)).trans hw144_0)⟩ (fun hHeld => ?_); refine with_tabW spec_l06Fits.tab7 spec_l06Fits.bits7 (fun HT_ HW_ => ?_)
            generalize wc.drew = w24 at BK140 BK141 HB hx144_0 hHeld ⊢
            refine pu 0 (some 31) mz33_1 (any_of HT_.out (by kernel_rfl)) ?_
            refine tk 1 (some 32) mz33_2 hHeld (take_ofW HT_.out HW_.out (by kernel_rfl)) ?_
            refine pu 2 (some 33) mz33_3 (any_of HT_.out (by kernel_rfl)) ?_
            refine pu 3 (some 34) mz33_4 (any_of HT_.out (by kernel_rfl)) ?_
            refine pu 4 (some 35) mz33_5 (any_of HT_.out (by kernel_rfl)) ?_
            refine pu 6 (some 37) mz33_6 (any_of HT_.out (by kernel_rfl)) ?_
            refine tk 5 (some 36) mz33_7 hHeld (take_ofW HT_.out HW_.out (by kernel_rfl)) ?_
            refine tk 7 (some 38) mz33_8 hHeld (take_ofW HT_.out HW_.out (by kernel_rfl)) ?_
            refine pu 8 (some 39) mz33_9 (any_of HT_.out (by kernel_rfl)) ?_
            refine tk 9 (some 40) mz33_10 hHeld (take_ofW HT_.out HW_.out (by kernel_rfl)) ?_
            refine one_ (i := 10) (N := some 41) mz33_11 rfl rfl (one_of HT_.out (by kernel_rfl)) (by decide) (fun K hK => ?_)
            refine goes_ Tryd.func61 (by kernel_rfl) rfl #[.agg #[.slice A0_0 l0_0.length c0_0, .slice A0_1 l0_1.length c0_1], .int .i64 (rd l1_2 0)] (by rfl) rfl rfl (by (try simp only [List.map_toArray, List.map_cons, List.map_nil]); first | done | rfl) ?_
            with_reducible refine (spec_l06Kind.calls kj7 _ _ l0_0 _ _ l0_1 (rd l1_2 0) t145 _ ?side1 ?side2 ?side3 ?side4 A21.out).mono ?_
            (case side1 => exact (Kd.C_below HR0_0.out HB.out))
            (case side2 => exact HC0_0.out)
            (case side3 => exact (Kd.C_below HR0_1.out HB.out))
            (case side4 => exact HC0_1.out)
            rintro e w25 ⟨rfl, hb⟩
            refine ⟨_, rfl, ?_⟩
            have n0_ := Aside0.mk (blk_below (by exact BK140.out) hb)
            have n1_ := Aside0.mk (blk_below (by exact BK141.out) hb)
            have n2_ := Aside0.mk (below_step (by repeat first | exact HB.out | apply pw_below_drewN) hb)
            clear BK140
            clear BK141
            clear HB
            have BK140 := n0_
            have BK141 := n1_
            have HB := n2_
            clear n0_ n1_ n2_
            (try clear hb)
            (try clear hb2)
            (try clear hk)
            (try clear hi)
            refine hK.out _ _ ⟨(blk_cell BK141.out 0).trans rfl, (blk_cell BK141.out 1).trans rfl, (blk_cell BK141.out 2).trans rfl, (blk_cell BK140.out 0).trans rfl, (blk_cell BK140.out 1).trans rfl, ((HB.out.cell (World.block_lt_of_cell? w _ hw144_0)).trans hw144_0)⟩ (fun hHeld => ?_)
            clear hK K
            refine norm_ (a' := ?_) ?_ ?_
            (rotate_left; ·(show Act.put _ (some 41) _ = _; simp only [Act.put, pq_z33]; rfl))
            refine pu 11 (some 42) mz33_12 (any_of HT_.out (by kernel_rfl)) ?_
            refine pu 12 (some 43) mz33_13 (any_of HT_.out (by kernel_rfl)) ?_
            refine pu 13 (some 44) mz33_14 (any_of HT_.out (by kernel_rfl)) ?_
            refine pu 14 (some 45) mz33_15 (any_of HT_.out (by kernel_rfl)) ?_
            refine pu 15 (some 46) mz33_16 (any_of HT_.out (by kernel_rfl)) ?_
            refine po 16 (some 47) mz33_17 (any_of HT_.out (by kernel_rfl)) ?_
            refine po 17 (some 48) mz33_18 (any_of HT_.out (by kernel_rfl)) ?_
            refine pu 18 (some 49) mz33_19 (any_of HT_.out (by kernel_rfl)) ?_
            refine pu 19 (some 50) mz33_20 (any_of HT_.out (by kernel_rfl)) ?_
            refine pu 20 (some 51) mz33_21 (any_of HT_.out (by kernel_rfl)) ?_
            refine done_ (done_of HT_.out (by kernel_rfl)) ?_
            try go_wp2
            go_roundg kj7
            case measure => have := HK1.out; have := HJ7.out; omega
            case rel => exact ⟨(wrap64 (x5_1 + 1)), (by first | rfl | (simp; done) | (simp [*]; done)), H', ⟨by have := HK1.out; have := HJ7.out; omega⟩, ⟨by exact BK140.out⟩, ⟨by exact BK141.out⟩, ⟨by repeat first | exact HB.out | apply pw_below_drewN⟩⟩
           ·rw [if_neg c23] at H
            have c23b0 : (t143 == 1) = false := beq_eq_false_iff_ne.mpr c23
            have c23b1 : (t143 != 1) = true := bne_iff_ne.mpr c23
            by_cases c26 : t143 = 2
            ·rw [if_pos c26] at H
             have c26b0 : (t143 == 2) = true := beq_iff_eq.mpr c26
             have c26b1 : (t143 != 2) = false := bne_eq_false_iff_eq.mpr c26
             clear c26
             have H' := Aside0.mk H
             clear H
             try go_wp2
             have n0_ := Aside0.mk (blk_drew BK140.out)
             have n1_ := Aside0.mk (blk_drew BK141.out)
             have n2_ := Aside0.mk (below_drew1 HB.out)
             clear BK140
             clear BK141
             clear HB
             have BK140 := n0_
             have BK141 := n1_
             have HB := n2_
             clear n0_ n1_ n2_
             have p144 : 0 ≤ (0 : Int) := (by omega)
             have q144 : 0 < (l1_2.length : Int) := of_decide_eq_true (by assumption)
             obtain ⟨ad144, e144, hx144_0⟩ := Kd.at_int HR1_2.out 0 p144 q144
             have hw144_0 := hx144_0
             (try rw [show ((0 : Int)).toNat = 0 from rfl] at hw144_0)
             (try rw [show 0 * 1 = 0 from rfl] at hw144_0)
             (try rw [Addr.add_zero'] at hw144_0)
             obtain rfl : ad142 = ad144 := (by injection e144)
             have qi144 : (0 < l1_2.length) = True := eq_true (by omega)
             (try rw [show ((0 : Int)).toNat = 0 from rfl] at hx144_0)
             (try rw [Addr.add_zero'] at hx144_0)
             replace hx144_0 := (HB.out.cell (World.block_lt_of_cell? w _ hx144_0)).trans hx144_0
             replace p144 := eq_true p144
             replace q144 := eq_true q144
             refine start_ (n := 21) (S := fun w' => w'.cell? ⟨gb141, 0, none⟩ = some (.int .i64 a1_0) ∧ w'.cell? ⟨gb141, 1, none⟩ = some (.int .i64 a1_1) ∧ w'.cell? ⟨gb141, 2, none⟩ = some (.slice (some ad142) l1_2.length c1_2) ∧ w'.cell? ⟨gb140, 0, none⟩ = some (.slice A0_0 l0_0.length c0_0) ∧ w'.cell? ⟨gb140, 1, none⟩ = some (.slice A0_1 l0_1.length c0_1) ∧ w'.cell? ad142 = some (.int .i64 (rd l1_2 0))) (ds := []) mz33_0 (by kernel_rfl) rfl rfl ⟨(blk_cell BK141.out 0).trans rfl, (blk_cell BK141.out 1).trans rfl, (blk_cell BK141.out 2).trans rfl, (blk_cell BK140.out 0).trans rfl, (blk_cell BK140.out 1).trans rfl, ((HB.out.cell (World.block_lt_of_cell? w _ hw144_0)).trans hw144_0)⟩ (fun hHeld => ?_); refine with_tabW spec_l06Fits.tab7 spec_l06Fits.bits7 (fun HT_ HW_ => ?_)
             generalize wc.drew = w27 at BK140 BK141 HB hx144_0 hHeld ⊢
             refine pu 0 (some 31) mz33_1 (any_of HT_.out (by kernel_rfl)) ?_
             refine tk 1 (some 32) mz33_2 hHeld (take_ofW HT_.out HW_.out (by kernel_rfl)) ?_
             refine pu 2 (some 33) mz33_3 (any_of HT_.out (by kernel_rfl)) ?_
             refine pu 3 (some 34) mz33_4 (any_of HT_.out (by kernel_rfl)) ?_
             refine pu 4 (some 35) mz33_5 (any_of HT_.out (by kernel_rfl)) ?_
             refine pu 6 (some 37) mz33_6 (any_of HT_.out (by kernel_rfl)) ?_
             refine tk 5 (some 36) mz33_7 hHeld (take_ofW HT_.out HW_.out (by kernel_rfl)) ?_
             refine tk 7 (some 38) mz33_8 hHeld (take_ofW HT_.out HW_.out (by kernel_rfl)) ?_
             refine pu 8 (some 39) mz33_9 (any_of HT_.out (by kernel_rfl)) ?_
             refine tk 9 (some 40) mz33_10 hHeld (take_ofW HT_.out HW_.out (by kernel_rfl)) ?_
             refine one_ (i := 10) (N := some 41) mz33_11 rfl rfl (one_of HT_.out (by kernel_rfl)) (by decide) (fun K hK => ?_)
             refine goes_ Tryd.func61 (by kernel_rfl) rfl #[.agg #[.slice A0_0 l0_0.length c0_0, .slice A0_1 l0_1.length c0_1], .int .i64 (rd l1_2 0)] (by rfl) rfl rfl (by (try simp only [List.map_toArray, List.map_cons, List.map_nil]); first | done | rfl) ?_
             with_reducible refine (spec_l06Kind.calls kj7 _ _ l0_0 _ _ l0_1 (rd l1_2 0) t145 _ ?side1 ?side2 ?side3 ?side4 A21.out).mono ?_
             (case side1 => exact (Kd.C_below HR0_0.out HB.out))
             (case side2 => exact HC0_0.out)
             (case side3 => exact (Kd.C_below HR0_1.out HB.out))
             (case side4 => exact HC0_1.out)
             rintro e w28 ⟨rfl, hb⟩
             refine ⟨_, rfl, ?_⟩
             have n0_ := Aside0.mk (blk_below (by exact BK140.out) hb)
             have n1_ := Aside0.mk (blk_below (by exact BK141.out) hb)
             have n2_ := Aside0.mk (below_step (by repeat first | exact HB.out | apply pw_below_drewN) hb)
             clear BK140
             clear BK141
             clear HB
             have BK140 := n0_
             have BK141 := n1_
             have HB := n2_
             clear n0_ n1_ n2_
             (try clear hb)
             (try clear hb2)
             (try clear hk)
             (try clear hi)
             refine hK.out _ _ ⟨(blk_cell BK141.out 0).trans rfl, (blk_cell BK141.out 1).trans rfl, (blk_cell BK141.out 2).trans rfl, (blk_cell BK140.out 0).trans rfl, (blk_cell BK140.out 1).trans rfl, ((HB.out.cell (World.block_lt_of_cell? w _ hw144_0)).trans hw144_0)⟩ (fun hHeld => ?_)
             clear hK K
             refine norm_ (a' := ?_) ?_ ?_
             (rotate_left; ·(show Act.put _ (some 41) _ = _; simp only [Act.put, pq_z33]; rfl))
             refine pu 11 (some 42) mz33_12 (any_of HT_.out (by kernel_rfl)) ?_
             refine pu 12 (some 43) mz33_13 (any_of HT_.out (by kernel_rfl)) ?_
             refine pu 13 (some 44) mz33_14 (any_of HT_.out (by kernel_rfl)) ?_
             refine pu 14 (some 45) mz33_15 (any_of HT_.out (by kernel_rfl)) ?_
             refine pu 15 (some 46) mz33_16 (any_of HT_.out (by kernel_rfl)) ?_
             refine pu 16 (some 47) mz33_17 (any_of HT_.out (by kernel_rfl)) ?_
             refine pu 17 (some 48) mz33_18 (any_of HT_.out (by kernel_rfl)) ?_
             refine pu 18 (some 49) mz33_19 (any_of HT_.out (by kernel_rfl)) ?_
             refine pu 19 (some 50) mz33_20 (any_of HT_.out (by kernel_rfl)) ?_
             refine pu 20 (some 51) mz33_21 (any_of HT_.out (by kernel_rfl)) ?_
             refine done_ (done_of HT_.out (by kernel_rfl)) ?_
             try go_wp2
             go_roundg kj7
             case measure => have := HK1.out; have := HJ7.out; omega
             case rel => exact ⟨(wrap64 (x5_1 + 1)), (by first | rfl | (simp; done) | (simp [*]; done)), H', ⟨by have := HK1.out; have := HJ7.out; omega⟩, ⟨by exact BK140.out⟩, ⟨by exact BK141.out⟩, ⟨by repeat first | exact HB.out | apply pw_below_drewN⟩⟩
            ·rw [if_neg c26] at H
             have c26b0 : (t143 == 2) = false := beq_eq_false_iff_ne.mpr c26
             have c26b1 : (t143 != 2) = true := bne_iff_ne.mpr c26
             obtain rfl := Option.some.inj H
             try go_wp2
             have n0_ := Aside0.mk (blk_drew BK140.out)
             have n1_ := Aside0.mk (blk_drew BK141.out)
             have n2_ := Aside0.mk (below_drew1 HB.out)
             clear BK140
             clear BK141
             clear HB
             have BK140 := n0_
             have BK141 := n1_
             have HB := n2_
             clear n0_ n1_ n2_
             have p144 : 0 ≤ (0 : Int) := (by omega)
             have q144 : 0 < (l1_2.length : Int) := of_decide_eq_true (by assumption)
             obtain ⟨ad144, e144, hx144_0⟩ := Kd.at_int HR1_2.out 0 p144 q144
             have hw144_0 := hx144_0
             (try rw [show ((0 : Int)).toNat = 0 from rfl] at hw144_0)
             (try rw [show 0 * 1 = 0 from rfl] at hw144_0)
             (try rw [Addr.add_zero'] at hw144_0)
             obtain rfl : ad142 = ad144 := (by injection e144)
             have qi144 : (0 < l1_2.length) = True := eq_true (by omega)
             (try rw [show ((0 : Int)).toNat = 0 from rfl] at hx144_0)
             (try rw [Addr.add_zero'] at hx144_0)
             replace hx144_0 := (HB.out.cell (World.block_lt_of_cell? w _ hx144_0)).trans hx144_0
             replace p144 := eq_true p144
             replace q144 := eq_true q144
             refine start_ (n := 21) (S := fun w' => w'.cell? ⟨gb141, 0, none⟩ = some (.int .i64 a1_0) ∧ w'.cell? ⟨gb141, 1, none⟩ = some (.int .i64 a1_1) ∧ w'.cell? ⟨gb141, 2, none⟩ = some (.slice (some ad142) l1_2.length c1_2) ∧ w'.cell? ⟨gb140, 0, none⟩ = some (.slice A0_0 l0_0.length c0_0) ∧ w'.cell? ⟨gb140, 1, none⟩ = some (.slice A0_1 l0_1.length c0_1) ∧ w'.cell? ad142 = some (.int .i64 (rd l1_2 0))) (ds := []) mz33_0 (by kernel_rfl) rfl rfl ⟨(blk_cell BK141.out 0).trans rfl, (blk_cell BK141.out 1).trans rfl, (blk_cell BK141.out 2).trans rfl, (blk_cell BK140.out 0).trans rfl, (blk_cell BK140.out 1).trans rfl, ((HB.out.cell (World.block_lt_of_cell? w _ hw144_0)).trans hw144_0)⟩ (fun hHeld => ?_); refine with_tabW spec_l06Fits.tab7 spec_l06Fits.bits7 (fun HT_ HW_ => ?_)
             generalize wc.drew = w29 at BK140 BK141 HB hx144_0 hHeld ⊢
             refine pu 0 (some 31) mz33_1 (any_of HT_.out (by kernel_rfl)) ?_
             refine tk 1 (some 32) mz33_2 hHeld (take_ofW HT_.out HW_.out (by kernel_rfl)) ?_
             refine pu 2 (some 33) mz33_3 (any_of HT_.out (by kernel_rfl)) ?_
             refine pu 3 (some 34) mz33_4 (any_of HT_.out (by kernel_rfl)) ?_
             refine pu 4 (some 35) mz33_5 (any_of HT_.out (by kernel_rfl)) ?_
             refine pu 6 (some 37) mz33_6 (any_of HT_.out (by kernel_rfl)) ?_
             refine tk 5 (some 36) mz33_7 hHeld (take_ofW HT_.out HW_.out (by kernel_rfl)) ?_
             refine tk 7 (some 38) mz33_8 hHeld (take_ofW HT_.out HW_.out (by kernel_rfl)) ?_
             refine pu 8 (some 39) mz33_9 (any_of HT_.out (by kernel_rfl)) ?_
             refine tk 9 (some 40) mz33_10 hHeld (take_ofW HT_.out HW_.out (by kernel_rfl)) ?_
             refine one_ (i := 10) (N := some 41) mz33_11 rfl rfl (one_of HT_.out (by kernel_rfl)) (by decide) (fun K hK => ?_)
             refine goes_ Tryd.func61 (by kernel_rfl) rfl #[.agg #[.slice A0_0 l0_0.length c0_0, .slice A0_1 l0_1.length c0_1], .int .i64 (rd l1_2 0)] (by rfl) rfl rfl (by (try simp only [List.map_toArray, List.map_cons, List.map_nil]); first | done | rfl) ?_
             with_reducible refine (spec_l06Kind.calls kj7 _ _ l0_0 _ _ l0_1 (rd l1_2 0) t145 _ ?side1 ?side2 ?side3 ?side4 A21.out).mono ?_
             (case side1 => exact (Kd.C_below HR0_0.out HB.out))
             (case side2 => exact HC0_0.out)
             (case side3 => exact (Kd.C_below HR0_1.out HB.out))
             (case side4 => exact HC0_1.out)
             rintro e w30 ⟨rfl, hb⟩
             refine ⟨_, rfl, ?_⟩
             have n0_ := Aside0.mk (blk_below (by exact BK140.out) hb)
             have n1_ := Aside0.mk (blk_below (by exact BK141.out) hb)
             have n2_ := Aside0.mk (below_step (by repeat first | exact HB.out | apply pw_below_drewN) hb)
             clear BK140
             clear BK141
             clear HB
             have BK140 := n0_
             have BK141 := n1_
             have HB := n2_
             clear n0_ n1_ n2_
             (try clear hb)
             (try clear hb2)
             (try clear hk)
             (try clear hi)
             refine hK.out _ _ ⟨(blk_cell BK141.out 0).trans rfl, (blk_cell BK141.out 1).trans rfl, (blk_cell BK141.out 2).trans rfl, (blk_cell BK140.out 0).trans rfl, (blk_cell BK140.out 1).trans rfl, ((HB.out.cell (World.block_lt_of_cell? w _ hw144_0)).trans hw144_0)⟩ (fun hHeld => ?_)
             clear hK K
             refine norm_ (a' := ?_) ?_ ?_
             (rotate_left; ·(show Act.put _ (some 41) _ = _; simp only [Act.put, pq_z33]; rfl))
             refine pu 11 (some 42) mz33_12 (any_of HT_.out (by kernel_rfl)) ?_
             refine pu 12 (some 43) mz33_13 (any_of HT_.out (by kernel_rfl)) ?_
             refine pu 13 (some 44) mz33_14 (any_of HT_.out (by kernel_rfl)) ?_
             refine pu 14 (some 45) mz33_15 (any_of HT_.out (by kernel_rfl)) ?_
             refine pu 15 (some 46) mz33_16 (any_of HT_.out (by kernel_rfl)) ?_
             refine pu 16 (some 47) mz33_17 (any_of HT_.out (by kernel_rfl)) ?_
             refine pu 17 (some 48) mz33_18 (any_of HT_.out (by kernel_rfl)) ?_
             refine pu 18 (some 49) mz33_19 (any_of HT_.out (by kernel_rfl)) ?_
             refine pu 19 (some 50) mz33_20 (any_of HT_.out (by kernel_rfl)) ?_
             refine pu 20 (some 51) mz33_21 (any_of HT_.out (by kernel_rfl)) ?_
             refine done_ (done_of HT_.out (by kernel_rfl)) ?_
             try go_wp2
             go_ret
             exact ⟨by first | rfl | (simp [*, errW_none, errW_some] <;> rfl), by repeat first | exact HB.out | apply pw_below_drewN⟩
          ·rw [if_neg c22] at H
           have c22b0 : (t143 == t145) = false := beq_eq_false_iff_ne.mpr c22
           have c22b1 : (t143 != t145) = true := bne_iff_ne.mpr c22
           obtain rfl := Option.some.inj H
           try go_wp2
           have n0_ := Aside0.mk (blk_drew BK140.out)
           have n1_ := Aside0.mk (blk_drew BK141.out)
           have n2_ := Aside0.mk (below_drew1 HB.out)
           clear BK140
           clear BK141
           clear HB
           have BK140 := n0_
           have BK141 := n1_
           have HB := n2_
           clear n0_ n1_ n2_
           have p144 : 0 ≤ (0 : Int) := (by omega)
           have q144 : 0 < (l1_2.length : Int) := of_decide_eq_true (by assumption)
           obtain ⟨ad144, e144, hx144_0⟩ := Kd.at_int HR1_2.out 0 p144 q144
           have hw144_0 := hx144_0
           (try rw [show ((0 : Int)).toNat = 0 from rfl] at hw144_0)
           (try rw [show 0 * 1 = 0 from rfl] at hw144_0)
           (try rw [Addr.add_zero'] at hw144_0)
           obtain rfl : ad142 = ad144 := (by injection e144)
           have qi144 : (0 < l1_2.length) = True := eq_true (by omega)
           (try rw [show ((0 : Int)).toNat = 0 from rfl] at hx144_0)
           (try rw [Addr.add_zero'] at hx144_0)
           replace hx144_0 := (HB.out.cell (World.block_lt_of_cell? w _ hx144_0)).trans hx144_0
           replace p144 := eq_true p144
           replace q144 := eq_true q144
           refine start_ (n := 21) (S := fun w' => w'.cell? ⟨gb141, 0, none⟩ = some (.int .i64 a1_0) ∧ w'.cell? ⟨gb141, 1, none⟩ = some (.int .i64 a1_1) ∧ w'.cell? ⟨gb141, 2, none⟩ = some (.slice (some ad142) l1_2.length c1_2) ∧ w'.cell? ⟨gb140, 0, none⟩ = some (.slice A0_0 l0_0.length c0_0) ∧ w'.cell? ⟨gb140, 1, none⟩ = some (.slice A0_1 l0_1.length c0_1) ∧ w'.cell? ad142 = some (.int .i64 (rd l1_2 0))) (ds := []) mz33_0 (by kernel_rfl) rfl rfl ⟨(blk_cell BK141.out 0).trans rfl, (blk_cell BK141.out 1).trans rfl, (blk_cell BK141.out 2).trans rfl, (blk_cell BK140.out 0).trans rfl, (blk_cell BK140.out 1).trans rfl, ((HB.out.cell (World.block_lt_of_cell? w _ hw144_0)).trans hw144_0)⟩ (fun hHeld => ?_); refine with_tabW spec_l06Fits.tab7 spec_l06Fits.bits7 (fun HT_ HW_ => ?_)
           generalize wc.drew = w31 at BK140 BK141 HB hx144_0 hHeld ⊢
           refine pu 0 (some 31) mz33_1 (any_of HT_.out (by kernel_rfl)) ?_
           refine tk 1 (some 32) mz33_2 hHeld (take_ofW HT_.out HW_.out (by kernel_rfl)) ?_
           refine pu 2 (some 33) mz33_3 (any_of HT_.out (by kernel_rfl)) ?_
           refine pu 3 (some 34) mz33_4 (any_of HT_.out (by kernel_rfl)) ?_
           refine pu 4 (some 35) mz33_5 (any_of HT_.out (by kernel_rfl)) ?_
           refine pu 6 (some 37) mz33_6 (any_of HT_.out (by kernel_rfl)) ?_
           refine tk 5 (some 36) mz33_7 hHeld (take_ofW HT_.out HW_.out (by kernel_rfl)) ?_
           refine tk 7 (some 38) mz33_8 hHeld (take_ofW HT_.out HW_.out (by kernel_rfl)) ?_
           refine pu 8 (some 39) mz33_9 (any_of HT_.out (by kernel_rfl)) ?_
           refine tk 9 (some 40) mz33_10 hHeld (take_ofW HT_.out HW_.out (by kernel_rfl)) ?_
           refine one_ (i := 10) (N := some 41) mz33_11 rfl rfl (one_of HT_.out (by kernel_rfl)) (by decide) (fun K hK => ?_)
           refine goes_ Tryd.func61 (by kernel_rfl) rfl #[.agg #[.slice A0_0 l0_0.length c0_0, .slice A0_1 l0_1.length c0_1], .int .i64 (rd l1_2 0)] (by rfl) rfl rfl (by (try simp only [List.map_toArray, List.map_cons, List.map_nil]); first | done | rfl) ?_
           with_reducible refine (spec_l06Kind.calls kj7 _ _ l0_0 _ _ l0_1 (rd l1_2 0) t145 _ ?side1 ?side2 ?side3 ?side4 A21.out).mono ?_
           (case side1 => exact (Kd.C_below HR0_0.out HB.out))
           (case side2 => exact HC0_0.out)
           (case side3 => exact (Kd.C_below HR0_1.out HB.out))
           (case side4 => exact HC0_1.out)
           rintro e w32 ⟨rfl, hb⟩
           refine ⟨_, rfl, ?_⟩
           have n0_ := Aside0.mk (blk_below (by exact BK140.out) hb)
           have n1_ := Aside0.mk (blk_below (by exact BK141.out) hb)
           have n2_ := Aside0.mk (below_step (by repeat first | exact HB.out | apply pw_below_drewN) hb)
           clear BK140
           clear BK141
           clear HB
           have BK140 := n0_
           have BK141 := n1_
           have HB := n2_
           clear n0_ n1_ n2_
           (try clear hb)
           (try clear hb2)
           (try clear hk)
           (try clear hi)
           refine hK.out _ _ ⟨(blk_cell BK141.out 0).trans rfl, (blk_cell BK141.out 1).trans rfl, (blk_cell BK141.out 2).trans rfl, (blk_cell BK140.out 0).trans rfl, (blk_cell BK140.out 1).trans rfl, ((HB.out.cell (World.block_lt_of_cell? w _ hw144_0)).trans hw144_0)⟩ (fun hHeld => ?_)
           clear hK K
           refine norm_ (a' := ?_) ?_ ?_
           (rotate_left; ·(show Act.put _ (some 41) _ = _; simp only [Act.put, pq_z33]; rfl))
           refine pu 11 (some 42) mz33_12 (any_of HT_.out (by kernel_rfl)) ?_
           refine pu 12 (some 43) mz33_13 (any_of HT_.out (by kernel_rfl)) ?_
           refine po 13 (some 44) mz33_14 (any_of HT_.out (by kernel_rfl)) ?_
           refine po 14 (some 45) mz33_15 (any_of HT_.out (by kernel_rfl)) ?_
           refine po 15 (some 46) mz33_16 (any_of HT_.out (by kernel_rfl)) ?_
           refine po 16 (some 47) mz33_17 (any_of HT_.out (by kernel_rfl)) ?_
           refine po 17 (some 48) mz33_18 (any_of HT_.out (by kernel_rfl)) ?_
           refine po 18 (some 49) mz33_19 (any_of HT_.out (by kernel_rfl)) ?_
           refine pu 19 (some 50) mz33_20 (any_of HT_.out (by kernel_rfl)) ?_
           refine pu 20 (some 51) mz33_21 (any_of HT_.out (by kernel_rfl)) ?_
           refine done_ (done_of HT_.out (by kernel_rfl)) ?_
           try go_wp2
           go_ret
           exact ⟨by first | rfl | (simp [*, errW_none, errW_some] <;> rfl), by repeat first | exact HB.out | apply pw_below_drewN⟩
         ·rw [if_neg c20] at H
          exact absurd H (by simp)
        ·rw [if_neg c19] at H
         have c19b0 : (a1_1 == 3) = false := beq_eq_false_iff_ne.mpr c19
         have c19b1 : (a1_1 != 3) = true := bne_iff_ne.mpr c19
         have H' := Aside0.mk H
         clear H
         try go_wp2
         have n0_ := Aside0.mk (blk_drew BK140.out)
         have n1_ := Aside0.mk (blk_drew BK141.out)
         have n2_ := Aside0.mk (below_drew1 HB.out)
         clear BK140
         clear BK141
         clear HB
         have BK140 := n0_
         have BK141 := n1_
         have HB := n2_
         clear n0_ n1_ n2_
         refine start_ (n := 21) (S := fun w' => w'.cell? ⟨gb141, 0, none⟩ = some (.int .i64 a1_0) ∧ w'.cell? ⟨gb141, 1, none⟩ = some (.int .i64 a1_1) ∧ w'.cell? ⟨gb141, 2, none⟩ = some (.slice (some ad142) l1_2.length c1_2)) (ds := []) mz33_0 (by kernel_rfl) rfl rfl ⟨(blk_cell BK141.out 0).trans rfl, (blk_cell BK141.out 1).trans rfl, (blk_cell BK141.out 2).trans rfl⟩ (fun hHeld => ?_); refine with_tabW spec_l06Fits.tab7 spec_l06Fits.bits7 (fun HT_ HW_ => ?_)
         generalize wc.drew = w33 at BK140 BK141 HB hHeld ⊢
         refine pu 0 (some 31) mz33_1 (any_of HT_.out (by kernel_rfl)) ?_
         refine tk 1 (some 32) mz33_2 hHeld (take_ofW HT_.out HW_.out (by kernel_rfl)) ?_
         refine pu 2 (some 33) mz33_3 (any_of HT_.out (by kernel_rfl)) ?_
         refine pu 3 (some 34) mz33_4 (any_of HT_.out (by kernel_rfl)) ?_
         refine po 4 (some 35) mz33_5 (any_of HT_.out (by kernel_rfl)) ?_
         refine po 5 (some 36) mz33_22 (any_of HT_.out (by kernel_rfl)) ?_
         refine po 6 (some 37) mz33_7 (any_of HT_.out (by kernel_rfl)) ?_
         refine po 7 (some 38) mz33_8 (any_of HT_.out (by kernel_rfl)) ?_
         refine po 8 (some 39) mz33_9 (any_of HT_.out (by kernel_rfl)) ?_
         refine po 9 (some 40) mz33_10 (any_of HT_.out (by kernel_rfl)) ?_
         refine po 10 (some 41) mz33_11 (any_of HT_.out (by kernel_rfl)) ?_
         refine po 11 (some 42) mz33_12 (any_of HT_.out (by kernel_rfl)) ?_
         refine po 12 (some 43) mz33_13 (any_of HT_.out (by kernel_rfl)) ?_
         refine po 13 (some 44) mz33_14 (any_of HT_.out (by kernel_rfl)) ?_
         refine po 14 (some 45) mz33_15 (any_of HT_.out (by kernel_rfl)) ?_
         refine po 15 (some 46) mz33_16 (any_of HT_.out (by kernel_rfl)) ?_
         refine po 16 (some 47) mz33_17 (any_of HT_.out (by kernel_rfl)) ?_
         refine po 17 (some 48) mz33_18 (any_of HT_.out (by kernel_rfl)) ?_
         refine po 18 (some 49) mz33_19 (any_of HT_.out (by kernel_rfl)) ?_
         refine po 19 (some 50) mz33_20 (any_of HT_.out (by kernel_rfl)) ?_
         refine pu 20 (some 51) mz33_21 (any_of HT_.out (by kernel_rfl)) ?_
         refine done_ (done_of HT_.out (by kernel_rfl)) ?_
         try go_wp2
         go_roundg kj7
         case measure => have := HK1.out; have := HJ7.out; omega
         case rel => exact ⟨(wrap64 (x5_1 + 1)), (by first | rfl | (simp; done) | (simp [*]; done)), H', ⟨by have := HK1.out; have := HJ7.out; omega⟩, ⟨by exact BK140.out⟩, ⟨by exact BK141.out⟩, ⟨by repeat first | exact HB.out | apply pw_below_drewN⟩⟩
    ·rw [if_neg c6] at H
     exact absurd H (by simp)
   ·rw [if_neg c5] at H
    have c5b0 : decide (x5_1 < (l1_2.length : Int)) = false := decide_eq_false c5
    clear c5
    obtain rfl := Option.some.inj H
    have hcz35_0 := (blk_cell BK141.out 0).trans rfl
    have hcz35_1 := (blk_cell BK141.out 1).trans rfl
    have hcz35_2 := (blk_cell BK141.out 2).trans rfl
    go_wp2
    go_ret
    exact ⟨by first | rfl | (simp [*, errW_none, errW_some] <;> rfl), by repeat first | exact HB.out | apply pw_below_drewN⟩

/-! ### spec_l06OK: function 15 -/
mutual
def spec_l06OK.j0 : Nat → Bool → List (S65) → List (S62) → Option (Bool)
  | 0, _, _, _ => none
  | k + 1, x16, x147000, x147001 => if x16 = true then (some false) else (spec_l06OK.l0 k 0 x147000 x147001)
def spec_l06OK.l0 : Nat → Int → List (S65) → List (S62) → Option (Bool)
  | 0, _, _, _ => none
  | k + 1, x3, x147000, x147001 => if x3 < (x147001.length : Int) then (if 0 ≤ x3 then ((spec_l06Fits.f k x147000 x147001 ((rd_T62 x147001 x3).f0) ((rd_T62 x147001 x3).f1) ((rd_T62 x147001 x3).f2)).bind fun t151 => (if t151 = true then (spec_l06OK.l0 k (wrap64 (x3 + 1)) x147000 x147001) else (some false))) else (none)) else (some true)
end
def spec_l06OK.f (k : Nat) (l0_0 : List (S65)) (l0_1 : List (S62)) : Option (Bool) := (spec_l06Devices.f k l0_0 l0_1).bind fun t147 => (if t147 = true then ((spec_l06Buckets.f k l0_0 l0_1).bind fun t148 => (if t148 = true then ((spec_l06Once.f k l0_0 l0_1).bind fun t149 => (spec_l06OK.j0 k (!t149) l0_0 l0_1)) else (spec_l06OK.j0 k true l0_0 l0_1))) else (spec_l06OK.j0 k true l0_0 l0_1))
def spec_l06OK.T6 : Bool × List (List Nat × List Nat) := (true, [([], []), ([], []), ([1], [1]), ([], []), ([2, 3], [2, 3]), ([4], [4]), ([0, 5], [0, 5]), ([6], [6])])
def spec_l06OK.B6 : List Nat := [0, 0, 2, 0, 14, 30, 63, 127]
theorem spec_l06OK.tab6 : rtab .any (opsOf Tryd.f15 6) = spec_l06OK.T6 := by kernel_rfl
theorem spec_l06OK.bits6 : waitsOk spec_l06OK.T6.2 spec_l06OK.B6 = true := by kernel_rfl
theorem pu_z15 {P : Program} {ops : Array Oper} {Q : Exit → Act → World → Prop} {md : Region.Mode} {S : World → Prop} {ds : List Nat} {oi : Oper} {fuel : Nat} {l : Array Bool} {a : Act} {w : World} (i : Nat) (N : Option Tmp) (v : Value) (l' : Array Bool) (hi : ops[i]? = some oi) (hN : oi.dst = N) (hc : anyB md ops l l' i = true)
    (hQ : ∀ c a w, Q (.panic c) (a.put oi.dst v) w → Q (.panic c) a w) (hy : Yields P ops oi v a) (a' : Act) (ha : a.put N v = a')
    (h : wpAnyLast P md ops Q S ds fuel l' a' w) : wpAnyLast P md ops Q S ds (fuel + 1) l a w := pure_ l' hi hN hc hQ hy ha h
theorem pq_z15 : (∀ (l : List Value) (i : Nat) (v : Value), l.toArray.setIfInBounds i v = (l.set i v).toArray) ∧ (∀ (x v : Value) (xs : List Value), (x :: xs).set 0 v = v :: xs) ∧ (∀ (x v : Value) (xs : List Value) (n : Nat), (x :: xs).set (n + 1) v = x :: xs.set n v) ∧ (∀ n : Int, IntKind.i64.wrap n = Go.RowKit.wrap64 n) ∧ (∀ n : Int, IntKind.i32.wrap n = Go.RowKit.wrap32 n) :=
  ⟨fun l i v => List.setIfInBounds_toArray l i v, fun _ _ _ => rfl, fun _ _ _ _ => rfl, i64_w, i32_w⟩
set_option maxHeartbeats 8000000 in
set_option maxRecDepth 100000 in
theorem spec_l06OK.calls (k : Nat) (A0_0 : Option Addr) (c0_0 : Nat) (l0_0 : List (S65)) (A0_1 : Option Addr) (c0_1 : Nat) (l0_1 : List (S62)) (r : Bool) (w : World) (hr0_0 : Kd.C k65 w A0_0 l0_0.length l0_0) (hc0_0 : l0_0.length ≤ c0_0) (hr0_1 : Kd.C k62 w A0_1 l0_1.length l0_1) (hc0_1 : l0_1.length ≤ c0_1) (h : spec_l06OK.f k l0_0 l0_1 = some r) :
  Calls Tryd.prog 15 #[.agg #[.slice A0_0 l0_0.length c0_0, .slice A0_1 l0_1.length c0_1]] w fun e w' => e = .returned (.bool r) ∧ Below w.heap.size w w' := by
 have hu32 := Tryd.underlying32
 have hu62 := Tryd.underlying62
 have HR0_0 := Aside0.mk hr0_0
 have HC0_0 := Aside0.mk hc0_0
 clear hr0_0 hc0_0
 have HR0_1 := Aside0.mk hr0_1
 have HC0_1 := Aside0.mk hc0_1
 clear hr0_1 hc0_1
 have HB := Aside0.mk (Below.refl w.heap.size w)
 have H : ((spec_l06Devices.f k l0_0 l0_1).bind fun t147 => (if t147 = true then ((spec_l06Buckets.f k l0_0 l0_1).bind fun t148 => (if t148 = true then ((spec_l06Once.f k l0_0 l0_1).bind fun t149 => (spec_l06OK.j0 k (!t149) l0_0 l0_1)) else (spec_l06OK.j0 k true l0_0 l0_1))) else (spec_l06OK.j0 k true l0_0 l0_1))) = some r := h
 clear h
 have HC2 := Aside0.mk H
 clear H
 go_enter Tryd.func15, Tryd.ntmps15
 go_upto_region 1 with (first | ((with_reducible refine gate_dst (N := 1) rfl ?_); refine box_event ?hg (N := 1) ?hd (cs := #[.slice A0_0 l0_0.length c0_0, .slice A0_1 l0_1.length c0_1]) (t := 32) ?hr ?_; (case hd => rfl); (case hg => rfl); (case hr => first | (go_simp; done) | (go_simp; rfl)); intro gb146 hg w3 hbox hb; have n0_ := Aside0.mk (below_step (by repeat first | exact HB.out | apply pw_below_drewN) hb); have n1_ := Aside0.mk (hbox); clear HB; have HB := n0_; have BK146 := n1_; clear n0_ n1_; clear hb hbox hg))
 (try simp only [Act.put, List.setIfInBounds_toArray, List.set_cons_zero, List.set_cons_succ])
 go_cut [16] (fun v16 wc => ∃ (kq : Nat) (x16_1 : Bool), v16 = .bool x16_1 ∧ Aside0 (spec_l06OK.j0 kq x16_1 l0_0 l0_1 = some r) ∧ Aside0 (kq ≤ k) ∧ Aside0 (wc.heap[gb146]? = some (.cells #[(.slice A0_0 l0_0.length c0_0), (.slice A0_1 l0_1.length c0_1)] 32 (0, 0))) ∧ Aside0 (Below w.heap.size w wc))
 case first =>
  have H := HC2.out
  clear HC2
  replace H := Option.bind_eq_some_iff.mp H
  obtain ⟨t147, A40, H⟩ := H
  set_option simprocs false in try dsimp only at H
  have A4 := Aside0.mk A40
  clear A40
  by_cases c5 : t147 = true
  ·subst c5
   rw [if_pos rfl] at H
   replace H := Option.bind_eq_some_iff.mp H
   obtain ⟨t148, A60, H⟩ := H
   set_option simprocs false in try dsimp only at H
   have A6 := Aside0.mk A60
   clear A60
   by_cases c7 : t148 = true
   ·subst c7
    rw [if_pos rfl] at H
    replace H := Option.bind_eq_some_iff.mp H
    obtain ⟨t149, A80, H⟩ := H
    set_option simprocs false in try dsimp only at H
    have A8 := Aside0.mk A80
    clear A80
    have H' := Aside0.mk H
    clear H
    have hcz9_0 := (blk_cell BK146.out 0).trans rfl
    have hcz9_1 := (blk_cell BK146.out 1).trans rfl
    go_wp2_with (first | ((with_reducible refine gate_callee (f := 30) rfl ?_); refine goesL_ (some 5) rfl rfl Tryd.func30 (by kernel_rfl) rfl #[.agg #[.slice A0_0 l0_0.length c0_0, .slice A0_1 l0_1.length c0_1]] rfl (by (try simp only [List.map_toArray, List.map_cons, List.map_nil]); first | done | rfl) ?_; (with_reducible refine (spec_l06Devices.calls k _ _ l0_0 _ _ l0_1 true _ ?side1 ?side2 ?side3 ?side4 A4.out).mono ?_); (case side1 => exact (Kd.C_below HR0_0.out HB.out)); (case side2 => exact HC0_0.out); (case side3 => exact (Kd.C_below HR0_1.out HB.out)); (case side4 => exact HC0_1.out); rintro e w10 ⟨rfl, hb⟩; refine ⟨_, rfl, ?_⟩; have n0_ := Aside0.mk (blk_below (by exact BK146.out) hb); have n1_ := Aside0.mk (below_step (by repeat first | exact HB.out | apply pw_below_drewN) hb); clear BK146; clear HB; have BK146 := n0_; have HB := n1_; clear n0_ n1_; (try clear hb); (try clear hb2); (try clear hk); (try clear hi); have hcz11_0 := (blk_cell BK146.out 0).trans rfl; have hcz11_1 := (blk_cell BK146.out 1).trans rfl) | (go_at_call 31; (with_reducible refine (spec_l06Buckets.calls k _ _ l0_0 _ _ l0_1 true _ ?side1 ?side2 ?side3 ?side4 A6.out).mono ?_); (case side1 => exact (Kd.C_below HR0_0.out HB.out)); (case side2 => exact HC0_0.out); (case side3 => exact (Kd.C_below HR0_1.out HB.out)); (case side4 => exact HC0_1.out); rintro e w12 ⟨rfl, hb⟩; have n0_ := Aside0.mk (blk_below (by exact BK146.out) hb); have n1_ := Aside0.mk (below_step (by repeat first | exact HB.out | apply pw_below_drewN) hb); clear BK146; clear HB; have BK146 := n0_; have HB := n1_; clear n0_ n1_; (try clear hb); (try clear hb2); (try clear hk); (try clear hi); have hcz13_0 := (blk_cell BK146.out 0).trans rfl; have hcz13_1 := (blk_cell BK146.out 1).trans rfl) | (go_at_call 32; (with_reducible refine (spec_l06Once.calls k _ _ l0_0 _ _ l0_1 t149 _ ?side1 ?side2 ?side3 ?side4 A8.out).mono ?_); (case side1 => exact (Kd.C_below HR0_0.out HB.out)); (case side2 => exact HC0_0.out); (case side3 => exact (Kd.C_below HR0_1.out HB.out)); (case side4 => exact HC0_1.out); rintro e w14 ⟨rfl, hb⟩; have n0_ := Aside0.mk (blk_below (by exact BK146.out) hb); have n1_ := Aside0.mk (below_step (by repeat first | exact HB.out | apply pw_below_drewN) hb); clear BK146; clear HB; have BK146 := n0_; have HB := n1_; clear n0_ n1_; (try clear hb); (try clear hb2); (try clear hk); (try clear hi)))
    go_meet
    case rel => exact ⟨_, (!t149), (by first | rfl | (simp; done) | (simp [*]; done)), H', ⟨by first | omega | exact Nat.le_refl _⟩, ⟨by exact BK146.out⟩, ⟨by repeat first | exact HB.out | apply pw_below_drewN⟩⟩
   ·replace c7 := Bool.eq_false_iff.mpr c7
    subst c7
    rw [if_neg (show ¬ (false = true) by decide)] at H
    have H' := Aside0.mk H
    clear H
    have hcz15_0 := (blk_cell BK146.out 0).trans rfl
    have hcz15_1 := (blk_cell BK146.out 1).trans rfl
    go_wp2_with (first | ((with_reducible refine gate_callee (f := 30) rfl ?_); refine goesL_ (some 5) rfl rfl Tryd.func30 (by kernel_rfl) rfl #[.agg #[.slice A0_0 l0_0.length c0_0, .slice A0_1 l0_1.length c0_1]] rfl (by (try simp only [List.map_toArray, List.map_cons, List.map_nil]); first | done | rfl) ?_; (with_reducible refine (spec_l06Devices.calls k _ _ l0_0 _ _ l0_1 true _ ?side1 ?side2 ?side3 ?side4 A4.out).mono ?_); (case side1 => exact (Kd.C_below HR0_0.out HB.out)); (case side2 => exact HC0_0.out); (case side3 => exact (Kd.C_below HR0_1.out HB.out)); (case side4 => exact HC0_1.out); rintro e w16 ⟨rfl, hb⟩; refine ⟨_, rfl, ?_⟩; have n0_ := Aside0.mk (blk_below (by exact BK146.out) hb); have n1_ := Aside0.mk (below_step (by repeat first | exact HB.out | apply pw_below_drewN) hb); clear BK146; clear HB; have BK146 := n0_; have HB := n1_; clear n0_ n1_; (try clear hb); (try clear hb2); (try clear hk); (try clear hi); have hcz17_0 := (blk_cell BK146.out 0).trans rfl; have hcz17_1 := (blk_cell BK146.out 1).trans rfl) | (go_at_call 31; (with_reducible refine (spec_l06Buckets.calls k _ _ l0_0 _ _ l0_1 false _ ?side1 ?side2 ?side3 ?side4 A6.out).mono ?_); (case side1 => exact (Kd.C_below HR0_0.out HB.out)); (case side2 => exact HC0_0.out); (case side3 => exact (Kd.C_below HR0_1.out HB.out)); (case side4 => exact HC0_1.out); rintro e w18 ⟨rfl, hb⟩; have n0_ := Aside0.mk (blk_below (by exact BK146.out) hb); have n1_ := Aside0.mk (below_step (by repeat first | exact HB.out | apply pw_below_drewN) hb); clear BK146; clear HB; have BK146 := n0_; have HB := n1_; clear n0_ n1_; (try clear hb); (try clear hb2); (try clear hk); (try clear hi)))
    go_meet
    case rel => exact ⟨_, (true), (by first | rfl | (simp; done) | (simp [*]; done)), H', ⟨by first | omega | exact Nat.le_refl _⟩, ⟨by exact BK146.out⟩, ⟨by repeat first | exact HB.out | apply pw_below_drewN⟩⟩
  ·replace c5 := Bool.eq_false_iff.mpr c5
   subst c5
   rw [if_neg (show ¬ (false = true) by decide)] at H
   have H' := Aside0.mk H
   clear H
   have hcz19_0 := (blk_cell BK146.out 0).trans rfl
   have hcz19_1 := (blk_cell BK146.out 1).trans rfl
   go_wp2_with (first | ((with_reducible refine gate_callee (f := 30) rfl ?_); refine goesL_ (some 5) rfl rfl Tryd.func30 (by kernel_rfl) rfl #[.agg #[.slice A0_0 l0_0.length c0_0, .slice A0_1 l0_1.length c0_1]] rfl (by (try simp only [List.map_toArray, List.map_cons, List.map_nil]); first | done | rfl) ?_; (with_reducible refine (spec_l06Devices.calls k _ _ l0_0 _ _ l0_1 false _ ?side1 ?side2 ?side3 ?side4 A4.out).mono ?_); (case side1 => exact (Kd.C_below HR0_0.out HB.out)); (case side2 => exact HC0_0.out); (case side3 => exact (Kd.C_below HR0_1.out HB.out)); (case side4 => exact HC0_1.out); rintro e w20 ⟨rfl, hb⟩; refine ⟨_, rfl, ?_⟩; have n0_ := Aside0.mk (blk_below (by exact BK146.out) hb); have n1_ := Aside0.mk (below_step (by repeat first | exact HB.out | apply pw_below_drewN) hb); clear BK146; clear HB; have BK146 := n0_; have HB := n1_; clear n0_ n1_; (try clear hb); (try clear hb2); (try clear hk); (try clear hi)))
   go_meet
   case rel => exact ⟨_, (true), (by first | rfl | (simp; done) | (simp [*]; done)), H', ⟨by first | omega | exact Nat.le_refl _⟩, ⟨by exact BK146.out⟩, ⟨by repeat first | exact HB.out | apply pw_below_drewN⟩⟩
 case rest =>
  clear HC2
  try clear c1
  try clear p2
  try clear c3
  try clear c5
  try clear c7
  try clear c15
  try clear hcz11_0
  try clear hcz11_1
  try clear hcz13_0
  try clear hcz13_1
  try clear hcz15_0
  try clear hcz15_1
  try clear hcz17_0
  try clear hcz17_1
  try clear hcz19_0
  try clear hcz19_1
  try clear hcz9_0
  try clear hcz9_1
  obtain ⟨kq, x16_1, rfl, HA, HJ1, BK146, HB⟩ := hcut
  cases kq with
  | zero => exact absurd HA.out (by simp [spec_l06OK.j0])
  | succ kj1 =>
   have H := HA.out
   clear HA
   simp only [spec_l06OK.j0] at H
   by_cases c21 : x16_1 = true
   ·subst c21
    rw [if_pos rfl] at H
    obtain rfl := Option.some.inj H
    go_wp2
    go_ret
    exact ⟨by first | rfl | (simp [*, errW_none, errW_some] <;> rfl), by repeat first | exact HB.out | apply pw_below_drewN⟩
   ·replace c21 := Bool.eq_false_iff.mpr c21
    subst c21
    rw [if_neg (show ¬ (false = true) by decide)] at H
    have H' := Aside0.mk H
    clear H
    go_wp2
    go_loopg [3] kj1 (fun kq v3 w' => ∃ (x3_2 : Int), v3 = .int .i64 x3_2 ∧ Aside0 (spec_l06OK.l0 kq x3_2 l0_0 l0_1 = some r) ∧ Aside0 (kq ≤ kj1) ∧ Aside0 (w'.heap[gb146]? = some (.cells #[(.slice A0_0 l0_0.length c0_0), (.slice A0_1 l0_1.length c0_1)] 32 (0, 0))) ∧ Aside0 (Below w.heap.size w w'))
    case atStart => exact ⟨(0), (by first | rfl | (simp; done) | (simp [*]; done)), H', ⟨Nat.le_refl _⟩, ⟨by exact BK146.out⟩, ⟨by repeat first | exact HB.out | apply pw_below_drewN⟩⟩
    case round =>
     clear H'
     try clear c1
     try clear c2
     try clear p2
     try clear c3
     try clear c5
     try clear c7
     try clear c15
     try clear c21
     try clear hcz11_0
     try clear hcz11_1
     try clear hcz13_0
     try clear hcz13_1
     try clear hcz15_0
     try clear hcz15_1
     try clear hcz17_0
     try clear hcz17_1
     try clear hcz19_0
     try clear hcz19_1
     try clear hcz9_0
     try clear hcz9_1
     try clear p2
     obtain ⟨x3_2, rfl, HA, HK2, BK146, HB⟩ := hrel
     cases gk with
     | zero => exact absurd HA.out (by simp [spec_l06OK.l0])
     | succ k2 =>
      have H := HA.out
      clear HA
      simp only [spec_l06OK.l0] at H
      by_cases c22 : x3_2 < (l0_1.length : Int)
      ·rw [if_pos c22] at H
       have c22b0 : decide (x3_2 < (l0_1.length : Int)) = true := decide_eq_true c22
       clear c22
       by_cases c23 : 0 ≤ x3_2
       ·rw [if_pos c23] at H
        have c23b0 : decide (0 ≤ x3_2) = true := decide_eq_true c23
        clear c23
        replace H := Option.bind_eq_some_iff.mp H
        obtain ⟨t151, A240, H⟩ := H
        set_option simprocs false in try dsimp only at H
        have A24 := Aside0.mk A240
        clear A240
        by_cases c25 : t151 = true
        ·subst c25
         rw [if_pos rfl] at H
         have H' := Aside0.mk H
         clear H
         have hcz26_0 := (blk_cell BK146.out 0).trans rfl
         have hcz26_1 := (blk_cell BK146.out 1).trans rfl
         try go_wp2
         have n0_ := Aside0.mk (blk_drew BK146.out)
         have n1_ := Aside0.mk (below_drew1 HB.out)
         clear BK146
         clear HB
         have BK146 := n0_
         have HB := n1_
         clear n0_ n1_
         have p150 : 0 ≤ (x3_2 : Int) := of_decide_eq_true (by assumption)
         have q150 : x3_2 < (l0_1.length : Int) := of_decide_eq_true (by assumption)
         obtain ⟨ad150, A150_2, c150_2, e150, hx150_0, hx150_1, hx150_2, hl150_2, hi150_2⟩ := at_T62 HR0_1.out x3_2 p150 q150
         have hw150_2 := hx150_2
         have hw150_1 := hx150_1
         have hw150_0 := hx150_0
         cases e150
         replace hx150_0 := (HB.out.cell (World.block_lt_of_cell? w _ hx150_0)).trans hx150_0
         replace hx150_1 := (HB.out.cell (World.block_lt_of_cell? w _ hx150_1)).trans hx150_1
         replace hx150_2 := (HB.out.cell (World.block_lt_of_cell? w _ hx150_2)).trans hx150_2
         have HR150_2 := Aside0.mk hi150_2
         have HC150_2 := Aside0.mk hl150_2
         clear hi150_2 hl150_2
         replace p150 := eq_true p150
         replace q150 := eq_true q150
         refine start_ (n := 8) (S := fun w' => w'.cell? ⟨gb146, 0, none⟩ = some (.slice A0_0 l0_0.length c0_0) ∧ w'.cell? ⟨gb146, 1, none⟩ = some (.slice (some ad150) l0_1.length c0_1) ∧ w'.cell? (ad150.add ((x3_2).toNat * 3)) = some (.int .i64 ((rd_T62 l0_1 x3_2).f0)) ∧ w'.cell? ⟨(ad150.add ((x3_2).toNat * 3)).block, (ad150.add ((x3_2).toNat * 3)).off + 1, none⟩ = some (.int .i64 ((rd_T62 l0_1 x3_2).f1)) ∧ w'.cell? ⟨(ad150.add ((x3_2).toNat * 3)).block, (ad150.add ((x3_2).toNat * 3)).off + 2, none⟩ = some (.slice A150_2 ((rd_T62 l0_1 x3_2).f2).length c150_2)) (ds := []) #[false, false, false, false, false, false, false, false] (by kernel_rfl) rfl rfl ⟨(blk_cell BK146.out 0).trans rfl, (blk_cell BK146.out 1).trans rfl, ((HB.out.cell (World.block_lt_of_cell? w _ hw150_0)).trans hw150_0), ((HB.out.cell (World.block_lt_of_cell? w _ hw150_1)).trans hw150_1), ((HB.out.cell (World.block_lt_of_cell? w _ hw150_2)).trans hw150_2)⟩ (fun hHeld => ?_); refine with_tabW spec_l06OK.tab6 spec_l06OK.bits6 (fun HT_ HW_ => ?_)
         generalize wr.drew = w27 at BK146 HB HR150_2 hx150_0 hx150_1 hx150_2 hHeld ⊢
         refine pu 1 (some 25) #[false, true, false, false, false, false, false, false] (any_of HT_.out (by kernel_rfl)) ?_
         refine pu 3 (some 27) #[false, true, false, true, false, false, false, false] (any_of HT_.out (by kernel_rfl)) ?_
         refine tk 0 (some 24) #[true, true, false, true, false, false, false, false] hHeld (take_ofW HT_.out HW_.out (by kernel_rfl)) ?_
         refine tk 2 (some 26) #[true, true, true, true, false, false, false, false] hHeld (take_ofW HT_.out HW_.out (by kernel_rfl)) ?_
         refine pu 4 (some 28) #[true, true, true, true, true, false, false, false] (any_of HT_.out (by kernel_rfl)) ?_
         refine tk 5 (some 29) #[true, true, true, true, true, true, false, false] hHeld (take_ofW HT_.out HW_.out (by kernel_rfl)) ?_
         refine one_ (i := 6) (N := some 30) #[true, true, true, true, true, true, true, false] rfl rfl (one_of HT_.out (by kernel_rfl)) (by decide) (fun K hK => ?_)
         refine goes_ Tryd.func33 (by kernel_rfl) rfl #[.agg #[.slice A0_0 l0_0.length c0_0, .slice (some ad150) l0_1.length c0_1], .agg #[.int .i64 ((rd_T62 l0_1 x3_2).f0), .int .i64 ((rd_T62 l0_1 x3_2).f1), .slice A150_2 ((rd_T62 l0_1 x3_2).f2).length c150_2]] (by rfl) rfl rfl (by (try simp only [List.map_toArray, List.map_cons, List.map_nil]); first | done | rfl) ?_
         with_reducible refine (spec_l06Fits.calls k2 _ _ l0_0 _ _ l0_1 ((rd_T62 l0_1 x3_2).f0) ((rd_T62 l0_1 x3_2).f1) _ _ ((rd_T62 l0_1 x3_2).f2) true _ ?side1 ?side2 ?side3 ?side4 ?side5 ?side6 A24.out).mono ?_
         (case side1 => exact (Kd.C_below HR0_0.out HB.out))
         (case side2 => exact HC0_0.out)
         (case side3 => exact (Kd.C_below HR0_1.out HB.out))
         (case side4 => exact HC0_1.out)
         (case side5 => exact (Kd.C_below HR150_2.out HB.out))
         (case side6 => exact HC150_2.out)
         rintro e w28 ⟨rfl, hb⟩
         refine ⟨_, rfl, ?_⟩
         have n0_ := Aside0.mk (blk_below (by exact BK146.out) hb)
         have n1_ := Aside0.mk (below_step (by repeat first | exact HB.out | apply pw_below_drewN) hb)
         clear BK146
         clear HB
         have BK146 := n0_
         have HB := n1_
         clear n0_ n1_
         (try clear hb)
         (try clear hb2)
         (try clear hk)
         (try clear hi)
         refine hK.out _ _ ⟨(blk_cell BK146.out 0).trans rfl, (blk_cell BK146.out 1).trans rfl, ((HB.out.cell (World.block_lt_of_cell? w _ hw150_0)).trans hw150_0), ((HB.out.cell (World.block_lt_of_cell? w _ hw150_1)).trans hw150_1), ((HB.out.cell (World.block_lt_of_cell? w _ hw150_2)).trans hw150_2)⟩ (fun hHeld => ?_)
         clear hK K
         refine norm_ (a' := ?_) ?_ ?_
         (rotate_left; ·(show Act.put _ (some 30) _ = _; simp only [Act.put, pq_z15]; rfl))
         refine pu 7 (some 31) #[true, true, true, true, true, true, true, true] (any_of HT_.out (by kernel_rfl)) ?_
         refine done_ (done_of HT_.out (by kernel_rfl)) ?_
         try go_wp2
         go_roundg k2
         case measure => have := HJ1.out; have := HK2.out; omega
         case rel => exact ⟨(wrap64 (x3_2 + 1)), (by first | rfl | (simp; done) | (simp [*]; done)), H', ⟨by have := HJ1.out; have := HK2.out; omega⟩, ⟨by exact BK146.out⟩, ⟨by repeat first | exact HB.out | apply pw_below_drewN⟩⟩
        ·replace c25 := Bool.eq_false_iff.mpr c25
         subst c25
         rw [if_neg (show ¬ (false = true) by decide)] at H
         obtain rfl := Option.some.inj H
         have hcz29_0 := (blk_cell BK146.out 0).trans rfl
         have hcz29_1 := (blk_cell BK146.out 1).trans rfl
         try go_wp2
         have n0_ := Aside0.mk (blk_drew BK146.out)
         have n1_ := Aside0.mk (below_drew1 HB.out)
         clear BK146
         clear HB
         have BK146 := n0_
         have HB := n1_
         clear n0_ n1_
         have p150 : 0 ≤ (x3_2 : Int) := of_decide_eq_true (by assumption)
         have q150 : x3_2 < (l0_1.length : Int) := of_decide_eq_true (by assumption)
         obtain ⟨ad150, A150_2, c150_2, e150, hx150_0, hx150_1, hx150_2, hl150_2, hi150_2⟩ := at_T62 HR0_1.out x3_2 p150 q150
         have hw150_2 := hx150_2
         have hw150_1 := hx150_1
         have hw150_0 := hx150_0
         cases e150
         replace hx150_0 := (HB.out.cell (World.block_lt_of_cell? w _ hx150_0)).trans hx150_0
         replace hx150_1 := (HB.out.cell (World.block_lt_of_cell? w _ hx150_1)).trans hx150_1
         replace hx150_2 := (HB.out.cell (World.block_lt_of_cell? w _ hx150_2)).trans hx150_2
         have HR150_2 := Aside0.mk hi150_2
         have HC150_2 := Aside0.mk hl150_2
         clear hi150_2 hl150_2
         replace p150 := eq_true p150
         replace q150 := eq_true q150
         refine start_ (n := 8) (S := fun w' => w'.cell? ⟨gb146, 0, none⟩ = some (.slice A0_0 l0_0.length c0_0) ∧ w'.cell? ⟨gb146, 1, none⟩ = some (.slice (some ad150) l0_1.length c0_1) ∧ w'.cell? (ad150.add ((x3_2).toNat * 3)) = some (.int .i64 ((rd_T62 l0_1 x3_2).f0)) ∧ w'.cell? ⟨(ad150.add ((x3_2).toNat * 3)).block, (ad150.add ((x3_2).toNat * 3)).off + 1, none⟩ = some (.int .i64 ((rd_T62 l0_1 x3_2).f1)) ∧ w'.cell? ⟨(ad150.add ((x3_2).toNat * 3)).block, (ad150.add ((x3_2).toNat * 3)).off + 2, none⟩ = some (.slice A150_2 ((rd_T62 l0_1 x3_2).f2).length c150_2)) (ds := []) #[false, false, false, false, false, false, false, false] (by kernel_rfl) rfl rfl ⟨(blk_cell BK146.out 0).trans rfl, (blk_cell BK146.out 1).trans rfl, ((HB.out.cell (World.block_lt_of_cell? w _ hw150_0)).trans hw150_0), ((HB.out.cell (World.block_lt_of_cell? w _ hw150_1)).trans hw150_1), ((HB.out.cell (World.block_lt_of_cell? w _ hw150_2)).trans hw150_2)⟩ (fun hHeld => ?_); refine with_tabW spec_l06OK.tab6 spec_l06OK.bits6 (fun HT_ HW_ => ?_)
         generalize wr.drew = w30 at BK146 HB HR150_2 hx150_0 hx150_1 hx150_2 hHeld ⊢
         refine pu 1 (some 25) #[false, true, false, false, false, false, false, false] (any_of HT_.out (by kernel_rfl)) ?_
         refine pu 3 (some 27) #[false, true, false, true, false, false, false, false] (any_of HT_.out (by kernel_rfl)) ?_
         refine tk 0 (some 24) #[true, true, false, true, false, false, false, false] hHeld (take_ofW HT_.out HW_.out (by kernel_rfl)) ?_
         refine tk 2 (some 26) #[true, true, true, true, false, false, false, false] hHeld (take_ofW HT_.out HW_.out (by kernel_rfl)) ?_
         refine pu 4 (some 28) #[true, true, true, true, true, false, false, false] (any_of HT_.out (by kernel_rfl)) ?_
         refine tk 5 (some 29) #[true, true, true, true, true, true, false, false] hHeld (take_ofW HT_.out HW_.out (by kernel_rfl)) ?_
         refine one_ (i := 6) (N := some 30) #[true, true, true, true, true, true, true, false] rfl rfl (one_of HT_.out (by kernel_rfl)) (by decide) (fun K hK => ?_)
         refine goes_ Tryd.func33 (by kernel_rfl) rfl #[.agg #[.slice A0_0 l0_0.length c0_0, .slice (some ad150) l0_1.length c0_1], .agg #[.int .i64 ((rd_T62 l0_1 x3_2).f0), .int .i64 ((rd_T62 l0_1 x3_2).f1), .slice A150_2 ((rd_T62 l0_1 x3_2).f2).length c150_2]] (by rfl) rfl rfl (by (try simp only [List.map_toArray, List.map_cons, List.map_nil]); first | done | rfl) ?_
         with_reducible refine (spec_l06Fits.calls k2 _ _ l0_0 _ _ l0_1 ((rd_T62 l0_1 x3_2).f0) ((rd_T62 l0_1 x3_2).f1) _ _ ((rd_T62 l0_1 x3_2).f2) false _ ?side1 ?side2 ?side3 ?side4 ?side5 ?side6 A24.out).mono ?_
         (case side1 => exact (Kd.C_below HR0_0.out HB.out))
         (case side2 => exact HC0_0.out)
         (case side3 => exact (Kd.C_below HR0_1.out HB.out))
         (case side4 => exact HC0_1.out)
         (case side5 => exact (Kd.C_below HR150_2.out HB.out))
         (case side6 => exact HC150_2.out)
         rintro e w31 ⟨rfl, hb⟩
         refine ⟨_, rfl, ?_⟩
         have n0_ := Aside0.mk (blk_below (by exact BK146.out) hb)
         have n1_ := Aside0.mk (below_step (by repeat first | exact HB.out | apply pw_below_drewN) hb)
         clear BK146
         clear HB
         have BK146 := n0_
         have HB := n1_
         clear n0_ n1_
         (try clear hb)
         (try clear hb2)
         (try clear hk)
         (try clear hi)
         refine hK.out _ _ ⟨(blk_cell BK146.out 0).trans rfl, (blk_cell BK146.out 1).trans rfl, ((HB.out.cell (World.block_lt_of_cell? w _ hw150_0)).trans hw150_0), ((HB.out.cell (World.block_lt_of_cell? w _ hw150_1)).trans hw150_1), ((HB.out.cell (World.block_lt_of_cell? w _ hw150_2)).trans hw150_2)⟩ (fun hHeld => ?_)
         clear hK K
         refine norm_ (a' := ?_) ?_ ?_
         (rotate_left; ·(show Act.put _ (some 30) _ = _; simp only [Act.put, pq_z15]; rfl))
         refine pu 7 (some 31) #[true, true, true, true, true, true, true, true] (any_of HT_.out (by kernel_rfl)) ?_
         refine done_ (done_of HT_.out (by kernel_rfl)) ?_
         try go_wp2
         go_ret
         exact ⟨by first | rfl | (simp [*, errW_none, errW_some] <;> rfl), by repeat first | exact HB.out | apply pw_below_drewN⟩
       ·rw [if_neg c23] at H
        exact absurd H (by simp)
      ·rw [if_neg c22] at H
       have c22b0 : decide (x3_2 < (l0_1.length : Int)) = false := decide_eq_false c22
       clear c22
       obtain rfl := Option.some.inj H
       have hcz32_0 := (blk_cell BK146.out 0).trans rfl
       have hcz32_1 := (blk_cell BK146.out 1).trans rfl
       go_wp2
       go_ret
       exact ⟨by first | rfl | (simp [*, errW_none, errW_some] <;> rfl), by repeat first | exact HB.out | apply pw_below_drewN⟩

end Go.Proofs.YtohjpgcmhihdhaaDoor.Q

namespace Go.Proofs.YtohjpgcmhihdhaaDoor.Pure
open Go.RowKit Go.Proofs.YtohjpgcmhihdhaaDoor.Q Go.Proofs.YtohjpgcmhihdhaaDoorW.PrintWords Go.Proofs.YtohjpgcmhihdhaaDoorW.PrintLast Go.Proofs.YtohjpgcmhihdhaaDoorW.PrintMore
set_option linter.unusedVariables false
set_option linter.unusedSimpArgs false
/-! devices -/
def devStep (D : List S65) (i : Nat) : Bool := inB (rd_T65 D i).f0 0 15 && inB (rd_T65 D i).f1 0 8 && !(decide (0 < i) && decide ((rd_T65 D i).f0 ≤ (rd_T65 D ((i : Int) - 1)).f0))
def devsB (D : List S65) : Bool := (List.range D.length).all (devStep D) && decide (D.length ≤ 16)
theorem wrap_down (i : Nat) (h : 0 < i) (hn : i ≤ 9223372036854775807) : wrap64 ((i : Int) - 1) = (i : Int) - 1 := by unfold wrap64; omega
theorem spec_devs_ev (D : List S65) (B : List S62) : Ev (fun k => spec_l06Devices.f k D B) (devsB D) := by
  unfold spec_l06Devices.f devsB
  by_cases h : (D.length : Int) > 16
  · simp only [if_pos h, decide_eq_false (show ¬ (D.length ≤ 16) by omega), Bool.and_false]
    exact Ev.now _
  · simp only [if_neg h, decide_eq_true (show D.length ≤ 16 by omega), Bool.and_true]
    have hu : ∀ (i : Nat), i < D.length → ∀ k, spec_l06Devices.l0 (k + 1) i D B = if devStep D i = true then spec_l06Devices.l0 k ((i + 1 : Nat) : Int) D B else some false := fun i hi k => by
      simp only [spec_l06Devices.l0]
      rw [if_pos (by omega), if_pos (by omega), in_inB, in_inB, up64 i D.length hi (by omega)]
      simp only [Option.bind_some]
      unfold devStep
      cases inB (rd_T65 D i).f0 0 15 with
      | false => simp
      | true =>
        cases inB (rd_T65 D i).f1 0 8 with
        | false => simp
        | true =>
          by_cases c : 0 < i
          · rw [if_pos rfl, if_pos rfl, if_pos (by omega), wrap_down i c (by omega), if_pos (by omega), if_pos (by omega)]
            by_cases c2 : (rd_T65 D i).f0 ≤ (rd_T65 D ((i : Int) - 1)).f0 <;> simp [c, c2]
          · rw [if_pos rfl, if_pos rfl, if_neg (by omega)]
            simp [c]
    exact all_loop D.length (fun k i => spec_l06Devices.l0 k i D B) (devStep D) (fun i hi hc => ev_next (fun k => by rw [hu i hi k, if_pos hc])) (fun i hi hc => ev_end (fun k => by rw [hu i hi k, if_neg (by rw [hc]; decide)])) (fun k => by simp only [spec_l06Devices.l0]; rw [if_neg (by omega)])
theorem isNode_inB (a : Int) : impl_isNode.f a = some (inB a 0 15) := by
  unfold impl_isNode.f
  rw [between_inB]; rfl
theorem impl_devs_ev (D : List S65) (B : List S62) (hD : D.length ≤ 9223372036854775807) : Ev (fun k => impl_Tree_devicesOk.f k D B) (devsB D) := by
  have hu : ∀ (i : Nat), i < D.length → ∀ k, impl_Tree_devicesOk.l0 (k + 1) D D.length i D B = if devStep D i = true then impl_Tree_devicesOk.l0 k D D.length ((i + 1 : Nat) : Int) D B else some false := fun i hi k => by
    simp only [impl_Tree_devicesOk.l0]
    rw [if_pos (by omega), if_pos (by omega), if_pos (by omega), isNode_inB, up64 i D.length hi hD]
    simp only [Option.bind_some, between_inB]
    unfold devStep
    cases inB (rd_T65 D i).f0 0 15 with
    | false => simp
    | true =>
      by_cases c : 0 < i
      · rw [if_pos rfl, if_pos (by omega), wrap_down i c (by omega), if_pos (by omega), if_pos (by omega)]
        by_cases c2 : (rd_T65 D i).f0 ≤ (rd_T65 D ((i : Int) - 1)).f0
        · simp [c, c2]
        · cases inB (rd_T65 D i).f1 0 8 <;> simp [c, c2]
      · rw [if_pos rfl, if_neg (by omega)]
        cases inB (rd_T65 D i).f1 0 8 <;> simp [c]
  refine loop_is D.length (fun k (_ : Unit) i => impl_Tree_devicesOk.l0 k D D.length i D B) (fun i _ => ∀ j, j < i → devStep D j = true) _ ?_ ?_ () (fun j hj => absurd hj (Nat.not_lt_zero j))
  · intro i _ hi hI
    cases hc : devStep D i with
    | true =>
      refine .inr ⟨(), fun j hj => ?_, ev_next (fun k => by rw [hu i hi k, if_pos hc])⟩
      rcases Nat.lt_succ_iff_lt_or_eq.1 hj with h | h
      · exact hI j h
      · rw [h]; exact hc
    | false =>
      left
      have e : devsB D = false := by
        unfold devsB
        have : (List.range D.length).all (devStep D) = false := by
          rw [List.all_eq_false]
          exact ⟨i, by simpa using hi, by simp [hc]⟩
        rw [this, Bool.false_and]
      rw [e]
      exact ev_end (fun k => by rw [hu i hi k, if_neg (by rw [hc]; decide)])
  · intro _ hI
    have e : devsB D = decide ((D.length : Int) ≤ 16) := by
      unfold devsB
      have : (List.range D.length).all (devStep D) = true := by
        rw [List.all_eq_true]
        intro j hj
        exact hI j (by simpa using hj)
      rw [this, Bool.true_and]
      exact decide_eq_decide.2 (by omega)
    rw [e]
    exact ev_end (fun k => by simp only [impl_Tree_devicesOk.l0]; rw [if_neg (by omega)])
/-! buckets -/
def bktStep (B : List S62) (i : Nat) : Bool := inB (rd_T62 B i).f0 (-12) (-1) && inB (rd_T62 B i).f1 1 3 && decide ((rd_T62 B i).f2.length ≤ 8) && !(decide (0 < i) && decide ((rd_T62 B ((i : Int) - 1)).f0 ≤ (rd_T62 B i).f0))
def bktsB (B : List S62) : Bool := (List.range B.length).all (bktStep B) && decide (B.length ≤ 12)
theorem spec_bkts_ev (D : List S65) (B : List S62) : Ev (fun k => spec_l06Buckets.f k D B) (bktsB B) := by
  unfold spec_l06Buckets.f bktsB
  by_cases h : (B.length : Int) > 12
  · simp only [if_pos h, decide_eq_false (show ¬ (B.length ≤ 12) by omega), Bool.and_false]
    exact Ev.now _
  · simp only [if_neg h, decide_eq_true (show B.length ≤ 12 by omega), Bool.and_true]
    have hu : ∀ (i : Nat), i < B.length → ∀ k, spec_l06Buckets.l0 (k + 1) i D B = if bktStep B i = true then spec_l06Buckets.l0 k ((i + 1 : Nat) : Int) D B else some false := fun i hi k => by
      simp only [spec_l06Buckets.l0]
      rw [if_pos (by omega), if_pos (by omega), in_inB, in_inB, up64 i B.length hi (by omega)]
      simp only [Option.bind_some]
      unfold bktStep
      cases inB (rd_T62 B i).f0 (-12) (-1) with
      | false => simp
      | true =>
        cases inB (rd_T62 B i).f1 1 3 with
        | false => simp
        | true =>
          rw [if_pos rfl, if_pos rfl]
          by_cases c8 : (rd_T62 B i).f2.length ≤ 8
          · rw [if_neg (by omega)]
            by_cases c : 0 < i
            · rw [if_pos (by omega), wrap_down i c (by omega), if_pos (by omega), if_pos (by omega)]
              by_cases c2 : (rd_T62 B ((i : Int) - 1)).f0 ≤ (rd_T62 B i).f0 <;> simp [c, c2, c8]
            · rw [if_neg (by omega)]
              simp [c, c8]
          · rw [if_pos (by omega)]
            simp [c8]
    exact all_loop B.length (fun k i => spec_l06Buckets.l0 k i D B) (bktStep B) (fun i hi hc => ev_next (fun k => by rw [hu i hi k, if_pos hc])) (fun i hi hc => ev_end (fun k => by rw [hu i hi k, if_neg (by rw [hc]; decide)])) (fun k => by simp only [spec_l06Buckets.l0]; rw [if_neg (by omega)])
/-! nothing twice -/
def onceGo (B : List S62) : Nat → Int → List Int → Bool
  | 0, _, _ => true
  | d + 1, i, u => match useGo u (rd_T62 B i).f2 with | some u' => onceGo B d (i + 1) u' | none => false
def onceTail (B : List S62) (d : Nat) (i : Int) (u items : List Int) : Bool := match useGo u items with | some u' => onceGo B d (i + 1) u' | none => false
def onceB (B : List S62) : Bool := onceGo B B.length 0 []
theorem useGo_cons (u : List Int) (x : Int) (xs : List Int) : useGo u (x :: xs) = if (u.any fun y => y == x) = true then none else useGo (u ++ [x]) xs := rfl
theorem useGo_length : ∀ (items u u' : List Int), useGo u items = some u' → u' = u ++ items
  | [], u, u', h => by simp only [useGo, Option.some.injEq] at h; simp [h]
  | x :: xs, u, u', h => by
    unfold useGo at h
    split at h
    · cases h
    · rw [useGo_length xs _ _ h]; simp
theorem spec_once_ev (D : List S65) (B : List S62) (hB : B.length ≤ 12) (hI : ∀ x ∈ B, x.f2.length ≤ 8) : Ev (fun k => spec_l06Once.f k D B) (onceB B) := by
  refine loop_is B.length (fun k (u : List Int) i => spec_l06Once.l0 k u i D B) (fun i u => u.length ≤ 8 * i ∧ onceB B = onceGo B (B.length - i) i u) _ ?_ ?_ [] ⟨by simp, rfl⟩
  · rintro i u hi ⟨hu, hT⟩
    have hx := hI B[i] (List.getElem_mem hi)
    have hT1 : onceB B = onceTail B (B.length - (i + 1)) i u B[i].f2 := by
      rw [hT, show B.length - i = (B.length - (i + 1)) + 1 from by omega]
      unfold onceTail
      rw [← rd_bkt B i hi]
      rfl
    -- the inner loop
    have hinner : ∀ (r : Bool), (∀ u', useGo u B[i].f2 = some u' → Ev (fun k => spec_l06Once.l0 k u' ((i + 1 : Nat) : Int) D B) r) → (useGo u B[i].f2 = none → r = false) → Ev (fun k => spec_l06Once.l1 k u i 0 D B) r := by
      intro r hgood hbad
      refine loop_is B[i].f2.length (fun k (v : List Int) j => spec_l06Once.l1 k v i j D B) (fun j v => v.length = u.length + j ∧ useGo u B[i].f2 = useGo v (B[i].f2.drop j)) _ ?_ ?_ u ⟨by simp, by simp⟩
      · rintro j v hj ⟨hv, hG⟩
        have hd : B[i].f2.drop j = B[i].f2[j] :: B[i].f2.drop (j + 1) := List.drop_eq_getElem_cons hj
        have hstep : ∀ q, Ev (fun k => if (v.any fun y => y == B[i].f2[j]) = true then some false else (if v.length < 17592186044416 then spec_l06Once.l1 k (v ++ [B[i].f2[j]]) i ((j + 1 : Nat) : Int) D B else none)) q → Ev (fun k => spec_l06Once.l1 k v i j D B) q := fun q hq => by
          refine Ev.step (f := ?f) (fun k => ?_) ?_
          rotate_left
          · simp only [spec_l06Once.l1]
            rw [if_pos (by omega), if_pos (by omega), rd_bkt B i hi, if_pos (by omega), if_pos (by omega), rd_get _ j hj, up64 j B[i].f2.length hj (by omega)]
            all_goals exact rfl
          · exact Ev.bind (has_ev v _ (by omega)) hq
        rw [hd] at hG
        rw [useGo_cons] at hG
        by_cases c : (v.any fun y => y == B[i].f2[j]) = true
        · left
          rw [if_pos c] at hG
          rw [hbad hG]
          exact hstep _ (ev_some fun k => if_pos c)
        · rw [if_neg c] at hG
          exact .inr ⟨v ++ [B[i].f2[j]], ⟨by simp; omega, hG⟩, fun q hq => hstep q (Ev.congr (fun k => by rw [if_neg c, if_pos (by omega)]) hq)⟩
      · rintro v ⟨hv, hG⟩
        rw [List.drop_length] at hG
        refine Ev.step (fun k => ?_) (hgood v hG)
        simp only [spec_l06Once.l1]
        rw [if_pos (by omega), if_pos (by omega), rd_bkt B i hi, if_neg (by omega), up64 i B.length hi (by omega)]
    have hout : ∀ q, Ev (fun k => spec_l06Once.l1 k u i 0 D B) q → Ev (fun k => spec_l06Once.l0 k u i D B) q := fun q hq => Ev.step (fun k => by
      simp only [spec_l06Once.l0]
      rw [if_pos (by omega)]) hq
    cases hc : useGo u B[i].f2 with
    | none =>
      left
      have e : onceB B = false := by rw [hT1]; unfold onceTail; rw [hc]
      rw [e]
      refine hout _ (hinner false (fun u' h => ?_) (fun _ => rfl))
      rw [hc] at h; cases h
    | some u' =>
      have hl := useGo_length _ _ _ hc
      refine .inr ⟨u', ⟨by rw [hl, List.length_append]; omega, ?_⟩, fun q hq => hout q (hinner q (fun v h => ?_) (fun h => ?_))⟩
      · rw [hT1]; unfold onceTail; rw [hc]; rfl
      · rw [hc] at h
        obtain rfl := Option.some.inj h
        exact hq
      · rw [hc] at h; cases h
  · rintro u ⟨hu, hT⟩
    rw [hT, Nat.sub_self]
    exact ev_end (fun k => by simp only [spec_l06Once.l0]; rw [if_neg (by omega)]; rfl)

/-! what lies in a bucket -/
def fitOne (D : List S65) (B : List S62) (kd : Int) (items : List Int) (x : Int) : Bool := if kd < 3 then kindAt D B x == kd - 1 else kindAt D B x == kindAt D B (rd items 0) && (kindAt D B x == 1 || kindAt D B x == 2)
def fitsB (D : List S65) (B : List S62) (kd : Int) (items : List Int) : Bool := (List.range items.length).all fun j => fitOne D B kd items (rd items j)
theorem spec_fits_ev (D : List S65) (B : List S62) (hD : D.length ≤ 9223372036854775807) (hB : B.length ≤ 9223372036854775807) (id kd : Int) (items : List Int) (h1 : 1 ≤ kd) (h3 : kd ≤ 3) (hl : items.length ≤ 9223372036854775807) : Ev (fun k => spec_l06Fits.f k D B id kd items) (fitsB D B kd items) := by
  have hmain : ∀ (j : Nat), j < items.length → ∀ r, (fitOne D B kd items (rd items j) = true → Ev (fun k => spec_l06Fits.l0 k ((j + 1 : Nat) : Int) D B id kd items) r) → (fitOne D B kd items (rd items j) = false → r = false) → Ev (fun k => spec_l06Fits.l0 k j D B id kd items) r := by
    intro j hj r hgood hbad
    have hw : wrap64 (kd - 1) = kd - 1 := by unfold wrap64; omega
    refine Ev.step (f := ?f) (fun k => ?_) ?_
    rotate_left
    · simp only [spec_l06Fits.l0]
      rw [if_pos (by omega), if_pos (by omega)]
      all_goals exact rfl
    · refine Ev.bind (specKind_ev D B _ hD hB) ?_
      by_cases ck : kd < 3
      · simp only [if_pos ck, hw]
        refine Ev.step (f := ?g) (fun k => ?_) ?_
        rotate_left
        · simp only [spec_l06Fits.j1]
          exact rfl
        · unfold fitOne at hgood hbad
          rw [if_pos ck] at hgood hbad
          by_cases c : kindAt D B (rd items j) = kd - 1
          · refine Ev.congr (fun k => ?_) (hgood (by simpa using c))
            rw [if_neg (by simp [c]), if_neg (by omega), up64 j items.length hj hl]
          · have e := hbad (by simpa using c)
            subst e
            refine ev_some (fun k => ?_)
            rw [if_pos (by simpa using c)]
      · simp only [if_neg ck]
        refine Ev.step (f := ?g2) (fun k => ?_) ?_
        rotate_left
        · simp only [spec_l06Fits.j1]
          exact rfl
        · simp only [Bool.false_eq_true, if_false, show kd = 3 by omega, if_true, show (0 : Int) < (items.length : Int) by omega]
          unfold fitOne at hgood hbad
          rw [if_neg ck] at hgood hbad
          refine Ev.bind (specKind_ev D B _ hD hB) ?_
          by_cases c0 : kindAt D B (rd items j) = kindAt D B (rd items 0)
          · by_cases c1 : kindAt D B (rd items j) = 1
            · refine Ev.congr (fun k => ?_) (hgood (by simp [← c0, c1]))
              rw [if_pos c0, if_pos c1, up64 j items.length hj hl, show kd = 3 by omega]
            · by_cases c2 : kindAt D B (rd items j) = 2
              · refine Ev.congr (fun k => ?_) (hgood (by simp [← c0, c2]))
                rw [if_pos c0, if_neg c1, if_pos c2, up64 j items.length hj hl, show kd = 3 by omega]
              · have e := hbad (by simp [c1, c2])
                subst e
                exact ev_some fun k => by rw [if_pos c0, if_neg c1, if_neg c2]
          · have e := hbad (by simp [c0])
            subst e
            exact ev_some fun k => by rw [if_neg c0]
  exact all_loop items.length (fun k j => spec_l06Fits.l0 k j D B id kd items) (fun j => fitOne D B kd items (rd items j)) (fun j hj hc r hr => hmain j hj r (fun _ => hr) (fun h => by rw [hc] at h; cases h)) (fun j hj hc => hmain j hj false (fun h => by rw [hc] at h; cases h) (fun _ => rfl)) (fun k => by simp only [spec_l06Fits.l0]; rw [if_neg (by omega)])
theorem range_all (items : List Int) (p : Int → Bool) : ((List.range items.length).all fun j => p (rd items j)) = items.all p := by
  rw [Bool.eq_iff_iff, List.all_eq_true, List.all_eq_true]
  constructor
  · intro h x hx
    obtain ⟨j, hj, rfl⟩ := List.mem_iff_getElem.1 hx
    have := h j (by simpa using hj)
    rwa [rd_get items j hj] at this
  · intro h j hj
    have hj' : j < items.length := by simpa using hj
    rw [rd_get items j hj']
    exact h _ (List.getElem_mem hj')
theorem fits_items (D : List S65) (B : List S62) (kd : Int) (items : List Int) (h1 : 1 ≤ kd) (h3 : kd ≤ 3) : fitsB D B kd items = itemsOkB D B kd items := by
  unfold fitsB itemsOkB
  rw [range_all items (fitOne D B kd items)]
  have hw : wrap64 (kd - 1) = kd - 1 := by unfold wrap64; omega
  rw [hw]
  match items with
  | [] => simp
  | x :: xs =>
    rw [if_neg (by simp)]
    have ho := once_one ((x :: xs).map (kindAt D B))
    have hhead : rd (x :: xs) 0 = x := rfl
    unfold fitOne
    rw [hhead]
    have hm : ∀ y, y ∈ (x :: xs).map (kindAt D B) ↔ ∃ z ∈ x :: xs, kindAt D B z = y := fun y => List.mem_map
    generalize hS : (x :: xs).map (kindAt D B) = S at ho hm
    by_cases c1 : 1 < (onceOf S).length
    · rw [if_pos c1]
      rw [Bool.eq_false_iff]
      intro hall
      rw [List.all_eq_true] at hall
      refine absurd (ho.2 ?_) (by omega)
      intro a ha b hb
      obtain ⟨p, hp, rfl⟩ := (hm a).1 ha
      obtain ⟨q, hq, rfl⟩ := (hm b).1 hb
      have h1 := hall p hp
      have h2 := hall q hq
      by_cases ck : kd < 3
      · rw [if_pos ck] at h1 h2
        rw [eq_of_beq h1, eq_of_beq h2]
      · rw [if_neg ck, Bool.and_eq_true] at h1 h2
        rw [eq_of_beq h1.1, eq_of_beq h2.1]
    · rw [if_neg c1]
      have hsame := ho.1 (by omega)
      have hx : kindAt D B x ∈ S := (hm _).2 ⟨x, by simp, rfl⟩
      have hall : ∀ z ∈ x :: xs, kindAt D B z = kindAt D B x := fun z hz => hsame _ ((hm _).2 ⟨z, hz, rfl⟩) _ hx
      have hany : ∀ v : Int, (S.any fun y => y == v) = (kindAt D B x == v) := fun v => by
        rw [Bool.eq_iff_iff, List.any_eq_true]
        constructor
        · rintro ⟨y, hy, e⟩
          rw [hsame _ hx y hy]; exact e
        · intro e
          exact ⟨_, hx, e⟩
      rw [hany, hany, hany]
      by_cases ck : kd < 3
      · rw [if_neg (show ¬ kd = 3 by omega), Bool.eq_iff_iff, List.all_eq_true]
        constructor
        · intro h
          have := h x (by simp)
          rwa [if_pos ck] at this
        · intro h z hz
          rw [if_pos ck, hall z hz]; exact h
      · rw [if_pos (show kd = 3 by omega), Bool.eq_iff_iff, List.all_eq_true]
        constructor
        · intro h
          have := h x (by simp)
          rw [if_neg ck, Bool.and_eq_true] at this
          exact this.2
        · intro h z hz
          rw [if_neg ck, hall z hz, Bool.and_eq_true]
          exact ⟨by simp, h⟩
/-! the whole -/
def allB (D : List S65) (B : List S62) : Nat → Int → Bool
  | 0, _ => true
  | d + 1, i => bktB D B i && allB D B d (i + 1)
theorem treeGo_parts (D : List S65) (B : List S62) : ∀ (d : Nat) (i : Int) (u : List Int), treeGo D B d i u = (allB D B d i && onceGo B d i u)
  | 0, _, _ => rfl
  | d + 1, i, u => by
    have ht : treeGo D B (d + 1) i u = if bktB D B i = true then (match useGo u (rd_T62 B i).f2 with | some u' => treeGo D B d (i + 1) u' | none => false) else false := rfl
    have ho : onceGo B (d + 1) i u = match useGo u (rd_T62 B i).f2 with | some u' => onceGo B d (i + 1) u' | none => false := rfl
    have ha : allB D B (d + 1) i = (bktB D B i && allB D B d (i + 1)) := rfl
    rw [ht, ho, ha]
    cases bktB D B i with
    | false => rfl
    | true =>
      cases useGo u (rd_T62 B i).f2 with
      | none => simp
      | some u' => simp [treeGo_parts D B d (i + 1) u']
theorem allB_all (D : List S65) (B : List S62) : ∀ (d i : Nat), allB D B d i = true ↔ ∀ j, i ≤ j → j < i + d → bktB D B j = true
  | 0, i => by simp [allB]; intro j h1 h2; omega
  | d + 1, i => by
    have ha : allB D B (d + 1) i = (bktB D B i && allB D B d ((i + 1 : Nat) : Int)) := rfl
    rw [ha, Bool.and_eq_true, allB_all D B d (i + 1)]
    constructor
    · rintro ⟨h1, h2⟩ j hj1 hj2
      by_cases e : j = i
      · subst e; exact h1
      · exact h2 j (by omega) (by omega)
    · intro h
      exact ⟨h i (by omega) (by omega), fun j h1 h2 => h j (by omega) (by omega)⟩
theorem bktB_parts (D : List S65) (B : List S62) (i : Nat) : bktB D B i = (bktStep B i && itemsOkB D B (rd_T62 B i).f1 (rd_T62 B i).f2) := by
  unfold bktB bktStep
  have e : decide ((0 : Int) < (i : Int)) = decide (0 < i) := decide_eq_decide.2 (by omega)
  rw [e]
  cases inB (rd_T62 B i).f0 (-12) (-1) <;> cases inB (rd_T62 B i).f1 1 3 <;> cases decide (0 < i) <;> cases decide ((rd_T62 B ((i : Int) - 1)).f0 ≤ (rd_T62 B i).f0) <;> cases decide ((rd_T62 B i).f2.length ≤ 8) <;> rfl
/-- is a topology valid? -/
def treeOkB (D : List S65) (B : List S62) : Bool := devsB D && (decide (B.length ≤ 12) && treeB D B)
theorem fits_all_ev (D : List S65) (B : List S62) (hD : D.length ≤ 16) (hB : B.length ≤ 12) (hS : ∀ j, j < B.length → bktStep B j = true) : Ev (fun k => spec_l06OK.l0 k 0 D B) ((List.range B.length).all fun i => fitsB D B (rd_T62 B i).f1 (rd_T62 B i).f2) := by
  have hst : ∀ (i : Nat), i < B.length → (1 ≤ (rd_T62 B i).f1 ∧ (rd_T62 B i).f1 ≤ 3) ∧ (rd_T62 B i).f2.length ≤ 8 := fun i hi => by
    have := hS i hi
    unfold bktStep inB at this
    simp only [Bool.and_eq_true, decide_eq_true_eq] at this
    exact ⟨this.1.1.2, this.1.2⟩
  have hu : ∀ (i : Nat), i < B.length → ∀ r, Ev (fun k => if fitsB D B (rd_T62 B i).f1 (rd_T62 B i).f2 = true then spec_l06OK.l0 k ((i + 1 : Nat) : Int) D B else some false) r → Ev (fun k => spec_l06OK.l0 k i D B) r := fun i hi r hr => by
    obtain ⟨⟨h1, h3⟩, h8⟩ := hst i hi
    refine Ev.step (f := ?f) (fun k => ?_) ?_
    rotate_left
    · simp only [spec_l06OK.l0]
      rw [if_pos (by omega), if_pos (by omega), up64 i B.length hi (by omega)]
      all_goals exact rfl
    · exact Ev.bind (spec_fits_ev D B (by omega) (by omega) _ _ _ h1 h3 (by omega)) hr
  exact all_loop B.length (fun k i => spec_l06OK.l0 k i D B) _ (fun i hi hc r hr => hu i hi r (Ev.congr (fun k => by rw [if_pos hc]) hr)) (fun i hi hc => hu i hi false (ev_some fun k => by rw [if_neg (by rw [hc]; decide)])) (fun k => by simp only [spec_l06OK.l0]; rw [if_neg (by omega)])
theorem spec_ok_ev (D : List S65) (B : List S62) : Ev (fun k => spec_l06OK.f k D B) (treeOkB D B) := by
  unfold spec_l06OK.f
  refine Ev.bind (spec_devs_ev D B) ?_
  have hj : ∀ r, r = false → Ev (fun k => spec_l06OK.j0 k true D B) r := fun r hr => by
    subst hr
    exact ev_end fun k => by simp only [spec_l06OK.j0]; rw [if_pos trivial]
  unfold treeOkB
  cases hd : devsB D with
  | false =>
    simp only [Bool.false_eq_true, if_false, Bool.false_and]
    exact hj _ rfl
  | true =>
    simp only [if_true, Bool.true_and]
    refine Ev.bind (spec_bkts_ev D B) ?_
    have hparts : treeB D B = (allB D B B.length 0 && onceB B) := treeGo_parts D B B.length 0 []
    have hall := allB_all D B B.length 0
    rw [show ((0 : Nat) : Int) = 0 from rfl] at hall
    have hD : D.length ≤ 16 := by
      unfold devsB at hd
      rw [Bool.and_eq_true] at hd
      exact of_decide_eq_true hd.2
    cases hb : bktsB B with
    | false =>
      simp only [Bool.false_eq_true, if_false]
      refine hj _ ?_
      by_cases c : B.length ≤ 12
      · have : allB D B B.length 0 = false := by
          rw [Bool.eq_false_iff]
          intro h
          have h2 := hall.1 h
          have : bktsB B = true := by
            unfold bktsB
            rw [decide_eq_true c, Bool.and_true, List.all_eq_true]
            intro j hj
            have := h2 j (by omega) (by simpa using hj)
            rw [bktB_parts, Bool.and_eq_true] at this
            exact this.1
          rw [this] at hb; cases hb
        rw [hparts, this]; simp
      · rw [decide_eq_false c, Bool.false_and]
    | true =>
      unfold bktsB at hb
      rw [Bool.and_eq_true, List.all_eq_true] at hb
      have h12 := of_decide_eq_true hb.2
      have hS : ∀ j, j < B.length → bktStep B j = true := fun j hj => hb.1 j (by simpa using hj)
      have h8 : ∀ x ∈ B, x.f2.length ≤ 8 := fun x hx => by
        obtain ⟨j, hj, rfl⟩ := List.mem_iff_getElem.1 hx
        have := hS j hj
        unfold bktStep at this
        simp only [Bool.and_eq_true, decide_eq_true_eq] at this
        rw [rd_bkt B j hj] at this
        exact this.1.2
      simp only [if_true]
      refine Ev.bind (spec_once_ev D B h12 h8) ?_
      rw [decide_eq_true h12, Bool.true_and, hparts]
      cases onceB B with
      | false =>
        rw [Bool.and_false]
        exact hj _ rfl
      | true =>
        rw [Bool.and_true]
        refine Ev.step (f := ?f) (fun k => ?_) ?_
        rotate_left
        · simp only [spec_l06OK.j0]
          exact rfl
        · simp only [Bool.not_true, Bool.false_eq_true, if_false]
          have hf := fits_all_ev D B hD h12 hS
          have e : ((List.range B.length).all fun i => fitsB D B (rd_T62 B i).f1 (rd_T62 B i).f2) = allB D B B.length 0 := by
            rw [Bool.eq_iff_iff, hall, List.all_eq_true]
            have hk : ∀ j, j < B.length → (fitsB D B (rd_T62 B j).f1 (rd_T62 B j).f2 = true ↔ bktB D B j = true) := fun j hj => by
              have hs := hS j hj
              rw [bktB_parts, hs, Bool.true_and]
              unfold bktStep inB at hs
              simp only [Bool.and_eq_true, decide_eq_true_eq] at hs
              rw [fits_items D B _ _ hs.1.1.2.1 hs.1.1.2.2]
            constructor
            · intro h j _ hj
              exact (hk j (by omega)).1 (h j (by simp; omega))
            · intro h j hj
              have hj' : j < B.length := by simpa using hj
              exact (hk j hj').2 (h j (by omega) (by omega))
          rw [e] at hf
          exact hf
theorem impl_ok_ev (D : List S65) (B : List S62) (hD : D.length ≤ 9223372036854775807) (hw : wfTree D B = true) : Ev (fun k => impl_TreeOk.f k D B) (treeOkB D B) := by
  unfold impl_TreeOk.f treeOkB
  simp only [if_pos hw]
  refine Ev.bind (impl_devs_ev D B hD) ?_
  cases devsB D <;> simp <;> first | exact Ev.now _ | exact ev_some fun k => rfl

/-- what a valid topology holds -/
structure Valid (D : List S65) (B : List S62) : Prop where
  dev : D.length ≤ 16
  bkt : B.length ≤ 12
  devs : ∀ i (h : i < D.length), 0 ≤ D[i].f0 ∧ D[i].f0 ≤ 15 ∧ 0 ≤ D[i].f1 ∧ D[i].f1 ≤ 8
  bkts : ∀ i (h : i < B.length), (-12 ≤ B[i].f0 ∧ B[i].f0 ≤ -1) ∧ (1 ≤ B[i].f1 ∧ B[i].f1 ≤ 3) ∧ B[i].f2.length ≤ 8
  down : ∀ i (h : i + 1 < B.length), B[i + 1].f0 < B[i].f0
  up : ∀ i (h : i + 1 < D.length), D[i].f0 < D[i + 1].f0
  fits : ∀ i (h : i < B.length), ∀ x ∈ B[i].f2, fitOne D B B[i].f1 B[i].f2 x = true
  once : onceB B = true
theorem valid_of (D : List S65) (B : List S62) (h : treeOkB D B = true) : Valid D B := by
  unfold treeOkB at h
  rw [Bool.and_eq_true, Bool.and_eq_true] at h
  obtain ⟨hd, h12, ht⟩ := h
  have h12 := of_decide_eq_true h12
  unfold devsB at hd
  rw [Bool.and_eq_true, List.all_eq_true] at hd
  have h16 := of_decide_eq_true hd.2
  have hparts : treeB D B = (allB D B B.length 0 && onceB B) := treeGo_parts D B B.length 0 []
  rw [hparts, Bool.and_eq_true] at ht
  have hall := (allB_all D B B.length 0).1 ht.1
  have hS : ∀ j, j < B.length → bktStep B j = true ∧ itemsOkB D B (rd_T62 B j).f1 (rd_T62 B j).f2 = true := fun j hj => by
    have := hall j (by omega) (by omega)
    rw [bktB_parts, Bool.and_eq_true] at this
    exact this
  have hdv : ∀ j, j < D.length → devStep D j = true := fun j hj => hd.1 j (by simpa using hj)
  have hk : ∀ i (h : i < B.length), (-12 ≤ B[i].f0 ∧ B[i].f0 ≤ -1) ∧ (1 ≤ B[i].f1 ∧ B[i].f1 ≤ 3) ∧ B[i].f2.length ≤ 8 := fun i h => by
    have := (hS i h).1
    unfold bktStep inB at this
    simp only [Bool.and_eq_true, decide_eq_true_eq] at this
    rw [rd_bkt B i h] at this
    exact ⟨this.1.1.1, this.1.1.2, this.1.2⟩
  refine ⟨h16, h12, ?_, hk, ?_, ?_, ?_, ht.2⟩
  · intro i h
    have := hdv i h
    unfold devStep inB at this
    simp only [Bool.and_eq_true, decide_eq_true_eq] at this
    rw [rd_dev D i h] at this
    exact ⟨this.1.1.1, this.1.1.2, this.1.2.1, this.1.2.2⟩
  · intro i h
    have := (hS (i + 1) h).1
    unfold bktStep at this
    rw [show (((i + 1 : Nat) : Int) - 1) = (i : Int) from by omega, rd_bkt B i (by omega), rd_bkt B (i + 1) h] at this
    simp at this
    omega
  · intro i h
    have := hdv (i + 1) h
    unfold devStep at this
    rw [show (((i + 1 : Nat) : Int) - 1) = (i : Int) from by omega, rd_dev D i (by omega), rd_dev D (i + 1) h] at this
    simp at this
    omega
  · intro i h x hx
    have h2 := (hS i h).2
    rw [rd_bkt B i h] at h2
    have hb := (hk i h).2.1
    rw [← fits_items D B _ _ hb.1 hb.2] at h2
    unfold fitsB at h2
    rw [range_all B[i].f2 (fitOne D B B[i].f1 B[i].f2), List.all_eq_true] at h2
    exact h2 x hx
theorem idx_none {α : Type} (p : α → Bool) (l : List α) (h : ∀ x ∈ l, p x = false) : ∀ (d i : Nat), i + d = l.length → idxFrom p (l.drop i) i = -1
  | 0, i, hd => by
    rw [List.drop_of_length_le (by omega)]; rfl
  | d + 1, i, hd => by
    rw [idx_step p l i (by omega), if_neg (by rw [h _ (List.getElem_mem (by omega))]; decide)]
    exact idx_none p l h d (i + 1) (by omega)
theorem idx_first {α : Type} (p : α → Bool) (l : List α) (n : Nat) (hn : n < l.length) (hp : p l[n] = true) (hb : ∀ j (h : j < n), p l[j] = false) : ∀ (d i : Nat), i + d = n → idxFrom p (l.drop i) i = (n : Int)
  | 0, i, hd => by
    obtain rfl : i = n := by omega
    rw [idx_step p l i hn, if_pos hp]
  | d + 1, i, hd => by
    rw [idx_step p l i (by omega), if_neg (by rw [hb i (by omega)]; decide)]
    exact idx_first p l n hn hp hb d (i + 1) (by omega)
/-- the index found is one that answers -/
theorem idx_hit {α : Type} (p : α → Bool) (l : List α) : ∀ (d i : Nat), i + d = l.length → idxFrom p (l.drop i) i = -1 ∨ ∃ n, ∃ (h : n < l.length), idxFrom p (l.drop i) i = (n : Int) ∧ p l[n] = true
  | 0, i, hd => by
    left
    rw [List.drop_of_length_le (by omega)]; rfl
  | d + 1, i, hd => by
    rw [idx_step p l i (by omega)]
    by_cases c : p (l[i]'(by omega)) = true
    · rw [if_pos c]
      exact .inr ⟨i, by omega, rfl, c⟩
    · rw [if_neg c]
      exact idx_hit p l d (i + 1) (by omega)
theorem bucketAt_hit (B : List S62) (id : Int) : bucketAt B id = -1 ∨ ∃ n, ∃ (h : n < B.length), bucketAt B id = (n : Int) ∧ B[n].f0 = id := by
  rcases idx_hit (fun x : S62 => x.f0 == id) B B.length 0 (by omega) with h | ⟨n, hn, h1, h2⟩
  · exact .inl h
  · exact .inr ⟨n, hn, h1, by simpa using h2⟩
theorem devAt_hit (D : List S65) (id : Int) : devAt D id = -1 ∨ ∃ n, ∃ (h : n < D.length), devAt D id = (n : Int) ∧ D[n].f0 = id := by
  rcases idx_hit (fun x : S65 => x.f0 == id) D D.length 0 (by omega) with h | ⟨n, hn, h1, h2⟩
  · exact .inl h
  · exact .inr ⟨n, hn, h1, by simpa using h2⟩
theorem down_lt {D : List S65} {B : List S62} (V : Valid D B) : ∀ (d i : Nat) (h : i + d + 1 < B.length), B[i + d + 1].f0 < B[i].f0
  | 0, i, h => V.down i h
  | d + 1, i, h => by
    have h1 := down_lt V d i (by omega)
    have h2 := V.down (i + d + 1) h
    exact Int.lt_trans h2 h1
theorem down_of {D : List S65} {B : List S62} (V : Valid D B) (i j : Nat) (hij : i < j) (h : j < B.length) : B[j].f0 < B[i].f0 := by
  obtain ⟨d, rfl⟩ : ∃ d, j = i + d + 1 := ⟨j - i - 1, by omega⟩
  exact down_lt V d i h
theorem bucketAt_own {D : List S65} {B : List S62} (V : Valid D B) (n : Nat) (hn : n < B.length) : bucketAt B B[n].f0 = (n : Int) :=
  idx_first (fun x : S62 => x.f0 == B[n].f0) B n hn (by simp) (fun j hj => by
    have := down_of V j n hj hn
    have : ¬ B[j].f0 = B[n].f0 := by omega
    simpa using this) n 0 (by omega)
theorem devAt_none {D : List S65} {B : List S62} (V : Valid D B) (id : Int) (h : id < 0) : devAt D id = -1 := by
  rcases devAt_hit D id with e | ⟨n, hn, _, e⟩
  · exact e
  · have := V.devs n hn
    omega
theorem kindAt_own {D : List S65} {B : List S62} (V : Valid D B) (n : Nat) (hn : n < B.length) : kindAt D B B[n].f0 = B[n].f1 := by
  have hk : kindAt D B B[n].f0 = if 0 ≤ devAt D B[n].f0 then 0 else if bucketAt B B[n].f0 < 0 then -1 else (rd_T62 B (bucketAt B B[n].f0)).f1 := rfl
  rw [hk, devAt_none V _ (by have := V.bkts n hn; omega), bucketAt_own V n hn, if_neg (by omega), if_neg (by omega), rd_bkt B n hn]
theorem kindAt_le {D : List S65} {B : List S62} (V : Valid D B) (id : Int) : -1 ≤ kindAt D B id ∧ kindAt D B id ≤ 3 := by
  have hk : kindAt D B id = if 0 ≤ devAt D id then 0 else if bucketAt B id < 0 then -1 else (rd_T62 B (bucketAt B id)).f1 := rfl
  rw [hk]
  split
  · omega
  · split
    · omega
    · rcases bucketAt_hit B id with e | ⟨n, hn, e, _⟩
      · omega
      · rw [e, rd_bkt B n hn]
        have := V.bkts n hn
        omega
/-- a kind of a bucket is a bucket's -/
theorem kindAt_bucket {D : List S65} {B : List S62} (V : Valid D B) (id : Int) (h : 1 ≤ kindAt D B id) : ∃ n, ∃ (h : n < B.length), bucketAt B id = (n : Int) ∧ B[n].f0 = id ∧ id < 0 ∧ kindAt D B id = B[n].f1 := by
  have hk : kindAt D B id = if 0 ≤ devAt D id then 0 else if bucketAt B id < 0 then -1 else (rd_T62 B (bucketAt B id)).f1 := rfl
  rw [hk] at h
  split at h
  · omega
  · split at h
    · omega
    · rcases bucketAt_hit B id with e | ⟨n, hn, e, e2⟩
      · omega
      · refine ⟨n, hn, e, e2, ?_, ?_⟩
        · have := V.bkts n hn; omega
        · rw [← e2]; exact kindAt_own V n hn
/-- what lies in a bucket is of a lower kind -/
theorem item_kind {D : List S65} {B : List S62} (V : Valid D B) (n : Nat) (hn : n < B.length) (x : Int) (hx : x ∈ B[n].f2) : 0 ≤ kindAt D B x ∧ kindAt D B x < B[n].f1 := by
  have h := V.fits n hn x hx
  have hb := (V.bkts n hn).2.1
  unfold fitOne at h
  by_cases c : B[n].f1 < 3
  · rw [if_pos c] at h
    have := eq_of_beq h
    omega
  · rw [if_neg c, Bool.and_eq_true, Bool.or_eq_true] at h
    rcases h.2 with h | h
    · have := eq_of_beq h; omega
    · have := eq_of_beq h; omega

end Go.Proofs.YtohjpgcmhihdhaaDoor.Pure

namespace Go.Proofs.YtohjpgcmhihdhaaDoorW.PrintMore
open Go.RowKit Go.Proofs.YtohjpgcmhihdhaaDoorW.PrintWords Go.Proofs.YtohjpgcmhihdhaaDoorW.PrintLast Go.Proofs.YtohjpgcmhihdhaaDoor.Q
set_option linter.unusedVariables false
set_option linter.unusedSimpArgs false
/-- the word of a kind of buckets -/
def kwB (k : Int) : ByteArray := if k = 1 then ⟨#[104, 111, 115, 116]⟩ else if k = 2 then ⟨#[114, 97, 99, 107]⟩ else ⟨#[114, 111, 111, 116]⟩
theorem kwB_size (k : Int) : (kwB k).size = 4 := by
  unfold kwB
  split
  · rfl
  · split <;> rfl
theorem run_kind (a b c d : ByteArray) (w : World) (k : Nat) (hk : k < 4) : (Instr.index 101 (.agg #[.string a, .string b, .string c, .string d]) (.int .i64 (k : Int))).run Tryd.prog w = .ok (#[.string a, .string b, .string c, .string d][k]!) w := by
  have h : k = 0 ∨ k = 1 ∨ k = 2 ∨ k = 3 := by omega
  rcases h with rfl | rfl | rfl | rfl
  all_goals simp [Instr.index, run_underlying Tryd.underlying101, asIntOf, go_sem, Tryd.sizeOf9]
set_option maxHeartbeats 1000000 in
set_option maxRecDepth 100000 in
theorem kindWord_at (k : Int) (w : World) (h1 : 1 ≤ k) (h3 : k ≤ 3) :
    Calls Tryd.prog 42 #[.int .i64 k] w fun e w' => e = .returned (.string (kwB k)) ∧ w' = w := by
  have h : k = 1 ∨ k = 2 ∨ k = 3 := by omega
  rcases h with rfl | rfl | rfl
  · have hr : ∀ w, (Instr.index 101 (.agg #[.string ⟨#[110, 111, 100, 101]⟩, .string ⟨#[104, 111, 115, 116]⟩, .string ⟨#[114, 97, 99, 107]⟩, .string ⟨#[114, 111, 111, 116]⟩]) (.int .i64 1)).run Tryd.prog w = .ok (.string ⟨#[104, 111, 115, 116]⟩) w := fun w => run_kind _ _ _ _ w 1 (by decide)
    go_enter Tryd.func42, Tryd.ntmps42
    go_wp2_with fail
    go_ret
    exact ⟨rfl, rfl⟩
  · have hr : ∀ w, (Instr.index 101 (.agg #[.string ⟨#[110, 111, 100, 101]⟩, .string ⟨#[104, 111, 115, 116]⟩, .string ⟨#[114, 97, 99, 107]⟩, .string ⟨#[114, 111, 111, 116]⟩]) (.int .i64 2)).run Tryd.prog w = .ok (.string ⟨#[114, 97, 99, 107]⟩) w := fun w => run_kind _ _ _ _ w 2 (by decide)
    go_enter Tryd.func42, Tryd.ntmps42
    go_wp2_with fail
    go_ret
    exact ⟨rfl, rfl⟩
  · have hr : ∀ w, (Instr.index 101 (.agg #[.string ⟨#[110, 111, 100, 101]⟩, .string ⟨#[104, 111, 115, 116]⟩, .string ⟨#[114, 97, 99, 107]⟩, .string ⟨#[114, 111, 111, 116]⟩]) (.int .i64 3)).run Tryd.prog w = .ok (.string ⟨#[114, 111, 111, 116]⟩) w := fun w => run_kind _ _ _ _ w 3 (by decide)
    go_enter Tryd.func42, Tryd.ntmps42
    go_wp2_with fail
    go_ret
    exact ⟨rfl, rfl⟩
/-- a number that an int64 holds -/
def In64 (n : Int) : Prop := -9223372036854775808 ≤ n ∧ n ≤ 9223372036854775807
def nodeLine (x : S65) : ByteArray := lineB ⟨#[110, 111, 100, 101]⟩ [x.f0, x.f1] ++ (⟨#[10]⟩ : ByteArray)
def bktLine (x : S62) : ByteArray := lineB (kwB x.f1) (x.f0 :: x.f2) ++ (⟨#[10]⟩ : ByteArray)
def nodesT (D : List S65) : List UInt8 := D.flatMap fun x => (nodeLine x).data.toList
def bktsT (B : List S62) : List UInt8 := B.flatMap fun x => (bktLine x).data.toList
theorem lineB_size : ∀ (l : List Int) (s : ByteArray), (∀ x ∈ l, In64 x) → (lineB s l).size ≤ s.size + 22 * l.length
  | [], s, _ => Nat.le_refl _
  | x :: l, s, h => by
    have hx := h x (by simp)
    have hd := decB_size x hx.1 hx.2
    have ih := lineB_size l (s ++ ((⟨#[32]⟩ : ByteArray) ++ decB x)) (fun y hy => h y (by simp [hy]))
    have z1 : ((⟨#[32]⟩ : ByteArray) ++ decB x).size = 1 + (decB x).size := size_app _ _
    rw [size_app, z1] at ih
    rw [lineB_cons, List.length_cons]
    omega
theorem builder_below {T e : TypeId} {B b : Nat} {bs : List Value} {w W : World} (h : Lib.IsBuilder T e B b bs w) (hb : Below w.heap.size w W) : Lib.IsBuilder T e B b bs W := by
  have one : ∀ p, Lib.BuilderAt T e B b p bs w → Lib.BuilderAt T e B b p bs W := fun p h => by
    obtain ⟨hB, v, hk, ho, hn⟩ := h
    exact ⟨hB, v, blk_below hk hb, pw_own_below ho hb, hn⟩
  exact h.elim (fun h => .inl (one _ h)) (fun h => .inr (one _ h))
theorem len_bytes (s : ByteArray) : s.data.toList.length = s.size := Array.length_toList
theorem builder_lt {T e : TypeId} {B b : Nat} {bs : List Value} {w : World} (h : Lib.IsBuilder T e B b bs w) : b < w.heap.size := h.elim (fun h => h.lt) (fun h => h.lt)
theorem lit1_own (W : World) (base : Nat) (hb : base ≤ W.heap.size) (x : Int) : (Kd.int .i64).R 2 (W.alloc (.cells #[.int .i64 x] 2)) base (fun _ => True) (.slice (some ⟨W.heap.size, 0, none⟩) 1 1) [x] :=
  ⟨fun _ _ => trivial, [.int .i64 x], by have h2 := World.ownsRow_lit (base := base) (e := 2) (size := (Kd.int .i64).sz) W #[.int .i64 x] 1 hb (by decide) rfl; simpa using h2, Reps.one (show Kd.M (Kd.int .i64) _ _ _ x [.int .i64 x] from rfl) (Reps.none _ _)⟩
theorem cells_app (l : List UInt8) (s : ByteArray) : Lib.byteCells l ++ Lib.strCells s = Lib.byteCells (l ++ s.data.toList) := by
  rw [Lib.strCells_eq, Lib.byteCells_append]
set_option maxHeartbeats 4000000 in
set_option maxRecDepth 100000 in
theorem treeText_at (A0 : Option Addr) (c0 : Nat) (D : List S65) (A1 : Option Addr) (c1 : Nat) (B : List S62) (w : World) (hr0 : Kd.C k65 w A0 D.length D) (hc0 : D.length ≤ c0) (hr1 : Kd.C k62 w A1 B.length B) (hc1 : B.length ≤ c1) (hD : D.length ≤ 1000) (hB : B.length ≤ 1000) (hd : ∀ x ∈ D, In64 x.f0 ∧ In64 x.f1) (hb : ∀ x ∈ B, In64 x.f0 ∧ (1 ≤ x.f1 ∧ x.f1 ≤ 3) ∧ x.f2.length ≤ 1000 ∧ ∀ y ∈ x.f2, In64 y) (ht : TabW w) :
    Calls Tryd.prog 20 #[.agg #[.slice A0 D.length c0, .slice A1 B.length c1]] w fun e w' => e = .returned (.string ⟨(nodesT D ++ bktsT B).toArray⟩) ∧ Below w.heap.size w w' := by
  have HR0 := Aside0.mk hr0
  have HR1 := Aside0.mk hr1
  have HC0 := Aside0.mk hc0
  have HC1 := Aside0.mk hc1
  have HD := Aside0.mk hd
  have HBK := Aside0.mk hb
  have HL := Aside0.mk hD
  have HM := Aside0.mk hB
  have HT := Aside0.mk ht
  clear hr0 hr1 hc0 hc1 hd hb hD hB ht
  go_enter Tryd.func20, Tryd.ntmps20
  go_wp2_with fail
  have BT := Aside0.mk (blk_alloc (blk_new w (.cells #[.slice A0 D.length c0, .slice A1 B.length c1] 32)) (.cells #[.pointer none, .slice none 0 0] 76))
  have BX := Aside0.mk (blk_new (w.alloc (.cells #[.slice A0 D.length c0, .slice A1 B.length c1] 32)) (.cells #[.pointer none, .slice none 0 0] 76))
  have HB := Aside0.mk (below_alloc (below_alloc (Below.refl w.heap.size w) (.cells #[.slice A0 D.length c0, .slice A1 B.length c1] 32)) (.cells #[.pointer none, .slice none 0 0] 76))
  have hs : (w.alloc (.cells #[.slice A0 D.length c0, .slice A1 B.length c1] 32)).heap.size = w.heap.size + 1 := by unfold World.alloc; exact Array.size_push _
  rw [hs] at BX
  try rw [hs]
  clear hs
  generalize ((w.alloc (.cells #[.slice A0 D.length c0, .slice A1 B.length c1] 32)).alloc (.cells #[.pointer none, .slice none 0 0] 76)) = w1 at BT BX HB ⊢
  obtain ⟨gb, hgb⟩ : ∃ g, g = w.heap.size + 1 := ⟨_, rfl⟩
  rw [← hgb] at BX ⊢
  obtain ⟨gt, hgt⟩ : ∃ g, g = w.heap.size := ⟨_, rfl⟩
  rw [← hgt] at BT
  try rw [← hgt]
  have HG := Aside0.mk (show gt < gb ∧ w.heap.size ≤ gt by omega)
  clear hgb hgt
  have HU := Aside0.mk (show Lib.IsBuilder 76 5 gb gb (Lib.byteCells []) w1 from .inl ⟨Nat.le_refl _, .slice none 0 0, BX.out, World.ownsRow_nil _ _ _ _, by simp [Value.ownBlock]⟩)
  clear BX
  go_loopg [11] D.length (fun gg v11 wr => ∃ (kk : Nat) (acc : List UInt8), kk ≤ D.length ∧ (D.length : Int) - kk ≤ gg ∧ v11 = .int .i64 (kk : Int) ∧ Aside0 (acc ++ nodesT (D.drop kk) = nodesT D) ∧ Aside0 (acc.length ≤ 1000 * kk) ∧ Aside0 (Below w.heap.size w wr) ∧ Aside0 (wr.heap[gt]? = some (.cells #[.slice A0 D.length c0, .slice A1 B.length c1] 32 (0, 0))) ∧ Aside0 (Lib.IsBuilder 76 5 gb gb (Lib.byteCells acc) wr))
  case atStart => exact ⟨0, [], by omega, by omega, rfl, ⟨rfl⟩, ⟨by simp⟩, HB, BT, HU⟩
  case round =>
    clear HB BT HU
    obtain ⟨kk, acc, hk, hg, rfl, HE, HS, HB, BT, HU⟩ := hrel
    by_cases hlt : kk < D.length
    · have hlt' : (kk : Int) < (D.length : Int) := by omega
      obtain ⟨ad, rfl, hx0, hx1⟩ := at_T65 HR0.out (kk : Int) (by omega) hlt'
      replace hx0 := (HB.out.cell (World.block_lt_of_cell? w _ hx0)).trans hx0
      replace hx1 := (HB.out.cell (World.block_lt_of_cell? w _ hx1)).trans hx1
      rw [Int.toNat_natCast] at hx0 hx1
      have hrd : rd_T65 D (kk : Int) = D[kk] := by unfold rd_T65; rw [Int.toNat_natCast, List.getD_eq_getElem?_getD, List.getElem?_eq_getElem hlt]; rfl
      have HX := Aside0.mk (show In64 (rd_T65 D (kk : Int)).f0 ∧ In64 (rd_T65 D (kk : Int)).f1 by rw [hrd]; exact HD.out _ (List.getElem_mem hlt))
      have HN := Aside0.mk (show (acc ++ (nodeLine (rd_T65 D (kk : Int))).data.toList) ++ nodesT (D.drop (kk + 1)) = nodesT D by rw [← HE.out, List.drop_eq_getElem_cons hlt, hrd, List.append_assoc]; rfl)
      clear HE hrd
      generalize rd_T65 D (kk : Int) = x at hx0 hx1 HX HN
      have q0 := eq_true (show (0 : Int) ≤ (kk : Int) by omega)
      have q1 := eq_true hlt'
      go_wp2_with (first | ((with_reducible refine gate_dst (N := 19) rfl ?_); refine Kd.R_lit (Kd.int .i64) _ 2 ?hg (N := 19) ?hd (xs := ([x.f0, x.f1] : List Int)) (inner := [.int .i64 x.f0, .int .i64 x.f1]) (ok := fun _ => True) (okp := fun _ => True) ?hr ?hp (fun _ hk => hk) trivial (Below.refl _ _) (Nat.le_refl _) (by simp) ?_; (case hd => rfl); (case hg => rfl); (case hr => first | (go_simp; done) | (go_simp; rfl)); (case hp => exact (Reps.one (show Kd.M (Kd.int .i64) _ _ _ x.f0 [.int .i64 x.f0] from rfl) (Reps.one (show Kd.M (Kd.int .i64) _ _ _ x.f1 [.int .i64 x.f1] from rfl) (Reps.none _ _)))); intro v240 w4 ho5 hb hg_ hnew_; clear hg_ hnew_))
      have HB3 := Aside0.mk (below_step (below_alloc HB.out (.cells #[.int .i64 x.f0, .int .i64 x.f1] 65)) hb)
      have BT3 := Aside0.mk (blk_below (blk_alloc BT.out (.cells #[.int .i64 x.f0, .int .i64 x.f1] 65)) hb)
      have HU3 := Aside0.mk (builder_below (builder_below HU.out (below_alloc (Below.refl _ _) (.cells #[.int .i64 x.f0, .int .i64 x.f1] 65))) hb)
      clear hb HB BT HU hx0 hx1
      obtain ⟨Av, cv, rfl⟩ := Kd.R_slice ho5
      obtain ⟨-, hlv, hCv⟩ := Kd.R_reads' ho5
      clear ho5
      refine (textLine_at ⟨#[110, 111, 100, 101]⟩ Av cv [x.f0, x.f1] w4 hCv hlv (by simp; exact ⟨HX.out.1, HX.out.2⟩) (by have : (⟨#[110, 111, 100, 101]⟩ : ByteArray).size = 4 := rfl; simp only [List.length_cons, List.length_nil]; omega) (HT.out.on HB3.out)).mono ?_
      rintro e w5 ⟨rfl, hb5⟩
      have HB5 := Aside0.mk (below_step HB3.out hb5)
      have BT5 := Aside0.mk (blk_below BT3.out hb5)
      have HU5 := Aside0.mk (builder_below HU3.out hb5)
      clear hb5 HB3 BT3 HU3 hlv hCv
      have HZ := Aside0.mk (show (nodeLine x).size ≤ 1000 by
        have h1 := lineB_size [x.f0, x.f1] ⟨#[110, 111, 100, 101]⟩ (by simp; exact ⟨HX.out.1, HX.out.2⟩)
        have h2 : (⟨#[110, 111, 100, 101]⟩ : ByteArray).size = 4 := rfl
        have h3 : (⟨#[10]⟩ : ByteArray).size = 1 := rfl
        simp only [List.length_cons, List.length_nil] at h1
        unfold nodeLine
        rw [size_app]
        omega)
      go_wp2_with fail
      refine (writeString_at gb gb (Lib.byteCells acc) (nodeLine x) w5 HU5.out (by rw [Lib.byteCells_length]; have := HZ.out; have := HS.out; have := HL.out; omega) (by have := builder_lt HU5.out; omega)).mono ?_
      rintro e w6 ⟨rfl, hu, hb6, -⟩
      have HU6 := Aside0.mk (show Lib.IsBuilder 76 5 gb gb (Lib.byteCells (acc ++ (nodeLine x).data.toList)) w6 from .inr (by rw [← cells_app]; exact hu))
      have HB6 := Aside0.mk (HB5.out.trans (hb6.mono (by have := HG.out; omega)))
      have BT6 := Aside0.mk ((hb6.block gt HG.out.1).trans BT5.out)
      have HS6 := Aside0.mk (show (acc ++ (nodeLine x).data.toList).length ≤ 1000 * (kk + 1) by rw [List.length_append, len_bytes]; have := HZ.out; have := HS.out; omega)
      clear hu hb6 HB5 BT5 HU5
      go_wp2_with fail
      go_roundg (gk - 1)
      case measure => omega
      case rel => exact ⟨kk + 1, _, by omega, by omega, by rw [show wrap64 ((kk : Int) + 1) = ((kk + 1 : Nat) : Int) from by have := HL.out; unfold wrap64; omega], HN, HS6, HB6, BT6, HU6⟩
    · obtain rfl : kk = D.length := by omega
      have HE2 := Aside0.mk (show acc = nodesT D by have := HE.out; rw [List.drop_length] at this; simpa [nodesT] using this)
      have HS2 := Aside0.mk (show acc.length ≤ 1000000 by have := HS.out; have := HL.out; omega)
      have ht1 := (blk_cell BT.out 1).trans rfl
      clear HE HS hg hlt
      go_wp2_with fail
      go_loopg [26] B.length (fun gg v26 wr => ∃ (kk : Nat) (acc : List UInt8), kk ≤ B.length ∧ (B.length : Int) - kk ≤ gg ∧ v26 = .int .i64 (kk : Int) ∧ Aside0 (acc ++ bktsT (B.drop kk) = nodesT D ++ bktsT B) ∧ Aside0 (acc.length ≤ 1000000 + 30000 * kk) ∧ Aside0 (Below w.heap.size w wr) ∧ Aside0 (wr.heap[gt]? = some (.cells #[.slice A0 D.length c0, .slice A1 B.length c1] 32 (0, 0))) ∧ Aside0 (Lib.IsBuilder 76 5 gb gb (Lib.byteCells acc) wr))
      case atStart => exact ⟨0, acc, by omega, by omega, rfl, ⟨by rw [HE2.out]; rfl⟩, ⟨by have := HS2.out; omega⟩, HB, BT, HU⟩
      case round =>
        clear HB BT HU HE2 HS2 ht1
        clear acc
        obtain ⟨kk, acc, hk, hg, rfl, HE, HS, HB, BT, HU⟩ := hrel
        by_cases hlt : kk < B.length
        · have hlt' : (kk : Int) < (B.length : Int) := by omega
          obtain ⟨ad, A2, c2, rfl, hx0, hx1, hx2, hl2, hg2⟩ := at_T62 HR1.out (kk : Int) (by omega) hlt'
          replace hx0 := (HB.out.cell (World.block_lt_of_cell? w _ hx0)).trans hx0
          replace hx1 := (HB.out.cell (World.block_lt_of_cell? w _ hx1)).trans hx1
          replace hx2 := (HB.out.cell (World.block_lt_of_cell? w _ hx2)).trans hx2
          rw [Int.toNat_natCast] at hx0 hx1 hx2
          have hrd : rd_T62 B (kk : Int) = B[kk] := by unfold rd_T62; rw [Int.toNat_natCast, List.getD_eq_getElem?_getD, List.getElem?_eq_getElem hlt]; rfl
          have HX := Aside0.mk (HBK.out (rd_T62 B (kk : Int)) (by rw [hrd]; exact List.getElem_mem hlt))
          have HN := Aside0.mk (show (acc ++ (bktLine (rd_T62 B (kk : Int))).data.toList) ++ bktsT (B.drop (kk + 1)) = nodesT D ++ bktsT B by rw [← HE.out, List.drop_eq_getElem_cons hlt, hrd, List.append_assoc]; rfl)
          have HG2 := Aside0.mk hg2
          have HL2 := Aside0.mk hl2
          clear HE hrd hg2 hl2
          generalize rd_T62 B (kk : Int) = x at hx0 hx1 hx2 HX HN HG2 HL2
          have q0 := eq_true (show (0 : Int) ≤ (kk : Int) by omega)
          have q1 := eq_true hlt'
          go_wp2_with fail
          have HB3 := Aside0.mk (below_alloc HB.out (.cells #[.int .i64 x.f0, .int .i64 x.f1, .slice A2 x.f2.length c2] 62))
          have BT3 := Aside0.mk (blk_alloc BT.out (.cells #[.int .i64 x.f0, .int .i64 x.f1, .slice A2 x.f2.length c2] 62))
          have HU3 := Aside0.mk (builder_below HU.out (below_alloc (Below.refl _ _) (.cells #[.int .i64 x.f0, .int .i64 x.f1, .slice A2 x.f2.length c2] 62)))
          have BX := Aside0.mk (blk_new wr (.cells #[.int .i64 x.f0, .int .i64 x.f1, .slice A2 x.f2.length c2] 62))
          have HGX := Aside0.mk (show gb < wr.heap.size from builder_lt HU.out)
          clear HB BT HU hx0 hx1 hx2
          generalize wr.alloc (.cells #[.int .i64 x.f0, .int .i64 x.f1, .slice A2 x.f2.length c2] 62) = w2 at HB3 BT3 HU3 BX ⊢
          generalize wr.heap.size = gx at BX HGX ⊢
          have hbx0 := (blk_cell BX.out 0).trans rfl
          have hbx1 := (blk_cell BX.out 1).trans rfl
          have hbx2 := (blk_cell BX.out 2).trans rfl
          have HXI := Aside0.mk (show ∀ y ∈ [x.f0] ++ x.f2, -9223372036854775808 ≤ y ∧ y ≤ 9223372036854775807 from fun y hy => by
            rcases List.mem_append.1 hy with h | h
            · rw [List.mem_singleton.1 h]; exact HX.out.1
            · exact HX.out.2.2.2 y h)
          have HXS := Aside0.mk (show (kwB x.f1).size + 22 * ([x.f0] ++ x.f2).length + 1 ≤ 1000000000 by rw [kwB_size, List.length_append, List.length_singleton]; have := HX.out.2.2.1; omega)
          have HZ := Aside0.mk (show (bktLine x).size ≤ 30000 by
            have h1 := lineB_size (x.f0 :: x.f2) (kwB x.f1) HXI.out
            have h3 : (⟨#[10]⟩ : ByteArray).size = 1 := rfl
            have h4 := kwB_size x.f1
            have h5 := HX.out.2.2.1
            rw [List.length_cons] at h1
            unfold bktLine
            rw [size_app]
            omega)
          have HXL := Aside0.mk (show (Lib.byteCells acc).length + (bktLine x).size ≤ 140737488355328 by rw [Lib.byteCells_length]; have := HZ.out; have := HS.out; have := HM.out; omega)
          have HKB := Aside0.mk (show ∀ w', Below w2.heap.size w2 w' → (fun w' => w'.cell? ⟨gx, 0, none⟩ = some (.int .i64 x.f0) ∧ w'.cell? ⟨gx, 1, none⟩ = some (.int .i64 x.f1) ∧ w'.cell? ⟨gx, 2, none⟩ = some (.slice A2 x.f2.length c2)) w' from fun w' h => ⟨(h.cell (blk_lt BX.out)).trans hbx0, (h.cell (blk_lt BX.out)).trans hbx1, (h.cell (blk_lt BX.out)).trans hbx2⟩)
          have hbb0 : Below w2.heap.size w2 w2.drew := below_drew1 (Below.refl _ _)
          clear hbx0 hbx1 hbx2
          go_region_held3 (fun w' => w'.cell? ⟨gx, 0, none⟩ = some (.int .i64 x.f0) ∧ w'.cell? ⟨gx, 1, none⟩ = some (.int .i64 x.f1) ∧ w'.cell? ⟨gx, 2, none⟩ = some (.slice A2 x.f2.length c2)) (first | exact HKB.out _ hbb | exact ⟨(blk_cell hbx9 0).trans rfl, (blk_cell hbx9 1).trans rfl, (blk_cell hbx9 2).trans rfl⟩ | exact ⟨by assumption, by assumption, by assumption⟩ | exact HKB.out _ (below_drew1 (below_alloc (Below.refl _ _) _)) | exact HKB.out _ (below_drew1 (Below.refl _ _)) | exact HKB.out _ (Below.refl _ _)) (first | (go_at_call 42; (with_reducible refine (kindWord_at x.f1 _ HX.out.2.1.1 HX.out.2.1.2).mono ?_); rintro e wk ⟨rfl, rfl⟩) | (have hbA : Below w2.heap.size w2 (w2.alloc (.cells #[.int .i64 x.f0] 2)).drew := below_drew1 (below_alloc (Below.refl _ _) _); refine Kd.R_append_rows_step (Kd.int .i64) (w0 := w2) w2.heap.size (by rfl) (.tmp 35) (.tmp 37) 58 2 (.int .i64 0) 8 rfl Tryd.underlying58 info2 rfl (by decide) (by omega) (.slice (some ⟨w2.heap.size, 0, none⟩) 1 1) [x.f0] x.f2 _ _ _ (fun _ => True) (fun _ => False) rfl rfl ?aO ?aR (fun _ _ h => h) (fun _ h => h.elim) ?aF ?aB ?aS ?aL ?_; (case aO => exact Kd.R_drew (lit1_own w2 _ (Nat.le_refl _) x.f0)); (case aR => exact Kd.C_below HG2.out (below_step HB3.out (show Below w2.heap.size w2 _ by assumption))); (case aF => exact fun _ _ => trivial); (case aB => exact hbA); (case aS => exact below_size (show Below w2.heap.size w2 _ by assumption)); (case aL => have := HX.out.2.2.1; simp only [List.length_cons, List.length_nil]; omega); intro v38 w5 ho7 hbb hg_ hat_; clear hg_ hat_; obtain ⟨Av, cv, rfl⟩ := Kd.R_slice ho7; obtain ⟨-, hlv, hCv⟩ := Kd.R_reads' ho7) | (go_at_call 41; (refine (textLine_at (kwB x.f1) Av cv ([x.f0] ++ x.f2) _ hCv hlv HXI.out HXS.out (HT.out.on (below_step HB3.out (show Below w2.heap.size w2 _ by assumption)))).mono ?_); rintro e w6 ⟨rfl, hb⟩; have hbb : Below w2.heap.size w2 w6 := below_step (show Below w2.heap.size w2 _ by assumption) hb) | (go_at_call 40; (refine (writeString_at gb gb (Lib.byteCells acc) (bktLine x) _ (builder_below HU3.out (show Below w2.heap.size w2 _ by assumption)) HXL.out (Nat.le_trans (Nat.le_of_lt (builder_lt HU3.out)) (below_size (show Below w2.heap.size w2 _ by assumption)))).mono ?_); rintro e w7 ⟨rfl, hu, hb7, hk7⟩; have hbx9 := hk7 gx _ _ (blk_below BX.out (show Below w2.heap.size w2 _ by assumption)) (by decide) (Nat.ne_of_gt HGX.out); have hbt9 := hk7 gt _ _ (blk_below BT3.out (show Below w2.heap.size w2 _ by assumption)) (by decide) (Nat.ne_of_lt HG.out.1)))
          all_goals
            have HU7 := Aside0.mk (show Lib.IsBuilder 76 5 gb gb (Lib.byteCells (acc ++ (bktLine x).data.toList)) w7 from .inr (by rw [← cells_app]; exact hu))
            have HB7 := Aside0.mk ((below_step HB3.out hbb).trans (hb7.mono (by have := HG.out; omega)))
            have BT7 := Aside0.mk hbt9
            have HS7 := Aside0.mk (show (acc ++ (bktLine x).data.toList).length ≤ 1000000 + 30000 * (kk + 1) by rw [List.length_append, len_bytes]; have := HZ.out; have := HS.out; omega)
            clear hu hb7 hk7 hbx9 hbt9 hbb HB3 BT3 HU3 BX HKB
            go_wp2_with fail
            go_roundg (gk - 1)
            case measure => omega
            case rel => exact ⟨kk + 1, _, by omega, by omega, by rw [show wrap64 ((kk : Int) + 1) = ((kk + 1 : Nat) : Int) from by have := HM.out; unfold wrap64; omega], HN, HS7, HB7, BT7, HU7⟩
        · obtain rfl : kk = B.length := by omega
          have HE2 := Aside0.mk (show acc = nodesT D ++ bktsT B by have := HE.out; rw [List.drop_length] at this; simpa [bktsT] using this)
          clear HE HS hg hlt
          go_wp2_with fail
          refine (Tryd.Builder_String_any gb gb acc wr HU.out (Nat.le_of_lt (builder_lt HU.out))).mono ?_
          rintro e w8 ⟨rfl, hb8⟩
          have HB8 := Aside0.mk (HB.out.trans (hb8.mono (by have := HG.out; omega)))
          clear hb8
          go_wp2_with fail
          go_ret
          exact ⟨by rw [← HE2.out]; rfl, HB8.out⟩

end Go.Proofs.YtohjpgcmhihdhaaDoorW.PrintMore

namespace Go.Proofs.YtohjpgcmhihdhaaDoor.Q
open Go.RowKit Go.Proofs.YtohjpgcmhihdhaaDoorW.PrintWords Go.Proofs.YtohjpgcmhihdhaaDoorW.PrintLast Go.Proofs.YtohjpgcmhihdhaaDoorW.PrintMore
attribute [local go_sem] max2_int min2_int max_two min_two max_three min_three max_four min_four   -- for this text's walks alone
set_option linter.unusedVariables false
set_option linter.unusedSimpArgs false
/-! ### spec_l06Text: function 16 -/
mutual
def spec_l06Text.l0 : Nat → ByteArray → Int → List (S65) → List (S62) → Option (ByteArray)
  | 0, _, _, _, _ => none
  | k + 1, x3, x4, x161000, x161001 => if x4 < (x161000.length : Int) then (if 0 ≤ x4 then ((spec_l06Num.f k ((rd_T65 x161000 x4).f0)).bind fun t162 => (if 5 + t162.size ≤ 9223372036854775807 then (if ((⟨#[110, 111, 100, 101, 32]⟩ : ByteArray) ++ t162).size + 1 ≤ 9223372036854775807 then ((spec_l06Num.f k ((rd_T65 x161000 x4).f1)).bind fun t164 => (if (((⟨#[110, 111, 100, 101, 32]⟩ : ByteArray) ++ t162) ++ (⟨#[32]⟩ : ByteArray)).size + t164.size ≤ 9223372036854775807 then (if ((((⟨#[110, 111, 100, 101, 32]⟩ : ByteArray) ++ t162) ++ (⟨#[32]⟩ : ByteArray)) ++ t164).size + 1 ≤ 9223372036854775807 then (if x3.size + (((((⟨#[110, 111, 100, 101, 32]⟩ : ByteArray) ++ t162) ++ (⟨#[32]⟩ : ByteArray)) ++ t164) ++ (⟨#[10]⟩ : ByteArray)).size ≤ 9223372036854775807 then (spec_l06Text.l0 k (x3 ++ (((((⟨#[110, 111, 100, 101, 32]⟩ : ByteArray) ++ t162) ++ (⟨#[32]⟩ : ByteArray)) ++ t164) ++ (⟨#[10]⟩ : ByteArray))) (wrap64 (x4 + 1)) x161000 x161001) else (none)) else (none)) else (none))) else (none)) else (none))) else (none)) else (spec_l06Text.l1 k x3 0 x161000 x161001)
def spec_l06Text.l1 : Nat → ByteArray → Int → List (S65) → List (S62) → Option (ByteArray)
  | 0, _, _, _, _ => none
  | k + 1, x3, x5, x161000, x161001 => if x5 < (x161001.length : Int) then (if 0 ≤ x5 then ((some (([(⟨#[104, 111, 115, 116]⟩ : ByteArray), (⟨#[114, 97, 99, 107]⟩ : ByteArray), (⟨#[114, 111, 111, 116]⟩ : ByteArray)] : List ByteArray) : List ByteArray)).bind fun y167 => (if 0 ≤ (wrap64 (((rd_T62 x161001 x5).f1) - 1)) then (if (wrap64 (((rd_T62 x161001 x5).f1) - 1)) < (y167.length : Int) then (if (rdOf ByteArray.empty y167 (wrap64 (((rd_T62 x161001 x5).f1) - 1))).size + 1 ≤ 9223372036854775807 then ((spec_l06Num.f k ((rd_T62 x161001 x5).f0)).bind fun t171 => (if ((rdOf ByteArray.empty y167 (wrap64 (((rd_T62 x161001 x5).f1) - 1))) ++ (⟨#[32]⟩ : ByteArray)).size + t171.size ≤ 9223372036854775807 then (if x3.size + (((rdOf ByteArray.empty y167 (wrap64 (((rd_T62 x161001 x5).f1) - 1))) ++ (⟨#[32]⟩ : ByteArray)) ++ t171).size ≤ 9223372036854775807 then (spec_l06Text.l2 k (x3 ++ (((rdOf ByteArray.empty y167 (wrap64 (((rd_T62 x161001 x5).f1) - 1))) ++ (⟨#[32]⟩ : ByteArray)) ++ t171)) x5 0 x161000 x161001 ((rd_T62 x161001 x5).f0) ((rd_T62 x161001 x5).f1) ((rd_T62 x161001 x5).f2)) else (none)) else (none))) else (none)) else (none)) else (none))) else (none)) else (some x3)
def spec_l06Text.l2 : Nat → ByteArray → Int → Int → List (S65) → List (S62) → Int → Int → List Int → Option (ByteArray)
  | 0, _, _, _, _, _, _, _, _ => none
  | k + 1, x3, x5, x7, x161000, x161001, x167000, x167001, x167002 => if x7 < (x167002.length : Int) then (if 0 ≤ x7 then ((spec_l06Num.f k (rd x167002 x7)).bind fun t173 => (if 1 + t173.size ≤ 9223372036854775807 then (if x3.size + ((⟨#[32]⟩ : ByteArray) ++ t173).size ≤ 9223372036854775807 then (spec_l06Text.l2 k (x3 ++ ((⟨#[32]⟩ : ByteArray) ++ t173)) x5 (wrap64 (x7 + 1)) x161000 x161001 x167000 x167001 x167002) else (none)) else (none))) else (none)) else (if x3.size + 1 ≤ 9223372036854775807 then (spec_l06Text.l1 k (x3 ++ (⟨#[10]⟩ : ByteArray)) (wrap64 (x5 + 1)) x161000 x161001) else (none))
end
def spec_l06Text.f (k : Nat) (l0_0 : List (S65)) (l0_1 : List (S62)) : Option (ByteArray) := spec_l06Text.l0 k (⟨#[]⟩ : ByteArray) 0 l0_0 l0_1
def spec_l06Text.T5 : Bool × List (List Nat × List Nat) := (true, [([], []), ([], []), ([1], [1]), ([], []), ([2, 3], [2, 3]), ([4], [4]), ([5], [5]), ([6], [6]), ([7], [7]), ([8], [8]), ([], []), ([10], [10]), ([], []), ([11, 12], [11, 12]), ([13], [13]), ([14], [14]), ([15, 7], [15]), ([9, 16], [9, 16]), ([17], [17]), ([0, 18], [0, 18]), ([19, 16, 0, 1, 2, 3, 4, 5, 6, 7, 8, 9, 10, 11, 12, 13, 14, 15, 16, 17, 18, 19], [0, 19])])
def spec_l06Text.B5 : List Nat := [0, 0, 2, 0, 14, 30, 62, 126, 254, 510, 0, 1024, 0, 7168, 15360, 31744, 64766, 131070, 262142, 524287, 1048575]
theorem spec_l06Text.tab5 : rtab .any (opsOf Tryd.f16 5) = spec_l06Text.T5 := by kernel_rfl
theorem spec_l06Text.bits5 : waitsOk spec_l06Text.T5.2 spec_l06Text.B5 = true := by kernel_rfl
def spec_l06Text.T10 : Bool × List (List Nat × List Nat) := (true, [([], []), ([], []), ([], []), ([2], [2]), ([3], [3]), ([1, 4], [1, 4]), ([5], [5]), ([6], [6]), ([], []), ([8], [8]), ([9], [9]), ([7, 10], [7, 10]), ([0, 11], [0, 11]), ([12, 10, 0, 1, 2, 3, 4, 5, 6, 7, 8, 9, 10, 11, 12], [0, 12])])
def spec_l06Text.B10 : List Nat := [0, 0, 0, 4, 12, 30, 62, 126, 0, 256, 768, 2046, 4095, 8191]
theorem spec_l06Text.tab10 : rtab .any (opsOf Tryd.f16 10) = spec_l06Text.T10 := by kernel_rfl
theorem spec_l06Text.bits10 : waitsOk spec_l06Text.T10.2 spec_l06Text.B10 = true := by kernel_rfl
def az_z16 (n m : Nat) : Array Bool := (List.replicate n true ++ List.replicate m false).toArray
def mz16_0 : Array Bool := az_z16 0 21
def mz16_1 : Array Bool := az_z16 1 20
def mz16_2 : Array Bool := az_z16 2 19
def mz16_3 : Array Bool := #[true, true, false, true, false, false, false, false, false, false, false, false, false, false, false, false, false, false, false, false, false]
def mz16_4 : Array Bool := #[true, true, false, true, false, false, false, false, false, false, true, false, false, false, false, false, false, false, false, false, false]
def mz16_5 : Array Bool := #[true, true, false, true, false, false, false, false, false, false, true, false, true, false, false, false, false, false, false, false, false]
def mz16_6 : Array Bool := #[true, true, true, true, false, false, false, false, false, false, true, false, true, false, false, false, false, false, false, false, false]
def mz16_7 : Array Bool := #[true, true, true, true, true, false, false, false, false, false, true, false, true, false, false, false, false, false, false, false, false]
def mz16_8 : Array Bool := #[true, true, true, true, true, true, false, false, false, false, true, false, true, false, false, false, false, false, false, false, false]
def mz16_9 : Array Bool := #[true, true, true, true, true, true, true, false, false, false, true, false, true, false, false, false, false, false, false, false, false]
def mz16_10 : Array Bool := #[true, true, true, true, true, true, true, false, false, false, true, true, true, false, false, false, false, false, false, false, false]
def mz16_11 : Array Bool := #[true, true, true, true, true, true, true, false, false, false, true, true, true, true, false, false, false, false, false, false, false]
def mz16_12 : Array Bool := #[true, true, true, true, true, true, true, false, false, false, true, true, true, true, true, false, false, false, false, false, false]
def mz16_13 : Array Bool := #[true, true, true, true, true, true, true, false, false, false, true, true, true, true, true, true, false, false, false, false, false]
def mz16_14 : Array Bool := #[true, true, true, true, true, true, true, true, false, false, true, true, true, true, true, true, false, false, false, false, false]
def mz16_15 : Array Bool := #[true, true, true, true, true, true, true, true, true, false, true, true, true, true, true, true, false, false, false, false, false]
def mz16_16 : Array Bool := az_z16 16 5
def mz16_17 : Array Bool := az_z16 17 4
def mz16_18 : Array Bool := az_z16 18 3
def mz16_19 : Array Bool := az_z16 19 2
def mz16_20 : Array Bool := az_z16 20 1
def mz16_21 : Array Bool := az_z16 21 0
def mz16_22 : Array Bool := az_z16 0 14
def mz16_23 : Array Bool := az_z16 1 13
def mz16_24 : Array Bool := #[true, false, true, false, false, false, false, false, false, false, false, false, false, false]
def mz16_25 : Array Bool := #[true, false, true, false, false, false, false, false, true, false, false, false, false, false]
def mz16_26 : Array Bool := #[true, false, true, true, false, false, false, false, true, false, false, false, false, false]
def mz16_27 : Array Bool := #[true, false, true, true, true, false, false, false, true, false, false, false, false, false]
def mz16_28 : Array Bool := #[true, false, true, true, true, false, false, false, true, true, false, false, false, false]
def mz16_29 : Array Bool := az_z16 11 3
def mz16_30 : Array Bool := #[true, true, true, true, true, false, false, false, true, true, false, false, false, false]
def mz16_31 : Array Bool := #[true, false, true, true, true, false, false, false, true, true, true, false, false, false]
def mz16_32 : Array Bool := #[true, true, true, true, true, true, false, false, true, true, false, false, false, false]
def mz16_33 : Array Bool := #[true, true, true, true, true, true, true, false, true, true, false, false, false, false]
def mz16_34 : Array Bool := #[true, true, true, true, true, true, false, false, true, true, true, false, false, false]
def mz16_35 : Array Bool := az_z16 10 4
def mz16_36 : Array Bool := #[true, true, true, true, true, true, true, false, true, true, true, false, false, false]
def mz16_37 : Array Bool := #[true, true, true, true, true, false, false, false, true, true, true, false, false, false]
def mz16_38 : Array Bool := az_z16 12 2
def mz16_39 : Array Bool := az_z16 13 1
def mz16_40 : Array Bool := az_z16 14 0
theorem pu_z16 {P : Program} {ops : Array Oper} {Q : Exit → Act → World → Prop} {md : Region.Mode} {S : World → Prop} {ds : List Nat} {oi : Oper} {fuel : Nat} {l : Array Bool} {a : Act} {w : World} (i : Nat) (N : Option Tmp) (v : Value) (l' : Array Bool) (hi : ops[i]? = some oi) (hN : oi.dst = N) (hc : anyB md ops l l' i = true)
    (hQ : ∀ c a w, Q (.panic c) (a.put oi.dst v) w → Q (.panic c) a w) (hy : Yields P ops oi v a) (a' : Act) (ha : a.put N v = a')
    (h : wpAnyLast P md ops Q S ds fuel l' a' w) : wpAnyLast P md ops Q S ds (fuel + 1) l a w := pure_ l' hi hN hc hQ hy ha h
theorem pq_z16 : (∀ (l : List Value) (i : Nat) (v : Value), l.toArray.setIfInBounds i v = (l.set i v).toArray) ∧ (∀ (x v : Value) (xs : List Value), (x :: xs).set 0 v = v :: xs) ∧ (∀ (x v : Value) (xs : List Value) (n : Nat), (x :: xs).set (n + 1) v = x :: xs.set n v) ∧ (∀ n : Int, IntKind.i64.wrap n = Go.RowKit.wrap64 n) ∧ (∀ n : Int, IntKind.i32.wrap n = Go.RowKit.wrap32 n) :=
  ⟨fun l i v => List.setIfInBounds_toArray l i v, fun _ _ _ => rfl, fun _ _ _ _ => rfl, i64_w, i32_w⟩
set_option maxHeartbeats 8000000 in
set_option maxRecDepth 100000 in
theorem spec_l06Text.calls (k : Nat) (A0_0 : Option Addr) (c0_0 : Nat) (l0_0 : List (S65)) (A0_1 : Option Addr) (c0_1 : Nat) (l0_1 : List (S62)) (r : ByteArray) (w : World) (hr0_0 : Kd.C k65 w A0_0 l0_0.length l0_0) (hc0_0 : l0_0.length ≤ c0_0) (hr0_1 : Kd.C k62 w A0_1 l0_1.length l0_1) (hc0_1 : l0_1.length ≤ c0_1) (h : spec_l06Text.f k l0_0 l0_1 = some r) :
  Calls Tryd.prog 16 #[.agg #[.slice A0_0 l0_0.length c0_0, .slice A0_1 l0_1.length c0_1]] w fun e w' => e = .returned (.string r) ∧ Below w.heap.size w w' := by
 have hu32 := Tryd.underlying32
 have hu62 := Tryd.underlying62
 have HR0_0 := Aside0.mk hr0_0
 have HC0_0 := Aside0.mk hc0_0
 clear hr0_0 hc0_0
 have HR0_1 := Aside0.mk hr0_1
 have HC0_1 := Aside0.mk hc0_1
 clear hr0_1 hc0_1
 have HB := Aside0.mk (Below.refl w.heap.size w)
 have H : (spec_l06Text.l0 k (⟨#[]⟩ : ByteArray) 0 l0_0 l0_1) = some r := h
 clear h
 have H' := Aside0.mk H
 clear H
 go_enter Tryd.func16, Tryd.ntmps16
 go_wp2_with (first | ((with_reducible refine gate_dst (N := 1) rfl ?_); refine box_event ?hg (N := 1) ?hd (cs := #[.slice A0_0 l0_0.length c0_0, .slice A0_1 l0_1.length c0_1]) (t := 32) ?hr ?_; (case hd => rfl); (case hg => rfl); (case hr => first | (go_simp; done) | (go_simp; rfl)); intro gb160 hg w2 hbox hb; have n0_ := Aside0.mk (below_step (by repeat first | exact HB.out | apply below_alloc | apply pw_below_drewN | apply below_drew1) hb); have n1_ := Aside0.mk (hbox); have n2_ := Aside0.mk ((by rw [hg]; exact (below_size (by repeat first | exact HB.out | apply below_alloc | apply pw_below_drewN | apply below_drew1)) : w.heap.size ≤ gb160)); have n3_ := Aside0.mk ((by rw [hg]; exact (below_size (by repeat first | exact HB.out | apply below_alloc | apply pw_below_drewN | apply below_drew1)) : w.heap.size ≤ gb160)); clear HB; have HB := n0_; have BK160 := n1_; have GW160 := n2_; have GE160 := n3_; clear n0_ n1_ n2_ n3_; clear hb hbox hg))
 go_loopg [3, 4] k (fun kq v3 v4 w' => ∃ (x3_1 : ByteArray) (x4_1 : Int), v3 = .string x3_1 ∧ v4 = .int .i64 x4_1 ∧ Aside0 (spec_l06Text.l0 kq x3_1 x4_1 l0_0 l0_1 = some r) ∧ Aside0 (kq ≤ k) ∧ Aside0 (w'.heap[gb160]? = some (.cells #[(.slice A0_0 l0_0.length c0_0), (.slice A0_1 l0_1.length c0_1)] 32 (0, 0))) ∧ Aside0 (Below w.heap.size w w'))
 case atStart => exact ⟨((⟨#[]⟩ : ByteArray)), (0), (by first | rfl | (simp; done) | (simp [*]; done)), (by first | rfl | (simp; done) | (simp [*]; done)), H', ⟨Nat.le_refl _⟩, ⟨by (with_reducible repeat first | apply blk_drewN | apply blk_drew | apply blk_alloc); exact BK160.out⟩, ⟨by repeat (first | (with_reducible first | exact HB.out | apply below_alloc | apply pw_below_drewN | apply below_drew1 | refine below_set ?_ GE160.out) | exact HB.out)⟩⟩
 case round =>
  clear H'
  try clear c1
  try clear p2
  obtain ⟨x3_1, x4_1, rfl, rfl, HA, HK1, BK160, HB⟩ := hrel
  cases gk with
  | zero => exact absurd HA.out (by simp [spec_l06Text.l0])
  | succ k1 =>
   have H := HA.out
   clear HA
   simp only [spec_l06Text.l0] at H
   by_cases c3 : x4_1 < (l0_0.length : Int)
   ·rw [if_pos c3] at H
    have c3b0 : decide (x4_1 < (l0_0.length : Int)) = true := decide_eq_true c3
    clear c3
    by_cases c4 : 0 ≤ x4_1
    ·rw [if_pos c4] at H
     have c4b0 : decide (0 ≤ x4_1) = true := decide_eq_true c4
     clear c4
     replace H := Option.bind_eq_some_iff.mp H
     obtain ⟨t162, A50, H⟩ := H
     replace H : (if 5 + t162.size ≤ 9223372036854775807 then (if ((⟨#[110, 111, 100, 101, 32]⟩ : ByteArray) ++ t162).size + 1 ≤ 9223372036854775807 then ((spec_l06Num.f k1 ((rd_T65 l0_0 x4_1).f1)).bind fun t164 => (if (((⟨#[110, 111, 100, 101, 32]⟩ : ByteArray) ++ t162) ++ (⟨#[32]⟩ : ByteArray)).size + t164.size ≤ 9223372036854775807 then (if ((((⟨#[110, 111, 100, 101, 32]⟩ : ByteArray) ++ t162) ++ (⟨#[32]⟩ : ByteArray)) ++ t164).size + 1 ≤ 9223372036854775807 then (if x3_1.size + (((((⟨#[110, 111, 100, 101, 32]⟩ : ByteArray) ++ t162) ++ (⟨#[32]⟩ : ByteArray)) ++ t164) ++ (⟨#[10]⟩ : ByteArray)).size ≤ 9223372036854775807 then (spec_l06Text.l0 k1 (x3_1 ++ (((((⟨#[110, 111, 100, 101, 32]⟩ : ByteArray) ++ t162) ++ (⟨#[32]⟩ : ByteArray)) ++ t164) ++ (⟨#[10]⟩ : ByteArray))) (wrap64 (x4_1 + 1)) l0_0 l0_1) else (none)) else (none)) else (none))) else (none)) else (none)) = some r := H
     have A5 := Aside0.mk A50
     clear A50
     by_cases c6 : 5 + t162.size ≤ 9223372036854775807
     ·rw [if_pos c6] at H
      have c6b0 := eq_true c6
      have c6b1 : decide (5 + t162.size ≤ 9223372036854775807) = true := decide_eq_true c6
      try have c6b2 : (9223372036854775807 < 5 + t162.size) = False := eq_false (Nat.not_lt.2 c6)
      by_cases c7 : ((⟨#[110, 111, 100, 101, 32]⟩ : ByteArray) ++ t162).size + 1 ≤ 9223372036854775807
      ·rw [if_pos c7] at H
       have c7b0 := eq_true c7
       have c7b1 : decide (((⟨#[110, 111, 100, 101, 32]⟩ : ByteArray) ++ t162).size + 1 ≤ 9223372036854775807) = true := decide_eq_true c7
       try have c7b2 : (9223372036854775807 < ((⟨#[110, 111, 100, 101, 32]⟩ : ByteArray) ++ t162).size + 1) = False := eq_false (Nat.not_lt.2 c7)
       have c7n := c7
       simp only [ByteArray.size_append, show ((⟨#[104, 111, 115, 116]⟩ : ByteArray).size = 4) from rfl, show ((⟨#[10]⟩ : ByteArray).size = 1) from rfl, show ((⟨#[110, 111, 100, 101, 32]⟩ : ByteArray).size = 5) from rfl, show ((⟨#[114, 111, 111, 116]⟩ : ByteArray).size = 4) from rfl, show ((⟨#[114, 97, 99, 107]⟩ : ByteArray).size = 4) from rfl, show ((⟨#[32]⟩ : ByteArray).size = 1) from rfl, show ((⟨#[]⟩ : ByteArray).size = 0) from rfl] at c7n
       have c7b3 := eq_false (Nat.not_lt.2 c7n)
       clear c7n
       replace H := Option.bind_eq_some_iff.mp H
       obtain ⟨t164, A80, H⟩ := H
       replace H : (if (((⟨#[110, 111, 100, 101, 32]⟩ : ByteArray) ++ t162) ++ (⟨#[32]⟩ : ByteArray)).size + t164.size ≤ 9223372036854775807 then (if ((((⟨#[110, 111, 100, 101, 32]⟩ : ByteArray) ++ t162) ++ (⟨#[32]⟩ : ByteArray)) ++ t164).size + 1 ≤ 9223372036854775807 then (if x3_1.size + (((((⟨#[110, 111, 100, 101, 32]⟩ : ByteArray) ++ t162) ++ (⟨#[32]⟩ : ByteArray)) ++ t164) ++ (⟨#[10]⟩ : ByteArray)).size ≤ 9223372036854775807 then (spec_l06Text.l0 k1 (x3_1 ++ (((((⟨#[110, 111, 100, 101, 32]⟩ : ByteArray) ++ t162) ++ (⟨#[32]⟩ : ByteArray)) ++ t164) ++ (⟨#[10]⟩ : ByteArray))) (wrap64 (x4_1 + 1)) l0_0 l0_1) else (none)) else (none)) else (none)) = some r := H
       have A8 := Aside0.mk A80
       clear A80
       by_cases c9 : (((⟨#[110, 111, 100, 101, 32]⟩ : ByteArray) ++ t162) ++ (⟨#[32]⟩ : ByteArray)).size + t164.size ≤ 9223372036854775807
       ·rw [if_pos c9] at H
        have c9b0 := eq_true c9
        have c9b1 : decide ((((⟨#[110, 111, 100, 101, 32]⟩ : ByteArray) ++ t162) ++ (⟨#[32]⟩ : ByteArray)).size + t164.size ≤ 9223372036854775807) = true := decide_eq_true c9
        try have c9b2 : (9223372036854775807 < (((⟨#[110, 111, 100, 101, 32]⟩ : ByteArray) ++ t162) ++ (⟨#[32]⟩ : ByteArray)).size + t164.size) = False := eq_false (Nat.not_lt.2 c9)
        have c9n := c9
        simp only [ByteArray.size_append, show ((⟨#[104, 111, 115, 116]⟩ : ByteArray).size = 4) from rfl, show ((⟨#[10]⟩ : ByteArray).size = 1) from rfl, show ((⟨#[110, 111, 100, 101, 32]⟩ : ByteArray).size = 5) from rfl, show ((⟨#[114, 111, 111, 116]⟩ : ByteArray).size = 4) from rfl, show ((⟨#[114, 97, 99, 107]⟩ : ByteArray).size = 4) from rfl, show ((⟨#[32]⟩ : ByteArray).size = 1) from rfl, show ((⟨#[]⟩ : ByteArray).size = 0) from rfl] at c9n
        have c9b3 := eq_false (Nat.not_lt.2 c9n)
        clear c9n
        by_cases c10 : ((((⟨#[110, 111, 100, 101, 32]⟩ : ByteArray) ++ t162) ++ (⟨#[32]⟩ : ByteArray)) ++ t164).size + 1 ≤ 9223372036854775807
        ·rw [if_pos c10] at H
         have c10b0 := eq_true c10
         have c10b1 : decide (((((⟨#[110, 111, 100, 101, 32]⟩ : ByteArray) ++ t162) ++ (⟨#[32]⟩ : ByteArray)) ++ t164).size + 1 ≤ 9223372036854775807) = true := decide_eq_true c10
         try have c10b2 : (9223372036854775807 < ((((⟨#[110, 111, 100, 101, 32]⟩ : ByteArray) ++ t162) ++ (⟨#[32]⟩ : ByteArray)) ++ t164).size + 1) = False := eq_false (Nat.not_lt.2 c10)
         have c10n := c10
         simp only [ByteArray.size_append, show ((⟨#[104, 111, 115, 116]⟩ : ByteArray).size = 4) from rfl, show ((⟨#[10]⟩ : ByteArray).size = 1) from rfl, show ((⟨#[110, 111, 100, 101, 32]⟩ : ByteArray).size = 5) from rfl, show ((⟨#[114, 111, 111, 116]⟩ : ByteArray).size = 4) from rfl, show ((⟨#[114, 97, 99, 107]⟩ : ByteArray).size = 4) from rfl, show ((⟨#[32]⟩ : ByteArray).size = 1) from rfl, show ((⟨#[]⟩ : ByteArray).size = 0) from rfl] at c10n
         have c10b3 := eq_false (Nat.not_lt.2 c10n)
         clear c10n
         by_cases c11 : x3_1.size + (((((⟨#[110, 111, 100, 101, 32]⟩ : ByteArray) ++ t162) ++ (⟨#[32]⟩ : ByteArray)) ++ t164) ++ (⟨#[10]⟩ : ByteArray)).size ≤ 9223372036854775807
         ·rw [if_pos c11] at H
          have c11b0 := eq_true c11
          have c11b1 : decide (x3_1.size + (((((⟨#[110, 111, 100, 101, 32]⟩ : ByteArray) ++ t162) ++ (⟨#[32]⟩ : ByteArray)) ++ t164) ++ (⟨#[10]⟩ : ByteArray)).size ≤ 9223372036854775807) = true := decide_eq_true c11
          try have c11b2 : (9223372036854775807 < x3_1.size + (((((⟨#[110, 111, 100, 101, 32]⟩ : ByteArray) ++ t162) ++ (⟨#[32]⟩ : ByteArray)) ++ t164) ++ (⟨#[10]⟩ : ByteArray)).size) = False := eq_false (Nat.not_lt.2 c11)
          have c11n := c11
          simp only [ByteArray.size_append, show ((⟨#[104, 111, 115, 116]⟩ : ByteArray).size = 4) from rfl, show ((⟨#[10]⟩ : ByteArray).size = 1) from rfl, show ((⟨#[110, 111, 100, 101, 32]⟩ : ByteArray).size = 5) from rfl, show ((⟨#[114, 111, 111, 116]⟩ : ByteArray).size = 4) from rfl, show ((⟨#[114, 97, 99, 107]⟩ : ByteArray).size = 4) from rfl, show ((⟨#[32]⟩ : ByteArray).size = 1) from rfl, show ((⟨#[]⟩ : ByteArray).size = 0) from rfl] at c11n
          have c11b3 := eq_false (Nat.not_lt.2 c11n)
          clear c11n
          have H' := Aside0.mk H
          clear H
          have hcz12_0 : wr.cell? ⟨gb160, 0, none⟩ = some (.slice A0_0 l0_0.length c0_0) := (blk_cell BK160.out 0).trans rfl
          have hcz12_1 : wr.cell? ⟨gb160, 1, none⟩ = some (.slice A0_1 l0_1.length c0_1) := (blk_cell BK160.out 1).trans rfl
          have hfz12_0 := blk_frozen BK160.out 0
          have hfz12_1 := blk_frozen BK160.out 1
          try go_wp2
          have n0_ := Aside0.mk (blk_drew BK160.out)
          have n1_ := Aside0.mk (below_drew1 HB.out)
          clear BK160
          clear HB
          have BK160 := n0_
          have HB := n1_
          clear n0_ n1_
          have p161 : 0 ≤ (x4_1 : Int) := of_decide_eq_true (by assumption)
          have q161 : x4_1 < (l0_0.length : Int) := of_decide_eq_true (by assumption)
          obtain ⟨ad161, e161, hx161_0, hx161_1⟩ := at_T65 HR0_0.out x4_1 p161 q161
          have hw161_1 := hx161_1
          have hw161_0 := hx161_0
          cases e161
          replace hx161_0 := (HB.out.cell (World.block_lt_of_cell? w _ hx161_0)).trans hx161_0
          replace hx161_1 := (HB.out.cell (World.block_lt_of_cell? w _ hx161_1)).trans hx161_1
          replace p161 := eq_true p161
          replace q161 := eq_true q161
          have p163 : 0 ≤ (x4_1 : Int) := of_decide_eq_true (by assumption)
          have q163 : x4_1 < (l0_0.length : Int) := of_decide_eq_true (by assumption)
          obtain ⟨ad163, e163, hx163_0, hx163_1⟩ := at_T65 HR0_0.out x4_1 p163 q163
          have hw163_1 := hx163_1
          have hw163_0 := hx163_0
          obtain rfl : ad161 = ad163 := (by injection e163)
          replace hx163_0 := (HB.out.cell (World.block_lt_of_cell? w _ hx163_0)).trans hx163_0
          replace hx163_1 := (HB.out.cell (World.block_lt_of_cell? w _ hx163_1)).trans hx163_1
          replace p163 := eq_true p163
          replace q163 := eq_true q163
          refine start_ (n := 21) (S := fun w' => w'.cell? ⟨gb160, 0, none⟩ = some (.slice (some ad161) l0_0.length c0_0) ∧ w'.cell? ⟨gb160, 1, none⟩ = some (.slice A0_1 l0_1.length c0_1) ∧ w'.cell? (ad161.add ((x4_1).toNat * 2)) = some (.int .i64 ((rd_T65 l0_0 x4_1).f0)) ∧ w'.cell? ⟨(ad161.add ((x4_1).toNat * 2)).block, (ad161.add ((x4_1).toNat * 2)).off + 1, none⟩ = some (.int .i64 ((rd_T65 l0_0 x4_1).f1)) ∧ w'.cell? (ad161.add ((x4_1).toNat * 2)) = some (.int .i64 ((rd_T65 l0_0 x4_1).f0)) ∧ w'.cell? ⟨(ad161.add ((x4_1).toNat * 2)).block, (ad161.add ((x4_1).toNat * 2)).off + 1, none⟩ = some (.int .i64 ((rd_T65 l0_0 x4_1).f1))) (ds := []) mz16_0 (by kernel_rfl) rfl rfl ⟨(blk_cell BK160.out 0).trans rfl, (blk_cell BK160.out 1).trans rfl, ((HB.out.cell (World.block_lt_of_cell? w _ hw161_0)).trans hw161_0), ((HB.out.cell (World.block_lt_of_cell? w _ hw161_1)).trans hw161_1), ((HB.out.cell (World.block_lt_of_cell? w _ hw163_0)).trans hw163_0), ((HB.out.cell (World.block_lt_of_cell? w _ hw163_1)).trans hw163_1)⟩ (fun hHeld => ?_); refine with_tabW spec_l06Text.tab5 spec_l06Text.bits5 (fun HT_ HW_ => ?_)
          generalize wr.drew = w13 at BK160 HB hx161_0 hx161_1 hx163_0 hx163_1 hHeld ⊢
          refine pu_z16 0 (some 15) ?_ mz16_1 rfl rfl (any_of HT_.out (by kernel_rfl)) (fun _ _ _ h => h) (Or.inl ⟨by rfl, ?_⟩) ?_ ?_ ?_
          (rotate_left; ·(intro w'; go_simp; with_reducible rfl)); (rotate_left; ·(simp only [Act.put, pq_z16]; rfl))
          refine pu_z16 1 (some 16) ?_ mz16_2 rfl rfl (any_of HT_.out (by kernel_rfl)) (fun _ _ _ h => h) (Or.inl ⟨by rfl, ?_⟩) ?_ ?_ ?_
          (rotate_left; ·(intro w'; go_simp; with_reducible rfl)); (rotate_left; ·(simp only [Act.put, pq_z16]; rfl))
          refine pu_z16 3 (some 18) ?_ mz16_3 rfl rfl (any_of HT_.out (by kernel_rfl)) (fun _ _ _ h => h) (Or.inl ⟨by rfl, ?_⟩) ?_ ?_ ?_
          (rotate_left; ·(intro w'; go_simp; with_reducible rfl)); (rotate_left; ·(simp only [Act.put, pq_z16]; rfl))
          refine pu_z16 10 (some 25) ?_ mz16_4 rfl rfl (any_of HT_.out (by kernel_rfl)) (fun _ _ _ h => h) (Or.inl ⟨by rfl, ?_⟩) ?_ ?_ ?_
          (rotate_left; ·(intro w'; go_simp; with_reducible rfl)); (rotate_left; ·(simp only [Act.put, pq_z16]; rfl))
          refine pu_z16 12 (some 27) ?_ mz16_5 rfl rfl (any_of HT_.out (by kernel_rfl)) (fun _ _ _ h => h) (Or.inl ⟨by rfl, ?_⟩) ?_ ?_ ?_
          (rotate_left; ·(intro w'; go_simp; with_reducible rfl)); (rotate_left; ·(simp only [Act.put, pq_z16]; rfl))
          refine take_ (i := 2) (N := some 17) (v := ?_) (a' := ?_) mz16_6 rfl rfl (take_ofW HT_.out HW_.out (by kernel_rfl)) (fun _ _ _ h => h) (Or.inl ⟨by rfl, ?_⟩) hHeld ?_ ?_
          (rotate_left; ·(rintro w' ⟨s0, s1, s2, s3, s4, s5⟩; go_simp; with_reducible rfl)); (rotate_left; ·(simp only [Act.put, pq_z16]; rfl))
          refine pu_z16 4 (some 19) ?_ mz16_7 rfl rfl (any_of HT_.out (by kernel_rfl)) (fun _ _ _ h => h) (Or.inl ⟨by rfl, ?_⟩) ?_ ?_ ?_
          (rotate_left; ·(intro w'; go_simp; with_reducible rfl)); (rotate_left; ·(simp only [Act.put, pq_z16]; rfl))
          refine pu_z16 5 (some 20) ?_ mz16_8 rfl rfl (any_of HT_.out (by kernel_rfl)) (fun _ _ _ h => h) (Or.inl ⟨by rfl, ?_⟩) ?_ ?_ ?_
          (rotate_left; ·(intro w'; go_simp; with_reducible rfl)); (rotate_left; ·(simp only [Act.put, pq_z16]; rfl))
          refine take_ (i := 6) (N := some 21) (v := ?_) (a' := ?_) mz16_9 rfl rfl (take_ofW HT_.out HW_.out (by kernel_rfl)) (fun _ _ _ h => h) (Or.inl ⟨by rfl, ?_⟩) hHeld ?_ ?_
          (rotate_left; ·(rintro w' ⟨s0, s1, s2, s3, s4, s5⟩; go_simp; with_reducible rfl)); (rotate_left; ·(simp only [Act.put, pq_z16]; rfl))
          refine take_ (i := 11) (N := some 26) (v := ?_) (a' := ?_) mz16_10 rfl rfl (take_ofW HT_.out HW_.out (by kernel_rfl)) (fun _ _ _ h => h) (Or.inl ⟨by rfl, ?_⟩) hHeld ?_ ?_
          (rotate_left; ·(rintro w' ⟨s0, s1, s2, s3, s4, s5⟩; go_simp; with_reducible rfl)); (rotate_left; ·(simp only [Act.put, pq_z16]; rfl))
          refine pu_z16 13 (some 28) ?_ mz16_11 rfl rfl (any_of HT_.out (by kernel_rfl)) (fun _ _ _ h => h) (Or.inl ⟨by rfl, ?_⟩) ?_ ?_ ?_
          (rotate_left; ·(intro w'; go_simp; with_reducible rfl)); (rotate_left; ·(simp only [Act.put, pq_z16]; rfl))
          refine pu_z16 14 (some 29) ?_ mz16_12 rfl rfl (any_of HT_.out (by kernel_rfl)) (fun _ _ _ h => h) (Or.inl ⟨by rfl, ?_⟩) ?_ ?_ ?_
          (rotate_left; ·(intro w'; go_simp; with_reducible rfl)); (rotate_left; ·(simp only [Act.put, pq_z16]; rfl))
          refine take_ (i := 15) (N := some 30) (v := ?_) (a' := ?_) mz16_13 rfl rfl (take_ofW HT_.out HW_.out (by kernel_rfl)) (fun _ _ _ h => h) (Or.inl ⟨by rfl, ?_⟩) hHeld ?_ ?_
          (rotate_left; ·(rintro w' ⟨s0, s1, s2, s3, s4, s5⟩; go_simp; with_reducible rfl)); (rotate_left; ·(simp only [Act.put, pq_z16]; rfl))
          refine one_ (i := 7) (N := some 22) mz16_14 rfl rfl (one_of HT_.out (by kernel_rfl)) (by decide) (fun K hK => ?_)
          refine goes_ Tryd.func34 (by kernel_rfl) rfl #[.int .i64 ((rd_T65 l0_0 x4_1).f0)] (by rfl) rfl rfl (by (try simp only [List.map_toArray, List.map_cons, List.map_nil]); first | done | rfl | (simp only [List.length_drop, List.length_take]; rfl)) ?_
          with_reducible refine (spec_l06Num.calls k1 ((rd_T65 l0_0 x4_1).f0) t162 _ A5.out).mono ?_
          rintro e w14 ⟨rfl, hb⟩
          refine ⟨_, rfl, ?_⟩
          have n0_ := Aside0.mk (blk_below (g := gb160) (o := .cells #[.slice (some ad161) l0_0.length c0_0, .slice A0_1 l0_1.length c0_1] 32 (0, 0)) (by (with_reducible repeat first | apply blk_drewN | apply blk_drew | apply blk_alloc); exact BK160.out) hb)
          have n1_ := Aside0.mk (below_step (by repeat (first | (with_reducible first | exact HB.out | apply below_alloc | apply pw_below_drewN | apply below_drew1 | refine below_set ?_ GE160.out) | exact HB.out)) hb)
          clear BK160
          clear HB
          have BK160 := n0_
          have HB := n1_
          clear n0_ n1_
          (try clear hb)
          (try clear hb2)
          (try clear hk)
          (try clear hi)
          refine hK.out _ _ ⟨(blk_cell BK160.out 0).trans rfl, (blk_cell BK160.out 1).trans rfl, ((HB.out.cell (World.block_lt_of_cell? w _ hw161_0)).trans hw161_0), ((HB.out.cell (World.block_lt_of_cell? w _ hw161_1)).trans hw161_1), ((HB.out.cell (World.block_lt_of_cell? w _ hw163_0)).trans hw163_0), ((HB.out.cell (World.block_lt_of_cell? w _ hw163_1)).trans hw163_1)⟩ (fun hHeld => ?_)
          clear hK K
          refine norm_ (a' := ?_) ?_ ?_
          (rotate_left; ·(show Act.put _ (some 22) _ = _; simp only [Act.put, pq_z16]; rfl))
          refine pu_z16 8 (some 23) ?_ mz16_15 rfl rfl (any_of HT_.out (by kernel_rfl)) (fun _ _ _ h => h) (Or.inl ⟨by rfl, ?_⟩) ?_ ?_ ?_
          (rotate_left; ·(intro w'; go_simp; with_reducible rfl)); (rotate_left; ·(simp only [Act.put, pq_z16]; rfl))
          refine pu_z16 9 (some 24) ?_ mz16_16 rfl rfl (any_of HT_.out (by kernel_rfl)) (fun _ _ _ h => h) (Or.inl ⟨by rfl, ?_⟩) ?_ ?_ ?_
          (rotate_left; ·(intro w'; go_simp; with_reducible rfl)); (rotate_left; ·(simp only [Act.put, pq_z16]; rfl))
          refine one_ (i := 16) (N := some 31) mz16_17 rfl rfl (one_of HT_.out (by kernel_rfl)) (by decide) (fun K hK => ?_)
          refine goes_ Tryd.func34 (by kernel_rfl) rfl #[.int .i64 ((rd_T65 l0_0 x4_1).f1)] (by rfl) rfl rfl (by (try simp only [List.map_toArray, List.map_cons, List.map_nil]); first | done | rfl | (simp only [List.length_drop, List.length_take]; rfl)) ?_
          with_reducible refine (spec_l06Num.calls k1 ((rd_T65 l0_0 x4_1).f1) t164 _ A8.out).mono ?_
          rintro e w15 ⟨rfl, hb⟩
          refine ⟨_, rfl, ?_⟩
          have n0_ := Aside0.mk (blk_below (g := gb160) (o := .cells #[.slice (some ad161) l0_0.length c0_0, .slice A0_1 l0_1.length c0_1] 32 (0, 0)) (by (with_reducible repeat first | apply blk_drewN | apply blk_drew | apply blk_alloc); exact BK160.out) hb)
          have n1_ := Aside0.mk (below_step (by repeat (first | (with_reducible first | exact HB.out | apply below_alloc | apply pw_below_drewN | apply below_drew1 | refine below_set ?_ GE160.out) | exact HB.out)) hb)
          clear BK160
          clear HB
          have BK160 := n0_
          have HB := n1_
          clear n0_ n1_
          (try clear hb)
          (try clear hb2)
          (try clear hk)
          (try clear hi)
          refine hK.out _ _ ⟨(blk_cell BK160.out 0).trans rfl, (blk_cell BK160.out 1).trans rfl, ((HB.out.cell (World.block_lt_of_cell? w _ hw161_0)).trans hw161_0), ((HB.out.cell (World.block_lt_of_cell? w _ hw161_1)).trans hw161_1), ((HB.out.cell (World.block_lt_of_cell? w _ hw163_0)).trans hw163_0), ((HB.out.cell (World.block_lt_of_cell? w _ hw163_1)).trans hw163_1)⟩ (fun hHeld => ?_)
          clear hK K
          refine norm_ (a' := ?_) ?_ ?_
          (rotate_left; ·(show Act.put _ (some 31) _ = _; simp only [Act.put, pq_z16]; rfl))
          refine pu_z16 17 (some 32) ?_ mz16_18 rfl rfl (any_of HT_.out (by kernel_rfl)) (fun _ _ _ h => h) (Or.inl ⟨by rfl, ?_⟩) ?_ ?_ ?_
          (rotate_left; ·(intro w'; go_simp; with_reducible rfl)); (rotate_left; ·(simp only [Act.put, pq_z16]; rfl))
          refine pu_z16 18 (some 33) ?_ mz16_19 rfl rfl (any_of HT_.out (by kernel_rfl)) (fun _ _ _ h => h) (Or.inl ⟨by rfl, ?_⟩) ?_ ?_ ?_
          (rotate_left; ·(intro w'; go_simp; with_reducible rfl)); (rotate_left; ·(simp only [Act.put, pq_z16]; rfl))
          refine pu_z16 19 (some 34) ?_ mz16_20 rfl rfl (any_of HT_.out (by kernel_rfl)) (fun _ _ _ h => h) (Or.inl ⟨by rfl, ?_⟩) ?_ ?_ ?_
          (rotate_left; ·(intro w'; go_simp; with_reducible rfl)); (rotate_left; ·(simp only [Act.put, pq_z16]; rfl))
          refine pu_z16 20 (some 3) ?_ mz16_21 rfl rfl (any_of HT_.out (by kernel_rfl)) (fun _ _ _ h => h) (Or.inl ⟨by rfl, ?_⟩) ?_ ?_ ?_
          (rotate_left; ·(intro w'; go_simp; with_reducible rfl)); (rotate_left; ·(simp only [Act.put, pq_z16]; rfl))
          refine done_ (done_of HT_.out (by kernel_rfl)) ?_
          try go_wp2
          go_roundg k1
          case measure => have := HK1.out; omega
          case rel => exact ⟨(x3_1 ++ (((((⟨#[110, 111, 100, 101, 32]⟩ : ByteArray) ++ t162) ++ (⟨#[32]⟩ : ByteArray)) ++ t164) ++ (⟨#[10]⟩ : ByteArray))), (wrap64 (x4_1 + 1)), (by first | rfl | (simp; done) | (simp [*]; done)), (by first | rfl | (simp; done) | (simp [*]; done)), H', ⟨by have := HK1.out; omega⟩, ⟨by (with_reducible repeat first | apply blk_drewN | apply blk_drew | apply blk_alloc); exact BK160.out⟩, ⟨by repeat (first | (with_reducible first | exact HB.out | apply below_alloc | apply pw_below_drewN | apply below_drew1 | refine below_set ?_ GE160.out) | exact HB.out)⟩⟩
         ·rw [if_neg c11] at H
          exact absurd H (by simp)
        ·rw [if_neg c10] at H
         exact absurd H (by simp)
       ·rw [if_neg c9] at H
        exact absurd H (by simp)
      ·rw [if_neg c7] at H
       exact absurd H (by simp)
     ·rw [if_neg c6] at H
      exact absurd H (by simp)
    ·rw [if_neg c4] at H
     exact absurd H (by simp)
   ·rw [if_neg c3] at H
    have c3b0 : decide (x4_1 < (l0_0.length : Int)) = false := decide_eq_false c3
    clear c3
    have H' := Aside0.mk H
    clear H
    have hcz16_0 : wr.cell? ⟨gb160, 0, none⟩ = some (.slice A0_0 l0_0.length c0_0) := (blk_cell BK160.out 0).trans rfl
    have hcz16_1 : wr.cell? ⟨gb160, 1, none⟩ = some (.slice A0_1 l0_1.length c0_1) := (blk_cell BK160.out 1).trans rfl
    have hfz16_0 := blk_frozen BK160.out 0
    have hfz16_1 := blk_frozen BK160.out 1
    go_wp2
    go_loopg [3, 5] k1 (fun kq v3 v5 w' => ∃ (x3_2 : ByteArray) (x5_2 : Int), v3 = .string x3_2 ∧ v5 = .int .i64 x5_2 ∧ Aside0 (spec_l06Text.l1 kq x3_2 x5_2 l0_0 l0_1 = some r) ∧ Aside0 (kq ≤ k1) ∧ Aside0 (w'.heap[gb160]? = some (.cells #[(.slice A0_0 l0_0.length c0_0), (.slice A0_1 l0_1.length c0_1)] 32 (0, 0))) ∧ Aside0 (Below w.heap.size w w'))
    case atStart => exact ⟨(x3_1), (0), (by first | rfl | (simp; done) | (simp [*]; done)), (by first | rfl | (simp; done) | (simp [*]; done)), H', ⟨Nat.le_refl _⟩, ⟨by (with_reducible repeat first | apply blk_drewN | apply blk_drew | apply blk_alloc); exact BK160.out⟩, ⟨by repeat (first | (with_reducible first | exact HB.out | apply below_alloc | apply pw_below_drewN | apply below_drew1 | refine below_set ?_ GE160.out) | exact HB.out)⟩⟩
    case round =>
     clear H'
     try clear c1
     try clear p1
     try clear q1
     try clear hx1
     try clear p2
     try clear c3
     try clear c3b0
     try clear c4
     try clear c4b0
     try clear c6
     try clear c6b0
     try clear c6b1
     try clear c6b2
     try clear p6
     try clear c7
     try clear c7b0
     try clear c7b1
     try clear c7b2
     try clear c9
     try clear c9b0
     try clear c9b1
     try clear c9b2
     try clear c10
     try clear c10b0
     try clear c10b1
     try clear c10b2
     try clear c11
     try clear c11b0
     try clear c11b1
     try clear c11b2
     try clear c16
     try clear p16
     try clear q16
     try clear hx16
     try clear hcz12_0
     try clear hcz12_1
     try clear hcz16_0
     try clear hcz16_1
     try clear hfz12_0
     try clear hfz12_1
     try clear hfz16_0
     try clear hfz16_1
     try clear hx161_0
     try clear hx161_1
     try clear hx163_0
     try clear hx163_1
     try clear p161
     try clear p163
     try clear p2
     try clear q161
     try clear q163
     obtain ⟨x3_2, x5_2, rfl, rfl, HA, HK2, BK160, HB⟩ := hrel
     cases gk with
     | zero => exact absurd HA.out (by simp [spec_l06Text.l1])
     | succ k2 =>
      have H := HA.out
      clear HA
      simp only [spec_l06Text.l1] at H
      by_cases c17 : x5_2 < (l0_1.length : Int)
      ·rw [if_pos c17] at H
       have c17b0 : decide (x5_2 < (l0_1.length : Int)) = true := decide_eq_true c17
       clear c17
       by_cases c18 : 0 ≤ x5_2
       ·rw [if_pos c18] at H
        have c18b0 : decide (0 ≤ x5_2) = true := decide_eq_true c18
        clear c18
        obtain ⟨y167, hy167⟩ : ∃ y_ : List ByteArray, y_ = (([(⟨#[104, 111, 115, 116]⟩ : ByteArray), (⟨#[114, 97, 99, 107]⟩ : ByteArray), (⟨#[114, 111, 111, 116]⟩ : ByteArray)] : List ByteArray)) := ⟨_, rfl⟩
        replace H : (if 0 ≤ (wrap64 (((rd_T62 l0_1 x5_2).f1) - 1)) then (if (wrap64 (((rd_T62 l0_1 x5_2).f1) - 1)) < (y167.length : Int) then (if (rdOf ByteArray.empty y167 (wrap64 (((rd_T62 l0_1 x5_2).f1) - 1))).size + 1 ≤ 9223372036854775807 then ((spec_l06Num.f k2 ((rd_T62 l0_1 x5_2).f0)).bind fun t171 => (if ((rdOf ByteArray.empty y167 (wrap64 (((rd_T62 l0_1 x5_2).f1) - 1))) ++ (⟨#[32]⟩ : ByteArray)).size + t171.size ≤ 9223372036854775807 then (if x3_2.size + (((rdOf ByteArray.empty y167 (wrap64 (((rd_T62 l0_1 x5_2).f1) - 1))) ++ (⟨#[32]⟩ : ByteArray)) ++ t171).size ≤ 9223372036854775807 then (spec_l06Text.l2 k2 (x3_2 ++ (((rdOf ByteArray.empty y167 (wrap64 (((rd_T62 l0_1 x5_2).f1) - 1))) ++ (⟨#[32]⟩ : ByteArray)) ++ t171)) x5_2 0 l0_0 l0_1 ((rd_T62 l0_1 x5_2).f0) ((rd_T62 l0_1 x5_2).f1) ((rd_T62 l0_1 x5_2).f2)) else (none)) else (none))) else (none)) else (none)) else (none)) = some r := by first | (rw [hy167]; with_reducible exact H) | (have H2_ := (Option.bind_some _ _).symm.trans H; rw [hy167]; with_reducible exact H2_) | (have H2_ := (Option.bind_some _ _).symm.trans H; with_reducible exact H2_) | with_reducible exact H | (rw [hy167]; exact H) | exact H
        have Ny167 := Aside0.mk hy167
        clear hy167
        obtain ⟨ji19, hji19⟩ : ∃ j_ : Int, (wrap64 (((rd_T62 l0_1 x5_2).f1) - 1)) = j_ := ⟨_, rfl⟩
        replace H : (if 0 ≤ (ji19) then (if (ji19) < (y167.length : Int) then (if (rdOf ByteArray.empty y167 (ji19)).size + 1 ≤ 9223372036854775807 then ((spec_l06Num.f k2 ((rd_T62 l0_1 x5_2).f0)).bind fun t171 => (if ((rdOf ByteArray.empty y167 (ji19)) ++ (⟨#[32]⟩ : ByteArray)).size + t171.size ≤ 9223372036854775807 then (if x3_2.size + (((rdOf ByteArray.empty y167 (ji19)) ++ (⟨#[32]⟩ : ByteArray)) ++ t171).size ≤ 9223372036854775807 then (spec_l06Text.l2 k2 (x3_2 ++ (((rdOf ByteArray.empty y167 (ji19)) ++ (⟨#[32]⟩ : ByteArray)) ++ t171)) x5_2 0 l0_0 l0_1 ((rd_T62 l0_1 x5_2).f0) ((rd_T62 l0_1 x5_2).f1) ((rd_T62 l0_1 x5_2).f2)) else (none)) else (none))) else (none)) else (none)) else (none)) = some r := by first | (rw [hji19] at H; exact H) | (simp only [hji19] at H ⊢; exact H)
        have hji19w : (IntKind.i64.wrap (((rd_T62 l0_1 x5_2).f1) - 1)) = ji19 := (i64_w _).trans hji19
        by_cases c20 : 0 ≤ (ji19)
        ·rw [if_pos c20] at H
         have c20b0 : decide (0 ≤ (ji19)) = true := decide_eq_true c20
         clear c20
         by_cases c21 : (ji19) < (y167.length : Int)
         ·rw [if_pos c21] at H
          have c21b0 : decide ((ji19) < (y167.length : Int)) = true := decide_eq_true c21
          clear c21
          by_cases c22 : (rdOf ByteArray.empty y167 (ji19)).size + 1 ≤ 9223372036854775807
          ·rw [if_pos c22] at H
           have c22b0 := eq_true c22
           have c22b1 : decide ((rdOf ByteArray.empty y167 (ji19)).size + 1 ≤ 9223372036854775807) = true := decide_eq_true c22
           try have c22b2 : (9223372036854775807 < (rdOf ByteArray.empty y167 (ji19)).size + 1) = False := eq_false (Nat.not_lt.2 c22)
           replace H := Option.bind_eq_some_iff.mp H
           obtain ⟨t171, A230, H⟩ := H
           replace H : (if ((rdOf ByteArray.empty y167 (ji19)) ++ (⟨#[32]⟩ : ByteArray)).size + t171.size ≤ 9223372036854775807 then (if x3_2.size + (((rdOf ByteArray.empty y167 (ji19)) ++ (⟨#[32]⟩ : ByteArray)) ++ t171).size ≤ 9223372036854775807 then (spec_l06Text.l2 k2 (x3_2 ++ (((rdOf ByteArray.empty y167 (ji19)) ++ (⟨#[32]⟩ : ByteArray)) ++ t171)) x5_2 0 l0_0 l0_1 ((rd_T62 l0_1 x5_2).f0) ((rd_T62 l0_1 x5_2).f1) ((rd_T62 l0_1 x5_2).f2)) else (none)) else (none)) = some r := H
           have A23 := Aside0.mk A230
           clear A230
           by_cases c24 : ((rdOf ByteArray.empty y167 (ji19)) ++ (⟨#[32]⟩ : ByteArray)).size + t171.size ≤ 9223372036854775807
           ·rw [if_pos c24] at H
            have c24b0 := eq_true c24
            have c24b1 : decide (((rdOf ByteArray.empty y167 (ji19)) ++ (⟨#[32]⟩ : ByteArray)).size + t171.size ≤ 9223372036854775807) = true := decide_eq_true c24
            try have c24b2 : (9223372036854775807 < ((rdOf ByteArray.empty y167 (ji19)) ++ (⟨#[32]⟩ : ByteArray)).size + t171.size) = False := eq_false (Nat.not_lt.2 c24)
            have c24n := c24
            simp only [ByteArray.size_append, show ((⟨#[104, 111, 115, 116]⟩ : ByteArray).size = 4) from rfl, show ((⟨#[10]⟩ : ByteArray).size = 1) from rfl, show ((⟨#[110, 111, 100, 101, 32]⟩ : ByteArray).size = 5) from rfl, show ((⟨#[114, 111, 111, 116]⟩ : ByteArray).size = 4) from rfl, show ((⟨#[114, 97, 99, 107]⟩ : ByteArray).size = 4) from rfl, show ((⟨#[32]⟩ : ByteArray).size = 1) from rfl, show ((⟨#[]⟩ : ByteArray).size = 0) from rfl] at c24n
            have c24b3 := eq_false (Nat.not_lt.2 c24n)
            clear c24n
            by_cases c25 : x3_2.size + (((rdOf ByteArray.empty y167 (ji19)) ++ (⟨#[32]⟩ : ByteArray)) ++ t171).size ≤ 9223372036854775807
            ·rw [if_pos c25] at H
             have c25b0 := eq_true c25
             have c25b1 : decide (x3_2.size + (((rdOf ByteArray.empty y167 (ji19)) ++ (⟨#[32]⟩ : ByteArray)) ++ t171).size ≤ 9223372036854775807) = true := decide_eq_true c25
             try have c25b2 : (9223372036854775807 < x3_2.size + (((rdOf ByteArray.empty y167 (ji19)) ++ (⟨#[32]⟩ : ByteArray)) ++ t171).size) = False := eq_false (Nat.not_lt.2 c25)
             have c25n := c25
             simp only [ByteArray.size_append, show ((⟨#[104, 111, 115, 116]⟩ : ByteArray).size = 4) from rfl, show ((⟨#[10]⟩ : ByteArray).size = 1) from rfl, show ((⟨#[110, 111, 100, 101, 32]⟩ : ByteArray).size = 5) from rfl, show ((⟨#[114, 111, 111, 116]⟩ : ByteArray).size = 4) from rfl, show ((⟨#[114, 97, 99, 107]⟩ : ByteArray).size = 4) from rfl, show ((⟨#[32]⟩ : ByteArray).size = 1) from rfl, show ((⟨#[]⟩ : ByteArray).size = 0) from rfl] at c25n
             have c25b3 := eq_false (Nat.not_lt.2 c25n)
             clear c25n
             have H' := Aside0.mk H
             clear H
             have hcz26_0 : wr.cell? ⟨gb160, 0, none⟩ = some (.slice A0_0 l0_0.length c0_0) := (blk_cell BK160.out 0).trans rfl
             have hcz26_1 : wr.cell? ⟨gb160, 1, none⟩ = some (.slice A0_1 l0_1.length c0_1) := (blk_cell BK160.out 1).trans rfl
             have hfz26_0 := blk_frozen BK160.out 0
             have hfz26_1 := blk_frozen BK160.out 1
             have p165 : 0 ≤ (x5_2 : Int) := of_decide_eq_true (by assumption)
             have q165 : x5_2 < (l0_1.length : Int) := of_decide_eq_true (by assumption)
             obtain ⟨ad165, A165_2, c165_2, e165, hx165_0, hx165_1, hx165_2, hl165_2, hi165_2⟩ := at_T62 HR0_1.out x5_2 p165 q165
             cases e165
             replace hx165_0 := (HB.out.cell (World.block_lt_of_cell? w _ hx165_0)).trans hx165_0
             replace hx165_1 := (HB.out.cell (World.block_lt_of_cell? w _ hx165_1)).trans hx165_1
             replace hx165_2 := (HB.out.cell (World.block_lt_of_cell? w _ hx165_2)).trans hx165_2
             have HR165_2 := Aside0.mk hi165_2
             have HC165_2 := Aside0.mk hl165_2
             clear hi165_2 hl165_2
             replace p165 := eq_true p165
             replace q165 := eq_true q165
             try go_wp2_with (first | ((with_reducible refine gate_dst (N := 6) rfl ?_); refine box_event ?hg (N := 6) ?hd (cs := #[.int .i64 0, .int .i64 0, .slice none 0 0]) (t := 62) ?hr ?_; (case hd => rfl); (case hg => rfl); (case hr => first | (go_simp; done) | (go_simp; rfl)); intro gb166 hg w27 hbox hb; have n0_ := Aside0.mk (blk_below (g := gb160) (o := .cells #[.slice A0_0 l0_0.length c0_0, .slice (some ad165) l0_1.length c0_1] 32 (0, 0)) (by (with_reducible repeat first | apply blk_drewN | apply blk_drew | apply blk_alloc); exact BK160.out) hb); have n1_ := Aside0.mk (below_step (by repeat (first | (with_reducible first | exact HB.out | apply below_alloc | apply pw_below_drewN | apply below_drew1 | refine below_set ?_ GE160.out) | exact HB.out)) hb); have n2_ := Aside0.mk (hbox); have n3_ := Aside0.mk ((by rw [hg]; exact (below_size (by repeat (first | (with_reducible first | exact HB.out | apply below_alloc | apply pw_below_drewN | apply below_drew1 | refine below_set ?_ GE160.out) | exact HB.out))) : w.heap.size ≤ gb166)); have n4_ := Aside0.mk ((by rw [hg]; exact (below_size (by repeat (first | (with_reducible first | exact HB.out | apply below_alloc | apply pw_below_drewN | apply below_drew1 | refine below_set ?_ GE160.out) | exact HB.out))) : w.heap.size ≤ gb166)); have n5_ := Aside0.mk ((by rw [hg]; exact Nat.ne_of_lt (blk_lt (g := gb160) (o := .cells #[.slice A0_0 l0_0.length c0_0, .slice (some ad165) l0_1.length c0_1] 32 (0, 0)) (by (with_reducible repeat first | apply blk_drewN | apply blk_drew | apply blk_alloc); exact BK160.out)) : gb160 ≠ gb166)); have n6_ := Aside0.mk ((by rw [hg]; exact Nat.ne_of_gt (blk_lt (g := gb160) (o := .cells #[.slice A0_0 l0_0.length c0_0, .slice (some ad165) l0_1.length c0_1] 32 (0, 0)) (by (with_reducible repeat first | apply blk_drewN | apply blk_drew | apply blk_alloc); exact BK160.out)) : gb166 ≠ gb160)); clear BK160; clear HB; have BK160 := n0_; have HB := n1_; have BK166 := n2_; have GW166 := n3_; have GE166 := n4_; have NB160_166 := n5_; have NB166_160 := n6_; clear n0_ n1_ n2_ n3_ n4_ n5_ n6_; clear hb hbox hg; have hnb28 := NB166_160.out; have hnc28 := NB160_166.out; have hcz29_0 : w27.cell? ⟨gb166, 0, none⟩ = some (.int .i64 0) := (blk_cell BK166.out 0).trans rfl; have hcz29_1 : w27.cell? ⟨gb166, 1, none⟩ = some (.int .i64 0) := (blk_cell BK166.out 1).trans rfl; have hcz29_2 : w27.cell? ⟨gb166, 2, none⟩ = some (.slice none 0 0) := (blk_cell BK166.out 2).trans rfl; have hfz29_0 := blk_frozen BK166.out 0; have hfz29_1 := blk_frozen BK166.out 1; have hfz29_2 := blk_frozen BK166.out 2))
             have pi170 : (0 ≤ ((ji19) : Int)) = True := eq_true (of_decide_eq_true (by assumption))
             have qi170 : ((ji19) < (y167.length : Int)) = True := eq_true (of_decide_eq_true (by assumption))
             have n0_ : Aside0 ((((w27.setCell ⟨gb166, 0, none⟩ (.int .i64 ((rd_T62 l0_1 x5_2).f0))).setCell ⟨gb166, 1, none⟩ (.int .i64 ((rd_T62 l0_1 x5_2).f1))).setCell ⟨gb166, 2, none⟩ (.slice A165_2 ((rd_T62 l0_1 x5_2).f2).length c165_2)).heap[gb160]? = some (.cells #[.slice A0_0 l0_0.length c0_0, .slice (some ad165) l0_1.length c0_1] 32 (0, 0))) := ⟨by (with_reducible repeat first | apply blk_drewN | apply blk_drew | apply blk_alloc); refine blk_far ?_ NB160_166.out _; (with_reducible repeat first | apply blk_drewN | apply blk_drew | apply blk_alloc); refine blk_far ?_ NB160_166.out _; (with_reducible repeat first | apply blk_drewN | apply blk_drew | apply blk_alloc); refine blk_far ?_ NB160_166.out _; (with_reducible repeat first | apply blk_drewN | apply blk_drew | apply blk_alloc); exact BK160.out⟩
             have n1_ : Aside0 ((((w27.setCell ⟨gb166, 0, none⟩ (.int .i64 ((rd_T62 l0_1 x5_2).f0))).setCell ⟨gb166, 1, none⟩ (.int .i64 ((rd_T62 l0_1 x5_2).f1))).setCell ⟨gb166, 2, none⟩ (.slice A165_2 ((rd_T62 l0_1 x5_2).f2).length c165_2)).heap[gb166]? = some (.cells #[.int .i64 ((rd_T62 l0_1 x5_2).f0), .int .i64 ((rd_T62 l0_1 x5_2).f1), .slice A165_2 ((rd_T62 l0_1 x5_2).f2).length c165_2] 62 (0, 0))) := ⟨by (with_reducible repeat first | apply blk_drewN | apply blk_drew | apply blk_alloc); refine blk_put (cs := #[.int .i64 ((rd_T62 l0_1 x5_2).f0), .int .i64 ((rd_T62 l0_1 x5_2).f1), .slice none 0 0]) ?_ 2 _ rfl; (with_reducible repeat first | apply blk_drewN | apply blk_drew | apply blk_alloc); refine blk_put (cs := #[.int .i64 ((rd_T62 l0_1 x5_2).f0), .int .i64 0, .slice none 0 0]) ?_ 1 _ rfl; (with_reducible repeat first | apply blk_drewN | apply blk_drew | apply blk_alloc); refine blk_put (cs := #[.int .i64 0, .int .i64 0, .slice none 0 0]) ?_ 0 _ rfl; (with_reducible repeat first | apply blk_drewN | apply blk_drew | apply blk_alloc); exact BK166.out⟩
             have n2_ : Aside0 (Below w.heap.size w (((w27.setCell ⟨gb166, 0, none⟩ (.int .i64 ((rd_T62 l0_1 x5_2).f0))).setCell ⟨gb166, 1, none⟩ (.int .i64 ((rd_T62 l0_1 x5_2).f1))).setCell ⟨gb166, 2, none⟩ (.slice A165_2 ((rd_T62 l0_1 x5_2).f2).length c165_2))) := ⟨by repeat (first | (with_reducible first | exact HB.out | apply below_alloc | apply pw_below_drewN | apply below_drew1 | refine below_set ?_ GE160.out | refine below_set ?_ GE166.out) | exact HB.out)⟩
             (try clear BK160)
             (try clear BK166)
             (try clear HB)
             generalize (((w27.setCell ⟨gb166, 0, none⟩ (.int .i64 ((rd_T62 l0_1 x5_2).f0))).setCell ⟨gb166, 1, none⟩ (.int .i64 ((rd_T62 l0_1 x5_2).f1))).setCell ⟨gb166, 2, none⟩ (.slice A165_2 ((rd_T62 l0_1 x5_2).f2).length c165_2)) = w30 at n0_ n1_ n2_ ⊢
             have BK160 := n0_
             have BK166 := n1_
             have HB := n2_
             clear n0_ n1_ n2_
             have n0_ := Aside0.mk (blk_drew BK160.out)
             have n1_ := Aside0.mk (blk_drew BK166.out)
             have n2_ := Aside0.mk (below_drew1 HB.out)
             clear BK160
             clear BK166
             clear HB
             have BK160 := n0_
             have BK166 := n1_
             have HB := n2_
             clear n0_ n1_ n2_
             refine start_ (n := 14) (S := fun w' => w'.cell? ⟨gb166, 0, none⟩ = some (.int .i64 ((rd_T62 l0_1 x5_2).f0)) ∧ w'.cell? ⟨gb166, 1, none⟩ = some (.int .i64 ((rd_T62 l0_1 x5_2).f1)) ∧ w'.cell? ⟨gb166, 2, none⟩ = some (.slice A165_2 ((rd_T62 l0_1 x5_2).f2).length c165_2)) (ds := []) mz16_22 (by kernel_rfl) rfl rfl ⟨(blk_cell BK166.out 0).trans rfl, (blk_cell BK166.out 1).trans rfl, (blk_cell BK166.out 2).trans rfl⟩ (fun hHeld => ?_); refine with_tabW spec_l06Text.tab10 spec_l06Text.bits10 (fun HT_ HW_ => ?_)
             generalize w30.drew = w31 at BK160 BK166 HB hHeld ⊢
             refine pu_z16 0 (some 47) ?_ mz16_23 rfl rfl (any_of HT_.out (by kernel_rfl)) (fun _ _ _ h => h) (Or.inl ⟨by rfl, ?_⟩) ?_ ?_ ?_
             (rotate_left; ·(intro w'; go_simp; with_reducible rfl)); (rotate_left; ·(simp only [Act.put, pq_z16]; rfl))
             refine pu_z16 2 (some 49) ?_ mz16_24 rfl rfl (any_of HT_.out (by kernel_rfl)) (fun _ _ _ h => h) (Or.inl ⟨by rfl, ?_⟩) ?_ ?_ ?_
             (rotate_left; ·(intro w'; go_simp; with_reducible rfl)); (rotate_left; ·(simp only [Act.put, pq_z16]; rfl))
             refine pu_z16 8 (some 55) ?_ mz16_25 rfl rfl (any_of HT_.out (by kernel_rfl)) (fun _ _ _ h => h) (Or.inl ⟨by rfl, ?_⟩) ?_ ?_ ?_
             (rotate_left; ·(intro w'; go_simp; with_reducible rfl)); (rotate_left; ·(simp only [Act.put, pq_z16]; rfl))
             refine take_ (i := 3) (N := some 50) (v := ?_) (a' := ?_) mz16_26 rfl rfl (take_ofW HT_.out HW_.out (by kernel_rfl)) (fun _ _ _ h => h) (Or.inl ⟨by rfl, ?_⟩) hHeld ?_ ?_
             (rotate_left; ·(rintro w' ⟨s0, s1, s2⟩; go_simp; with_reducible rfl)); (rotate_left; ·(simp only [Act.put, pq_z16]; rfl))
             refine pu_z16 4 (some 51) ?_ mz16_27 rfl rfl (any_of HT_.out (by kernel_rfl)) (fun _ _ _ h => h) (Or.inl ⟨by rfl, ?_⟩) ?_ ?_ ?_
             (rotate_left; ·(intro w'; go_simp; with_reducible rfl)); (rotate_left; ·(simp only [Act.put, pq_z16]; rfl))
             refine take_ (i := 9) (N := some 56) (v := ?_) (a' := ?_) mz16_28 rfl rfl (take_ofW HT_.out HW_.out (by kernel_rfl)) (fun _ _ _ h => h) (Or.inl ⟨by rfl, ?_⟩) hHeld ?_ ?_
             (rotate_left; ·(rintro w' ⟨s0, s1, s2⟩; go_simp; with_reducible rfl)); (rotate_left; ·(simp only [Act.put, pq_z16]; rfl))
             refine join_ (σ := Value × Addr) 3 mz16_29 (fun s_ => [(48, s_.1), (53, .string (rdOf ByteArray.empty y167 (ji19))), (57, .string t171), (52, .pointer (some (s_.2.add ((ji19)).toNat))), (54, .string ((rdOf ByteArray.empty y167 (ji19)) ++ (⟨#[32]⟩ : ByteArray)))]) (fun s_ w' => (w'.cell? ⟨gb166, 0, none⟩ = some (.int .i64 ((rd_T62 l0_1 x5_2).f0)) ∧ w'.cell? ⟨gb166, 1, none⟩ = some (.int .i64 ((rd_T62 l0_1 x5_2).f1)) ∧ w'.cell? ⟨gb166, 2, none⟩ = some (.slice A165_2 ((rd_T62 l0_1 x5_2).f2).length c165_2)) ∧ (Kd.R Kd.string 9 w' w.heap.size (fun _ => True) s_.1 y167) ∧ (∃ c_, (s_.1 : Value) = .slice (some s_.2) y167.length c_) ∧ (w'.heap[gb160]? = some (.cells #[.slice A0_0 l0_0.length c0_0, .slice (some ad165) l0_1.length c0_1] 32 (0, 0))) ∧ (w'.heap[gb166]? = some (.cells #[.int .i64 ((rd_T62 l0_1 x5_2).f0), .int .i64 ((rd_T62 l0_1 x5_2).f1), .slice A165_2 ((rd_T62 l0_1 x5_2).f2).length c165_2] 62 (0, 0))) ∧ (Below w.heap.size w w')) ?_ ?_
             rotate_left
             ·intro hCont
              refine two_ (i := 1) (j := 10) (Ni := some 48) (Nj := some 57) mz16_30 mz16_31 rfl rfl rfl rfl (two_of HT_.out (by kernel_rfl)) (by decide) (by decide) (fun K hK => ?_) (fun K hK => ?_)
              ·skip
               refine Kd.R_lit_step Kd.string _ 9 ?hg (N := 48) ?hd (xs := ([(⟨#[104, 111, 115, 116]⟩ : ByteArray), (⟨#[114, 97, 99, 107]⟩ : ByteArray), (⟨#[114, 111, 111, 116]⟩ : ByteArray)] : List ByteArray)) (inner := [.string (⟨#[104, 111, 115, 116]⟩ : ByteArray), .string (⟨#[114, 97, 99, 107]⟩ : ByteArray), .string (⟨#[114, 111, 111, 116]⟩ : ByteArray)]) (ok := fun _ => True) (okp := fun _ => True) ?hr ?hp (fun _ hk => hk) trivial (Below.refl _ _) (Nat.le_refl _) (by simp) ?_; (case hd => rfl); (case hg => rfl); (case hr => first | (go_simp; done) | (go_simp; rfl)); (case hp => exact (Reps.one (show Kd.M Kd.string _ _ _ (⟨#[104, 111, 115, 116]⟩ : ByteArray) [.string (⟨#[104, 111, 115, 116]⟩ : ByteArray)] from rfl) (Reps.one (show Kd.M Kd.string _ _ _ (⟨#[114, 97, 99, 107]⟩ : ByteArray) [.string (⟨#[114, 97, 99, 107]⟩ : ByteArray)] from rfl) (Reps.one (show Kd.M Kd.string _ _ _ (⟨#[114, 111, 111, 116]⟩ : ByteArray) [.string (⟨#[114, 111, 111, 116]⟩ : ByteArray)] from rfl) (Reps.none _ _)))))
               intro v168 w32 ho33 hb hg_ hnew_
               clear hg_ hnew_
               (first | rw [← Ny167.out] at ho33 | (simp only [Int.reduceToNat] at ho33; rw [← Ny167.out] at ho33))
               have n0_ := Aside0.mk (Kd.R_lower ho33 (below_size (by repeat (first | (with_reducible first | exact HB.out | apply below_alloc | apply pw_below_drewN | apply below_drew1 | refine below_set ?_ GE160.out | refine below_set ?_ GE166.out) | exact HB.out))))
               have n1_ := Aside0.mk (blk_below (g := gb160) (o := .cells #[.slice A0_0 l0_0.length c0_0, .slice (some ad165) l0_1.length c0_1] 32 (0, 0)) (by (with_reducible repeat first | apply blk_drewN | apply blk_drew | apply blk_alloc); exact BK160.out) hb)
               have n2_ := Aside0.mk (blk_below (g := gb166) (o := .cells #[.int .i64 ((rd_T62 l0_1 x5_2).f0), .int .i64 ((rd_T62 l0_1 x5_2).f1), .slice A165_2 ((rd_T62 l0_1 x5_2).f2).length c165_2] 62 (0, 0)) (by (with_reducible repeat first | apply blk_drewN | apply blk_drew | apply blk_alloc); exact BK166.out) hb)
               have n3_ := Aside0.mk (below_step (by repeat (first | (with_reducible first | exact HB.out | apply below_alloc | apply pw_below_drewN | apply below_drew1 | refine below_set ?_ GE160.out | refine below_set ?_ GE166.out) | exact HB.out)) hb)
               clear BK160
               clear BK166
               clear HB
               have HO169 := n0_
               have BK160 := n1_
               have BK166 := n2_
               have HB := n3_
               clear n0_ n1_ n2_ n3_
               clear hb ho33
               obtain ⟨Ao34, co34, eo34⟩ := Kd.R_slice HO169.out
               subst eo34
               obtain ⟨ado34, fo34, _⟩ := Kd.at_string (Kd.R_reads' HO169.out).2.2 0 (by decide) (by rw [Ny167.out]; simp)
               cases fo34
               refine hK.out _ _ ⟨(blk_cell BK166.out 0).trans rfl, (blk_cell BK166.out 1).trans rfl, (blk_cell BK166.out 2).trans rfl⟩ (fun hHeld => ?_)
               clear hK K
               refine norm_ (a' := ?_) ?_ ?_
               (rotate_left; ·(show Act.put _ (some 48) _ = _; simp only [Act.put, pq_z16]; rfl))
               refine pu_z16 5 (some 52) ?_ mz16_32 rfl rfl (any_of HT_.out (by kernel_rfl)) (fun _ _ _ h => h) (Or.inl ⟨by rfl, ?_⟩) ?_ ?_ ?_
               (rotate_left; ·(intro w'; go_simp; with_reducible rfl)); (rotate_left; ·(simp only [Act.put, pq_z16]; rfl))
               refine two_ (i := 6) (j := 10) (Ni := some 53) (Nj := some 57) mz16_33 mz16_34 rfl rfl rfl rfl (two_of HT_.out (by kernel_rfl)) (by decide) (by decide) (fun K hK => ?_) (fun K hK => ?_)
               ·skip
                (have p170 : 0 ≤ ((ji19) : Int) := of_decide_eq_true (by assumption); have q170 : (ji19) < (y167.length : Int) := of_decide_eq_true (by assumption); obtain ⟨ad170, e170, hx170_0⟩ := Kd.at_string (Kd.R_reads' HO169.out).2.2 (ji19) p170 q170; obtain rfl : ado34 = ad170 := (by injection e170))
                refine value_ (w1 := ?_) (v := ?_) (by rfl) rfl ?_ ?_
                rotate_left 2
                ·go_simp
                 constructor
                 ·rfl
                 ·rfl
                clear hx170_0
                refine hK.out _ _ ⟨(blk_cell BK166.out 0).trans rfl, (blk_cell BK166.out 1).trans rfl, (blk_cell BK166.out 2).trans rfl⟩ (fun hHeld => ?_)
                clear hK K
                refine norm_ (a' := ?_) ?_ ?_
                (rotate_left; ·(show Act.put _ (some 53) _ = _; simp only [Act.put, pq_z16]; rfl))
                refine pu_z16 7 (some 54) ?_ mz16_35 rfl rfl (any_of HT_.out (by kernel_rfl)) (fun _ _ _ h => h) (Or.inl ⟨by rfl, ?_⟩) ?_ ?_ ?_
                (rotate_left; ·(intro w'; go_simp; with_reducible rfl)); (rotate_left; ·(simp only [Act.put, pq_z16]; rfl))
                refine one_ (i := 10) (N := some 57) mz16_29 rfl rfl (one_of HT_.out (by kernel_rfl)) (by decide) (fun K hK => ?_)
                refine goes_ Tryd.func34 (by kernel_rfl) rfl #[.int .i64 ((rd_T62 l0_1 x5_2).f0)] (by rfl) rfl rfl (by (try simp only [List.map_toArray, List.map_cons, List.map_nil]); first | done | rfl | (simp only [List.length_drop, List.length_take]; rfl)) ?_
                with_reducible refine (spec_l06Num.calls k2 ((rd_T62 l0_1 x5_2).f0) t171 _ A23.out).mono ?_
                rintro e w35 ⟨rfl, hb⟩
                refine ⟨_, rfl, ?_⟩
                have n0_ := Aside0.mk (Kd.R_below (by (with_reducible repeat (first | apply Kd.R_alloc | apply Kd.R_drewN | apply Kd.R_drew)); exact HO169.out) hb)
                have n1_ := Aside0.mk (blk_below (g := gb160) (o := .cells #[.slice A0_0 l0_0.length c0_0, .slice (some ad165) l0_1.length c0_1] 32 (0, 0)) (by (with_reducible repeat first | apply blk_drewN | apply blk_drew | apply blk_alloc); exact BK160.out) hb)
                have n2_ := Aside0.mk (blk_below (g := gb166) (o := .cells #[.int .i64 ((rd_T62 l0_1 x5_2).f0), .int .i64 ((rd_T62 l0_1 x5_2).f1), .slice A165_2 ((rd_T62 l0_1 x5_2).f2).length c165_2] 62 (0, 0)) (by (with_reducible repeat first | apply blk_drewN | apply blk_drew | apply blk_alloc); exact BK166.out) hb)
                have n3_ := Aside0.mk (below_step (by repeat (first | (with_reducible first | exact HB.out | apply below_alloc | apply pw_below_drewN | apply below_drew1 | refine below_set ?_ GE160.out | refine below_set ?_ GE166.out) | exact HB.out)) hb)
                clear HO169
                clear BK160
                clear BK166
                clear HB
                have HO169 := n0_
                have BK160 := n1_
                have BK166 := n2_
                have HB := n3_
                clear n0_ n1_ n2_ n3_
                (try clear hb)
                (try clear hb2)
                (try clear hk)
                (try clear hi)
                refine hK.out _ _ ⟨(blk_cell BK166.out 0).trans rfl, (blk_cell BK166.out 1).trans rfl, (blk_cell BK166.out 2).trans rfl⟩ (fun hHeld => ?_)
                clear hK K
                refine norm_ (a' := ?_) ?_ ?_
                (rotate_left; ·(show Act.put _ (some 57) _ = _; simp only [Act.put, pq_z16]; rfl))
                exact norm_ (by simp only [putAll, Act.put, List.setIfInBounds_toArray, List.set_cons_zero, List.set_cons_succ]) (hCont (.slice (some ado34) y167.length co34, ado34) _ ⟨hHeld, (by (with_reducible repeat (first | apply Kd.R_alloc | apply Kd.R_drewN | apply Kd.R_drew)); exact HO169.out), ⟨_, rfl⟩, (by (with_reducible repeat first | apply blk_drewN | apply blk_drew | apply blk_alloc); exact BK160.out), (by (with_reducible repeat first | apply blk_drewN | apply blk_drew | apply blk_alloc); exact BK166.out), (by repeat (first | (with_reducible first | exact HB.out | apply below_alloc | apply pw_below_drewN | apply below_drew1 | refine below_set ?_ GE160.out | refine below_set ?_ GE166.out) | exact HB.out))⟩)
               ·skip
                refine goes_ Tryd.func34 (by kernel_rfl) rfl #[.int .i64 ((rd_T62 l0_1 x5_2).f0)] (by rfl) rfl rfl (by (try simp only [List.map_toArray, List.map_cons, List.map_nil]); first | done | rfl | (simp only [List.length_drop, List.length_take]; rfl)) ?_
                with_reducible refine (spec_l06Num.calls k2 ((rd_T62 l0_1 x5_2).f0) t171 _ A23.out).mono ?_
                rintro e w35 ⟨rfl, hb⟩
                refine ⟨_, rfl, ?_⟩
                have n0_ := Aside0.mk (Kd.R_below (by (with_reducible repeat (first | apply Kd.R_alloc | apply Kd.R_drewN | apply Kd.R_drew)); exact HO169.out) hb)
                have n1_ := Aside0.mk (blk_below (g := gb160) (o := .cells #[.slice A0_0 l0_0.length c0_0, .slice (some ad165) l0_1.length c0_1] 32 (0, 0)) (by (with_reducible repeat first | apply blk_drewN | apply blk_drew | apply blk_alloc); exact BK160.out) hb)
                have n2_ := Aside0.mk (blk_below (g := gb166) (o := .cells #[.int .i64 ((rd_T62 l0_1 x5_2).f0), .int .i64 ((rd_T62 l0_1 x5_2).f1), .slice A165_2 ((rd_T62 l0_1 x5_2).f2).length c165_2] 62 (0, 0)) (by (with_reducible repeat first | apply blk_drewN | apply blk_drew | apply blk_alloc); exact BK166.out) hb)
                have n3_ := Aside0.mk (below_step (by repeat (first | (with_reducible first | exact HB.out | apply below_alloc | apply pw_below_drewN | apply below_drew1 | refine below_set ?_ GE160.out | refine below_set ?_ GE166.out) | exact HB.out)) hb)
                clear HO169
                clear BK160
                clear BK166
                clear HB
                have HO169 := n0_
                have BK160 := n1_
                have BK166 := n2_
                have HB := n3_
                clear n0_ n1_ n2_ n3_
                (try clear hb)
                (try clear hb2)
                (try clear hk)
                (try clear hi)
                refine hK.out _ _ ⟨(blk_cell BK166.out 0).trans rfl, (blk_cell BK166.out 1).trans rfl, (blk_cell BK166.out 2).trans rfl⟩ (fun hHeld => ?_)
                clear hK K
                refine norm_ (a' := ?_) ?_ ?_
                (rotate_left; ·(show Act.put _ (some 57) _ = _; simp only [Act.put, pq_z16]; rfl))
                refine one_ (i := 6) (N := some 53) mz16_36 rfl rfl (one_of HT_.out (by kernel_rfl)) (by decide) (fun K hK => ?_)
                (have p170 : 0 ≤ ((ji19) : Int) := of_decide_eq_true (by assumption); have q170 : (ji19) < (y167.length : Int) := of_decide_eq_true (by assumption); obtain ⟨ad170, e170, hx170_0⟩ := Kd.at_string (Kd.R_reads' HO169.out).2.2 (ji19) p170 q170; obtain rfl : ado34 = ad170 := (by injection e170))
                refine value_ (w1 := ?_) (v := ?_) (by rfl) rfl ?_ ?_
                rotate_left 2
                ·go_simp
                 constructor
                 ·rfl
                 ·rfl
                clear hx170_0
                refine hK.out _ _ ⟨(blk_cell BK166.out 0).trans rfl, (blk_cell BK166.out 1).trans rfl, (blk_cell BK166.out 2).trans rfl⟩ (fun hHeld => ?_)
                clear hK K
                refine norm_ (a' := ?_) ?_ ?_
                (rotate_left; ·(show Act.put _ (some 53) _ = _; simp only [Act.put, pq_z16]; rfl))
                refine pu_z16 7 (some 54) ?_ mz16_29 rfl rfl (any_of HT_.out (by kernel_rfl)) (fun _ _ _ h => h) (Or.inl ⟨by rfl, ?_⟩) ?_ ?_ ?_
                (rotate_left; ·(intro w'; go_simp; with_reducible rfl)); (rotate_left; ·(simp only [Act.put, pq_z16]; rfl))
                exact norm_ (by simp only [putAll, Act.put, List.setIfInBounds_toArray, List.set_cons_zero, List.set_cons_succ]) (hCont (.slice (some ado34) y167.length co34, ado34) _ ⟨hHeld, (by (with_reducible repeat (first | apply Kd.R_alloc | apply Kd.R_drewN | apply Kd.R_drew)); exact HO169.out), ⟨_, rfl⟩, (by (with_reducible repeat first | apply blk_drewN | apply blk_drew | apply blk_alloc); exact BK160.out), (by (with_reducible repeat first | apply blk_drewN | apply blk_drew | apply blk_alloc); exact BK166.out), (by repeat (first | (with_reducible first | exact HB.out | apply below_alloc | apply pw_below_drewN | apply below_drew1 | refine below_set ?_ GE160.out | refine below_set ?_ GE166.out) | exact HB.out))⟩)
              ·skip
               refine goes_ Tryd.func34 (by kernel_rfl) rfl #[.int .i64 ((rd_T62 l0_1 x5_2).f0)] (by rfl) rfl rfl (by (try simp only [List.map_toArray, List.map_cons, List.map_nil]); first | done | rfl | (simp only [List.length_drop, List.length_take]; rfl)) ?_
               with_reducible refine (spec_l06Num.calls k2 ((rd_T62 l0_1 x5_2).f0) t171 _ A23.out).mono ?_
               rintro e w32 ⟨rfl, hb⟩
               refine ⟨_, rfl, ?_⟩
               have n0_ := Aside0.mk (blk_below (g := gb160) (o := .cells #[.slice A0_0 l0_0.length c0_0, .slice (some ad165) l0_1.length c0_1] 32 (0, 0)) (by (with_reducible repeat first | apply blk_drewN | apply blk_drew | apply blk_alloc); exact BK160.out) hb)
               have n1_ := Aside0.mk (blk_below (g := gb166) (o := .cells #[.int .i64 ((rd_T62 l0_1 x5_2).f0), .int .i64 ((rd_T62 l0_1 x5_2).f1), .slice A165_2 ((rd_T62 l0_1 x5_2).f2).length c165_2] 62 (0, 0)) (by (with_reducible repeat first | apply blk_drewN | apply blk_drew | apply blk_alloc); exact BK166.out) hb)
               have n2_ := Aside0.mk (below_step (by repeat (first | (with_reducible first | exact HB.out | apply below_alloc | apply pw_below_drewN | apply below_drew1 | refine below_set ?_ GE160.out | refine below_set ?_ GE166.out) | exact HB.out)) hb)
               clear BK160
               clear BK166
               clear HB
               have BK160 := n0_
               have BK166 := n1_
               have HB := n2_
               clear n0_ n1_ n2_
               (try clear hb)
               (try clear hb2)
               (try clear hk)
               (try clear hi)
               refine hK.out _ _ ⟨(blk_cell BK166.out 0).trans rfl, (blk_cell BK166.out 1).trans rfl, (blk_cell BK166.out 2).trans rfl⟩ (fun hHeld => ?_)
               clear hK K
               refine norm_ (a' := ?_) ?_ ?_
               (rotate_left; ·(show Act.put _ (some 57) _ = _; simp only [Act.put, pq_z16]; rfl))
               refine one_ (i := 1) (N := some 48) mz16_37 rfl rfl (one_of HT_.out (by kernel_rfl)) (by decide) (fun K hK => ?_)
               refine Kd.R_lit_step Kd.string _ 9 ?hg (N := 48) ?hd (xs := ([(⟨#[104, 111, 115, 116]⟩ : ByteArray), (⟨#[114, 97, 99, 107]⟩ : ByteArray), (⟨#[114, 111, 111, 116]⟩ : ByteArray)] : List ByteArray)) (inner := [.string (⟨#[104, 111, 115, 116]⟩ : ByteArray), .string (⟨#[114, 97, 99, 107]⟩ : ByteArray), .string (⟨#[114, 111, 111, 116]⟩ : ByteArray)]) (ok := fun _ => True) (okp := fun _ => True) ?hr ?hp (fun _ hk => hk) trivial (Below.refl _ _) (Nat.le_refl _) (by simp) ?_; (case hd => rfl); (case hg => rfl); (case hr => first | (go_simp; done) | (go_simp; rfl)); (case hp => exact (Reps.one (show Kd.M Kd.string _ _ _ (⟨#[104, 111, 115, 116]⟩ : ByteArray) [.string (⟨#[104, 111, 115, 116]⟩ : ByteArray)] from rfl) (Reps.one (show Kd.M Kd.string _ _ _ (⟨#[114, 97, 99, 107]⟩ : ByteArray) [.string (⟨#[114, 97, 99, 107]⟩ : ByteArray)] from rfl) (Reps.one (show Kd.M Kd.string _ _ _ (⟨#[114, 111, 111, 116]⟩ : ByteArray) [.string (⟨#[114, 111, 111, 116]⟩ : ByteArray)] from rfl) (Reps.none _ _)))))
               intro v168 w33 ho34 hb hg_ hnew_
               clear hg_ hnew_
               (first | rw [← Ny167.out] at ho34 | (simp only [Int.reduceToNat] at ho34; rw [← Ny167.out] at ho34))
               have n0_ := Aside0.mk (Kd.R_lower ho34 (below_size (by repeat (first | (with_reducible first | exact HB.out | apply below_alloc | apply pw_below_drewN | apply below_drew1 | refine below_set ?_ GE160.out | refine below_set ?_ GE166.out) | exact HB.out))))
               have n1_ := Aside0.mk (blk_below (g := gb160) (o := .cells #[.slice A0_0 l0_0.length c0_0, .slice (some ad165) l0_1.length c0_1] 32 (0, 0)) (by (with_reducible repeat first | apply blk_drewN | apply blk_drew | apply blk_alloc); exact BK160.out) hb)
               have n2_ := Aside0.mk (blk_below (g := gb166) (o := .cells #[.int .i64 ((rd_T62 l0_1 x5_2).f0), .int .i64 ((rd_T62 l0_1 x5_2).f1), .slice A165_2 ((rd_T62 l0_1 x5_2).f2).length c165_2] 62 (0, 0)) (by (with_reducible repeat first | apply blk_drewN | apply blk_drew | apply blk_alloc); exact BK166.out) hb)
               have n3_ := Aside0.mk (below_step (by repeat (first | (with_reducible first | exact HB.out | apply below_alloc | apply pw_below_drewN | apply below_drew1 | refine below_set ?_ GE160.out | refine below_set ?_ GE166.out) | exact HB.out)) hb)
               clear BK160
               clear BK166
               clear HB
               have HO169 := n0_
               have BK160 := n1_
               have BK166 := n2_
               have HB := n3_
               clear n0_ n1_ n2_ n3_
               clear hb ho34
               obtain ⟨Ao35, co35, eo35⟩ := Kd.R_slice HO169.out
               subst eo35
               obtain ⟨ado35, fo35, _⟩ := Kd.at_string (Kd.R_reads' HO169.out).2.2 0 (by decide) (by rw [Ny167.out]; simp)
               cases fo35
               refine hK.out _ _ ⟨(blk_cell BK166.out 0).trans rfl, (blk_cell BK166.out 1).trans rfl, (blk_cell BK166.out 2).trans rfl⟩ (fun hHeld => ?_)
               clear hK K
               refine norm_ (a' := ?_) ?_ ?_
               (rotate_left; ·(show Act.put _ (some 48) _ = _; simp only [Act.put, pq_z16]; rfl))
               refine pu_z16 5 (some 52) ?_ mz16_34 rfl rfl (any_of HT_.out (by kernel_rfl)) (fun _ _ _ h => h) (Or.inl ⟨by rfl, ?_⟩) ?_ ?_ ?_
               (rotate_left; ·(intro w'; go_simp; with_reducible rfl)); (rotate_left; ·(simp only [Act.put, pq_z16]; rfl))
               refine one_ (i := 6) (N := some 53) mz16_36 rfl rfl (one_of HT_.out (by kernel_rfl)) (by decide) (fun K hK => ?_)
               (have p170 : 0 ≤ ((ji19) : Int) := of_decide_eq_true (by assumption); have q170 : (ji19) < (y167.length : Int) := of_decide_eq_true (by assumption); obtain ⟨ad170, e170, hx170_0⟩ := Kd.at_string (Kd.R_reads' HO169.out).2.2 (ji19) p170 q170; obtain rfl : ado35 = ad170 := (by injection e170))
               refine value_ (w1 := ?_) (v := ?_) (by rfl) rfl ?_ ?_
               rotate_left 2
               ·go_simp
                constructor
                ·rfl
                ·rfl
               clear hx170_0
               refine hK.out _ _ ⟨(blk_cell BK166.out 0).trans rfl, (blk_cell BK166.out 1).trans rfl, (blk_cell BK166.out 2).trans rfl⟩ (fun hHeld => ?_)
               clear hK K
               refine norm_ (a' := ?_) ?_ ?_
               (rotate_left; ·(show Act.put _ (some 53) _ = _; simp only [Act.put, pq_z16]; rfl))
               refine pu_z16 7 (some 54) ?_ mz16_29 rfl rfl (any_of HT_.out (by kernel_rfl)) (fun _ _ _ h => h) (Or.inl ⟨by rfl, ?_⟩) ?_ ?_ ?_
               (rotate_left; ·(intro w'; go_simp; with_reducible rfl)); (rotate_left; ·(simp only [Act.put, pq_z16]; rfl))
               exact norm_ (by simp only [putAll, Act.put, List.setIfInBounds_toArray, List.set_cons_zero, List.set_cons_succ]) (hCont (.slice (some ado35) y167.length co35, ado35) _ ⟨hHeld, (by (with_reducible repeat (first | apply Kd.R_alloc | apply Kd.R_drewN | apply Kd.R_drew)); exact HO169.out), ⟨_, rfl⟩, (by (with_reducible repeat first | apply blk_drewN | apply blk_drew | apply blk_alloc); exact BK160.out), (by (with_reducible repeat first | apply blk_drewN | apply blk_drew | apply blk_alloc); exact BK166.out), (by repeat (first | (with_reducible first | exact HB.out | apply below_alloc | apply pw_below_drewN | apply below_drew1 | refine below_set ?_ GE160.out | refine below_set ?_ GE166.out) | exact HB.out))⟩)
             rintro ⟨v168, adz_v168⟩ w36 ⟨hS_, h0_, h1_, h2_, h3_, h4_⟩
             have n0_ : Aside0 (Kd.R Kd.string 9 w36 w.heap.size (fun _ => True) v168 y167) := ⟨h0_⟩
             have n1_ : Aside0 (∃ c_, (v168 : Value) = .slice (some adz_v168) y167.length c_) := ⟨h1_⟩
             have n2_ : Aside0 (w36.heap[gb160]? = some (.cells #[.slice A0_0 l0_0.length c0_0, .slice (some ad165) l0_1.length c0_1] 32 (0, 0))) := ⟨h2_⟩
             have n3_ : Aside0 (w36.heap[gb166]? = some (.cells #[.int .i64 ((rd_T62 l0_1 x5_2).f0), .int .i64 ((rd_T62 l0_1 x5_2).f1), .slice A165_2 ((rd_T62 l0_1 x5_2).f2).length c165_2] 62 (0, 0))) := ⟨h3_⟩
             have n4_ : Aside0 (Below w.heap.size w w36) := ⟨h4_⟩
             clear BK160
             clear BK166
             clear HB
             clear h0_ h1_ h2_ h3_ h4_
             have HO169 := n0_
             have HA_HO169 := n1_
             have BK160 := n2_
             have BK166 := n3_
             have HB := n4_
             clear n0_ n1_ n2_ n3_ n4_
             have hHeld : w36.cell? ⟨gb166, 0, none⟩ = some (.int .i64 ((rd_T62 l0_1 x5_2).f0)) ∧ w36.cell? ⟨gb166, 1, none⟩ = some (.int .i64 ((rd_T62 l0_1 x5_2).f1)) ∧ w36.cell? ⟨gb166, 2, none⟩ = some (.slice A165_2 ((rd_T62 l0_1 x5_2).f2).length c165_2) := hS_
             obtain ⟨co37, eo37⟩ := HA_HO169.out
             clear HA_HO169
             subst eo37
             refine norm_ (a' := ?_) ?_ ?_
             rotate_left
             ·simp only [putAll, Act.put, List.setIfInBounds_toArray, List.set_cons_zero, List.set_cons_succ]
              rfl
             refine pu_z16 11 (some 58) ?_ mz16_38 rfl rfl (any_of HT_.out (by kernel_rfl)) (fun _ _ _ h => h) (Or.inl ⟨by rfl, ?_⟩) ?_ ?_ ?_
             (rotate_left; ·(intro w'; go_simp; with_reducible rfl)); (rotate_left; ·(simp only [Act.put, pq_z16]; rfl))
             refine pu_z16 12 (some 59) ?_ mz16_39 rfl rfl (any_of HT_.out (by kernel_rfl)) (fun _ _ _ h => h) (Or.inl ⟨by rfl, ?_⟩) ?_ ?_ ?_
             (rotate_left; ·(intro w'; go_simp; with_reducible rfl)); (rotate_left; ·(simp only [Act.put, pq_z16]; rfl))
             refine pu_z16 13 (some 3) ?_ mz16_40 rfl rfl (any_of HT_.out (by kernel_rfl)) (fun _ _ _ h => h) (Or.inl ⟨by rfl, ?_⟩) ?_ ?_ ?_
             (rotate_left; ·(intro w'; go_simp; with_reducible rfl)); (rotate_left; ·(simp only [Act.put, pq_z16]; rfl))
             refine done_ (done_of HT_.out (by kernel_rfl)) ?_
             try go_wp2
             go_loopg [3, 7] k2 (fun kq v3 v7 w' => ∃ (x3_3 : ByteArray) (x7_3 : Int), v3 = .string x3_3 ∧ v7 = .int .i64 x7_3 ∧ Aside0 (spec_l06Text.l2 kq x3_3 x5_2 x7_3 l0_0 l0_1 ((rd_T62 l0_1 x5_2).f0) ((rd_T62 l0_1 x5_2).f1) ((rd_T62 l0_1 x5_2).f2) = some r) ∧ Aside0 (kq ≤ k2) ∧ Aside0 (w'.heap[gb160]? = some (.cells #[(.slice A0_0 l0_0.length c0_0), (.slice (some ad165) l0_1.length c0_1)] 32 (0, 0))) ∧ Aside0 (w'.heap[gb166]? = some (.cells #[.int .i64 ((rd_T62 l0_1 x5_2).f0), .int .i64 ((rd_T62 l0_1 x5_2).f1), (.slice A165_2 ((rd_T62 l0_1 x5_2).f2).length c165_2)] 62 (0, 0))) ∧ Aside0 (Below w.heap.size w w'))
             case atStart => exact ⟨(x3_2 ++ (((rdOf ByteArray.empty y167 (ji19)) ++ (⟨#[32]⟩ : ByteArray)) ++ t171)), (0), (by first | rfl | (simp; done) | (simp only [← hji19] <;> (first | rfl | simp)) | (simp [*]; done)), (by first | rfl | (simp; done) | (simp [*]; done)), H', ⟨Nat.le_refl _⟩, ⟨by (with_reducible repeat first | apply blk_drewN | apply blk_drew | apply blk_alloc); exact BK160.out⟩, ⟨by (with_reducible repeat first | apply blk_drewN | apply blk_drew | apply blk_alloc); exact BK166.out⟩, ⟨by repeat (first | (with_reducible first | exact HB.out | apply below_alloc | apply pw_below_drewN | apply below_drew1 | refine below_set ?_ GE160.out | refine below_set ?_ GE166.out) | exact HB.out)⟩⟩
             case round =>
              clear H'
              try clear c1
              try clear p1
              try clear q1
              try clear hx1
              try clear qi1
              try clear c2
              try clear p2
              try clear c3
              try clear c3b0
              try clear c4
              try clear c4b0
              try clear c6
              try clear c6b0
              try clear c6b1
              try clear c6b2
              try clear p6
              try clear c7
              try clear c7b0
              try clear c7b1
              try clear c7b2
              try clear c9
              try clear c9b0
              try clear c9b1
              try clear c9b2
              try clear c10
              try clear c10b0
              try clear c10b1
              try clear c10b2
              try clear c11
              try clear c11b0
              try clear c11b1
              try clear c11b2
              try clear c16
              try clear p16
              try clear q16
              try clear hx16
              try clear c17
              try clear c17b0
              try clear p17
              try clear q17
              try clear hx17
              try clear qi17
              try clear c18
              try clear c18b0
              try clear c20
              try clear c20b0
              try clear c21
              try clear c21b0
              try clear c22
              try clear c22b0
              try clear c22b1
              try clear c22b2
              try clear c24
              try clear c24b0
              try clear c24b1
              try clear c24b2
              try clear c25
              try clear c25b0
              try clear c25b1
              try clear c25b2
              try clear c28
              try clear c34
              try clear hcz12_0
              try clear hcz12_1
              try clear hcz16_0
              try clear hcz16_1
              try clear hcz26_0
              try clear hcz26_1
              try clear hcz29_0
              try clear hcz29_1
              try clear hcz29_2
              try clear hfz12_0
              try clear hfz12_1
              try clear hfz16_0
              try clear hfz16_1
              try clear hfz26_0
              try clear hfz26_1
              try clear hfz29_0
              try clear hfz29_1
              try clear hfz29_2
              try clear hx161_0
              try clear hx161_1
              try clear hx163_0
              try clear hx163_1
              try clear hx165_0
              try clear hx165_1
              try clear hx165_2
              try clear hx170_0
              try clear p1
              try clear p16
              try clear p161
              try clear p163
              try clear p165
              try clear p170
              try clear p2
              try clear p6
              try clear q1
              try clear q16
              try clear q161
              try clear q163
              try clear q165
              try clear q170
              obtain ⟨x3_3, x7_3, rfl, rfl, HA, HK3, BK160, BK166, HB⟩ := hrel
              cases gk with
              | zero => exact absurd HA.out (by simp [spec_l06Text.l2])
              | succ k3 =>
               have H := HA.out
               clear HA
               simp only [spec_l06Text.l2] at H
               by_cases c38 : x7_3 < (((rd_T62 l0_1 x5_2).f2).length : Int)
               ·rw [if_pos c38] at H
                have c38b0 : decide (x7_3 < (((rd_T62 l0_1 x5_2).f2).length : Int)) = true := decide_eq_true c38
                clear c38
                by_cases c39 : 0 ≤ x7_3
                ·rw [if_pos c39] at H
                 have c39b0 : decide (0 ≤ x7_3) = true := decide_eq_true c39
                 clear c39
                 replace H := Option.bind_eq_some_iff.mp H
                 obtain ⟨t173, A400, H⟩ := H
                 replace H : (if 1 + t173.size ≤ 9223372036854775807 then (if x3_3.size + ((⟨#[32]⟩ : ByteArray) ++ t173).size ≤ 9223372036854775807 then (spec_l06Text.l2 k3 (x3_3 ++ ((⟨#[32]⟩ : ByteArray) ++ t173)) x5_2 (wrap64 (x7_3 + 1)) l0_0 l0_1 ((rd_T62 l0_1 x5_2).f0) ((rd_T62 l0_1 x5_2).f1) ((rd_T62 l0_1 x5_2).f2)) else (none)) else (none)) = some r := H
                 have A40 := Aside0.mk A400
                 clear A400
                 by_cases c41 : 1 + t173.size ≤ 9223372036854775807
                 ·rw [if_pos c41] at H
                  have c41b0 := eq_true c41
                  have c41b1 : decide (1 + t173.size ≤ 9223372036854775807) = true := decide_eq_true c41
                  try have c41b2 : (9223372036854775807 < 1 + t173.size) = False := eq_false (Nat.not_lt.2 c41)
                  by_cases c42 : x3_3.size + ((⟨#[32]⟩ : ByteArray) ++ t173).size ≤ 9223372036854775807
                  ·rw [if_pos c42] at H
                   have c42b0 := eq_true c42
                   have c42b1 : decide (x3_3.size + ((⟨#[32]⟩ : ByteArray) ++ t173).size ≤ 9223372036854775807) = true := decide_eq_true c42
                   try have c42b2 : (9223372036854775807 < x3_3.size + ((⟨#[32]⟩ : ByteArray) ++ t173).size) = False := eq_false (Nat.not_lt.2 c42)
                   have c42n := c42
                   simp only [ByteArray.size_append, show ((⟨#[104, 111, 115, 116]⟩ : ByteArray).size = 4) from rfl, show ((⟨#[10]⟩ : ByteArray).size = 1) from rfl, show ((⟨#[110, 111, 100, 101, 32]⟩ : ByteArray).size = 5) from rfl, show ((⟨#[114, 111, 111, 116]⟩ : ByteArray).size = 4) from rfl, show ((⟨#[114, 97, 99, 107]⟩ : ByteArray).size = 4) from rfl, show ((⟨#[32]⟩ : ByteArray).size = 1) from rfl, show ((⟨#[]⟩ : ByteArray).size = 0) from rfl] at c42n
                   have c42b3 := eq_false (Nat.not_lt.2 c42n)
                   clear c42n
                   have H' := Aside0.mk H
                   clear H
                   have hnb43 := NB166_160.out
                   have hnc43 := NB160_166.out
                   have hcz44_0 : wr.cell? ⟨gb166, 0, none⟩ = some (.int .i64 ((rd_T62 l0_1 x5_2).f0)) := (blk_cell BK166.out 0).trans rfl
                   have hcz44_1 : wr.cell? ⟨gb166, 1, none⟩ = some (.int .i64 ((rd_T62 l0_1 x5_2).f1)) := (blk_cell BK166.out 1).trans rfl
                   have hcz44_2 : wr.cell? ⟨gb166, 2, none⟩ = some (.slice A165_2 ((rd_T62 l0_1 x5_2).f2).length c165_2) := (blk_cell BK166.out 2).trans rfl
                   have hfz44_0 := blk_frozen BK166.out 0
                   have hfz44_1 := blk_frozen BK166.out 1
                   have hfz44_2 := blk_frozen BK166.out 2
                   have p172 : 0 ≤ (x7_3 : Int) := of_decide_eq_true (by assumption)
                   have q172 : x7_3 < (((rd_T62 l0_1 x5_2).f2).length : Int) := of_decide_eq_true (by assumption)
                   obtain ⟨ad172, e172, hx172_0⟩ := Kd.at_int HR165_2.out x7_3 p172 q172
                   cases e172
                   replace hx172_0 := (HB.out.cell (World.block_lt_of_cell? w _ hx172_0)).trans hx172_0
                   replace p172 := eq_true p172
                   replace q172 := eq_true q172
                   go_wp2_with (first | ((with_reducible refine gate_callee (f := 34) rfl ?_); refine goesL_ (some 73) rfl rfl Tryd.func34 (by kernel_rfl) rfl #[.int .i64 (rd ((rd_T62 l0_1 x5_2).f2) x7_3)] rfl (by (try simp only [List.map_toArray, List.map_cons, List.map_nil]); first | done | rfl | (simp only [List.length_drop, List.length_take]; rfl)) ?_; (with_reducible refine (spec_l06Num.calls k3 (rd ((rd_T62 l0_1 x5_2).f2) x7_3) t173 _ A40.out).mono ?_); rintro e w45 ⟨rfl, hb⟩; refine ⟨_, rfl, ?_⟩; have n0_ := Aside0.mk (blk_below (g := gb160) (o := .cells #[.slice A0_0 l0_0.length c0_0, .slice (some ad165) l0_1.length c0_1] 32 (0, 0)) (by (with_reducible repeat first | apply blk_drewN | apply blk_drew | apply blk_alloc); exact BK160.out) hb); have n1_ := Aside0.mk (blk_below (g := gb166) (o := .cells #[.int .i64 ((rd_T62 l0_1 x5_2).f0), .int .i64 ((rd_T62 l0_1 x5_2).f1), .slice (some ad172) ((rd_T62 l0_1 x5_2).f2).length c165_2] 62 (0, 0)) (by (with_reducible repeat first | apply blk_drewN | apply blk_drew | apply blk_alloc); exact BK166.out) hb); have n2_ := Aside0.mk (below_step (by repeat (first | (with_reducible first | exact HB.out | apply below_alloc | apply pw_below_drewN | apply below_drew1 | refine below_set ?_ GE160.out | refine below_set ?_ GE166.out) | exact HB.out)) hb); clear BK160; clear BK166; clear HB; have BK160 := n0_; have BK166 := n1_; have HB := n2_; clear n0_ n1_ n2_; (try clear hb); (try clear hb2); (try clear hk); (try clear hi)))
                   go_roundg k3
                   case measure => have := HK1.out; have := HK2.out; have := HK3.out; omega
                   case rel => exact ⟨(x3_3 ++ ((⟨#[32]⟩ : ByteArray) ++ t173)), (wrap64 (x7_3 + 1)), (by first | rfl | (simp; done) | (simp [*]; done)), (by first | rfl | (simp; done) | (simp [*]; done)), H', ⟨by have := HK1.out; have := HK2.out; have := HK3.out; omega⟩, ⟨by (with_reducible repeat first | apply blk_drewN | apply blk_drew | apply blk_alloc); exact BK160.out⟩, ⟨by (with_reducible repeat first | apply blk_drewN | apply blk_drew | apply blk_alloc); exact BK166.out⟩, ⟨by repeat (first | (with_reducible first | exact HB.out | apply below_alloc | apply pw_below_drewN | apply below_drew1 | refine below_set ?_ GE160.out | refine below_set ?_ GE166.out) | exact HB.out)⟩⟩
                  ·rw [if_neg c42] at H
                   exact absurd H (by simp)
                 ·rw [if_neg c41] at H
                  exact absurd H (by simp)
                ·rw [if_neg c39] at H
                 exact absurd H (by simp)
               ·rw [if_neg c38] at H
                have c38b0 : decide (x7_3 < (((rd_T62 l0_1 x5_2).f2).length : Int)) = false := decide_eq_false c38
                clear c38
                by_cases c46 : x3_3.size + 1 ≤ 9223372036854775807
                ·rw [if_pos c46] at H
                 have c46b0 := eq_true c46
                 have c46b1 : decide (x3_3.size + 1 ≤ 9223372036854775807) = true := decide_eq_true c46
                 try have c46b2 : (9223372036854775807 < x3_3.size + 1) = False := eq_false (Nat.not_lt.2 c46)
                 have H' := Aside0.mk H
                 clear H
                 have hnb47 := NB166_160.out
                 have hnc47 := NB160_166.out
                 have hcz48_0 : wr.cell? ⟨gb166, 0, none⟩ = some (.int .i64 ((rd_T62 l0_1 x5_2).f0)) := (blk_cell BK166.out 0).trans rfl
                 have hcz48_1 : wr.cell? ⟨gb166, 1, none⟩ = some (.int .i64 ((rd_T62 l0_1 x5_2).f1)) := (blk_cell BK166.out 1).trans rfl
                 have hcz48_2 : wr.cell? ⟨gb166, 2, none⟩ = some (.slice A165_2 ((rd_T62 l0_1 x5_2).f2).length c165_2) := (blk_cell BK166.out 2).trans rfl
                 have hfz48_0 := blk_frozen BK166.out 0
                 have hfz48_1 := blk_frozen BK166.out 1
                 have hfz48_2 := blk_frozen BK166.out 2
                 go_wp2
                 go_roundg k3
                 case measure => have := HK1.out; have := HK2.out; have := HK3.out; omega
                 case rel => exact ⟨(x3_3 ++ (⟨#[10]⟩ : ByteArray)), (wrap64 (x5_2 + 1)), (by first | rfl | (simp; done) | (simp [*]; done)), (by first | rfl | (simp; done) | (simp [*]; done)), H', ⟨by have := HK1.out; have := HK2.out; have := HK3.out; omega⟩, ⟨by (with_reducible repeat first | apply blk_drewN | apply blk_drew | apply blk_alloc); exact BK160.out⟩, ⟨by repeat (first | (with_reducible first | exact HB.out | apply below_alloc | apply pw_below_drewN | apply below_drew1 | refine below_set ?_ GE160.out | refine below_set ?_ GE166.out) | exact HB.out)⟩⟩
                ·rw [if_neg c46] at H
                 exact absurd H (by simp)
            ·rw [if_neg c25] at H
             exact absurd H (by simp)
           ·rw [if_neg c24] at H
            exact absurd H (by simp)
          ·rw [if_neg c22] at H
           exact absurd H (by simp)
         ·rw [if_neg c21] at H
          exact absurd H (by simp)
        ·rw [if_neg c20] at H
         exact absurd H (by simp)
       ·rw [if_neg c18] at H
        exact absurd H (by simp)
      ·rw [if_neg c17] at H
       have c17b0 : decide (x5_2 < (l0_1.length : Int)) = false := decide_eq_false c17
       clear c17
       obtain rfl := Option.some.inj H
       have hcz49_0 : wr.cell? ⟨gb160, 0, none⟩ = some (.slice A0_0 l0_0.length c0_0) := (blk_cell BK160.out 0).trans rfl
       have hcz49_1 : wr.cell? ⟨gb160, 1, none⟩ = some (.slice A0_1 l0_1.length c0_1) := (blk_cell BK160.out 1).trans rfl
       have hfz49_0 := blk_frozen BK160.out 0
       have hfz49_1 := blk_frozen BK160.out 1
       go_wp2
       go_ret
       exact ⟨by first | rfl | (simp [*, errW_none, errW_some] <;> rfl), by repeat (first | (with_reducible first | exact HB.out | apply below_alloc | apply pw_below_drewN | apply below_drew1 | refine below_set ?_ GE160.out) | exact HB.out)⟩

end Go.Proofs.YtohjpgcmhihdhaaDoor.Q

namespace Go.Proofs.YtohjpgcmhihdhaaDoor.Pure
open Go.RowKit Go.Proofs.YtohjpgcmhihdhaaDoor.Q Go.Proofs.YtohjpgcmhihdhaaDoorW.PrintWords Go.Proofs.YtohjpgcmhihdhaaDoorW.PrintLast Go.Proofs.YtohjpgcmhihdhaaDoorW.PrintMore
set_option linter.unusedVariables false
set_option linter.unusedSimpArgs false
/-- bytes as a text -/
def toB (l : List UInt8) : ByteArray := ⟨l.toArray⟩
theorem toB_app (a b : List UInt8) : toB (a ++ b) = toB a ++ toB b := by
  apply ByteArray.ext
  simp [toB]
theorem toB_bytes (s : ByteArray) : toB s.data.toList = s := by
  apply ByteArray.ext
  simp [toB]
theorem app_assoc (a b c : ByteArray) : (a ++ b) ++ c = a ++ (b ++ c) := ByteArray.append_assoc
/-- a small number: what ids, weights and kinds are -/
def Small6 (n : Int) : Prop := -1000000 ≤ n ∧ n ≤ 1000000
theorem small_in {n : Int} (h : Small6 n) : In64 n := ⟨by have := h.1; omega, by have := h.2; omega⟩
theorem dec_le (n : Int) (h : Small6 n) : (decB n).size ≤ 21 := decB_size n (small_in h).1 (small_in h).2
def sp : ByteArray := ⟨#[32]⟩
def nl : ByteArray := ⟨#[10]⟩
theorem node_line (x : S65) : (((((⟨#[110, 111, 100, 101, 32]⟩ : ByteArray) ++ decB x.f0) ++ (⟨#[32]⟩ : ByteArray)) ++ decB x.f1) ++ (⟨#[10]⟩ : ByteArray)) = nodeLine x := by
  unfold nodeLine lineB
  simp only [List.foldl_cons, List.foldl_nil]
  rw [show (⟨#[110, 111, 100, 101, 32]⟩ : ByteArray) = (⟨#[110, 111, 100, 101]⟩ : ByteArray) ++ (⟨#[32]⟩ : ByteArray) from rfl]
  simp only [app_assoc]
section
variable (D : List S65) (B : List S62)
theorem text_items (x3 : ByteArray) (n : Nat) (b0 b1 : Int) (it : List Int) (hit : it.length ≤ 1000) (hs : ∀ y ∈ it, Small6 y) (r : ByteArray) (h : ∀ s2 : ByteArray, s2 = lineB x3 it → Ev (fun k => spec_l06Text.l1 k (s2 ++ (⟨#[10]⟩ : ByteArray)) (wrap64 ((n : Int) + 1)) D B) r) (hx : x3.size ≤ 1000000000) : Ev (fun k => spec_l06Text.l2 k x3 n 0 D B b0 b1 it) r := by
  have key : ∀ (d i : Nat) (s : ByteArray), i + d = it.length → s.size + 22 * d ≤ 1000000000 + 22000 → lineB s (it.drop i) = lineB x3 it → Ev (fun k => spec_l06Text.l2 k s n i D B b0 b1 it) r := fun d => by
    induction d with
    | zero =>
      intro i s hi hsz he
      obtain rfl : i = it.length := by omega
      rw [List.drop_length] at he
      refine Ev.step (fun k => ?_) (h s he)
      simp only [spec_l06Text.l2]
      have h1 : (⟨#[10]⟩ : ByteArray).size = 1 := rfl
      rw [if_neg (by omega), if_pos (by omega)]
    | succ d ih =>
      intro i s hi hsz he
      have hil : i < it.length := by omega
      have hsm := hs _ (List.getElem_mem hil)
      have hd := dec_le _ hsm
      have hz : ((⟨#[32]⟩ : ByteArray) ++ decB it[i]).size = 1 + (decB it[i]).size := size_app _ _
      refine Ev.step (f := ?zf1) (fun k => ?_) ?_
      rotate_left
      · simp only [spec_l06Text.l2]
        rw [if_pos (by omega), if_pos (by omega), rd_get it i hil, up64 i it.length hil (by omega)]
      · refine Ev.bind (num_ev _ hsm.1 hsm.2) ?_
        simp only [if_pos (show 1 + (decB it[i]).size ≤ 9223372036854775807 by omega), if_pos (show s.size + ((⟨#[32]⟩ : ByteArray) ++ decB it[i]).size ≤ 9223372036854775807 by rw [hz]; omega)]
        refine ih (i + 1) _ (by omega) (by rw [size_app, hz]; omega) ?_
        rw [← he, List.drop_eq_getElem_cons hil, lineB_cons]
  exact key it.length 0 x3 (by omega) (by omega) rfl
end
theorem lineB_app (a : ByteArray) : ∀ (l : List Int) (b : ByteArray), lineB (a ++ b) l = a ++ lineB b l
  | [], b => rfl
  | x :: l, b => by rw [lineB_cons, lineB_cons, app_assoc, lineB_app a l]
theorem toB_nil : toB [] = ByteArray.empty := rfl
theorem app_empty (s : ByteArray) : s ++ ByteArray.empty = s := ByteArray.append_empty
theorem kw_rd (k : Int) (h1 : 1 ≤ k) (h3 : k ≤ 3) : rdOf ByteArray.empty ([(⟨#[104, 111, 115, 116]⟩ : ByteArray), (⟨#[114, 97, 99, 107]⟩ : ByteArray), (⟨#[114, 111, 111, 116]⟩ : ByteArray)] : List ByteArray) (wrap64 (k - 1)) = kwB k := by
  rw [show wrap64 (k - 1) = k - 1 from by unfold wrap64; omega]
  have h : k = 1 ∨ k = 2 ∨ k = 3 := by omega
  rcases h with rfl | rfl | rfl <;> rfl
/-- what a bucket is, for its line -/
def BktS (x : S62) : Prop := Small6 x.f0 ∧ (1 ≤ x.f1 ∧ x.f1 ≤ 3) ∧ x.f2.length ≤ 1000 ∧ ∀ y ∈ x.f2, Small6 y
theorem bkt_size (x : S62) (h : BktS x) : (bktLine x).size ≤ 30000 := by
  have h1 := lineB_size (x.f0 :: x.f2) (kwB x.f1) (fun y hy => by
    rcases List.mem_cons.1 hy with e | e
    · rw [e]; exact small_in h.1
    · exact small_in (h.2.2.2 y e))
  have h3 : (⟨#[10]⟩ : ByteArray).size = 1 := rfl
  have h4 := kwB_size x.f1
  have h5 := h.2.2.1
  rw [List.length_cons] at h1
  unfold bktLine
  rw [size_app]
  omega
theorem node_size (x : S65) (h : Small6 x.f0 ∧ Small6 x.f1) : (nodeLine x).size ≤ 1000 := by
  have h1 := lineB_size [x.f0, x.f1] ⟨#[110, 111, 100, 101]⟩ (by simp; exact ⟨small_in h.1, small_in h.2⟩)
  have h2 : (⟨#[110, 111, 100, 101]⟩ : ByteArray).size = 4 := rfl
  have h3 : (⟨#[10]⟩ : ByteArray).size = 1 := rfl
  simp only [List.length_cons, List.length_nil] at h1
  unfold nodeLine
  rw [size_app]
  omega
theorem bkt_line (x : S62) : lineB ((kwB x.f1 ++ (⟨#[32]⟩ : ByteArray)) ++ decB x.f0) x.f2 ++ (⟨#[10]⟩ : ByteArray) = bktLine x := by
  unfold bktLine
  rw [lineB_cons, app_assoc (kwB x.f1)]
theorem bkts_cons (x : S62) (l : List S62) : toB (bktsT (x :: l)) = bktLine x ++ toB (bktsT l) := by
  unfold bktsT
  rw [List.flatMap_cons, toB_app, toB_bytes]
theorem nodes_cons (x : S65) (l : List S65) : toB (nodesT (x :: l)) = nodeLine x ++ toB (nodesT l) := by
  unfold nodesT
  rw [List.flatMap_cons, toB_app, toB_bytes]
theorem text_bkts (D : List S65) (B : List S62) (hB : B.length ≤ 1000) (hb : ∀ x ∈ B, BktS x) : ∀ (d i : Nat) (s : ByteArray), i + d = B.length → s.size + 30000 * d ≤ 900000000 → Ev (fun k => spec_l06Text.l1 k s i D B) (s ++ toB (bktsT (B.drop i)))
  | 0, i, s, hi, hs => by
    obtain rfl : i = B.length := by omega
    rw [List.drop_length, show toB (bktsT ([] : List S62)) = ByteArray.empty from rfl, app_empty]
    refine ev_end (fun k => ?_)
    simp only [spec_l06Text.l1]
    rw [if_neg (by omega)]
  | d + 1, i, s, hi, hs => by
    have hil : i < B.length := by omega
    have hx := hb _ (List.getElem_mem hil)
    have hd := dec_le _ hx.1
    have hkw := kwB_size B[i].f1
    have hsz := bkt_size _ hx
    have h1 : (⟨#[32]⟩ : ByteArray).size = 1 := rfl
    have z1 : (kwB B[i].f1 ++ (⟨#[32]⟩ : ByteArray)).size = 5 := by rw [size_app, hkw, h1]
    have z2 : ((kwB B[i].f1 ++ (⟨#[32]⟩ : ByteArray)) ++ decB B[i].f0).size = 5 + (decB B[i].f0).size := by rw [size_app, z1]
    have hw : wrap64 (B[i].f1 - 1) = B[i].f1 - 1 := by have := hx.2.1; unfold wrap64; omega
    refine Ev.step (f := ?zf1) (fun k => ?_) ?_
    rotate_left
    · simp only [spec_l06Text.l1]
      rw [if_pos (by omega), if_pos (by omega), rd_bkt B i hil, Option.bind_some, if_pos (by rw [hw]; have := hx.2.1; omega), if_pos (by rw [hw]; have := hx.2.1; simp; omega), kw_rd _ hx.2.1.1 hx.2.1.2, if_pos (by omega)]
    · refine Ev.bind (num_ev _ hx.1.1 hx.1.2) ?_
      simp only [if_pos (show (kwB B[i].f1 ++ (⟨#[32]⟩ : ByteArray)).size + (decB B[i].f0).size ≤ 9223372036854775807 by omega), if_pos (show s.size + ((kwB B[i].f1 ++ (⟨#[32]⟩ : ByteArray)) ++ decB B[i].f0).size ≤ 9223372036854775807 by omega)]
      refine text_items D B _ i _ _ _ hx.2.2.1 hx.2.2.2 _ (fun s2 hs2 => ?_) (by rw [size_app]; omega)
      have e2 : s2 ++ (⟨#[10]⟩ : ByteArray) = s ++ bktLine B[i] := by rw [hs2, lineB_app, app_assoc, bkt_line]
      rw [e2, up64 i B.length hil (by omega), List.drop_eq_getElem_cons hil, bkts_cons, ← app_assoc]
      exact text_bkts D B hB hb d (i + 1) _ (by omega) (by rw [size_app]; omega)
theorem text_nodes (D : List S65) (B : List S62) (hD : D.length ≤ 1000) (hd : ∀ x ∈ D, Small6 x.f0 ∧ Small6 x.f1) (r : ByteArray → ByteArray) (hr : ∀ s : ByteArray, s.size ≤ 2000000 → Ev (fun k => spec_l06Text.l1 k s 0 D B) (r s)) : ∀ (d i : Nat) (s : ByteArray), i + d = D.length → s.size + 1000 * d ≤ 2000000 → Ev (fun k => spec_l06Text.l0 k s i D B) (r (s ++ toB (nodesT (D.drop i))))
  | 0, i, s, hi, hs => by
    obtain rfl : i = D.length := by omega
    rw [List.drop_length, show toB (nodesT ([] : List S65)) = ByteArray.empty from rfl, app_empty]
    refine Ev.step (fun k => ?_) (hr s (by omega))
    simp only [spec_l06Text.l0]
    rw [if_neg (by omega)]
  | d + 1, i, s, hi, hs => by
    have hil : i < D.length := by omega
    have hx := hd _ (List.getElem_mem hil)
    have hd0 := dec_le _ hx.1
    have hd1 := dec_le _ hx.2
    have hsz := node_size _ hx
    have h1 : (⟨#[32]⟩ : ByteArray).size = 1 := rfl
    have h5 : (⟨#[110, 111, 100, 101, 32]⟩ : ByteArray).size = 5 := rfl
    have h10 : (⟨#[10]⟩ : ByteArray).size = 1 := rfl
    have hnl := node_line D[i]
    refine Ev.step (f := ?zf1) (fun k => ?_) ?_
    rotate_left
    · simp only [spec_l06Text.l0]
      rw [if_pos (by omega), if_pos (by omega), rd_dev D i hil]
    · refine Ev.bind (num_ev _ hx.1.1 hx.1.2) ?_
      simp only [if_pos (show 5 + (decB D[i].f0).size ≤ 9223372036854775807 by omega), if_pos (show ((⟨#[110, 111, 100, 101, 32]⟩ : ByteArray) ++ decB D[i].f0).size + 1 ≤ 9223372036854775807 by rw [size_app]; omega)]
      refine Ev.bind (num_ev _ hx.2.1 hx.2.2) ?_
      simp only [hnl, if_pos (show (((⟨#[110, 111, 100, 101, 32]⟩ : ByteArray) ++ decB D[i].f0) ++ (⟨#[32]⟩ : ByteArray)).size + (decB D[i].f1).size ≤ 9223372036854775807 by rw [size_app, size_app]; omega), if_pos (show ((((⟨#[110, 111, 100, 101, 32]⟩ : ByteArray) ++ decB D[i].f0) ++ (⟨#[32]⟩ : ByteArray)) ++ decB D[i].f1).size + 1 ≤ 9223372036854775807 by rw [size_app, size_app, size_app]; omega), if_pos (show s.size + (nodeLine D[i]).size ≤ 9223372036854775807 by omega)]
      rw [up64 i D.length hil (by omega), List.drop_eq_getElem_cons hil, nodes_cons, ← app_assoc]
      exact text_nodes D B hD hd r hr d (i + 1) _ (by omega) (by rw [size_app]; omega)
/-- the topology's text -/
def treeB8 (D : List S65) (B : List S62) : ByteArray := ⟨(nodesT D ++ bktsT B).toArray⟩
theorem treeB8_eq (D : List S65) (B : List S62) : treeB8 D B = toB (nodesT D) ++ toB (bktsT B) := toB_app _ _
/-- what a valid topology holds, for its text -/
structure TextOk (D : List S65) (B : List S62) : Prop where
  dl : D.length ≤ 1000
  bl : B.length ≤ 1000
  d : ∀ x ∈ D, Small6 x.f0 ∧ Small6 x.f1
  b : ∀ x ∈ B, BktS x
theorem text_ev (D : List S65) (B : List S62) (H : TextOk D B) : Ev (fun k => spec_l06Text.f k D B) (treeB8 D B) := by
  have h := text_nodes D B H.dl H.d (fun s => s ++ toB (bktsT B)) (fun s hs => by
    have := text_bkts D B H.bl H.b B.length 0 s (by omega) (by have := H.bl; omega)
    rw [List.drop_zero] at this
    exact this) D.length 0 (⟨#[]⟩ : ByteArray) (by omega) (by have := H.dl; have h0 : (⟨#[]⟩ : ByteArray).size = 0 := rfl; omega)
  rw [List.drop_zero] at h
  have e : ((⟨#[]⟩ : ByteArray) ++ toB (nodesT D)) ++ toB (bktsT B) = treeB8 D B := by
    rw [treeB8_eq, show (⟨#[]⟩ : ByteArray) = ByteArray.empty from rfl, ByteArray.empty_append]
  rw [← e]
  exact h
theorem valid_text {D : List S65} {B : List S62} (V : Valid D B) : TextOk D B := by
  refine ⟨by have := V.dev; omega, by have := V.bkt; omega, fun x hx => ?_, fun x hx => ?_⟩
  · obtain ⟨i, hi, rfl⟩ := List.mem_iff_getElem.1 hx
    have := V.devs i hi
    unfold Small6
    omega
  · obtain ⟨i, hi, rfl⟩ := List.mem_iff_getElem.1 hx
    have hb := V.bkts i hi
    refine ⟨by unfold Small6; omega, hb.2.1, by omega, fun y hy => ?_⟩
    have hk := (item_kind V i hi y hy).1
    by_cases c : 1 ≤ kindAt D B y
    · obtain ⟨n, hn, -, e, -⟩ := kindAt_bucket V y c
      have := V.bkts n hn
      unfold Small6
      omega
    · have e0 : kindAt D B y = if 0 ≤ devAt D y then 0 else if bucketAt B y < 0 then -1 else (rd_T62 B (bucketAt B y)).f1 := rfl
      rcases devAt_hit D y with e | ⟨n, hn, -, e⟩
      · rw [e0, e, if_neg (by omega)] at hk c
        rcases bucketAt_hit B y with e2 | ⟨n, hn, e2, e3⟩
        · rw [e2, if_pos (by omega)] at hk; omega
        · have := V.bkts n hn
          unfold Small6
          omega
      · have := V.devs n hn
        unfold Small6
        omega

end Go.Proofs.YtohjpgcmhihdhaaDoor.Pure

namespace Go.Proofs.YtohjpgcmhihdhaaDoor.Q
open Go.RowKit Go.Proofs.YtohjpgcmhihdhaaDoorW.PrintWords Go.Proofs.YtohjpgcmhihdhaaDoorW.PrintLast Go.Proofs.YtohjpgcmhihdhaaDoorW.PrintMore
set_option linter.unusedVariables false
/-- a topology that reads so -/
structure TreeC (w : World) (A0 : Option Addr) (c0 : Nat) (D : List (S65)) (A1 : Option Addr) (c1 : Nat) (B : List (S62)) : Prop where
  d : Kd.C k65 w A0 D.length D
  hd : D.length ≤ c0
  b : Kd.C k62 w A1 B.length B
  hb : B.length ≤ c1
theorem TreeC.below {w w' : World} {A0 A1 : Option Addr} {c0 c1 : Nat} {D : List (S65)} {B : List (S62)} (h : TreeC w A0 c0 D A1 c1 B) (hb : Below w.heap.size w w') : TreeC w' A0 c0 D A1 c1 B :=
  ⟨Kd.C_below h.d hb, h.hd, Kd.C_below h.b hb, h.hb⟩
theorem toTreeC.calls (k : Nat) (A0_0 : Option Addr) (c0_0 : Nat) (l0_0 : List (S68)) (A0_1 : Option Addr) (c0_1 : Nat) (l0_1 : List (S60)) (r1 : List (S65)) (r2 : List (S62)) (w : World) (hr0_0 : Kd.C k68 w A0_0 l0_0.length l0_0) (hc0_0 : l0_0.length ≤ c0_0) (hr0_1 : Kd.C k60 w A0_1 l0_1.length l0_1) (hc0_1 : l0_1.length ≤ c0_1) (h : laws_toTree.f k l0_0 l0_1 = some (r1, r2)) :
    Calls Tryd.prog 7 #[.agg #[.slice A0_0 l0_0.length c0_0, .slice A0_1 l0_1.length c0_1]] w fun e w' => ∃ (A0 : Option Addr) (c0 : Nat) (A1 : Option Addr) (c1 : Nat), e = .returned (.agg #[.slice A0 r1.length c0, .slice A1 r2.length c1]) ∧ TreeC w' A0 c0 r1 A1 c1 r2 ∧ Below w.heap.size w w' :=
  (laws_toTree.calls k A0_0 c0_0 l0_0 A0_1 c0_1 l0_1 r1 r2 w hr0_0 hc0_0 hr0_1 hc0_1 h).mono fun e w' ⟨v0, v1, he, h0, h1, hb⟩ => by
    obtain ⟨A0, c0, e0, hl0, hC0⟩ := Kd.R_reads h0
    obtain ⟨A1, c1, e1⟩ := Kd.S_slice h1
    subst e0 e1
    obtain ⟨-, hl1, hC1⟩ := Kd.S_reads' h1
    exact ⟨A0, c0, A1, c1, he, ⟨hC0, hl0, hC1, hl1⟩, hb⟩
/-- whole numbers that read so -/
structure IntsC (w : World) (A : Option Addr) (c : Nat) (l : List Int) : Prop where
  r : Kd.C (Kd.int .i64) w A l.length l
  h : l.length ≤ c
theorem IntsC.below {w w' : World} {A : Option Addr} {c : Nat} {l : List Int} (h : IntsC w A c l) (hb : Below w.heap.size w w') : IntsC w' A c l := ⟨Kd.C_below h.r hb, h.h⟩
theorem toIntsC.calls (k : Nat) (A0 : Option Addr) (c0 : Nat) (l0 : List Int) (r1 : List Int) (w : World) (hr0 : Kd.C (Kd.int .i64) w A0 l0.length l0) (hc0 : l0.length ≤ c0) (h : laws_toInt64S.f k l0 = some r1) :
    Calls Tryd.prog 62 #[.slice A0 l0.length c0] w fun e w' => ∃ (A : Option Addr) (c : Nat), e = .returned (.slice A r1.length c) ∧ IntsC w' A c r1 ∧ Below w.heap.size w w' :=
  (laws_toInt64S.calls k A0 c0 l0 r1 w hr0 hc0 h).mono fun e w' ⟨v0, he, h0, hb⟩ => by
    obtain ⟨A, c, e0, hl0, hC0⟩ := Kd.R_reads h0
    subst e0
    exact ⟨A, c, he, ⟨hC0, hl0⟩, hb⟩

end Go.Proofs.YtohjpgcmhihdhaaDoor.Q

namespace Go.Proofs.YtohjpgcmhihdhaaDoor.Q
open Go.RowKit Go.Proofs.YtohjpgcmhihdhaaDoorW.PrintWords Go.Proofs.YtohjpgcmhihdhaaDoorW.PrintLast Go.Proofs.YtohjpgcmhihdhaaDoorW.PrintMore
attribute [local go_sem] max2_int min2_int max_two min_two max_three min_three max_four min_four   -- for this text's walks alone
set_option linter.unusedVariables false
set_option linter.unusedSimpArgs false
/-! ### spec_TreeText: function 6 -/
def spec_TreeText.f (k : Nat) (l0_0 : List (S65)) (l0_1 : List (S62)) : Option (ByteArray × Int) := (spec_l06OK.f k l0_0 l0_1).bind fun t175 => (if t175 = true then ((spec_l06Text.f k l0_0 l0_1).bind fun t176 => (some (t176, 0))) else (some ((⟨#[]⟩ : ByteArray), 1)))
set_option maxHeartbeats 8000000 in
set_option maxRecDepth 100000 in
theorem spec_TreeText.calls (k : Nat) (A0_0 : Option Addr) (c0_0 : Nat) (l0_0 : List (S65)) (A0_1 : Option Addr) (c0_1 : Nat) (l0_1 : List (S62)) (r1 : ByteArray) (r2 : Int) (w : World) (hr0_0 : Kd.C k65 w A0_0 l0_0.length l0_0) (hc0_0 : l0_0.length ≤ c0_0) (hr0_1 : Kd.C k62 w A0_1 l0_1.length l0_1) (hc0_1 : l0_1.length ≤ c0_1) (h : spec_TreeText.f k l0_0 l0_1 = some (r1, r2)) :
    Calls Tryd.prog 6 #[.agg #[.slice A0_0 l0_0.length c0_0, .slice A0_1 l0_1.length c0_1]] w fun e w' => e = .returned (.tuple #[.string r1, .int .i64 r2]) ∧ Below w.heap.size w w' := by
  have hu32 := Tryd.underlying32
  have HR0_0 := Aside0.mk hr0_0
  have HC0_0 := Aside0.mk hc0_0
  clear hr0_0 hc0_0
  have HR0_1 := Aside0.mk hr0_1
  have HC0_1 := Aside0.mk hc0_1
  clear hr0_1 hc0_1
  have HB := Aside0.mk (Below.refl w.heap.size w)
  have H : ((spec_l06OK.f k l0_0 l0_1).bind fun t175 => (if t175 = true then ((spec_l06Text.f k l0_0 l0_1).bind fun t176 => (some (t176, 0))) else (some ((⟨#[]⟩ : ByteArray), 1)))) = some (r1, r2) := h
  clear h
  replace H := Option.bind_eq_some_iff.mp H
  obtain ⟨t175, A20, H⟩ := H
  set_option simprocs false in try dsimp only at H
  have A2 := Aside0.mk A20
  clear A20
  by_cases c3 : t175 = true
  · subst c3
    rw [if_pos rfl] at H
    replace H := Option.bind_eq_some_iff.mp H
    obtain ⟨t176, A40, H⟩ := H
    set_option simprocs false in try dsimp only at H
    have A4 := Aside0.mk A40
    clear A40
    simp only [Option.some.injEq, Prod.mk.injEq] at H
    obtain ⟨rfl, rfl⟩ := H
    go_enter Tryd.func6, Tryd.ntmps6
    go_wp2_with (first | ((with_reducible refine gate_dst (N := 1) rfl ?_); refine box_event ?hg (N := 1) ?hd (cs := #[.slice A0_0 l0_0.length c0_0, .slice A0_1 l0_1.length c0_1]) (t := 32) ?hr ?_; (case hd => rfl); (case hg => rfl); (case hr => first | (go_simp; done) | (go_simp; rfl)); intro gb174 hg w5 hbox hb; have n0_ := Aside0.mk (below_step (by repeat first | exact HB.out | apply pw_below_drewN) hb); have n1_ := Aside0.mk (hbox); clear HB; have HB := n0_; have BK174 := n1_; clear n0_ n1_; clear hb hbox hg; have hcz6_0 := (blk_cell BK174.out 0).trans rfl; have hcz6_1 := (blk_cell BK174.out 1).trans rfl) | ((with_reducible refine gate_callee (f := 15) rfl ?_); refine goesL_ (some 5) rfl rfl Tryd.func15 (by kernel_rfl) rfl #[.agg #[.slice A0_0 l0_0.length c0_0, .slice A0_1 l0_1.length c0_1]] rfl (by (try simp only [List.map_toArray, List.map_cons, List.map_nil]); first | done | rfl) ?_; (with_reducible refine (spec_l06OK.calls k _ _ l0_0 _ _ l0_1 true _ ?side1 ?side2 ?side3 ?side4 A2.out).mono ?_); (case side1 => exact (Kd.C_below HR0_0.out HB.out)); (case side2 => exact HC0_0.out); (case side3 => exact (Kd.C_below HR0_1.out HB.out)); (case side4 => exact HC0_1.out); rintro e w7 ⟨rfl, hb⟩; refine ⟨_, rfl, ?_⟩; have n0_ := Aside0.mk (blk_below (by exact BK174.out) hb); have n1_ := Aside0.mk (below_step (by repeat first | exact HB.out | apply pw_below_drewN) hb); clear BK174; clear HB; have BK174 := n0_; have HB := n1_; clear n0_ n1_; (try clear hb); (try clear hb2); (try clear hk); (try clear hi); have hcz8_0 := (blk_cell BK174.out 0).trans rfl; have hcz8_1 := (blk_cell BK174.out 1).trans rfl) | ((with_reducible refine gate_callee (f := 16) rfl ?_); refine goesL_ (some 8) rfl rfl Tryd.func16 (by kernel_rfl) rfl #[.agg #[.slice A0_0 l0_0.length c0_0, .slice A0_1 l0_1.length c0_1]] rfl (by (try simp only [List.map_toArray, List.map_cons, List.map_nil]); first | done | rfl) ?_; (with_reducible refine (spec_l06Text.calls k _ _ l0_0 _ _ l0_1 t176 _ ?side1 ?side2 ?side3 ?side4 A4.out).mono ?_); (case side1 => exact (Kd.C_below HR0_0.out HB.out)); (case side2 => exact HC0_0.out); (case side3 => exact (Kd.C_below HR0_1.out HB.out)); (case side4 => exact HC0_1.out); rintro e w9 ⟨rfl, hb⟩; refine ⟨_, rfl, ?_⟩; have n0_ := Aside0.mk (blk_below (by exact BK174.out) hb); have n1_ := Aside0.mk (below_step (by repeat first | exact HB.out | apply pw_below_drewN) hb); clear BK174; clear HB; have BK174 := n0_; have HB := n1_; clear n0_ n1_; (try clear hb); (try clear hb2); (try clear hk); (try clear hi)))
    go_ret2
    exact ⟨by first | rfl | (simp [*, errW_none, errW_some] <;> rfl), by repeat first | exact HB.out | apply pw_below_drewN⟩
  · replace c3 := Bool.eq_false_iff.mpr c3
    subst c3
    rw [if_neg (show ¬ (false = true) by decide)] at H
    simp only [Option.some.injEq, Prod.mk.injEq] at H
    obtain ⟨rfl, rfl⟩ := H
    go_enter Tryd.func6, Tryd.ntmps6
    go_wp2_with (first | ((with_reducible refine gate_dst (N := 1) rfl ?_); refine box_event ?hg (N := 1) ?hd (cs := #[.slice A0_0 l0_0.length c0_0, .slice A0_1 l0_1.length c0_1]) (t := 32) ?hr ?_; (case hd => rfl); (case hg => rfl); (case hr => first | (go_simp; done) | (go_simp; rfl)); intro gb174 hg w10 hbox hb; have n0_ := Aside0.mk (below_step (by repeat first | exact HB.out | apply pw_below_drewN) hb); have n1_ := Aside0.mk (hbox); clear HB; have HB := n0_; have BK174 := n1_; clear n0_ n1_; clear hb hbox hg; have hcz11_0 := (blk_cell BK174.out 0).trans rfl; have hcz11_1 := (blk_cell BK174.out 1).trans rfl) | ((with_reducible refine gate_callee (f := 15) rfl ?_); refine goesL_ (some 5) rfl rfl Tryd.func15 (by kernel_rfl) rfl #[.agg #[.slice A0_0 l0_0.length c0_0, .slice A0_1 l0_1.length c0_1]] rfl (by (try simp only [List.map_toArray, List.map_cons, List.map_nil]); first | done | rfl) ?_; (with_reducible refine (spec_l06OK.calls k _ _ l0_0 _ _ l0_1 false _ ?side1 ?side2 ?side3 ?side4 A2.out).mono ?_); (case side1 => exact (Kd.C_below HR0_0.out HB.out)); (case side2 => exact HC0_0.out); (case side3 => exact (Kd.C_below HR0_1.out HB.out)); (case side4 => exact HC0_1.out); rintro e w12 ⟨rfl, hb⟩; refine ⟨_, rfl, ?_⟩; have n0_ := Aside0.mk (blk_below (by exact BK174.out) hb); have n1_ := Aside0.mk (below_step (by repeat first | exact HB.out | apply pw_below_drewN) hb); clear BK174; clear HB; have BK174 := n0_; have HB := n1_; clear n0_ n1_; (try clear hb); (try clear hb2); (try clear hk); (try clear hi)))
    go_ret2
    exact ⟨by first | rfl | (simp [*, errW_none, errW_some] <;> rfl), by repeat first | exact HB.out | apply pw_below_drewN⟩

end Go.Proofs.YtohjpgcmhihdhaaDoor.Q

namespace Go.Proofs.YtohjpgcmhihdhaaDoor.Pure
open Go.RowKit Go.Proofs.YtohjpgcmhihdhaaDoor.Q Go.Proofs.YtohjpgcmhihdhaaDoorW.PrintWords Go.Proofs.YtohjpgcmhihdhaaDoorW.PrintLast Go.Proofs.YtohjpgcmhihdhaaDoorW.PrintMore
set_option linter.unusedVariables false
set_option linter.unusedSimpArgs false
theorem textOk_walk {D : List S65} {B : List S62} (H : TextOk D B) : (∀ x ∈ D, In64 x.f0 ∧ In64 x.f1) ∧ ∀ x ∈ B, In64 x.f0 ∧ (1 ≤ x.f1 ∧ x.f1 ≤ 3) ∧ x.f2.length ≤ 1000 ∧ ∀ y ∈ x.f2, In64 y :=
  ⟨fun x hx => ⟨small_in (H.d x hx).1, small_in (H.d x hx).2⟩, fun x hx => ⟨small_in (H.b x hx).1, (H.b x hx).2.1, (H.b x hx).2.2.1, fun y hy => small_in ((H.b x hx).2.2.2 y hy)⟩⟩
/-- the program's answer: the text, and which error -/
def textAns (D : List S65) (B : List S62) (o : Bool) : ByteArray × Int := if o = true then (treeB8 D B, 0) else (⟨#[]⟩, 1)
set_option maxHeartbeats 2000000 in
set_option maxRecDepth 100000 in
theorem treeTextI_at (k : Nat) (A0 : Option Addr) (c0 : Nat) (D : List S65) (A1 : Option Addr) (c1 : Nat) (B : List S62) (o : Bool) (w : World) (hr0 : Kd.C k65 w A0 D.length D) (hc0 : D.length ≤ c0) (hr1 : Kd.C k62 w A1 B.length B) (hc1 : B.length ≤ c1) (ho : impl_TreeOk.f k D B = some o) (hok : o = true → TextOk D B) (ht : TabW w) :
    Calls Tryd.prog 8 #[.agg #[.slice A0 D.length c0, .slice A1 B.length c1]] w fun e w' => e = .returned (.tuple #[.string (textAns D B o).1, .int .i64 (textAns D B o).2]) ∧ Below w.heap.size w w' := by
  have HR0 := Aside0.mk hr0
  have HR1 := Aside0.mk hr1
  have HC0 := Aside0.mk hc0
  have HC1 := Aside0.mk hc1
  have HO := Aside0.mk ho
  have HK := Aside0.mk hok
  have HT := Aside0.mk ht
  clear hr0 hr1 hc0 hc1 ho hok ht
  go_enter Tryd.func8, Tryd.ntmps8
  go_wp2_with fail
  have BA := Aside0.mk (blk_new w (.cells #[.slice A0 D.length c0, .slice A1 B.length c1] 32))
  have HB := Aside0.mk (below_alloc (Below.refl w.heap.size w) (.cells #[.slice A0 D.length c0, .slice A1 B.length c1] 32))
  generalize (w.alloc (.cells #[.slice A0 D.length c0, .slice A1 B.length c1] 32)) = w1 at BA HB ⊢
  (with_reducible refine (impl_TreeOk.calls k A0 c0 D A1 c1 B o _ (Kd.C_below HR0.out HB.out) HC0.out (Kd.C_below HR1.out HB.out) HC1.out HO.out).mono ?_)
  rintro e w2 ⟨rfl, hb⟩
  replace BA := Aside0.mk (blk_below BA.out hb)
  replace HB := Aside0.mk (below_step HB.out hb)
  clear hb
  have hBA0 := (blk_cell BA.out 0).trans rfl
  have hBA1 := (blk_cell BA.out 1).trans rfl
  cases o with
  | false =>
    go_wp2_with fail
    go_ret2
    exact ⟨rfl, HB.out⟩
  | true =>
    have H := Aside0.mk (HK.out rfl)
    clear HK
    go_wp2_with fail
    refine (treeText_at A0 c0 D A1 c1 B _ (Kd.C_below HR0.out HB.out) HC0.out (Kd.C_below HR1.out HB.out) HC1.out H.out.dl H.out.bl (textOk_walk H.out).1 (textOk_walk H.out).2 (HT.out.on HB.out)).mono ?_
    rintro e w3 ⟨rfl, hb⟩
    replace HB := Aside0.mk (below_step HB.out hb)
    clear hb hBA0 hBA1 BA
    go_wp2_with fail
    go_ret2
    exact ⟨rfl, HB.out⟩
set_option maxHeartbeats 8000000 in
set_option maxRecDepth 100000 in
theorem lawTreeText_at (k : Nat) (A0_0 : Option Addr) (c0_0 : Nat) (l0_0 : List S68) (A0_1 : Option Addr) (c0_1 : Nat) (l0_1 : List S60) (t1 : Int) (D : List S65) (B : List S62) (o : Bool) (w : World) (hr0_0 : Kd.C k68 w A0_0 l0_0.length l0_0) (hc0_0 : l0_0.length ≤ c0_0) (hr0_1 : Kd.C k60 w A0_1 l0_1.length l0_1) (hc0_1 : l0_1.length ≤ c0_1)
    (e1 : laws_szTree.f k l0_0 l0_1 1048576 = some t1) (e2 : 0 ≤ t1 → laws_toTree.f k l0_0 l0_1 = some (D, B) ∧ spec_TreeText.f k D B = some (textAns D B o) ∧ impl_TreeOk.f k D B = some o ∧ (o = true → TextOk D B) ∧ laws_eqTree.f k D B D B = some true) (ht : TabW w) :
    Calls Tryd.prog 3 #[.agg #[.slice A0_0 l0_0.length c0_0, .slice A0_1 l0_1.length c0_1]] w fun e w' => e = .returned (.bool true) ∧ Below w.heap.size w w' := by
  have HA0 := Aside0.mk hr0_0
  have HA1 := Aside0.mk hr0_1
  have HC0 := Aside0.mk hc0_0
  have HC1 := Aside0.mk hc0_1
  have E1 := Aside0.mk e1
  have H0 := Aside0.mk e2
  have HT := Aside0.mk ht
  clear hr0_0 hr0_1 hc0_0 hc0_1 e1 e2 ht
  go_enter Tryd.func3, Tryd.ntmps3
  go_wp2_with fail
  have BA := Aside0.mk (blk_new w (.cells #[.slice A0_0 l0_0.length c0_0, .slice A0_1 l0_1.length c0_1] 25))
  have HB := Aside0.mk (below_alloc (Below.refl w.heap.size w) (.cells #[.slice A0_0 l0_0.length c0_0, .slice A0_1 l0_1.length c0_1] 25))
  generalize (w.alloc (.cells #[.slice A0_0 l0_0.length c0_0, .slice A0_1 l0_1.length c0_1] 25)) = w1 at BA HB ⊢
  (with_reducible refine (laws_szTree.calls k A0_0 c0_0 l0_0 A0_1 c0_1 l0_1 1048576 t1 _ (Kd.C_below HA0.out HB.out) HC0.out (Kd.C_below HA1.out HB.out) HC1.out E1.out).mono ?_)
  rintro e w2 ⟨rfl, hb⟩
  replace BA := Aside0.mk (blk_below BA.out hb)
  replace HB := Aside0.mk (below_step HB.out hb)
  clear hb
  have hBA0 := (blk_cell BA.out 0).trans rfl
  have hBA1 := (blk_cell BA.out 1).trans rfl
  by_cases d1 : t1 < 0
  case pos =>
    have db := decide_eq_true d1
    clear d1
    go_wp2_with fail
    go_ret
    exact ⟨rfl, HB.out⟩
  obtain ⟨E2, E3, E4, E5, E6⟩ := H0.out (by omega)
  replace E2 := Aside0.mk E2
  replace E3 := Aside0.mk E3
  replace E4 := Aside0.mk E4
  replace E5 := Aside0.mk E5
  replace E6 := Aside0.mk E6
  clear H0
  obtain ⟨⟨s, s2⟩, es⟩ : ∃ q, textAns D B o = q := ⟨_, rfl⟩
  replace E3 := Aside0.mk (E3.out.trans (congrArg some es))
  have ES := Aside0.mk es
  clear es
  have db1 := decide_eq_false d1
  clear d1
  go_wp2_with fail
  clear db1
  (with_reducible refine (toTreeC.calls k A0_0 c0_0 l0_0 A0_1 c0_1 l0_1 D B _ (Kd.C_below HA0.out HB.out) HC0.out (Kd.C_below HA1.out HB.out) HC1.out E2.out).mono ?_)
  rintro e w12 ⟨P0, p0, P1, p1, rfl, TP, hb⟩
  clear hBA0 hBA1
  replace BA := Aside0.mk (blk_below BA.out hb)
  replace HB := Aside0.mk (below_step HB.out hb)
  clear hb
  have hBA0 := (blk_cell BA.out 0).trans rfl
  have hBA1 := (blk_cell BA.out 1).trans rfl
  replace TP := Aside0.mk TP
  go_wp2_with fail
  (with_reducible refine (spec_TreeText.calls k P0 p0 D P1 p1 B s s2 _ TP.out.d TP.out.hd TP.out.b TP.out.hb E3.out).mono ?_)
  rintro e w13 ⟨rfl, hb⟩
  clear hBA0 hBA1
  replace BA := Aside0.mk (blk_below BA.out hb)
  replace HB := Aside0.mk (below_step HB.out hb)
  replace TP := Aside0.mk (TP.out.below hb)
  clear hb
  have hBA0 := (blk_cell BA.out 0).trans rfl
  have hBA1 := (blk_cell BA.out 1).trans rfl
  go_wp2_with fail
  clear TP
  (with_reducible refine (toTreeC.calls k A0_0 c0_0 l0_0 A0_1 c0_1 l0_1 D B _ (Kd.C_below HA0.out HB.out) HC0.out (Kd.C_below HA1.out HB.out) HC1.out E2.out).mono ?_)
  rintro e w14 ⟨X0, x0, X1, x1, rfl, TX, hb⟩
  clear hBA0 hBA1
  replace BA := Aside0.mk (blk_below BA.out hb)
  replace HB := Aside0.mk (below_step HB.out hb)
  clear hb
  have hBA0a := fun o => (blk_cell (blk_alloc BA.out o) 0).trans rfl
  have hBA1a := fun o => (blk_cell (blk_alloc BA.out o) 1).trans rfl
  have hBA0 := (blk_cell BA.out 0).trans rfl
  have hBA1 := (blk_cell BA.out 1).trans rfl
  replace TX := Aside0.mk TX
  go_wp2_with fail
  have hb := below_alloc (Below.refl w14.heap.size w14) (.cells #[.slice X0 D.length x0, .slice X1 B.length x1] 32)
  have BX := Aside0.mk (blk_new w14 (.cells #[.slice X0 D.length x0, .slice X1 B.length x1] 32))
  clear hBA0 hBA1
  clear hBA0a hBA1a
  replace BA := Aside0.mk (blk_below BA.out hb)
  replace HB := Aside0.mk (below_step HB.out hb)
  replace TX := Aside0.mk (TX.out.below hb)
  clear hb
  generalize (w14.alloc (.cells #[.slice X0 D.length x0, .slice X1 B.length x1] 32)) = wx at BA HB TX BX ⊢
  generalize w14.heap.size = gx at BX ⊢
  have hBA0 := (blk_cell BA.out 0).trans rfl
  have hBA1 := (blk_cell BA.out 1).trans rfl
  have hBX0 := (blk_cell BX.out 0).trans rfl
  have hBX1 := (blk_cell BX.out 1).trans rfl
  (refine (treeTextI_at k X0 x0 D X1 x1 B o _ TX.out.d TX.out.hd TX.out.b TX.out.hb E4.out E5.out (HT.out.on HB.out)).mono ?_)
  rintro e w15 ⟨he, hb⟩
  rw [ES.out] at he
  subst he
  clear hBA0 hBA1 hBX0 hBX1
  replace BA := Aside0.mk (blk_below BA.out hb)
  replace HB := Aside0.mk (below_step HB.out hb)
  replace TX := Aside0.mk (TX.out.below hb)
  replace BX := Aside0.mk (blk_below BX.out hb)
  clear hb
  have hBA0 := (blk_cell BA.out 0).trans rfl
  have hBA1 := (blk_cell BA.out 1).trans rfl
  have hBX0 := (blk_cell BX.out 0).trans rfl
  have hBX1 := (blk_cell BX.out 1).trans rfl
  go_wp2_with fail
  have HK := Aside0.mk (show ∀ w', Below w15.heap.size w15 w' → (fun w' => w'.cell? ⟨w.heap.size, 0, none⟩ = some (.slice A0_0 l0_0.length c0_0) ∧ w'.cell? ⟨w.heap.size, 1, none⟩ = some (.slice A0_1 l0_1.length c0_1) ∧ w'.cell? ⟨gx, 0, none⟩ = some (.slice X0 D.length x0) ∧ w'.cell? ⟨gx, 1, none⟩ = some (.slice X1 B.length x1) ∧ Below w15.heap.size w15 w') w' from fun w' h => ⟨(h.cell (blk_lt BA.out)).trans hBA0, (h.cell (blk_lt BA.out)).trans hBA1, (h.cell (blk_lt BX.out)).trans hBX0, (h.cell (blk_lt BX.out)).trans hBX1, h⟩)
  go_region_held3 (fun w' => w'.cell? ⟨w.heap.size, 0, none⟩ = some (.slice A0_0 l0_0.length c0_0) ∧ w'.cell? ⟨w.heap.size, 1, none⟩ = some (.slice A0_1 l0_1.length c0_1) ∧ w'.cell? ⟨gx, 0, none⟩ = some (.slice X0 D.length x0) ∧ w'.cell? ⟨gx, 1, none⟩ = some (.slice X1 B.length x1) ∧ Below w15.heap.size w15 w') (first | exact HK.out _ hbb | exact HK.out _ (below_drew1 (Below.refl _ _)) | exact HK.out _ (Below.refl _ _)) (first | (go_at_call 7; go_split_ands; (with_reducible refine (toTreeC.calls k A0_0 c0_0 l0_0 A0_1 c0_1 l0_1 D B _ (Kd.C_below HA0.out (below_step HB.out (show Below w15.heap.size w15 _ by assumption))) HC0.out (Kd.C_below HA1.out (below_step HB.out (show Below w15.heap.size w15 _ by assumption))) HC1.out E2.out).mono ?_); rintro e wz ⟨Z0, z0, Z1, z1, rfl, TZ, hb⟩; have hbb : Below w15.heap.size w15 _ := below_step (by assumption) hb) | (go_at_call 9; go_split_ands; (with_reducible refine (laws_eqTree.calls k X0 x0 D X1 x1 B Z0 z0 D Z1 z1 B true _ (TX.out.below (show Below w15.heap.size w15 _ by assumption)).d TX.out.hd (TX.out.below (show Below w15.heap.size w15 _ by assumption)).b TX.out.hb TZ.d TZ.hd TZ.b TZ.hb E6.out).mono ?_); rintro e wy ⟨rfl, hb⟩; have hbb : Below w15.heap.size w15 _ := below_step (by assumption) hb))
  have hb := hbb
  clear hBA0 hBA1 hBX0 hBX1
  replace BA := Aside0.mk (blk_below BA.out hb)
  replace HB := Aside0.mk (below_step HB.out hb)
  replace TX := Aside0.mk (TX.out.below hb)
  replace BX := Aside0.mk (blk_below BX.out hb)
  clear hb HK
  clear TZ
  have hBA0 := (blk_cell BA.out 0).trans rfl
  have hBA1 := (blk_cell BA.out 1).trans rfl
  have hBX0 := (blk_cell BX.out 0).trans rfl
  have hBX1 := (blk_cell BX.out 1).trans rfl
  go_wp2_with fail
  go_ret
  exact ⟨rfl, HB.out⟩

end Go.Proofs.YtohjpgcmhihdhaaDoor.Pure

namespace Go.Proofs.YtohjpgcmhihdhaaDoor.Pure
open Go.RowKit Go.Proofs.YtohjpgcmhihdhaaDoor.Q Go.Proofs.YtohjpgcmhihdhaaDoor.Opens Go.Proofs.YtohjpgcmhihdhaaDoorW.PrintWords Go.Proofs.YtohjpgcmhihdhaaDoorW.PrintLast Go.Proofs.YtohjpgcmhihdhaaDoorW.PrintMore
set_option linter.unusedVariables false
set_option linter.unusedSimpArgs false
theorem spec_treeText_ev (D : List S65) (B : List S62) : Ev (fun k => spec_TreeText.f k D B) (textAns D B (treeOkB D B)) := by
  unfold spec_TreeText.f textAns
  refine Ev.bind (spec_ok_ev D B) ?_
  by_cases c : treeOkB D B = true
  · simp only [if_pos c]
    exact Ev.bind (text_ev D B (valid_text (valid_of D B c))) (Ev.now _)
  · simp only [if_neg c]
    exact Ev.now _
theorem FnExactTreeText (l0_0 : List S68) (l0_1 : List S60) (hd : good_t22 l0_0) (hb : good_t23 l0_1) : ∃ (k : Nat) (t1 : Int) (D : List S65) (B : List S62) (o : Bool), laws_szTree.f k l0_0 l0_1 1048576 = some t1 ∧ (0 ≤ t1 → laws_toTree.f k l0_0 l0_1 = some (D, B) ∧ spec_TreeText.f k D B = some (textAns D B o) ∧ impl_TreeOk.f k D B = some o ∧ (o = true → TextOk D B) ∧ laws_eqTree.f k D B D B = some true) := by
  obtain ⟨g1, g2, g3⟩ := small_of_good l0_0 l0_1 hd hb
  obtain ⟨t, ht, hsz⟩ := szTree_ev l0_0 l0_1 1048576 g1 g2 g3 (by omega) (by omega)
  have hwf := wf_of_good l0_0 l0_1 hd hb
  by_cases c : t < 0
  · obtain ⟨K, hK⟩ := hsz
    exact ⟨K, t, [], [], false, hK K (Nat.le_refl _), fun h => by omega⟩
  · have hs := (ht (by omega)).2
    have hD : (l0_0.map devOf).length ≤ 9223372036854775807 := by rw [List.length_map]; exact g1
    obtain ⟨K1, h1⟩ := hsz
    obtain ⟨K3, h3⟩ := spec_treeText_ev (l0_0.map devOf) (l0_1.map bktOf)
    obtain ⟨K4, h4⟩ := impl_ok_ev _ _ hD hwf
    obtain ⟨K2, h2⟩ := toTree_ev l0_0 l0_1 hs
    obtain ⟨K5, h5⟩ := eqTree_ev l0_0 l0_1 hs
    have b1 : K1 ≤ K1 + K2 + K3 + K4 + K5 := by omega
    have b2 : K2 ≤ K1 + K2 + K3 + K4 + K5 := by omega
    have b3 : K3 ≤ K1 + K2 + K3 + K4 + K5 := by omega
    have b4 : K4 ≤ K1 + K2 + K3 + K4 + K5 := by omega
    have b5 : K5 ≤ K1 + K2 + K3 + K4 + K5 := by omega
    exact ⟨_, t, _, _, _, h1 _ b1, fun _ => ⟨h2 _ b2, h3 _ b3, h4 _ b4, fun ho => valid_text (valid_of _ _ ho), h5 _ b5⟩⟩

end Go.Proofs.YtohjpgcmhihdhaaDoor.Pure
