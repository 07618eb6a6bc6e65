/- Walks of the Go functions that the laws call: each returns what a plain Lean function says. Written by a program for these claims. -/
import Derived.Test.YtohjpgcmhihdhaaGreatDoorQ0
import Derived.Test.YtohjpgcmhihdhaaGreatDoorQf59
namespace Go.Proofs.YtohjpgcmhihdhaaGreatDoor.Q
open Go.RowKit Go.Proofs.YtohjpgcmhihdhaaGreatDoorW.PrintWords Go.Proofs.YtohjpgcmhihdhaaGreatDoorW.PrintLast Go.Proofs.YtohjpgcmhihdhaaGreatDoorW.PrintMore
attribute [local go_sem] max2_int min2_int max_two min_two max_three min_three max_four min_four   -- for this text's walks alone
set_option linter.unusedVariables false
set_option linter.unusedSimpArgs false

/-! ### spec_l06Once: function 46 -/
mutual
def spec_l06Once.l0 : Nat → List Int → Int → List (S57) → List (S49) → Option (Bool)
  | 0, _, _, _, _ => none
  | k + 1, x3, x4, x163000, x163001 => if x4 < (x163001.length : Int) then (spec_l06Once.l1 k x3 x4 0 x163000 x163001) else (some true)
def spec_l06Once.l1 : Nat → List Int → Int → Int → List (S57) → List (S49) → Option (Bool)
  | 0, _, _, _, _, _ => none
  | k + 1, x3, x4, x5, x163000, x163001 => if 0 ≤ x4 then (if x4 < (x163001.length : Int) then (if x5 < (((rd_T49 x163001 x4).f2).length : Int) then (if 0 ≤ x5 then ((spec_l00Has.f k x3 (rd ((rd_T49 x163001 x4).f2) x5)).bind fun t169 => (if t169 = true then (some false) else (if x3.length < 17592186044416 then (spec_l06Once.l1 k (x3 ++ [rd ((rd_T49 x163001 x4).f2) x5]) x4 (wrap64 (x5 + 1)) x163000 x163001) else (none)))) else (none)) else (spec_l06Once.l0 k x3 (wrap64 (x4 + 1)) x163000 x163001)) else (none)) else (none)
end
def spec_l06Once.f (k : Nat) (l0_0 : List (S57)) (l0_1 : List (S49)) : Option (Bool) := spec_l06Once.l0 k (([] : List Int)) 0 l0_0 l0_1
set_option maxHeartbeats 8000000 in
set_option maxRecDepth 100000 in
theorem spec_l06Once.calls (k : Nat) (A0_0 : Option Addr) (c0_0 : Nat) (l0_0 : List (S57)) (A0_1 : Option Addr) (c0_1 : Nat) (l0_1 : List (S49)) (r : Bool) (w : World) (hr0_0 : Kd.C k57 w A0_0 l0_0.length l0_0) (hc0_0 : l0_0.length ≤ c0_0) (hr0_1 : Kd.C k49 w A0_1 l0_1.length l0_1) (hc0_1 : l0_1.length ≤ c0_1) (h : spec_l06Once.f k l0_0 l0_1 = some r) :
    Calls Tryz.prog 46 #[.agg #[.slice A0_0 l0_0.length c0_0, .slice A0_1 l0_1.length c0_1]] w fun e w' => e = .returned (.bool r) ∧ Below w.heap.size w w' := by
  have hu25 := Tryz.underlying25
  have HR0_0 := Aside0.mk hr0_0
  have HC0_0 := Aside0.mk hc0_0
  clear hr0_0 hc0_0
  have HR0_1 := Aside0.mk hr0_1
  have HC0_1 := Aside0.mk hc0_1
  clear hr0_1 hc0_1
  have HB := Aside0.mk (Below.refl w.heap.size w)
  have H : (spec_l06Once.l0 k (([] : List Int)) 0 l0_0 l0_1) = some r := h
  clear h
  obtain ⟨y163, hy163⟩ : ∃ y_ : List Int, y_ = (([] : List Int)) := ⟨_, rfl⟩
  replace H : (spec_l06Once.l0 k y163 0 l0_0 l0_1) = some r := by first | (rw [hy163]; with_reducible exact H) | (have H2_ := (Option.bind_some _ _).symm.trans H; rw [hy163]; with_reducible exact H2_) | (have H2_ := (Option.bind_some _ _).symm.trans H; with_reducible exact H2_) | with_reducible exact H | (rw [hy163]; exact H) | exact H
  have Ny163 := Aside0.mk hy163
  clear hy163
  have H' := Aside0.mk H
  clear H
  go_enter Tryz.func46, Tryz.ntmps46
  go_wp2_with (first | ((with_reducible refine gate_dst (N := 1) rfl ?_); refine box_event ?hg (N := 1) ?hd (cs := #[.slice A0_0 l0_0.length c0_0, .slice A0_1 l0_1.length c0_1]) (t := 25) ?hr ?_; (case hd => rfl); (case hg => rfl); (case hr => first | (go_simp; done) | (go_simp; rfl)); intro gb162 hg w2 hbox hb; have n0_ := Aside0.mk (below_step (by repeat first | exact HB.out | apply pw_below_drewN) hb); have n1_ := Aside0.mk (hbox); clear HB; have HB := n0_; have BK162 := n1_; clear n0_ n1_; clear hb hbox hg) | ((with_reducible refine gate_dst (N := 7) rfl ?_); refine Kd.R_lit (Kd.int .i64) _ 2 ?hg (N := 7) ?hd (xs := ([] : List Int)) (inner := []) (ok := fun _ => True) (okp := fun _ => True) ?hr ?hp (fun _ hk => hk) trivial (Below.refl _ _) (Nat.le_refl _) (by simp) ?_; (case hd => rfl); (case hg => rfl); (case hr => first | (go_simp; done) | (go_simp; rfl)); (case hp => exact (Reps.none _ _)); intro v164 w3 ho4 hb hg_ hnew_; clear hg_ hnew_; (first | rw [← Ny163.out] at ho4 | (simp only [Int.reduceToNat] at ho4; rw [← Ny163.out] at ho4)); have n0_ := Aside0.mk (Kd.R_lower ho4 (below_size (by repeat first | exact HB.out | apply pw_below_drewN))); have n1_ := Aside0.mk (blk_below (by exact BK162.out) hb); have n2_ := Aside0.mk (below_step (by repeat first | exact HB.out | apply pw_below_drewN) hb); clear BK162; clear HB; have HO165 := n0_; have BK162 := n1_; have HB := n2_; clear n0_ n1_ n2_; clear hb ho4))
  go_loopg [3, 4] k (fun kq v3 v4 w' => ∃ (x3_1 : List Int) (x4_1 : Int), v4 = .int .i64 x4_1 ∧ Aside0 (spec_l06Once.l0 kq x3_1 x4_1 l0_0 l0_1 = some r) ∧ Aside0 (kq ≤ k) ∧ Aside0 (Kd.R (Kd.int .i64) 2 w' w.heap.size (fun _ => True) v3 x3_1) ∧ Aside0 (w'.heap[gb162]? = some (.cells #[(.slice A0_0 l0_0.length c0_0), (.slice A0_1 l0_1.length c0_1)] 25 (0, 0))) ∧ Aside0 (Below w.heap.size w w'))
  case atStart => exact ⟨(y163), (0), (by first | rfl | (simp; done) | (simp [*]; done)), H', ⟨Nat.le_refl _⟩, ⟨by (with_reducible repeat (first | apply Kd.R_alloc | apply Kd.R_drewN | apply Kd.R_drew)); exact HO165.out⟩, ⟨by exact BK162.out⟩, ⟨by repeat first | exact HB.out | apply pw_below_drewN⟩⟩
  case round =>
    clear H'
    try clear p2
    try clear c4
    obtain ⟨x3_1, x4_1, rfl, HA, HK1, HO_3, BK162, HB⟩ := hrel
    cases gk with
    | zero => exact absurd HA.out (by simp [spec_l06Once.l0])
    | succ k1 =>
      have H := HA.out
      clear HA
      simp only [spec_l06Once.l0] at H
      by_cases c5 : x4_1 < (l0_1.length : Int)
      · rw [if_pos c5] at H
        have c5b0 : decide (x4_1 < (l0_1.length : Int)) = true := decide_eq_true c5
        clear c5
        have H' := Aside0.mk H
        clear H
        have hcz6_0 := (blk_cell BK162.out 0).trans rfl
        have hcz6_1 := (blk_cell BK162.out 1).trans rfl
        go_wp2
        go_loopg [3, 5] k1 (fun kq v3 v5 w' => ∃ (x3_2 : List Int) (x5_2 : Int), v5 = .int .i64 x5_2 ∧ Aside0 (spec_l06Once.l1 kq x3_2 x4_1 x5_2 l0_0 l0_1 = some r) ∧ Aside0 (kq ≤ k1) ∧ Aside0 (Kd.R (Kd.int .i64) 2 w' w.heap.size (fun _ => True) v3 x3_2) ∧ Aside0 (w'.heap[gb162]? = some (.cells #[(.slice A0_0 l0_0.length c0_0), (.slice A0_1 l0_1.length c0_1)] 25 (0, 0))) ∧ Aside0 (Below w.heap.size w w'))
        case atStart => exact ⟨(x3_1), (0), (by first | rfl | (simp; done) | (simp [*]; done)), H', ⟨Nat.le_refl _⟩, ⟨by (with_reducible repeat (first | apply Kd.R_alloc | apply Kd.R_drewN | apply Kd.R_drew)); exact HO_3.out⟩, ⟨by exact BK162.out⟩, ⟨by repeat first | exact HB.out | apply pw_below_drewN⟩⟩
        case round =>
          clear H'
          try clear p2
          try clear c4
          try clear c5
          try clear c5b0
          try clear hcz6_0
          try clear hcz6_1
          try clear p2
          obtain ⟨x3_2, x5_2, rfl, HA, HK2, HO_3, BK162, HB⟩ := hrel
          cases gk with
          | zero => exact absurd HA.out (by simp [spec_l06Once.l1])
          | succ k2 =>
            have H := HA.out
            clear HA
            simp only [spec_l06Once.l1] at H
            by_cases c7 : 0 ≤ x4_1
            · rw [if_pos c7] at H
              have c7b0 : decide (0 ≤ x4_1) = true := decide_eq_true c7
              clear c7
              by_cases c8 : x4_1 < (l0_1.length : Int)
              · rw [if_pos c8] at H
                have c8b0 : decide (x4_1 < (l0_1.length : Int)) = true := decide_eq_true c8
                clear c8
                by_cases c9 : x5_2 < (((rd_T49 l0_1 x4_1).f2).length : Int)
                · rw [if_pos c9] at H
                  have c9b0 : decide (x5_2 < (((rd_T49 l0_1 x4_1).f2).length : Int)) = true := decide_eq_true c9
                  clear c9
                  by_cases c10 : 0 ≤ x5_2
                  · rw [if_pos c10] at H
                    have c10b0 : decide (0 ≤ x5_2) = true := decide_eq_true c10
                    clear c10
                    replace H := Option.bind_eq_some_iff.mp H
                    obtain ⟨t169, A110, H⟩ := H
                    set_option simprocs false in try dsimp only at H
                    have A11 := Aside0.mk A110
                    clear A110
                    by_cases c12 : t169 = true
                    · subst c12
                      rw [if_pos rfl] at H
                      obtain rfl := Option.some.inj H
                      have hcz13_0 := (blk_cell BK162.out 0).trans rfl
                      have hcz13_1 := (blk_cell BK162.out 1).trans rfl
                      have p166 : 0 ≤ (x4_1 : Int) := of_decide_eq_true (by assumption)
                      have q166 : x4_1 < (l0_1.length : Int) := of_decide_eq_true (by assumption)
                      obtain ⟨ad166, A166_2, c166_2, e166, hx166_0, hx166_1, hx166_2, hl166_2, hi166_2⟩ := at_T49 HR0_1.out x4_1 p166 q166
                      cases e166
                      replace hx166_0 := (HB.out.cell (World.block_lt_of_cell? w _ hx166_0)).trans hx166_0
                      replace hx166_1 := (HB.out.cell (World.block_lt_of_cell? w _ hx166_1)).trans hx166_1
                      replace hx166_2 := (HB.out.cell (World.block_lt_of_cell? w _ hx166_2)).trans hx166_2
                      have HR166_2 := Aside0.mk hi166_2
                      have HC166_2 := Aside0.mk hl166_2
                      clear hi166_2 hl166_2
                      replace p166 := eq_true p166
                      replace q166 := eq_true q166
                      have p167 : 0 ≤ (x4_1 : Int) := of_decide_eq_true (by assumption)
                      have q167 : x4_1 < (l0_1.length : Int) := of_decide_eq_true (by assumption)
                      obtain ⟨ad167, A167_2, c167_2, e167, hx167_0, hx167_1, hx167_2, hl167_2, hi167_2⟩ := at_T49 HR0_1.out x4_1 p167 q167
                      obtain rfl : ad166 = ad167 := (by injection e167)
                      replace hx167_0 := (HB.out.cell (World.block_lt_of_cell? w _ hx167_0)).trans hx167_0
                      replace hx167_1 := (HB.out.cell (World.block_lt_of_cell? w _ hx167_1)).trans hx167_1
                      replace hx167_2 := (HB.out.cell (World.block_lt_of_cell? w _ hx167_2)).trans hx167_2
                      have HR167_2 := Aside0.mk hi167_2
                      have HC167_2 := Aside0.mk hl167_2
                      clear hi167_2 hl167_2
                      replace p167 := eq_true p167
                      replace q167 := eq_true q167
                      have ea_ := Option.some.inj (hx166_2.symm.trans hx167_2)
                      injection ea_ with ea_ en_ ec_
                      subst ea_
                      subst ec_
                      clear en_
                      have p168 : 0 ≤ (x5_2 : Int) := of_decide_eq_true (by assumption)
                      have q168 : x5_2 < (((rd_T49 l0_1 x4_1).f2).length : Int) := of_decide_eq_true (by assumption)
                      obtain ⟨ad168, e168, hx168_0⟩ := Kd.at_int HR167_2.out x5_2 p168 q168
                      cases e168
                      replace hx168_0 := (HB.out.cell (World.block_lt_of_cell? w _ hx168_0)).trans hx168_0
                      replace p168 := eq_true p168
                      replace q168 := eq_true q168
                      obtain ⟨Ao14, co14, eo14⟩ := Kd.R_slice HO_3.out
                      subst eo14
                      go_wp2_with (first | ((with_reducible refine gate_callee (f := 59) rfl ?_); refine goesL_ (some 37) rfl rfl Tryz.func59 (by kernel_rfl) rfl #[.slice Ao14 x3_2.length co14, .int .i64 (rd ((rd_T49 l0_1 x4_1).f2) x5_2)] rfl (by (try simp only [List.map_toArray, List.map_cons, List.map_nil]); first | done | rfl) ?_; (with_reducible refine (spec_l00Has.calls k2 _ _ x3_2 (rd ((rd_T49 l0_1 x4_1).f2) x5_2) true _ ?side1 ?side2 A11.out).mono ?_); (case side1 => exact (Kd.R_reads' HO_3.out).2.2); (case side2 => exact (Kd.R_reads' HO_3.out).2.1); rintro e w' ⟨rfl, ⟨nd, rfl⟩⟩; refine ⟨_, rfl, ?_⟩))
                      go_ret
                      exact ⟨by first | rfl | (simp [*, errW_none, errW_some] <;> rfl), by repeat first | exact HB.out | apply pw_below_drewN⟩
                    · replace c12 := Bool.eq_false_iff.mpr c12
                      subst c12
                      rw [if_neg (show ¬ (false = true) by decide)] at H
                      by_cases c15 : x3_2.length < 17592186044416
                      · rw [if_pos c15] at H
                        have LMc15 := Aside0.mk c15
                        clear c15
                        obtain ⟨y170, hy170⟩ : ∃ y_ : List Int, y_ = (x3_2 ++ [rd ((rd_T49 l0_1 x4_1).f2) x5_2]) := ⟨_, rfl⟩
                        replace H : (spec_l06Once.l1 k2 y170 x4_1 (wrap64 (x5_2 + 1)) l0_0 l0_1) = some r := by first | (rw [hy170]; with_reducible exact H) | (have H2_ := (Option.bind_some _ _).symm.trans H; rw [hy170]; with_reducible exact H2_) | (have H2_ := (Option.bind_some _ _).symm.trans H; with_reducible exact H2_) | with_reducible exact H | (rw [hy170]; exact H) | exact H
                        have Ny170 := Aside0.mk hy170
                        clear hy170
                        have H' := Aside0.mk H
                        clear H
                        have hcz16_0 := (blk_cell BK162.out 0).trans rfl
                        have hcz16_1 := (blk_cell BK162.out 1).trans rfl
                        have p166 : 0 ≤ (x4_1 : Int) := of_decide_eq_true (by assumption)
                        have q166 : x4_1 < (l0_1.length : Int) := of_decide_eq_true (by assumption)
                        obtain ⟨ad166, A166_2, c166_2, e166, hx166_0, hx166_1, hx166_2, hl166_2, hi166_2⟩ := at_T49 HR0_1.out x4_1 p166 q166
                        cases e166
                        replace hx166_0 := (HB.out.cell (World.block_lt_of_cell? w _ hx166_0)).trans hx166_0
                        replace hx166_1 := (HB.out.cell (World.block_lt_of_cell? w _ hx166_1)).trans hx166_1
                        replace hx166_2 := (HB.out.cell (World.block_lt_of_cell? w _ hx166_2)).trans hx166_2
                        have HR166_2 := Aside0.mk hi166_2
                        have HC166_2 := Aside0.mk hl166_2
                        clear hi166_2 hl166_2
                        replace p166 := eq_true p166
                        replace q166 := eq_true q166
                        have p167 : 0 ≤ (x4_1 : Int) := of_decide_eq_true (by assumption)
                        have q167 : x4_1 < (l0_1.length : Int) := of_decide_eq_true (by assumption)
                        obtain ⟨ad167, A167_2, c167_2, e167, hx167_0, hx167_1, hx167_2, hl167_2, hi167_2⟩ := at_T49 HR0_1.out x4_1 p167 q167
                        obtain rfl : ad166 = ad167 := (by injection e167)
                        replace hx167_0 := (HB.out.cell (World.block_lt_of_cell? w _ hx167_0)).trans hx167_0
                        replace hx167_1 := (HB.out.cell (World.block_lt_of_cell? w _ hx167_1)).trans hx167_1
                        replace hx167_2 := (HB.out.cell (World.block_lt_of_cell? w _ hx167_2)).trans hx167_2
                        have HR167_2 := Aside0.mk hi167_2
                        have HC167_2 := Aside0.mk hl167_2
                        clear hi167_2 hl167_2
                        replace p167 := eq_true p167
                        replace q167 := eq_true q167
                        have ea_ := Option.some.inj (hx166_2.symm.trans hx167_2)
                        injection ea_ with ea_ en_ ec_
                        subst ea_
                        subst ec_
                        clear en_
                        have p168 : 0 ≤ (x5_2 : Int) := of_decide_eq_true (by assumption)
                        have q168 : x5_2 < (((rd_T49 l0_1 x4_1).f2).length : Int) := of_decide_eq_true (by assumption)
                        obtain ⟨ad168, e168, hx168_0⟩ := Kd.at_int HR167_2.out x5_2 p168 q168
                        cases e168
                        replace hx168_0 := (HB.out.cell (World.block_lt_of_cell? w _ hx168_0)).trans hx168_0
                        replace p168 := eq_true p168
                        replace q168 := eq_true q168
                        obtain ⟨Ao17, co17, eo17⟩ := Kd.R_slice HO_3.out
                        subst eo17
                        go_wp2_with (first | ((with_reducible refine gate_callee (f := 59) rfl ?_); refine goesL_ (some 37) rfl rfl Tryz.func59 (by kernel_rfl) rfl #[.slice Ao17 x3_2.length co17, .int .i64 (rd ((rd_T49 l0_1 x4_1).f2) x5_2)] rfl (by (try simp only [List.map_toArray, List.map_cons, List.map_nil]); first | done | rfl) ?_; (with_reducible refine (spec_l00Has.calls k2 _ _ x3_2 (rd ((rd_T49 l0_1 x4_1).f2) x5_2) false _ ?side1 ?side2 A11.out).mono ?_); (case side1 => exact (Kd.R_reads' HO_3.out).2.2); (case side2 => exact (Kd.R_reads' HO_3.out).2.1); rintro e w' ⟨rfl, ⟨nd, rfl⟩⟩; refine ⟨_, rfl, ?_⟩) | ((with_reducible refine gate_builtin (b := .append) (xs := #[.tmp 38, .tmp 40]) rfl ?_); at_builtin; refine Kd.R_append (Kd.int .i64) (w0 := w) w.heap.size rfl (.tmp 38) (.tmp 40) 47 2 (.int .i64 0) 8 rfl Tryz.underlying47 info2 rfl (by decide) (by omega) (.slice Ao17 x3_2.length co17) x3_2 (rd ((rd_T49 l0_1 x4_1).f2) x5_2) [.int .i64 (rd ((rd_T49 l0_1 x4_1).f2) x5_2)] (fun _ => True) (fun _ => False) rfl rfl ?aP (fun _ hk => hk.elim) ?aF ?aO ?aB ?aS ?aL ?_; (case aP => exact rfl); (case aB => exact (by repeat first | exact HB.out | apply pw_below_drewN)); (case aF => exact (fun _ _ => trivial)); (case aO => exact (by (with_reducible repeat (first | apply Kd.R_alloc | apply Kd.R_drewN | apply Kd.R_drew)); exact HO_3.out)); (case aS => exact (below_size (by repeat first | exact HB.out | apply pw_below_drewN))); (case aL => have := LMc15.out; omega); intro v171 w18 ho hb hg hat; rw [← Ny170.out] at ho; have n0_ := Aside0.mk (blk_grown (g := gb162) (o := .cells #[.slice A0_0 l0_0.length c0_0, .slice (some ad166) l0_1.length c0_1] 25 (0, 0)) (by exact BK162.out) hg (Kd.R_ne HO_3.out BK162.out (by decide))); have n1_ := Aside0.mk (hb); have n2_ := Aside0.mk (ho); clear BK162; clear HB; clear HO_3; have BK162 := n0_; have HB := n1_; have HO172 := n2_; clear n0_ n1_ n2_; clear ho hb hg hat))
                        go_roundg k2
                        case measure => have := HK1.out; have := HK2.out; omega
                        case rel => exact ⟨(y170), (wrap64 (x5_2 + 1)), (by first | rfl | (simp; done) | (simp [*]; done)), H', ⟨by have := HK1.out; have := HK2.out; omega⟩, ⟨by (with_reducible repeat (first | apply Kd.R_alloc | apply Kd.R_drewN | apply Kd.R_drew)); exact HO172.out⟩, ⟨by exact BK162.out⟩, ⟨by repeat first | exact HB.out | apply pw_below_drewN⟩⟩
                      · rw [if_neg c15] at H
                        exact absurd H (by simp)
                  · rw [if_neg c10] at H
                    exact absurd H (by simp)
                · rw [if_neg c9] at H
                  have c9b0 : decide (x5_2 < (((rd_T49 l0_1 x4_1).f2).length : Int)) = false := decide_eq_false c9
                  clear c9
                  have H' := Aside0.mk H
                  clear H
                  have hcz19_0 := (blk_cell BK162.out 0).trans rfl
                  have hcz19_1 := (blk_cell BK162.out 1).trans rfl
                  have p166 : 0 ≤ (x4_1 : Int) := of_decide_eq_true (by assumption)
                  have q166 : x4_1 < (l0_1.length : Int) := of_decide_eq_true (by assumption)
                  obtain ⟨ad166, A166_2, c166_2, e166, hx166_0, hx166_1, hx166_2, hl166_2, hi166_2⟩ := at_T49 HR0_1.out x4_1 p166 q166
                  cases e166
                  replace hx166_0 := (HB.out.cell (World.block_lt_of_cell? w _ hx166_0)).trans hx166_0
                  replace hx166_1 := (HB.out.cell (World.block_lt_of_cell? w _ hx166_1)).trans hx166_1
                  replace hx166_2 := (HB.out.cell (World.block_lt_of_cell? w _ hx166_2)).trans hx166_2
                  have HR166_2 := Aside0.mk hi166_2
                  have HC166_2 := Aside0.mk hl166_2
                  clear hi166_2 hl166_2
                  replace p166 := eq_true p166
                  replace q166 := eq_true q166
                  go_wp2
                  go_roundg k2
                  case measure => have := HK1.out; have := HK2.out; omega
                  case rel => exact ⟨(x3_2), (wrap64 (x4_1 + 1)), (by first | rfl | (simp; done) | (simp [*]; done)), H', ⟨by have := HK1.out; have := HK2.out; omega⟩, ⟨by (with_reducible repeat (first | apply Kd.R_alloc | apply Kd.R_drewN | apply Kd.R_drew)); exact HO_3.out⟩, ⟨by exact BK162.out⟩, ⟨by repeat first | exact HB.out | apply pw_below_drewN⟩⟩
              · rw [if_neg c8] at H
                exact absurd H (by simp)
            · rw [if_neg c7] at H
              exact absurd H (by simp)
      · rw [if_neg c5] at H
        have c5b0 : decide (x4_1 < (l0_1.length : Int)) = false := decide_eq_false c5
        clear c5
        obtain rfl := Option.some.inj H
        have hcz20_0 := (blk_cell BK162.out 0).trans rfl
        have hcz20_1 := (blk_cell BK162.out 1).trans rfl
        go_wp2
        go_ret
        exact ⟨by first | rfl | (simp [*, errW_none, errW_some] <;> rfl), by repeat first | exact HB.out | apply pw_below_drewN⟩

end Go.Proofs.YtohjpgcmhihdhaaGreatDoor.Q
