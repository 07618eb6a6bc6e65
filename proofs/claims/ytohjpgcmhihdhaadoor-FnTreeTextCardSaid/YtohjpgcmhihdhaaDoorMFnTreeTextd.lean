/- Walks and plain laws of one claim, several texts in one. -/
import Derived.Test.YtohjpgcmhihdhaaDoorQ0
import Derived.Test.YtohjpgcmhihdhaaDoorOLoop
import Derived.Test.YtohjpgcmhihdhaaDoorMFnTreeTextc
import Derived.Test.YtohjpgcmhihdhaaDoorMFnTreeTexta
import Derived.Test.YtohjpgcmhihdhaaDoorQf7
import Derived.Test.YtohjpgcmhihdhaaDoorQf62
import Derived.Test.YtohjpgcmhihdhaaDoorQf5
import Derived.Test.YtohjpgcmhihdhaaDoorQf9
import Derived.Test.YtohjpgcmhihdhaaDoorQf19
import Derived.Lib.ParseIntBTie
import Derived.Lib.SplitLaws
import Derived.Lib.CountLaws
import Derived.Lib.IndexBytes
namespace Go.Proofs.YtohjpgcmhihdhaaDoor.Q
open Go.RowKit Go.Proofs.YtohjpgcmhihdhaaDoorW.PrintWords Go.Proofs.YtohjpgcmhihdhaaDoorW.PrintLast Go.Proofs.YtohjpgcmhihdhaaDoorW.PrintMore
attribute [local go_sem] max2_int min2_int max_two min_two max_three min_three max_four min_four   -- for this text's walks alone
set_option linter.unusedVariables false
set_option linter.unusedSimpArgs false
/-! ### spec_l06Num: function 34 -/
def spec_l06Num.f : Nat → Int → Option (ByteArray)
  | 0, _ => none
  | k + 1, a0 => if a0 < 0 then ((spec_l06Num.f k (wrap64 (-a0))).bind fun t152 => (if 1 + t152.size ≤ 9223372036854775807 then (some ((⟨#[45]⟩ : ByteArray) ++ t152)) else (none))) else (if a0 < 10 then (some (strOfNums (([(wrap64 (48 + a0)) % 256] : List Int)))) else ((spec_l06Num.f k (wrap64 (Int.tdiv a0 10))).bind fun t156 => ((some (([(wrap64 (48 + (Int.tmod a0 10))) % 256] : List Int) : List Int)).bind fun y157 => (if t156.size + (strOfNums y157).size ≤ 9223372036854775807 then (some (t156 ++ (strOfNums y157))) else (none)))))
def spec_l06Num.T5 : Bool × List (List Nat × List Nat) := (true, [([], []), ([0], [0]), ([1], [1]), ([], []), ([3], [3]), ([4], [4]), ([5], [5]), ([6], [6]), ([7], [7]), ([2, 8], [2, 8]), ([9, 2, 0, 1, 2, 3, 4, 5, 6, 7, 8, 9], [9])])
def spec_l06Num.B5 : List Nat := [0, 1, 3, 0, 8, 24, 56, 120, 248, 511, 1023]
theorem spec_l06Num.tab5 : rtab .any (opsOf Tryd.f34 5) = spec_l06Num.T5 := by kernel_rfl
theorem spec_l06Num.bits5 : waitsOk spec_l06Num.T5.2 spec_l06Num.B5 = true := by kernel_rfl
set_option maxHeartbeats 8000000 in
set_option maxRecDepth 100000 in
theorem spec_l06Num.calls (k : Nat) : ∀ (a0 : Int) (r : ByteArray) (w : World) (h : spec_l06Num.f k a0 = some r),
    Calls Tryd.prog 34 #[.int .i64 a0] w fun e w' => e = .returned (.string r) ∧ Below w.heap.size w w' := by
  induction k using Nat.strongRecOn with
  | _ k ih =>
  intro a0 r w h
  cases k with
  | zero => exact absurd h (by simp [spec_l06Num.f])
  | succ k =>
  simp only [spec_l06Num.f] at h
  have HB := Aside0.mk (Below.refl w.heap.size w)
  have H : (if a0 < 0 then ((spec_l06Num.f k (wrap64 (-a0))).bind fun t152 => (if 1 + t152.size ≤ 9223372036854775807 then (some ((⟨#[45]⟩ : ByteArray) ++ t152)) else (none))) else (if a0 < 10 then (some (strOfNums (([(wrap64 (48 + a0)) % 256] : List Int)))) else ((spec_l06Num.f k (wrap64 (Int.tdiv a0 10))).bind fun t156 => ((some (([(wrap64 (48 + (Int.tmod a0 10))) % 256] : List Int) : List Int)).bind fun y157 => (if t156.size + (strOfNums y157).size ≤ 9223372036854775807 then (some (t156 ++ (strOfNums y157))) else (none)))))) = some r := h
  clear h
  by_cases c2 : a0 < 0
  · rw [if_pos c2] at H
    have c2b0 : decide (a0 < 0) = true := decide_eq_true c2
    clear c2
    replace H := Option.bind_eq_some_iff.mp H
    obtain ⟨t152, A30, H⟩ := H
    set_option simprocs false in try dsimp only at H
    have A3 := Aside0.mk A30
    clear A30
    by_cases c4 : 1 + t152.size ≤ 9223372036854775807
    · rw [if_pos c4] at H
      have c4b0 := eq_true c4
      have c4b1 : decide (1 + t152.size ≤ 9223372036854775807) = true := decide_eq_true c4
      try have c4b2 : (9223372036854775807 < 1 + t152.size) = False := eq_false (Nat.not_lt.2 c4)
      obtain rfl := Option.some.inj H
      go_enter Tryd.func34, Tryd.ntmps34
      go_wp2_with (first | ((with_reducible refine gate_callee (f := 34) rfl ?_); refine goesL_ (some 7) rfl rfl Tryd.func34 (by kernel_rfl) rfl #[.int .i64 (wrap64 (-a0))] rfl (by (try simp only [List.map_toArray, List.map_cons, List.map_nil]); first | done | rfl) ?_; (with_reducible refine (ih k (by omega) (wrap64 (-a0)) t152 _ A3.out).mono ?_); rintro e w5 ⟨rfl, hb⟩; refine ⟨_, rfl, ?_⟩; have n0_ := Aside0.mk (below_step (by repeat first | exact HB.out | apply pw_below_drewN) hb); clear HB; have HB := n0_; clear n0_; (try clear hb); (try clear hb2); (try clear hk); (try clear hi)))
      go_ret
      exact ⟨by first | rfl | (simp [*, errW_none, errW_some] <;> rfl), by repeat first | exact HB.out | apply pw_below_drewN⟩
    · rw [if_neg c4] at H
      exact absurd H (by simp)
  · rw [if_neg c2] at H
    have c2b0 : decide (a0 < 0) = false := decide_eq_false c2
    clear c2
    by_cases c6 : a0 < 10
    · rw [if_pos c6] at H
      have c6b0 : decide (a0 < 10) = true := decide_eq_true c6
      clear c6
      obtain ⟨y153, hy153⟩ : ∃ y_ : List Int, y_ = (([(wrap64 (48 + a0)) % 256] : List Int)) := ⟨_, rfl⟩
      replace H : (some (strOfNums y153)) = some r := by first | (rw [hy153]; with_reducible exact H) | (have H2_ := (Option.bind_some _ _).symm.trans H; rw [hy153]; with_reducible exact H2_) | (have H2_ := (Option.bind_some _ _).symm.trans H; with_reducible exact H2_) | with_reducible exact H | (rw [hy153]; exact H) | exact H
      have Ny153 := Aside0.mk hy153
      clear hy153
      obtain rfl := Option.some.inj H
      go_enter Tryd.func34, Tryd.ntmps34
      go_wp2_with (first | ((with_reducible refine gate_dst (N := 14) rfl ?_); refine Kd.R_lit (Kd.int .u8) _ 5 ?hg (N := 14) ?hd (xs := ([(wrap64 (48 + a0)) % 256] : List Int)) (inner := [.int .u8 ((wrap64 (48 + a0)) % 256)]) (ok := fun _ => True) (okp := fun _ => True) ?hr ?hp (fun _ hk => hk) trivial (Below.refl _ _) (Nat.le_refl _) (by simp) ?_; (case hd => rfl); (case hg => rfl); (case hr => first | (go_simp; done) | (go_simp; rfl)); (case hp => exact (Reps.one (show Kd.M (Kd.int .u8) _ _ _ ((wrap64 (48 + a0)) % 256) [.int .u8 ((wrap64 (48 + a0)) % 256)] from rfl) (Reps.none _ _))); intro v154 w7 ho8 hb hg_ hnew_; clear hg_ hnew_; (first | rw [← Ny153.out] at ho8 | (simp only [Int.reduceToNat] at ho8; rw [← Ny153.out] at ho8)); have n0_ := Aside0.mk (Kd.R_lower ho8 (below_size (by repeat first | exact HB.out | apply pw_below_drewN))); have n1_ := Aside0.mk (below_step (by repeat first | exact HB.out | apply pw_below_drewN) hb); clear HB; have HO155 := n0_; have HB := n1_; clear n0_ n1_; clear hb ho8; have hcv9 := own_string (P := Tryd.prog) Tryd.underlying36 Tryd.underlying5 Tryd.underlying9 (Kd.own_of_R HO155.out)))
      go_ret
      exact ⟨by first | rfl | (simp [*, errW_none, errW_some] <;> rfl), by repeat first | exact HB.out | apply pw_below_drewN⟩
    · rw [if_neg c6] at H
      have c6b0 : decide (a0 < 10) = false := decide_eq_false c6
      clear c6
      replace H := Option.bind_eq_some_iff.mp H
      obtain ⟨t156, A100, H⟩ := H
      set_option simprocs false in try dsimp only at H
      have A10 := Aside0.mk A100
      clear A100
      obtain ⟨y157, hy157⟩ : ∃ y_ : List Int, y_ = (([(wrap64 (48 + (Int.tmod a0 10))) % 256] : List Int)) := ⟨_, rfl⟩
      replace H : (if t156.size + (strOfNums y157).size ≤ 9223372036854775807 then (some (t156 ++ (strOfNums y157))) else (none)) = some r := by first | (rw [hy157]; with_reducible exact H) | (have H2_ := (Option.bind_some _ _).symm.trans H; rw [hy157]; with_reducible exact H2_) | (have H2_ := (Option.bind_some _ _).symm.trans H; with_reducible exact H2_) | with_reducible exact H | (rw [hy157]; exact H) | exact H
      have Ny157 := Aside0.mk hy157
      clear hy157
      by_cases c11 : t156.size + (strOfNums y157).size ≤ 9223372036854775807
      · rw [if_pos c11] at H
        have c11b0 := eq_true c11
        have c11b1 : decide (t156.size + (strOfNums y157).size ≤ 9223372036854775807) = true := decide_eq_true c11
        try have c11b2 : (9223372036854775807 < t156.size + (strOfNums y157).size) = False := eq_false (Nat.not_lt.2 c11)
        obtain rfl := Option.some.inj H
        go_enter Tryd.func34, Tryd.ntmps34
        try go_wp2
        have n0_ := Aside0.mk (below_drew1 HB.out)
        clear HB
        have HB := n0_
        clear n0_
        refine start_ (n := 11) (S := fun w' => True) (ds := []) #[false, false, false, false, false, false, false, false, false, false, false] (by kernel_rfl) rfl rfl trivial (fun hHeld => ?_); refine with_tabW spec_l06Num.tab5 spec_l06Num.bits5 (fun HT_ HW_ => ?_)
        generalize w.drew = w12 at HB hHeld ⊢
        refine pure_ (i := 0) (N := some 16) (v := ?_) (a' := ?_) #[true, false, false, false, false, false, false, false, false, false, false] rfl rfl (any_of HT_.out (by kernel_rfl)) (fun _ _ _ h => h) (Or.inl ⟨by rfl, ?_⟩) ?_ ?_
        rotate_left
        · intro w'
          go_simp
          with_reducible rfl
        rotate_left
        · simp only [Act.put, List.setIfInBounds_toArray, List.set_cons_zero, List.set_cons_succ, i64_w, i32_w]
          rfl
        refine pure_ (i := 1) (N := some 17) (v := ?_) (a' := ?_) #[true, true, false, false, false, false, false, false, false, false, false] rfl rfl (any_of HT_.out (by kernel_rfl)) (fun _ _ _ h => h) (Or.inl ⟨by rfl, ?_⟩) ?_ ?_
        rotate_left
        · intro w'
          go_simp
          with_reducible rfl
        rotate_left
        · simp only [Act.put, List.setIfInBounds_toArray, List.set_cons_zero, List.set_cons_succ, i64_w, i32_w]
          rfl
        refine pure_ (i := 3) (N := some 19) (v := ?_) (a' := ?_) #[true, true, false, true, false, false, false, false, false, false, false] rfl rfl (any_of HT_.out (by kernel_rfl)) (fun _ _ _ h => h) (Or.inl ⟨by rfl, ?_⟩) ?_ ?_
        rotate_left
        · intro w'
          go_simp
          with_reducible rfl
        rotate_left
        · simp only [Act.put, List.setIfInBounds_toArray, List.set_cons_zero, List.set_cons_succ, i64_w, i32_w]
          rfl
        refine pure_ (i := 4) (N := some 20) (v := ?_) (a' := ?_) #[true, true, false, true, true, false, false, false, false, false, false] rfl rfl (any_of HT_.out (by kernel_rfl)) (fun _ _ _ h => h) (Or.inl ⟨by rfl, ?_⟩) ?_ ?_
        rotate_left
        · intro w'
          go_simp
          with_reducible rfl
        rotate_left
        · simp only [Act.put, List.setIfInBounds_toArray, List.set_cons_zero, List.set_cons_succ, i64_w, i32_w]
          rfl
        refine pure_ (i := 5) (N := some 21) (v := ?_) (a' := ?_) #[true, true, false, true, true, true, false, false, false, false, false] rfl rfl (any_of HT_.out (by kernel_rfl)) (fun _ _ _ h => h) (Or.inl ⟨by rfl, ?_⟩) ?_ ?_
        rotate_left
        · intro w'
          go_simp
          with_reducible rfl
        rotate_left
        · simp only [Act.put, List.setIfInBounds_toArray, List.set_cons_zero, List.set_cons_succ, i64_w, i32_w]
          rfl
        refine pure_ (i := 6) (N := some 22) (v := ?_) (a' := ?_) #[true, true, false, true, true, true, true, false, false, false, false] rfl rfl (any_of HT_.out (by kernel_rfl)) (fun _ _ _ h => h) (Or.inl ⟨by rfl, ?_⟩) ?_ ?_
        rotate_left
        · intro w'
          go_simp
          with_reducible rfl
        rotate_left
        · simp only [Act.put, List.setIfInBounds_toArray, List.set_cons_zero, List.set_cons_succ, i64_w, i32_w]
          rfl
        refine join_ (σ := Value) 2 #[true, true, true, true, true, true, true, true, true, false, false] (fun s_ => [(18, .string t156), (23, s_), (24, .string (strOfNums y157))]) (fun s_ w' => (Kd.R (Kd.int .u8) 5 w' w.heap.size (fun _ => True) s_ y157) ∧ (Below w.heap.size w w')) ?_ ?_
        rotate_left
        · intro hCont
          refine two_ (i := 2) (j := 7) (Ni := some 18) (Nj := some 23) #[true, true, true, true, true, true, true, false, false, false, false] #[true, true, false, true, true, true, true, true, false, false, false] rfl rfl rfl rfl (two_of HT_.out (by kernel_rfl)) (by decide) (by decide) (fun K hK => ?_) (fun K hK => ?_)
          · skip
            refine goes_ Tryd.func34 (by kernel_rfl) rfl #[.int .i64 (wrap64 (Int.tdiv a0 10))] (by rfl) rfl rfl (by (try simp only [List.map_toArray, List.map_cons, List.map_nil]); first | done | rfl) ?_
            with_reducible refine (ih k (by omega) (wrap64 (Int.tdiv a0 10)) t156 _ A10.out).mono ?_
            rintro e w13 ⟨rfl, hb⟩
            refine ⟨_, rfl, ?_⟩
            have n0_ := Aside0.mk (below_step (by repeat first | exact HB.out | apply pw_below_drewN) hb)
            clear HB
            have HB := n0_
            clear n0_
            (try clear hb)
            (try clear hb2)
            (try clear hk)
            (try clear hi)
            refine hK.out _ _ trivial (fun hHeld => ?_)
            clear hK K
            refine norm_ (a' := ?_) ?_ ?_
            rotate_left
            · show Act.put _ (some 18) _ = _
              simp only [Act.put, List.setIfInBounds_toArray, List.set_cons_zero, List.set_cons_succ, i64_w, i32_w]
              rfl
            refine one_ (i := 7) (N := some 23) #[true, true, true, true, true, true, true, true, false, false, false] rfl rfl (one_of HT_.out (by kernel_rfl)) (by decide) (fun K hK => ?_)
            refine Kd.R_lit_step (Kd.int .u8) _ 5 ?hg (N := 23) ?hd (xs := ([(wrap64 (48 + (Int.tmod a0 10))) % 256] : List Int)) (inner := [.int .u8 ((wrap64 (48 + (Int.tmod a0 10))) % 256)]) (ok := fun _ => True) (okp := fun _ => True) ?hr ?hp (fun _ hk => hk) trivial (Below.refl _ _) (Nat.le_refl _) (by simp) ?_; (case hd => rfl); (case hg => rfl); (case hr => first | (go_simp; done) | (go_simp; rfl)); (case hp => exact (Reps.one (show Kd.M (Kd.int .u8) _ _ _ ((wrap64 (48 + (Int.tmod a0 10))) % 256) [.int .u8 ((wrap64 (48 + (Int.tmod a0 10))) % 256)] from rfl) (Reps.none _ _)))
            intro v158 w14 ho15 hb hg_ hnew_
            clear hg_ hnew_
            (first | rw [← Ny157.out] at ho15 | (simp only [Int.reduceToNat] at ho15; rw [← Ny157.out] at ho15))
            have n0_ := Aside0.mk (Kd.R_lower ho15 (below_size (by repeat first | exact HB.out | apply pw_below_drewN)))
            have n1_ := Aside0.mk (below_step (by repeat first | exact HB.out | apply pw_below_drewN) hb)
            clear HB
            have HO159 := n0_
            have HB := n1_
            clear n0_ n1_
            clear hb ho15
            refine hK.out _ _ trivial (fun hHeld => ?_)
            clear hK K
            refine norm_ (a' := ?_) ?_ ?_
            rotate_left
            · show Act.put _ (some 23) _ = _
              simp only [Act.put, List.setIfInBounds_toArray, List.set_cons_zero, List.set_cons_succ, i64_w, i32_w]
              rfl
            refine one_ (i := 8) (N := some 24) #[true, true, true, true, true, true, true, true, true, false, false] rfl rfl (one_of HT_.out (by kernel_rfl)) (by decide) (fun K hK => ?_)
            have hcv16 := own_string (P := Tryd.prog) Tryd.underlying36 Tryd.underlying5 Tryd.underlying9 (Kd.own_of_R HO159.out)
            refine value_ (w1 := ?_) (v := ?_) (by rfl) rfl ?_ ?_
            rotate_left 2
            · go_simp
              constructor
              · rfl
              · rfl
            clear hcv16
            refine hK.out _ _ trivial (fun hHeld => ?_)
            clear hK K
            refine norm_ (a' := ?_) ?_ ?_
            rotate_left
            · show Act.put _ (some 24) _ = _
              simp only [Act.put, List.setIfInBounds_toArray, List.set_cons_zero, List.set_cons_succ, i64_w, i32_w]
              rfl
            exact norm_ (by simp only [putAll, Act.put, List.setIfInBounds_toArray, List.set_cons_zero, List.set_cons_succ]) (hCont (v158) _ ⟨(by (with_reducible repeat (first | apply Kd.R_alloc | apply Kd.R_drewN | apply Kd.R_drew)); exact HO159.out), (by repeat first | exact HB.out | apply pw_below_drewN)⟩)
          · skip
            refine Kd.R_lit_step (Kd.int .u8) _ 5 ?hg (N := 23) ?hd (xs := ([(wrap64 (48 + (Int.tmod a0 10))) % 256] : List Int)) (inner := [.int .u8 ((wrap64 (48 + (Int.tmod a0 10))) % 256)]) (ok := fun _ => True) (okp := fun _ => True) ?hr ?hp (fun _ hk => hk) trivial (Below.refl _ _) (Nat.le_refl _) (by simp) ?_; (case hd => rfl); (case hg => rfl); (case hr => first | (go_simp; done) | (go_simp; rfl)); (case hp => exact (Reps.one (show Kd.M (Kd.int .u8) _ _ _ ((wrap64 (48 + (Int.tmod a0 10))) % 256) [.int .u8 ((wrap64 (48 + (Int.tmod a0 10))) % 256)] from rfl) (Reps.none _ _)))
            intro v158 w13 ho14 hb hg_ hnew_
            clear hg_ hnew_
            (first | rw [← Ny157.out] at ho14 | (simp only [Int.reduceToNat] at ho14; rw [← Ny157.out] at ho14))
            have n0_ := Aside0.mk (Kd.R_lower ho14 (below_size (by repeat first | exact HB.out | apply pw_below_drewN)))
            have n1_ := Aside0.mk (below_step (by repeat first | exact HB.out | apply pw_below_drewN) hb)
            clear HB
            have HO159 := n0_
            have HB := n1_
            clear n0_ n1_
            clear hb ho14
            refine hK.out _ _ trivial (fun hHeld => ?_)
            clear hK K
            refine norm_ (a' := ?_) ?_ ?_
            rotate_left
            · show Act.put _ (some 23) _ = _
              simp only [Act.put, List.setIfInBounds_toArray, List.set_cons_zero, List.set_cons_succ, i64_w, i32_w]
              rfl
            refine two_ (i := 2) (j := 8) (Ni := some 18) (Nj := some 24) #[true, true, true, true, true, true, true, true, false, false, false] #[true, true, false, true, true, true, true, true, true, false, false] rfl rfl rfl rfl (two_of HT_.out (by kernel_rfl)) (by decide) (by decide) (fun K hK => ?_) (fun K hK => ?_)
            · skip
              refine goes_ Tryd.func34 (by kernel_rfl) rfl #[.int .i64 (wrap64 (Int.tdiv a0 10))] (by rfl) rfl rfl (by (try simp only [List.map_toArray, List.map_cons, List.map_nil]); first | done | rfl) ?_
              with_reducible refine (ih k (by omega) (wrap64 (Int.tdiv a0 10)) t156 _ A10.out).mono ?_
              rintro e w15 ⟨rfl, hb⟩
              refine ⟨_, rfl, ?_⟩
              have n0_ := Aside0.mk (Kd.R_below (by (with_reducible repeat (first | apply Kd.R_alloc | apply Kd.R_drewN | apply Kd.R_drew)); exact HO159.out) hb)
              have n1_ := Aside0.mk (below_step (by repeat first | exact HB.out | apply pw_below_drewN) hb)
              clear HO159
              clear HB
              have HO159 := n0_
              have HB := n1_
              clear n0_ n1_
              (try clear hb)
              (try clear hb2)
              (try clear hk)
              (try clear hi)
              refine hK.out _ _ trivial (fun hHeld => ?_)
              clear hK K
              refine norm_ (a' := ?_) ?_ ?_
              rotate_left
              · show Act.put _ (some 18) _ = _
                simp only [Act.put, List.setIfInBounds_toArray, List.set_cons_zero, List.set_cons_succ, i64_w, i32_w]
                rfl
              refine one_ (i := 8) (N := some 24) #[true, true, true, true, true, true, true, true, true, false, false] rfl rfl (one_of HT_.out (by kernel_rfl)) (by decide) (fun K hK => ?_)
              have hcv16 := own_string (P := Tryd.prog) Tryd.underlying36 Tryd.underlying5 Tryd.underlying9 (Kd.own_of_R HO159.out)
              refine value_ (w1 := ?_) (v := ?_) (by rfl) rfl ?_ ?_
              rotate_left 2
              · go_simp
                constructor
                · rfl
                · rfl
              clear hcv16
              refine hK.out _ _ trivial (fun hHeld => ?_)
              clear hK K
              refine norm_ (a' := ?_) ?_ ?_
              rotate_left
              · show Act.put _ (some 24) _ = _
                simp only [Act.put, List.setIfInBounds_toArray, List.set_cons_zero, List.set_cons_succ, i64_w, i32_w]
                rfl
              exact norm_ (by simp only [putAll, Act.put, List.setIfInBounds_toArray, List.set_cons_zero, List.set_cons_succ]) (hCont (v158) _ ⟨(by (with_reducible repeat (first | apply Kd.R_alloc | apply Kd.R_drewN | apply Kd.R_drew)); exact HO159.out), (by repeat first | exact HB.out | apply pw_below_drewN)⟩)
            · skip
              have hcv15 := own_string (P := Tryd.prog) Tryd.underlying36 Tryd.underlying5 Tryd.underlying9 (Kd.own_of_R HO159.out)
              refine value_ (w1 := ?_) (v := ?_) (by rfl) rfl ?_ ?_
              rotate_left 2
              · go_simp
                constructor
                · rfl
                · rfl
              clear hcv15
              refine hK.out _ _ trivial (fun hHeld => ?_)
              clear hK K
              refine norm_ (a' := ?_) ?_ ?_
              rotate_left
              · show Act.put _ (some 24) _ = _
                simp only [Act.put, List.setIfInBounds_toArray, List.set_cons_zero, List.set_cons_succ, i64_w, i32_w]
                rfl
              refine one_ (i := 2) (N := some 18) #[true, true, true, true, true, true, true, true, true, false, false] rfl rfl (one_of HT_.out (by kernel_rfl)) (by decide) (fun K hK => ?_)
              refine goes_ Tryd.func34 (by kernel_rfl) rfl #[.int .i64 (wrap64 (Int.tdiv a0 10))] (by rfl) rfl rfl (by (try simp only [List.map_toArray, List.map_cons, List.map_nil]); first | done | rfl) ?_
              with_reducible refine (ih k (by omega) (wrap64 (Int.tdiv a0 10)) t156 _ A10.out).mono ?_
              rintro e w16 ⟨rfl, hb⟩
              refine ⟨_, rfl, ?_⟩
              have n0_ := Aside0.mk (Kd.R_below (by (with_reducible repeat (first | apply Kd.R_alloc | apply Kd.R_drewN | apply Kd.R_drew)); exact HO159.out) hb)
              have n1_ := Aside0.mk (below_step (by repeat first | exact HB.out | apply pw_below_drewN) hb)
              clear HO159
              clear HB
              have HO159 := n0_
              have HB := n1_
              clear n0_ n1_
              (try clear hb)
              (try clear hb2)
              (try clear hk)
              (try clear hi)
              refine hK.out _ _ trivial (fun hHeld => ?_)
              clear hK K
              refine norm_ (a' := ?_) ?_ ?_
              rotate_left
              · show Act.put _ (some 18) _ = _
                simp only [Act.put, List.setIfInBounds_toArray, List.set_cons_zero, List.set_cons_succ, i64_w, i32_w]
                rfl
              exact norm_ (by simp only [putAll, Act.put, List.setIfInBounds_toArray, List.set_cons_zero, List.set_cons_succ]) (hCont (v158) _ ⟨(by (with_reducible repeat (first | apply Kd.R_alloc | apply Kd.R_drewN | apply Kd.R_drew)); exact HO159.out), (by repeat first | exact HB.out | apply pw_below_drewN)⟩)
        rintro v158 w17 ⟨h0_, h1_⟩
        have n0_ : Aside0 (Kd.R (Kd.int .u8) 5 w17 w.heap.size (fun _ => True) v158 y157) := ⟨h0_⟩
        have n1_ : Aside0 (Below w.heap.size w w17) := ⟨h1_⟩
        clear HB
        clear h0_ h1_
        have HO159 := n0_
        have HB := n1_
        clear n0_ n1_
        have hHeld := trivial
        refine norm_ (a' := ?_) ?_ ?_
        rotate_left
        · simp only [putAll, Act.put, List.setIfInBounds_toArray, List.set_cons_zero, List.set_cons_succ]
          rfl
        refine pure_ (i := 9) (N := some 25) (v := ?_) (a' := ?_) #[true, true, true, true, true, true, true, true, true, true, false] rfl rfl (any_of HT_.out (by kernel_rfl)) (fun _ _ _ h => h) (Or.inl ⟨by rfl, ?_⟩) ?_ ?_
        rotate_left
        · intro w'
          go_simp
          with_reducible rfl
        rotate_left
        · simp only [Act.put, List.setIfInBounds_toArray, List.set_cons_zero, List.set_cons_succ, i64_w, i32_w]
          rfl
        refine pure_ (i := 10) (N := some 2) (v := ?_) (a' := ?_) #[true, true, true, true, true, true, true, true, true, true, true] rfl rfl (any_of HT_.out (by kernel_rfl)) (fun _ _ _ h => h) (Or.inl ⟨by rfl, ?_⟩) ?_ ?_
        rotate_left
        · intro w'
          go_simp
          with_reducible rfl
        rotate_left
        · simp only [Act.put, List.setIfInBounds_toArray, List.set_cons_zero, List.set_cons_succ, i64_w, i32_w]
          rfl
        refine done_ (done_of HT_.out (by kernel_rfl)) ?_
        try go_wp2
        go_ret
        exact ⟨by first | rfl | (simp [*, errW_none, errW_some] <;> rfl), by repeat first | exact HB.out | apply pw_below_drewN⟩
      · rw [if_neg c11] at H
        exact absurd H (by simp)

end Go.Proofs.YtohjpgcmhihdhaaDoor.Q

namespace Go.Proofs.YtohjpgcmhihdhaaDoor.Pure
open Go.RowKit Go.Proofs.YtohjpgcmhihdhaaDoor.Q Go.Proofs.YtohjpgcmhihdhaaDoorW.PrintWords Go.Proofs.YtohjpgcmhihdhaaDoorW.PrintLast Go.Proofs.YtohjpgcmhihdhaaDoorW.PrintMore
set_option linter.unusedVariables false
set_option linter.unusedSimpArgs false
/-- digits as a text -/
def digB (u : Nat) : ByteArray := ⟨(Lib.decDigits u).toArray⟩
theorem digB_small (u : Nat) (h : u < 10) : digB u = ⟨#[UInt8.ofNat (48 + u)]⟩ := by
  unfold digB
  rw [Lib.decDigits, dif_pos h]
theorem digB_more (u : Nat) (h : ¬ u < 10) : digB u = digB (u / 10) ++ (⟨#[UInt8.ofNat (48 + u % 10)]⟩ : ByteArray) := by
  unfold digB
  rw [Lib.decDigits, dif_neg h]
  apply ByteArray.ext
  simp
theorem one_byte (n : Nat) (h : n < 256) : strOfNums [(n : Int)] = ⟨#[UInt8.ofNat n]⟩ := by
  unfold strOfNums
  simp
theorem digB_size (u : Nat) (h : u ≤ 1000000) : (digB u).size ≤ 21 := by
  have := decB_size (u : Int) (by omega) (by omega)
  unfold decB at this
  rw [Lib.itoa_nonneg] at this
  exact this
theorem num_pos : ∀ (d u : Nat), u < 10 ^ d → u ≤ 1000000 → Ev (fun k => spec_l06Num.f k (u : Int)) (digB u)
  | 0, u, h, hu => by
    have : u = 0 := by simpa using h
    subst this
    refine ev_end (fun k => ?_)
    simp only [spec_l06Num.f]
    rw [if_neg (by omega), if_pos (by omega), digB_small 0 (by omega), show (wrap64 (48 + ((0 : Nat) : Int))) % 256 = ((48 + 0 : Nat) : Int) from by unfold wrap64; omega]
    exact congrArg some (one_byte (48 + 0) (by omega))
  | d + 1, u, h, hu => by
    by_cases c : u < 10
    · refine ev_end (fun k => ?_)
      simp only [spec_l06Num.f]
      rw [if_neg (by omega), if_pos (by omega), digB_small u c, show (wrap64 (48 + (u : Int))) % 256 = ((48 + u : Nat) : Int) from by unfold wrap64; omega]
      exact congrArg some (one_byte (48 + u) (by omega))
    · refine Ev.step (f := ?zf1) (fun k => ?_) ?_
      rotate_left
      · simp only [spec_l06Num.f]
        rw [if_neg (by omega), if_neg (by omega), show wrap64 (Int.tdiv (u : Int) 10) = ((u / 10 : Nat) : Int) from by rw [Int.tdiv_eq_ediv_of_nonneg (by omega)]; unfold wrap64; omega, show (wrap64 (48 + (Int.tmod (u : Int) 10))) % 256 = ((48 + u % 10 : Nat) : Int) from by rw [Int.tmod_eq_emod_of_nonneg (by omega)]; unfold wrap64; omega]
      · have ih := num_pos d (u / 10) (by rw [Nat.pow_succ] at h; omega) (by omega)
        have hs := digB_size (u / 10) (by omega)
        refine Ev.bind ih ?_
        simp only [Option.bind_some, one_byte (48 + u % 10) (by omega)]
        have h1 : (⟨#[UInt8.ofNat (48 + u % 10)]⟩ : ByteArray).size = 1 := rfl
        simp only [h1, if_pos (show (digB (u / 10)).size + 1 ≤ 9223372036854775807 by omega), ← digB_more u c]
        exact Ev.now _
theorem num_ev (n : Int) (h0 : -1000000 ≤ n) (h1 : n ≤ 1000000) : Ev (fun k => spec_l06Num.f k n) (decB n) := by
  by_cases c : n < 0
  · obtain ⟨u, rfl⟩ : ∃ u : Nat, n = -(u : Int) := ⟨n.natAbs, by omega⟩
    have e : decB (-(u : Int)) = (⟨#[45]⟩ : ByteArray) ++ digB u := by
      unfold decB digB
      rw [Lib.itoa_neg u (by omega)]
      apply ByteArray.ext
      simp
    rw [e]
    refine Ev.step (f := ?zf1) (fun k => ?_) ?_
    rotate_left
    · simp only [spec_l06Num.f]
      rw [if_pos c, show wrap64 (-(-(u : Int))) = (u : Int) from by unfold wrap64; omega]
    · have hs := digB_size u (by omega)
      refine Ev.bind (num_pos 7 u (by omega) (by omega)) ?_
      simp only [if_pos (show 1 + (digB u).size ≤ 9223372036854775807 by omega)]
      exact Ev.now _
  · obtain ⟨u, rfl⟩ := Int.eq_ofNat_of_zero_le (show 0 ≤ n by omega)
    have e : decB (u : Int) = digB u := by
      unfold decB digB
      rw [Lib.itoa_nonneg]
    rw [e]
    exact num_pos 7 u (by omega) (by omega)

/-- what a valid topology holds -/
structure Valid (D : List S65) (B : List S62) : Prop where
  dev : D.length ≤ 16
  bkt : B.length ≤ 12
  devs : ∀ i (h : i < D.length), 0 ≤ D[i].f0 ∧ D[i].f0 ≤ 15 ∧ 0 ≤ D[i].f1 ∧ D[i].f1 ≤ 8
  bkts : ∀ i (h : i < B.length), (-12 ≤ B[i].f0 ∧ B[i].f0 ≤ -1) ∧ (1 ≤ B[i].f1 ∧ B[i].f1 ≤ 3) ∧ B[i].f2.length ≤ 8
  down : ∀ i (h : i + 1 < B.length), B[i + 1].f0 < B[i].f0
  up : ∀ i (h : i + 1 < D.length), D[i].f0 < D[i + 1].f0
  fits : ∀ i (h : i < B.length), ∀ x ∈ B[i].f2, fitOne D B B[i].f1 B[i].f2 x = true
  once : onceB B = true
theorem valid_of (D : List S65) (B : List S62) (h : treeOkB D B = true) : Valid D B := by
  unfold treeOkB at h
  rw [Bool.and_eq_true, Bool.and_eq_true] at h
  obtain ⟨hd, h12, ht⟩ := h
  have h12 := of_decide_eq_true h12
  unfold devsB at hd
  rw [Bool.and_eq_true, List.all_eq_true] at hd
  have h16 := of_decide_eq_true hd.2
  have hparts : treeB D B = (allB D B B.length 0 && onceB B) := treeGo_parts D B B.length 0 []
  rw [hparts, Bool.and_eq_true] at ht
  have hall := (allB_all D B B.length 0).1 ht.1
  have hS : ∀ j, j < B.length → bktStep B j = true ∧ itemsOkB D B (rd_T62 B j).f1 (rd_T62 B j).f2 = true := fun j hj => by
    have := hall j (by omega) (by omega)
    rw [bktB_parts, Bool.and_eq_true] at this
    exact this
  have hdv : ∀ j, j < D.length → devStep D j = true := fun j hj => hd.1 j (by simpa using hj)
  have hk : ∀ i (h : i < B.length), (-12 ≤ B[i].f0 ∧ B[i].f0 ≤ -1) ∧ (1 ≤ B[i].f1 ∧ B[i].f1 ≤ 3) ∧ B[i].f2.length ≤ 8 := fun i h => by
    have := (hS i h).1
    unfold bktStep inB at this
    simp only [Bool.and_eq_true, decide_eq_true_eq] at this
    rw [rd_bkt B i h] at this
    exact ⟨this.1.1.1, this.1.1.2, this.1.2⟩
  refine ⟨h16, h12, ?_, hk, ?_, ?_, ?_, ht.2⟩
  · intro i h
    have := hdv i h
    unfold devStep inB at this
    simp only [Bool.and_eq_true, decide_eq_true_eq] at this
    rw [rd_dev D i h] at this
    exact ⟨this.1.1.1, this.1.1.2, this.1.2.1, this.1.2.2⟩
  · intro i h
    have := (hS (i + 1) h).1
    unfold bktStep at this
    rw [show (((i + 1 : Nat) : Int) - 1) = (i : Int) from by omega, rd_bkt B i (by omega), rd_bkt B (i + 1) h] at this
    simp at this
    omega
  · intro i h
    have := hdv (i + 1) h
    unfold devStep at this
    rw [show (((i + 1 : Nat) : Int) - 1) = (i : Int) from by omega, rd_dev D i (by omega), rd_dev D (i + 1) h] at this
    simp at this
    omega
  · intro i h x hx
    have h2 := (hS i h).2
    rw [rd_bkt B i h] at h2
    have hb := (hk i h).2.1
    rw [← fits_items D B _ _ hb.1 hb.2] at h2
    unfold fitsB at h2
    rw [range_all B[i].f2 (fitOne D B B[i].f1 B[i].f2), List.all_eq_true] at h2
    exact h2 x hx
theorem idx_none {α : Type} (p : α → Bool) (l : List α) (h : ∀ x ∈ l, p x = false) : ∀ (d i : Nat), i + d = l.length → idxFrom p (l.drop i) i = -1
  | 0, i, hd => by
    rw [List.drop_of_length_le (by omega)]; rfl
  | d + 1, i, hd => by
    rw [idx_step p l i (by omega), if_neg (by rw [h _ (List.getElem_mem (by omega))]; decide)]
    exact idx_none p l h d (i + 1) (by omega)
theorem idx_first {α : Type} (p : α → Bool) (l : List α) (n : Nat) (hn : n < l.length) (hp : p l[n] = true) (hb : ∀ j (h : j < n), p l[j] = false) : ∀ (d i : Nat), i + d = n → idxFrom p (l.drop i) i = (n : Int)
  | 0, i, hd => by
    obtain rfl : i = n := by omega
    rw [idx_step p l i hn, if_pos hp]
  | d + 1, i, hd => by
    rw [idx_step p l i (by omega), if_neg (by rw [hb i (by omega)]; decide)]
    exact idx_first p l n hn hp hb d (i + 1) (by omega)
/-- the index found is one that answers -/
theorem idx_hit {α : Type} (p : α → Bool) (l : List α) : ∀ (d i : Nat), i + d = l.length → idxFrom p (l.drop i) i = -1 ∨ ∃ n, ∃ (h : n < l.length), idxFrom p (l.drop i) i = (n : Int) ∧ p l[n] = true
  | 0, i, hd => by
    left
    rw [List.drop_of_length_le (by omega)]; rfl
  | d + 1, i, hd => by
    rw [idx_step p l i (by omega)]
    by_cases c : p (l[i]'(by omega)) = true
    · rw [if_pos c]
      exact .inr ⟨i, by omega, rfl, c⟩
    · rw [if_neg c]
      exact idx_hit p l d (i + 1) (by omega)
theorem bucketAt_hit (B : List S62) (id : Int) : bucketAt B id = -1 ∨ ∃ n, ∃ (h : n < B.length), bucketAt B id = (n : Int) ∧ B[n].f0 = id := by
  rcases idx_hit (fun x : S62 => x.f0 == id) B B.length 0 (by omega) with h | ⟨n, hn, h1, h2⟩
  · exact .inl h
  · exact .inr ⟨n, hn, h1, by simpa using h2⟩
theorem devAt_hit (D : List S65) (id : Int) : devAt D id = -1 ∨ ∃ n, ∃ (h : n < D.length), devAt D id = (n : Int) ∧ D[n].f0 = id := by
  rcases idx_hit (fun x : S65 => x.f0 == id) D D.length 0 (by omega) with h | ⟨n, hn, h1, h2⟩
  · exact .inl h
  · exact .inr ⟨n, hn, h1, by simpa using h2⟩
theorem down_lt {D : List S65} {B : List S62} (V : Valid D B) : ∀ (d i : Nat) (h : i + d + 1 < B.length), B[i + d + 1].f0 < B[i].f0
  | 0, i, h => V.down i h
  | d + 1, i, h => by
    have h1 := down_lt V d i (by omega)
    have h2 := V.down (i + d + 1) h
    exact Int.lt_trans h2 h1
theorem down_of {D : List S65} {B : List S62} (V : Valid D B) (i j : Nat) (hij : i < j) (h : j < B.length) : B[j].f0 < B[i].f0 := by
  obtain ⟨d, rfl⟩ : ∃ d, j = i + d + 1 := ⟨j - i - 1, by omega⟩
  exact down_lt V d i h
theorem bucketAt_own {D : List S65} {B : List S62} (V : Valid D B) (n : Nat) (hn : n < B.length) : bucketAt B B[n].f0 = (n : Int) :=
  idx_first (fun x : S62 => x.f0 == B[n].f0) B n hn (by simp) (fun j hj => by
    have := down_of V j n hj hn
    have : ¬ B[j].f0 = B[n].f0 := by omega
    simpa using this) n 0 (by omega)
theorem devAt_none {D : List S65} {B : List S62} (V : Valid D B) (id : Int) (h : id < 0) : devAt D id = -1 := by
  rcases devAt_hit D id with e | ⟨n, hn, _, e⟩
  · exact e
  · have := V.devs n hn
    omega
theorem kindAt_own {D : List S65} {B : List S62} (V : Valid D B) (n : Nat) (hn : n < B.length) : kindAt D B B[n].f0 = B[n].f1 := by
  have hk : kindAt D B B[n].f0 = if 0 ≤ devAt D B[n].f0 then 0 else if bucketAt B B[n].f0 < 0 then -1 else (rd_T62 B (bucketAt B B[n].f0)).f1 := rfl
  rw [hk, devAt_none V _ (by have := V.bkts n hn; omega), bucketAt_own V n hn, if_neg (by omega), if_neg (by omega), rd_bkt B n hn]
theorem kindAt_le {D : List S65} {B : List S62} (V : Valid D B) (id : Int) : -1 ≤ kindAt D B id ∧ kindAt D B id ≤ 3 := by
  have hk : kindAt D B id = if 0 ≤ devAt D id then 0 else if bucketAt B id < 0 then -1 else (rd_T62 B (bucketAt B id)).f1 := rfl
  rw [hk]
  split
  · omega
  · split
    · omega
    · rcases bucketAt_hit B id with e | ⟨n, hn, e, _⟩
      · omega
      · rw [e, rd_bkt B n hn]
        have := V.bkts n hn
        omega
/-- a kind of a bucket is a bucket's -/
theorem kindAt_bucket {D : List S65} {B : List S62} (V : Valid D B) (id : Int) (h : 1 ≤ kindAt D B id) : ∃ n, ∃ (h : n < B.length), bucketAt B id = (n : Int) ∧ B[n].f0 = id ∧ id < 0 ∧ kindAt D B id = B[n].f1 := by
  have hk : kindAt D B id = if 0 ≤ devAt D id then 0 else if bucketAt B id < 0 then -1 else (rd_T62 B (bucketAt B id)).f1 := rfl
  rw [hk] at h
  split at h
  · omega
  · split at h
    · omega
    · rcases bucketAt_hit B id with e | ⟨n, hn, e, e2⟩
      · omega
      · refine ⟨n, hn, e, e2, ?_, ?_⟩
        · have := V.bkts n hn; omega
        · rw [← e2]; exact kindAt_own V n hn
/-- what lies in a bucket is of a lower kind -/
theorem item_kind {D : List S65} {B : List S62} (V : Valid D B) (n : Nat) (hn : n < B.length) (x : Int) (hx : x ∈ B[n].f2) : 0 ≤ kindAt D B x ∧ kindAt D B x < B[n].f1 := by
  have h := V.fits n hn x hx
  have hb := (V.bkts n hn).2.1
  unfold fitOne at h
  by_cases c : B[n].f1 < 3
  · rw [if_pos c] at h
    have := eq_of_beq h
    omega
  · rw [if_neg c, Bool.and_eq_true, Bool.or_eq_true] at h
    rcases h.2 with h | h
    · have := eq_of_beq h; omega
    · have := eq_of_beq h; omega

end Go.Proofs.YtohjpgcmhihdhaaDoor.Pure

namespace Go.Proofs.YtohjpgcmhihdhaaDoorW.PrintMore
open Go.RowKit Go.Proofs.YtohjpgcmhihdhaaDoorW.PrintWords Go.Proofs.YtohjpgcmhihdhaaDoorW.PrintLast Go.Proofs.YtohjpgcmhihdhaaDoor.Q
set_option linter.unusedVariables false
set_option linter.unusedSimpArgs false
/-- the word of a kind of buckets -/
def kwB (k : Int) : ByteArray := if k = 1 then ⟨#[104, 111, 115, 116]⟩ else if k = 2 then ⟨#[114, 97, 99, 107]⟩ else ⟨#[114, 111, 111, 116]⟩
theorem kwB_size (k : Int) : (kwB k).size = 4 := by
  unfold kwB
  split
  · rfl
  · split <;> rfl
theorem run_kind (a b c d : ByteArray) (w : World) (k : Nat) (hk : k < 4) : (Instr.index 101 (.agg #[.string a, .string b, .string c, .string d]) (.int .i64 (k : Int))).run Tryd.prog w = .ok (#[.string a, .string b, .string c, .string d][k]!) w := by
  have h : k = 0 ∨ k = 1 ∨ k = 2 ∨ k = 3 := by omega
  rcases h with rfl | rfl | rfl | rfl
  all_goals simp [Instr.index, run_underlying Tryd.underlying101, asIntOf, go_sem, Tryd.sizeOf9]
set_option maxHeartbeats 1000000 in
set_option maxRecDepth 100000 in
theorem kindWord_at (k : Int) (w : World) (h1 : 1 ≤ k) (h3 : k ≤ 3) :
    Calls Tryd.prog 42 #[.int .i64 k] w fun e w' => e = .returned (.string (kwB k)) ∧ w' = w := by
  have h : k = 1 ∨ k = 2 ∨ k = 3 := by omega
  rcases h with rfl | rfl | rfl
  · have hr : ∀ w, (Instr.index 101 (.agg #[.string ⟨#[110, 111, 100, 101]⟩, .string ⟨#[104, 111, 115, 116]⟩, .string ⟨#[114, 97, 99, 107]⟩, .string ⟨#[114, 111, 111, 116]⟩]) (.int .i64 1)).run Tryd.prog w = .ok (.string ⟨#[104, 111, 115, 116]⟩) w := fun w => run_kind _ _ _ _ w 1 (by decide)
    go_enter Tryd.func42, Tryd.ntmps42
    go_wp2_with fail
    go_ret
    exact ⟨rfl, rfl⟩
  · have hr : ∀ w, (Instr.index 101 (.agg #[.string ⟨#[110, 111, 100, 101]⟩, .string ⟨#[104, 111, 115, 116]⟩, .string ⟨#[114, 97, 99, 107]⟩, .string ⟨#[114, 111, 111, 116]⟩]) (.int .i64 2)).run Tryd.prog w = .ok (.string ⟨#[114, 97, 99, 107]⟩) w := fun w => run_kind _ _ _ _ w 2 (by decide)
    go_enter Tryd.func42, Tryd.ntmps42
    go_wp2_with fail
    go_ret
    exact ⟨rfl, rfl⟩
  · have hr : ∀ w, (Instr.index 101 (.agg #[.string ⟨#[110, 111, 100, 101]⟩, .string ⟨#[104, 111, 115, 116]⟩, .string ⟨#[114, 97, 99, 107]⟩, .string ⟨#[114, 111, 111, 116]⟩]) (.int .i64 3)).run Tryd.prog w = .ok (.string ⟨#[114, 111, 111, 116]⟩) w := fun w => run_kind _ _ _ _ w 3 (by decide)
    go_enter Tryd.func42, Tryd.ntmps42
    go_wp2_with fail
    go_ret
    exact ⟨rfl, rfl⟩
/-- a number that an int64 holds -/
def In64 (n : Int) : Prop := -9223372036854775808 ≤ n ∧ n ≤ 9223372036854775807
def nodeLine (x : S65) : ByteArray := lineB ⟨#[110, 111, 100, 101]⟩ [x.f0, x.f1] ++ (⟨#[10]⟩ : ByteArray)
def bktLine (x : S62) : ByteArray := lineB (kwB x.f1) (x.f0 :: x.f2) ++ (⟨#[10]⟩ : ByteArray)
def nodesT (D : List S65) : List UInt8 := D.flatMap fun x => (nodeLine x).data.toList
def bktsT (B : List S62) : List UInt8 := B.flatMap fun x => (bktLine x).data.toList
theorem lineB_size : ∀ (l : List Int) (s : ByteArray), (∀ x ∈ l, In64 x) → (lineB s l).size ≤ s.size + 22 * l.length
  | [], s, _ => Nat.le_refl _
  | x :: l, s, h => by
    have hx := h x (by simp)
    have hd := decB_size x hx.1 hx.2
    have ih := lineB_size l (s ++ ((⟨#[32]⟩ : ByteArray) ++ decB x)) (fun y hy => h y (by simp [hy]))
    have z1 : ((⟨#[32]⟩ : ByteArray) ++ decB x).size = 1 + (decB x).size := size_app _ _
    rw [size_app, z1] at ih
    rw [lineB_cons, List.length_cons]
    omega
theorem builder_below {T e : TypeId} {B b : Nat} {bs : List Value} {w W : World} (h : Lib.IsBuilder T e B b bs w) (hb : Below w.heap.size w W) : Lib.IsBuilder T e B b bs W := by
  have one : ∀ p, Lib.BuilderAt T e B b p bs w → Lib.BuilderAt T e B b p bs W := fun p h => by
    obtain ⟨hB, v, hk, ho, hn⟩ := h
    exact ⟨hB, v, blk_below hk hb, pw_own_below ho hb, hn⟩
  exact h.elim (fun h => .inl (one _ h)) (fun h => .inr (one _ h))
theorem len_bytes (s : ByteArray) : s.data.toList.length = s.size := Array.length_toList
theorem builder_lt {T e : TypeId} {B b : Nat} {bs : List Value} {w : World} (h : Lib.IsBuilder T e B b bs w) : b < w.heap.size := h.elim (fun h => h.lt) (fun h => h.lt)
theorem lit1_own (W : World) (base : Nat) (hb : base ≤ W.heap.size) (x : Int) : (Kd.int .i64).R 2 (W.alloc (.cells #[.int .i64 x] 2)) base (fun _ => True) (.slice (some ⟨W.heap.size, 0, none⟩) 1 1) [x] :=
  ⟨fun _ _ => trivial, [.int .i64 x], by have h2 := World.ownsRow_lit (base := base) (e := 2) (size := (Kd.int .i64).sz) W #[.int .i64 x] 1 hb (by decide) rfl; simpa using h2, Reps.one (show Kd.M (Kd.int .i64) _ _ _ x [.int .i64 x] from rfl) (Reps.none _ _)⟩
theorem cells_app (l : List UInt8) (s : ByteArray) : Lib.byteCells l ++ Lib.strCells s = Lib.byteCells (l ++ s.data.toList) := by
  rw [Lib.strCells_eq, Lib.byteCells_append]
set_option maxHeartbeats 4000000 in
set_option maxRecDepth 100000 in
theorem treeText_at (A0 : Option Addr) (c0 : Nat) (D : List S65) (A1 : Option Addr) (c1 : Nat) (B : List S62) (w : World) (hr0 : Kd.C k65 w A0 D.length D) (hc0 : D.length ≤ c0) (hr1 : Kd.C k62 w A1 B.length B) (hc1 : B.length ≤ c1) (hD : D.length ≤ 1000) (hB : B.length ≤ 1000) (hd : ∀ x ∈ D, In64 x.f0 ∧ In64 x.f1) (hb : ∀ x ∈ B, In64 x.f0 ∧ (1 ≤ x.f1 ∧ x.f1 ≤ 3) ∧ x.f2.length ≤ 1000 ∧ ∀ y ∈ x.f2, In64 y) (ht : TabW w) :
    Calls Tryd.prog 20 #[.agg #[.slice A0 D.length c0, .slice A1 B.length c1]] w fun e w' => e = .returned (.string ⟨(nodesT D ++ bktsT B).toArray⟩) ∧ Below w.heap.size w w' := by
  have HR0 := Aside0.mk hr0
  have HR1 := Aside0.mk hr1
  have HC0 := Aside0.mk hc0
  have HC1 := Aside0.mk hc1
  have HD := Aside0.mk hd
  have HBK := Aside0.mk hb
  have HL := Aside0.mk hD
  have HM := Aside0.mk hB
  have HT := Aside0.mk ht
  clear hr0 hr1 hc0 hc1 hd hb hD hB ht
  go_enter Tryd.func20, Tryd.ntmps20
  go_wp2_with fail
  have BT := Aside0.mk (blk_alloc (blk_new w (.cells #[.slice A0 D.length c0, .slice A1 B.length c1] 32)) (.cells #[.pointer none, .slice none 0 0] 76))
  have BX := Aside0.mk (blk_new (w.alloc (.cells #[.slice A0 D.length c0, .slice A1 B.length c1] 32)) (.cells #[.pointer none, .slice none 0 0] 76))
  have HB := Aside0.mk (below_alloc (below_alloc (Below.refl w.heap.size w) (.cells #[.slice A0 D.length c0, .slice A1 B.length c1] 32)) (.cells #[.pointer none, .slice none 0 0] 76))
  have hs : (w.alloc (.cells #[.slice A0 D.length c0, .slice A1 B.length c1] 32)).heap.size = w.heap.size + 1 := by unfold World.alloc; exact Array.size_push _
  rw [hs] at BX
  try rw [hs]
  clear hs
  generalize ((w.alloc (.cells #[.slice A0 D.length c0, .slice A1 B.length c1] 32)).alloc (.cells #[.pointer none, .slice none 0 0] 76)) = w1 at BT BX HB ⊢
  obtain ⟨gb, hgb⟩ : ∃ g, g = w.heap.size + 1 := ⟨_, rfl⟩
  rw [← hgb] at BX ⊢
  obtain ⟨gt, hgt⟩ : ∃ g, g = w.heap.size := ⟨_, rfl⟩
  rw [← hgt] at BT
  try rw [← hgt]
  have HG := Aside0.mk (show gt < gb ∧ w.heap.size ≤ gt by omega)
  clear hgb hgt
  have HU := Aside0.mk (show Lib.IsBuilder 76 5 gb gb (Lib.byteCells []) w1 from .inl ⟨Nat.le_refl _, .slice none 0 0, BX.out, World.ownsRow_nil _ _ _ _, by simp [Value.ownBlock]⟩)
  clear BX
  go_loopg [11] D.length (fun gg v11 wr => ∃ (kk : Nat) (acc : List UInt8), kk ≤ D.length ∧ (D.length : Int) - kk ≤ gg ∧ v11 = .int .i64 (kk : Int) ∧ Aside0 (acc ++ nodesT (D.drop kk) = nodesT D) ∧ Aside0 (acc.length ≤ 1000 * kk) ∧ Aside0 (Below w.heap.size w wr) ∧ Aside0 (wr.heap[gt]? = some (.cells #[.slice A0 D.length c0, .slice A1 B.length c1] 32 (0, 0))) ∧ Aside0 (Lib.IsBuilder 76 5 gb gb (Lib.byteCells acc) wr))
  case atStart => exact ⟨0, [], by omega, by omega, rfl, ⟨rfl⟩, ⟨by simp⟩, HB, BT, HU⟩
  case round =>
    clear HB BT HU
    obtain ⟨kk, acc, hk, hg, rfl, HE, HS, HB, BT, HU⟩ := hrel
    by_cases hlt : kk < D.length
    · have hlt' : (kk : Int) < (D.length : Int) := by omega
      obtain ⟨ad, rfl, hx0, hx1⟩ := at_T65 HR0.out (kk : Int) (by omega) hlt'
      replace hx0 := (HB.out.cell (World.block_lt_of_cell? w _ hx0)).trans hx0
      replace hx1 := (HB.out.cell (World.block_lt_of_cell? w _ hx1)).trans hx1
      rw [Int.toNat_natCast] at hx0 hx1
      have hrd : rd_T65 D (kk : Int) = D[kk] := by unfold rd_T65; rw [Int.toNat_natCast, List.getD_eq_getElem?_getD, List.getElem?_eq_getElem hlt]; rfl
      have HX := Aside0.mk (show In64 (rd_T65 D (kk : Int)).f0 ∧ In64 (rd_T65 D (kk : Int)).f1 by rw [hrd]; exact HD.out _ (List.getElem_mem hlt))
      have HN := Aside0.mk (show (acc ++ (nodeLine (rd_T65 D (kk : Int))).data.toList) ++ nodesT (D.drop (kk + 1)) = nodesT D by rw [← HE.out, List.drop_eq_getElem_cons hlt, hrd, List.append_assoc]; rfl)
      clear HE hrd
      generalize rd_T65 D (kk : Int) = x at hx0 hx1 HX HN
      have q0 := eq_true (show (0 : Int) ≤ (kk : Int) by omega)
      have q1 := eq_true hlt'
      go_wp2_with (first | ((with_reducible refine gate_dst (N := 19) rfl ?_); refine Kd.R_lit (Kd.int .i64) _ 2 ?hg (N := 19) ?hd (xs := ([x.f0, x.f1] : List Int)) (inner := [.int .i64 x.f0, .int .i64 x.f1]) (ok := fun _ => True) (okp := fun _ => True) ?hr ?hp (fun _ hk => hk) trivial (Below.refl _ _) (Nat.le_refl _) (by simp) ?_; (case hd => rfl); (case hg => rfl); (case hr => first | (go_simp; done) | (go_simp; rfl)); (case hp => exact (Reps.one (show Kd.M (Kd.int .i64) _ _ _ x.f0 [.int .i64 x.f0] from rfl) (Reps.one (show Kd.M (Kd.int .i64) _ _ _ x.f1 [.int .i64 x.f1] from rfl) (Reps.none _ _)))); intro v240 w4 ho5 hb hg_ hnew_; clear hg_ hnew_))
      have HB3 := Aside0.mk (below_step (below_alloc HB.out (.cells #[.int .i64 x.f0, .int .i64 x.f1] 65)) hb)
      have BT3 := Aside0.mk (blk_below (blk_alloc BT.out (.cells #[.int .i64 x.f0, .int .i64 x.f1] 65)) hb)
      have HU3 := Aside0.mk (builder_below (builder_below HU.out (below_alloc (Below.refl _ _) (.cells #[.int .i64 x.f0, .int .i64 x.f1] 65))) hb)
      clear hb HB BT HU hx0 hx1
      obtain ⟨Av, cv, rfl⟩ := Kd.R_slice ho5
      obtain ⟨-, hlv, hCv⟩ := Kd.R_reads' ho5
      clear ho5
      refine (textLine_at ⟨#[110, 111, 100, 101]⟩ Av cv [x.f0, x.f1] w4 hCv hlv (by simp; exact ⟨HX.out.1, HX.out.2⟩) (by have : (⟨#[110, 111, 100, 101]⟩ : ByteArray).size = 4 := rfl; simp only [List.length_cons, List.length_nil]; omega) (HT.out.on HB3.out)).mono ?_
      rintro e w5 ⟨rfl, hb5⟩
      have HB5 := Aside0.mk (below_step HB3.out hb5)
      have BT5 := Aside0.mk (blk_below BT3.out hb5)
      have HU5 := Aside0.mk (builder_below HU3.out hb5)
      clear hb5 HB3 BT3 HU3 hlv hCv
      have HZ := Aside0.mk (show (nodeLine x).size ≤ 1000 by
        have h1 := lineB_size [x.f0, x.f1] ⟨#[110, 111, 100, 101]⟩ (by simp; exact ⟨HX.out.1, HX.out.2⟩)
        have h2 : (⟨#[110, 111, 100, 101]⟩ : ByteArray).size = 4 := rfl
        have h3 : (⟨#[10]⟩ : ByteArray).size = 1 := rfl
        simp only [List.length_cons, List.length_nil] at h1
        unfold nodeLine
        rw [size_app]
        omega)
      go_wp2_with fail
      refine (writeString_at gb gb (Lib.byteCells acc) (nodeLine x) w5 HU5.out (by rw [Lib.byteCells_length]; have := HZ.out; have := HS.out; have := HL.out; omega) (by have := builder_lt HU5.out; omega)).mono ?_
      rintro e w6 ⟨rfl, hu, hb6, -⟩
      have HU6 := Aside0.mk (show Lib.IsBuilder 76 5 gb gb (Lib.byteCells (acc ++ (nodeLine x).data.toList)) w6 from .inr (by rw [← cells_app]; exact hu))
      have HB6 := Aside0.mk (HB5.out.trans (hb6.mono (by have := HG.out; omega)))
      have BT6 := Aside0.mk ((hb6.block gt HG.out.1).trans BT5.out)
      have HS6 := Aside0.mk (show (acc ++ (nodeLine x).data.toList).length ≤ 1000 * (kk + 1) by rw [List.length_append, len_bytes]; have := HZ.out; have := HS.out; omega)
      clear hu hb6 HB5 BT5 HU5
      go_wp2_with fail
      go_roundg (gk - 1)
      case measure => omega
      case rel => exact ⟨kk + 1, _, by omega, by omega, by rw [show wrap64 ((kk : Int) + 1) = ((kk + 1 : Nat) : Int) from by have := HL.out; unfold wrap64; omega], HN, HS6, HB6, BT6, HU6⟩
    · obtain rfl : kk = D.length := by omega
      have HE2 := Aside0.mk (show acc = nodesT D by have := HE.out; rw [List.drop_length] at this; simpa [nodesT] using this)
      have HS2 := Aside0.mk (show acc.length ≤ 1000000 by have := HS.out; have := HL.out; omega)
      have ht1 := (blk_cell BT.out 1).trans rfl
      clear HE HS hg hlt
      go_wp2_with fail
      go_loopg [26] B.length (fun gg v26 wr => ∃ (kk : Nat) (acc : List UInt8), kk ≤ B.length ∧ (B.length : Int) - kk ≤ gg ∧ v26 = .int .i64 (kk : Int) ∧ Aside0 (acc ++ bktsT (B.drop kk) = nodesT D ++ bktsT B) ∧ Aside0 (acc.length ≤ 1000000 + 30000 * kk) ∧ Aside0 (Below w.heap.size w wr) ∧ Aside0 (wr.heap[gt]? = some (.cells #[.slice A0 D.length c0, .slice A1 B.length c1] 32 (0, 0))) ∧ Aside0 (Lib.IsBuilder 76 5 gb gb (Lib.byteCells acc) wr))
      case atStart => exact ⟨0, acc, by omega, by omega, rfl, ⟨by rw [HE2.out]; rfl⟩, ⟨by have := HS2.out; omega⟩, HB, BT, HU⟩
      case round =>
        clear HB BT HU HE2 HS2 ht1
        clear acc
        obtain ⟨kk, acc, hk, hg, rfl, HE, HS, HB, BT, HU⟩ := hrel
        by_cases hlt : kk < B.length
        · have hlt' : (kk : Int) < (B.length : Int) := by omega
          obtain ⟨ad, A2, c2, rfl, hx0, hx1, hx2, hl2, hg2⟩ := at_T62 HR1.out (kk : Int) (by omega) hlt'
          replace hx0 := (HB.out.cell (World.block_lt_of_cell? w _ hx0)).trans hx0
          replace hx1 := (HB.out.cell (World.block_lt_of_cell? w _ hx1)).trans hx1
          replace hx2 := (HB.out.cell (World.block_lt_of_cell? w _ hx2)).trans hx2
          rw [Int.toNat_natCast] at hx0 hx1 hx2
          have hrd : rd_T62 B (kk : Int) = B[kk] := by unfold rd_T62; rw [Int.toNat_natCast, List.getD_eq_getElem?_getD, List.getElem?_eq_getElem hlt]; rfl
          have HX := Aside0.mk (HBK.out (rd_T62 B (kk : Int)) (by rw [hrd]; exact List.getElem_mem hlt))
          have HN := Aside0.mk (show (acc ++ (bktLine (rd_T62 B (kk : Int))).data.toList) ++ bktsT (B.drop (kk + 1)) = nodesT D ++ bktsT B by rw [← HE.out, List.drop_eq_getElem_cons hlt, hrd, List.append_assoc]; rfl)
          have HG2 := Aside0.mk hg2
          have HL2 := Aside0.mk hl2
          clear HE hrd hg2 hl2
          generalize rd_T62 B (kk : Int) = x at hx0 hx1 hx2 HX HN HG2 HL2
          have q0 := eq_true (show (0 : Int) ≤ (kk : Int) by omega)
          have q1 := eq_true hlt'
          go_wp2_with fail
          have HB3 := Aside0.mk (below_alloc HB.out (.cells #[.int .i64 x.f0, .int .i64 x.f1, .slice A2 x.f2.length c2] 62))
          have BT3 := Aside0.mk (blk_alloc BT.out (.cells #[.int .i64 x.f0, .int .i64 x.f1, .slice A2 x.f2.length c2] 62))
          have HU3 := Aside0.mk (builder_below HU.out (below_alloc (Below.refl _ _) (.cells #[.int .i64 x.f0, .int .i64 x.f1, .slice A2 x.f2.length c2] 62)))
          have BX := Aside0.mk (blk_new wr (.cells #[.int .i64 x.f0, .int .i64 x.f1, .slice A2 x.f2.length c2] 62))
          have HGX := Aside0.mk (show gb < wr.heap.size from builder_lt HU.out)
          clear HB BT HU hx0 hx1 hx2
          generalize wr.alloc (.cells #[.int .i64 x.f0, .int .i64 x.f1, .slice A2 x.f2.length c2] 62) = w2 at HB3 BT3 HU3 BX ⊢
          generalize wr.heap.size = gx at BX HGX ⊢
          have hbx0 := (blk_cell BX.out 0).trans rfl
          have hbx1 := (blk_cell BX.out 1).trans rfl
          have hbx2 := (blk_cell BX.out 2).trans rfl
          have HXI := Aside0.mk (show ∀ y ∈ [x.f0] ++ x.f2, -9223372036854775808 ≤ y ∧ y ≤ 9223372036854775807 from fun y hy => by
            rcases List.mem_append.1 hy with h | h
            · rw [List.mem_singleton.1 h]; exact HX.out.1
            · exact HX.out.2.2.2 y h)
          have HXS := Aside0.mk (show (kwB x.f1).size + 22 * ([x.f0] ++ x.f2).length + 1 ≤ 1000000000 by rw [kwB_size, List.length_append, List.length_singleton]; have := HX.out.2.2.1; omega)
          have HZ := Aside0.mk (show (bktLine x).size ≤ 30000 by
            have h1 := lineB_size (x.f0 :: x.f2) (kwB x.f1) HXI.out
            have h3 : (⟨#[10]⟩ : ByteArray).size = 1 := rfl
            have h4 := kwB_size x.f1
            have h5 := HX.out.2.2.1
            rw [List.length_cons] at h1
            unfold bktLine
            rw [size_app]
            omega)
          have HXL := Aside0.mk (show (Lib.byteCells acc).length + (bktLine x).size ≤ 140737488355328 by rw [Lib.byteCells_length]; have := HZ.out; have := HS.out; have := HM.out; omega)
          have HKB := Aside0.mk (show ∀ w', Below w2.heap.size w2 w' → (fun w' => w'.cell? ⟨gx, 0, none⟩ = some (.int .i64 x.f0) ∧ w'.cell? ⟨gx, 1, none⟩ = some (.int .i64 x.f1) ∧ w'.cell? ⟨gx, 2, none⟩ = some (.slice A2 x.f2.length c2)) w' from fun w' h => ⟨(h.cell (blk_lt BX.out)).trans hbx0, (h.cell (blk_lt BX.out)).trans hbx1, (h.cell (blk_lt BX.out)).trans hbx2⟩)
          have hbb0 : Below w2.heap.size w2 w2.drew := below_drew1 (Below.refl _ _)
          clear hbx0 hbx1 hbx2
          go_region_held3 (fun w' => w'.cell? ⟨gx, 0, none⟩ = some (.int .i64 x.f0) ∧ w'.cell? ⟨gx, 1, none⟩ = some (.int .i64 x.f1) ∧ w'.cell? ⟨gx, 2, none⟩ = some (.slice A2 x.f2.length c2)) (first | exact HKB.out _ hbb | exact ⟨(blk_cell hbx9 0).trans rfl, (blk_cell hbx9 1).trans rfl, (blk_cell hbx9 2).trans rfl⟩ | exact ⟨by assumption, by assumption, by assumption⟩ | exact HKB.out _ (below_drew1 (below_alloc (Below.refl _ _) _)) | exact HKB.out _ (below_drew1 (Below.refl _ _)) | exact HKB.out _ (Below.refl _ _)) (first | (go_at_call 42; (with_reducible refine (kindWord_at x.f1 _ HX.out.2.1.1 HX.out.2.1.2).mono ?_); rintro e wk ⟨rfl, rfl⟩) | (have hbA : Below w2.heap.size w2 (w2.alloc (.cells #[.int .i64 x.f0] 2)).drew := below_drew1 (below_alloc (Below.refl _ _) _); refine Kd.R_append_rows_step (Kd.int .i64) (w0 := w2) w2.heap.size (by rfl) (.tmp 35) (.tmp 37) 58 2 (.int .i64 0) 8 rfl Tryd.underlying58 info2 rfl (by decide) (by omega) (.slice (some ⟨w2.heap.size, 0, none⟩) 1 1) [x.f0] x.f2 _ _ _ (fun _ => True) (fun _ => False) rfl rfl ?aO ?aR (fun _ _ h => h) (fun _ h => h.elim) ?aF ?aB ?aS ?aL ?_; (case aO => exact Kd.R_drew (lit1_own w2 _ (Nat.le_refl _) x.f0)); (case aR => exact Kd.C_below HG2.out (below_step HB3.out (show Below w2.heap.size w2 _ by assumption))); (case aF => exact fun _ _ => trivial); (case aB => exact hbA); (case aS => exact below_size (show Below w2.heap.size w2 _ by assumption)); (case aL => have := HX.out.2.2.1; simp only [List.length_cons, List.length_nil]; omega); intro v38 w5 ho7 hbb hg_ hat_; clear hg_ hat_; obtain ⟨Av, cv, rfl⟩ := Kd.R_slice ho7; obtain ⟨-, hlv, hCv⟩ := Kd.R_reads' ho7) | (go_at_call 41; (refine (textLine_at (kwB x.f1) Av cv ([x.f0] ++ x.f2) _ hCv hlv HXI.out HXS.out (HT.out.on (below_step HB3.out (show Below w2.heap.size w2 _ by assumption)))).mono ?_); rintro e w6 ⟨rfl, hb⟩; have hbb : Below w2.heap.size w2 w6 := below_step (show Below w2.heap.size w2 _ by assumption) hb) | (go_at_call 40; (refine (writeString_at gb gb (Lib.byteCells acc) (bktLine x) _ (builder_below HU3.out (show Below w2.heap.size w2 _ by assumption)) HXL.out (Nat.le_trans (Nat.le_of_lt (builder_lt HU3.out)) (below_size (show Below w2.heap.size w2 _ by assumption)))).mono ?_); rintro e w7 ⟨rfl, hu, hb7, hk7⟩; have hbx9 := hk7 gx _ _ (blk_below BX.out (show Below w2.heap.size w2 _ by assumption)) (by decide) (Nat.ne_of_gt HGX.out); have hbt9 := hk7 gt _ _ (blk_below BT3.out (show Below w2.heap.size w2 _ by assumption)) (by decide) (Nat.ne_of_lt HG.out.1)))
          all_goals
            have HU7 := Aside0.mk (show Lib.IsBuilder 76 5 gb gb (Lib.byteCells (acc ++ (bktLine x).data.toList)) w7 from .inr (by rw [← cells_app]; exact hu))
            have HB7 := Aside0.mk ((below_step HB3.out hbb).trans (hb7.mono (by have := HG.out; omega)))
            have BT7 := Aside0.mk hbt9
            have HS7 := Aside0.mk (show (acc ++ (bktLine x).data.toList).length ≤ 1000000 + 30000 * (kk + 1) by rw [List.length_append, len_bytes]; have := HZ.out; have := HS.out; omega)
            clear hu hb7 hk7 hbx9 hbt9 hbb HB3 BT3 HU3 BX HKB
            go_wp2_with fail
            go_roundg (gk - 1)
            case measure => omega
            case rel => exact ⟨kk + 1, _, by omega, by omega, by rw [show wrap64 ((kk : Int) + 1) = ((kk + 1 : Nat) : Int) from by have := HM.out; unfold wrap64; omega], HN, HS7, HB7, BT7, HU7⟩
        · obtain rfl : kk = B.length := by omega
          have HE2 := Aside0.mk (show acc = nodesT D ++ bktsT B by have := HE.out; rw [List.drop_length] at this; simpa [bktsT] using this)
          clear HE HS hg hlt
          go_wp2_with fail
          refine (Tryd.Builder_String_any gb gb acc wr HU.out (Nat.le_of_lt (builder_lt HU.out))).mono ?_
          rintro e w8 ⟨rfl, hb8⟩
          have HB8 := Aside0.mk (HB.out.trans (hb8.mono (by have := HG.out; omega)))
          clear hb8
          go_wp2_with fail
          go_ret
          exact ⟨by rw [← HE2.out]; rfl, HB8.out⟩

end Go.Proofs.YtohjpgcmhihdhaaDoorW.PrintMore

namespace Go.Proofs.YtohjpgcmhihdhaaDoor.Q
open Go.RowKit Go.Proofs.YtohjpgcmhihdhaaDoorW.PrintWords Go.Proofs.YtohjpgcmhihdhaaDoorW.PrintLast Go.Proofs.YtohjpgcmhihdhaaDoorW.PrintMore
attribute [local go_sem] max2_int min2_int max_two min_two max_three min_three max_four min_four   -- for this text's walks alone
set_option linter.unusedVariables false
set_option linter.unusedSimpArgs false
/-! ### spec_l06Text: function 16 -/
mutual
def spec_l06Text.l0 : Nat → ByteArray → Int → List (S65) → List (S62) → Option (ByteArray)
  | 0, _, _, _, _ => none
  | k + 1, x3, x4, x161000, x161001 => if x4 < (x161000.length : Int) then (if 0 ≤ x4 then ((spec_l06Num.f k ((rd_T65 x161000 x4).f0)).bind fun t162 => (if 5 + t162.size ≤ 9223372036854775807 then (if ((⟨#[110, 111, 100, 101, 32]⟩ : ByteArray) ++ t162).size + 1 ≤ 9223372036854775807 then ((spec_l06Num.f k ((rd_T65 x161000 x4).f1)).bind fun t164 => (if (((⟨#[110, 111, 100, 101, 32]⟩ : ByteArray) ++ t162) ++ (⟨#[32]⟩ : ByteArray)).size + t164.size ≤ 9223372036854775807 then (if ((((⟨#[110, 111, 100, 101, 32]⟩ : ByteArray) ++ t162) ++ (⟨#[32]⟩ : ByteArray)) ++ t164).size + 1 ≤ 9223372036854775807 then (if x3.size + (((((⟨#[110, 111, 100, 101, 32]⟩ : ByteArray) ++ t162) ++ (⟨#[32]⟩ : ByteArray)) ++ t164) ++ (⟨#[10]⟩ : ByteArray)).size ≤ 9223372036854775807 then (spec_l06Text.l0 k (x3 ++ (((((⟨#[110, 111, 100, 101, 32]⟩ : ByteArray) ++ t162) ++ (⟨#[32]⟩ : ByteArray)) ++ t164) ++ (⟨#[10]⟩ : ByteArray))) (wrap64 (x4 + 1)) x161000 x161001) else (none)) else (none)) else (none))) else (none)) else (none))) else (none)) else (spec_l06Text.l1 k x3 0 x161000 x161001)
def spec_l06Text.l1 : Nat → ByteArray → Int → List (S65) → List (S62) → Option (ByteArray)
  | 0, _, _, _, _ => none
  | k + 1, x3, x5, x161000, x161001 => if x5 < (x161001.length : Int) then (if 0 ≤ x5 then ((some (([(⟨#[104, 111, 115, 116]⟩ : ByteArray), (⟨#[114, 97, 99, 107]⟩ : ByteArray), (⟨#[114, 111, 111, 116]⟩ : ByteArray)] : List ByteArray) : List ByteArray)).bind fun y167 => (if 0 ≤ (wrap64 (((rd_T62 x161001 x5).f1) - 1)) then (if (wrap64 (((rd_T62 x161001 x5).f1) - 1)) < (y167.length : Int) then (if (rdOf ByteArray.empty y167 (wrap64 (((rd_T62 x161001 x5).f1) - 1))).size + 1 ≤ 9223372036854775807 then ((spec_l06Num.f k ((rd_T62 x161001 x5).f0)).bind fun t171 => (if ((rdOf ByteArray.empty y167 (wrap64 (((rd_T62 x161001 x5).f1) - 1))) ++ (⟨#[32]⟩ : ByteArray)).size + t171.size ≤ 9223372036854775807 then (if x3.size + (((rdOf ByteArray.empty y167 (wrap64 (((rd_T62 x161001 x5).f1) - 1))) ++ (⟨#[32]⟩ : ByteArray)) ++ t171).size ≤ 9223372036854775807 then (spec_l06Text.l2 k (x3 ++ (((rdOf ByteArray.empty y167 (wrap64 (((rd_T62 x161001 x5).f1) - 1))) ++ (⟨#[32]⟩ : ByteArray)) ++ t171)) x5 0 x161000 x161001 ((rd_T62 x161001 x5).f0) ((rd_T62 x161001 x5).f1) ((rd_T62 x161001 x5).f2)) else (none)) else (none))) else (none)) else (none)) else (none))) else (none)) else (some x3)
def spec_l06Text.l2 : Nat → ByteArray → Int → Int → List (S65) → List (S62) → Int → Int → List Int → Option (ByteArray)
  | 0, _, _, _, _, _, _, _, _ => none
  | k + 1, x3, x5, x7, x161000, x161001, x167000, x167001, x167002 => if x7 < (x167002.length : Int) then (if 0 ≤ x7 then ((spec_l06Num.f k (rd x167002 x7)).bind fun t173 => (if 1 + t173.size ≤ 9223372036854775807 then (if x3.size + ((⟨#[32]⟩ : ByteArray) ++ t173).size ≤ 9223372036854775807 then (spec_l06Text.l2 k (x3 ++ ((⟨#[32]⟩ : ByteArray) ++ t173)) x5 (wrap64 (x7 + 1)) x161000 x161001 x167000 x167001 x167002) else (none)) else (none))) else (none)) else (if x3.size + 1 ≤ 9223372036854775807 then (spec_l06Text.l1 k (x3 ++ (⟨#[10]⟩ : ByteArray)) (wrap64 (x5 + 1)) x161000 x161001) else (none))
end
def spec_l06Text.f (k : Nat) (l0_0 : List (S65)) (l0_1 : List (S62)) : Option (ByteArray) := spec_l06Text.l0 k (⟨#[]⟩ : ByteArray) 0 l0_0 l0_1
def spec_l06Text.T5 : Bool × List (List Nat × List Nat) := (true, [([], []), ([], []), ([1], [1]), ([], []), ([2, 3], [2, 3]), ([4], [4]), ([5], [5]), ([6], [6]), ([7], [7]), ([8], [8]), ([], []), ([10], [10]), ([], []), ([11, 12], [11, 12]), ([13], [13]), ([14], [14]), ([15, 7], [15]), ([9, 16], [9, 16]), ([17], [17]), ([0, 18], [0, 18]), ([19, 16, 0, 1, 2, 3, 4, 5, 6, 7, 8, 9, 10, 11, 12, 13, 14, 15, 16, 17, 18, 19], [0, 19])])
def spec_l06Text.B5 : List Nat := [0, 0, 2, 0, 14, 30, 62, 126, 254, 510, 0, 1024, 0, 7168, 15360, 31744, 64766, 131070, 262142, 524287, 1048575]
theorem spec_l06Text.tab5 : rtab .any (opsOf Tryd.f16 5) = spec_l06Text.T5 := by kernel_rfl
theorem spec_l06Text.bits5 : waitsOk spec_l06Text.T5.2 spec_l06Text.B5 = true := by kernel_rfl
def spec_l06Text.T10 : Bool × List (List Nat × List Nat) := (true, [([], []), ([], []), ([], []), ([2], [2]), ([3], [3]), ([1, 4], [1, 4]), ([5], [5]), ([6], [6]), ([], []), ([8], [8]), ([9], [9]), ([7, 10], [7, 10]), ([0, 11], [0, 11]), ([12, 10, 0, 1, 2, 3, 4, 5, 6, 7, 8, 9, 10, 11, 12], [0, 12])])
def spec_l06Text.B10 : List Nat := [0, 0, 0, 4, 12, 30, 62, 126, 0, 256, 768, 2046, 4095, 8191]
theorem spec_l06Text.tab10 : rtab .any (opsOf Tryd.f16 10) = spec_l06Text.T10 := by kernel_rfl
theorem spec_l06Text.bits10 : waitsOk spec_l06Text.T10.2 spec_l06Text.B10 = true := by kernel_rfl
def az_z16 (n m : Nat) : Array Bool := (List.replicate n true ++ List.replicate m false).toArray
def mz16_0 : Array Bool := az_z16 0 21
def mz16_1 : Array Bool := az_z16 1 20
def mz16_2 : Array Bool := az_z16 2 19
def mz16_3 : Array Bool := #[true, true, false, true, false, false, false, false, false, false, false, false, false, false, false, false, false, false, false, false, false]
def mz16_4 : Array Bool := #[true, true, false, true, false, false, false, false, false, false, true, false, false, false, false, false, false, false, false, false, false]
def mz16_5 : Array Bool := #[true, true, false, true, false, false, false, false, false, false, true, false, true, false, false, false, false, false, false, false, false]
def mz16_6 : Array Bool := #[true, true, true, true, false, false, false, false, false, false, true, false, true, false, false, false, false, false, false, false, false]
def mz16_7 : Array Bool := #[true, true, true, true, true, false, false, false, false, false, true, false, true, false, false, false, false, false, false, false, false]
def mz16_8 : Array Bool := #[true, true, true, true, true, true, false, false, false, false, true, false, true, false, false, false, false, false, false, false, false]
def mz16_9 : Array Bool := #[true, true, true, true, true, true, true, false, false, false, true, false, true, false, false, false, false, false, false, false, false]
def mz16_10 : Array Bool := #[true, true, true, true, true, true, true, false, false, false, true, true, true, false, false, false, false, false, false, false, false]
def mz16_11 : Array Bool := #[true, true, true, true, true, true, true, false, false, false, true, true, true, true, false, false, false, false, false, false, false]
def mz16_12 : Array Bool := #[true, true, true, true, true, true, true, false, false, false, true, true, true, true, true, false, false, false, false, false, false]
def mz16_13 : Array Bool := #[true, true, true, true, true, true, true, false, false, false, true, true, true, true, true, true, false, false, false, false, false]
def mz16_14 : Array Bool := #[true, true, true, true, true, true, true, true, false, false, true, true, true, true, true, true, false, false, false, false, false]
def mz16_15 : Array Bool := #[true, true, true, true, true, true, true, true, true, false, true, true, true, true, true, true, false, false, false, false, false]
def mz16_16 : Array Bool := az_z16 16 5
def mz16_17 : Array Bool := az_z16 17 4
def mz16_18 : Array Bool := az_z16 18 3
def mz16_19 : Array Bool := az_z16 19 2
def mz16_20 : Array Bool := az_z16 20 1
def mz16_21 : Array Bool := az_z16 21 0
def mz16_22 : Array Bool := az_z16 0 14
def mz16_23 : Array Bool := az_z16 1 13
def mz16_24 : Array Bool := #[true, false, true, false, false, false, false, false, false, false, false, false, false, false]
def mz16_25 : Array Bool := #[true, false, true, false, false, false, false, false, true, false, false, false, false, false]
def mz16_26 : Array Bool := #[true, false, true, true, false, false, false, false, true, false, false, false, false, false]
def mz16_27 : Array Bool := #[true, false, true, true, true, false, false, false, true, false, false, false, false, false]
def mz16_28 : Array Bool := #[true, false, true, true, true, false, false, false, true, true, false, false, false, false]
def mz16_29 : Array Bool := az_z16 11 3
def mz16_30 : Array Bool := #[true, true, true, true, true, false, false, false, true, true, false, false, false, false]
def mz16_31 : Array Bool := #[true, false, true, true, true, false, false, false, true, true, true, false, false, false]
def mz16_32 : Array Bool := #[true, true, true, true, true, true, false, false, true, true, false, false, false, false]
def mz16_33 : Array Bool := #[true, true, true, true, true, true, true, false, true, true, false, false, false, false]
def mz16_34 : Array Bool := #[true, true, true, true, true, true, false, false, true, true, true, false, false, false]
def mz16_35 : Array Bool := az_z16 10 4
def mz16_36 : Array Bool := #[true, true, true, true, true, true, true, false, true, true, true, false, false, false]
def mz16_37 : Array Bool := #[true, true, true, true, true, false, false, false, true, true, true, false, false, false]
def mz16_38 : Array Bool := az_z16 12 2
def mz16_39 : Array Bool := az_z16 13 1
def mz16_40 : Array Bool := az_z16 14 0
theorem pu_z16 {P : Program} {ops : Array Oper} {Q : Exit → Act → World → Prop} {md : Region.Mode} {S : World → Prop} {ds : List Nat} {oi : Oper} {fuel : Nat} {l : Array Bool} {a : Act} {w : World} (i : Nat) (N : Option Tmp) (v : Value) (l' : Array Bool) (hi : ops[i]? = some oi) (hN : oi.dst = N) (hc : anyB md ops l l' i = true)
    (hQ : ∀ c a w, Q (.panic c) (a.put oi.dst v) w → Q (.panic c) a w) (hy : Yields P ops oi v a) (a' : Act) (ha : a.put N v = a')
    (h : wpAnyLast P md ops Q S ds fuel l' a' w) : wpAnyLast P md ops Q S ds (fuel + 1) l a w := pure_ l' hi hN hc hQ hy ha h
theorem pq_z16 : (∀ (l : List Value) (i : Nat) (v : Value), l.toArray.setIfInBounds i v = (l.set i v).toArray) ∧ (∀ (x v : Value) (xs : List Value), (x :: xs).set 0 v = v :: xs) ∧ (∀ (x v : Value) (xs : List Value) (n : Nat), (x :: xs).set (n + 1) v = x :: xs.set n v) ∧ (∀ n : Int, IntKind.i64.wrap n = Go.RowKit.wrap64 n) ∧ (∀ n : Int, IntKind.i32.wrap n = Go.RowKit.wrap32 n) :=
  ⟨fun l i v => List.setIfInBounds_toArray l i v, fun _ _ _ => rfl, fun _ _ _ _ => rfl, i64_w, i32_w⟩
set_option maxHeartbeats 8000000 in
set_option maxRecDepth 100000 in
theorem spec_l06Text.calls (k : Nat) (A0_0 : Option Addr) (c0_0 : Nat) (l0_0 : List (S65)) (A0_1 : Option Addr) (c0_1 : Nat) (l0_1 : List (S62)) (r : ByteArray) (w : World) (hr0_0 : Kd.C k65 w A0_0 l0_0.length l0_0) (hc0_0 : l0_0.length ≤ c0_0) (hr0_1 : Kd.C k62 w A0_1 l0_1.length l0_1) (hc0_1 : l0_1.length ≤ c0_1) (h : spec_l06Text.f k l0_0 l0_1 = some r) :
  Calls Tryd.prog 16 #[.agg #[.slice A0_0 l0_0.length c0_0, .slice A0_1 l0_1.length c0_1]] w fun e w' => e = .returned (.string r) ∧ Below w.heap.size w w' := by
 have hu32 := Tryd.underlying32
 have hu62 := Tryd.underlying62
 have HR0_0 := Aside0.mk hr0_0
 have HC0_0 := Aside0.mk hc0_0
 clear hr0_0 hc0_0
 have HR0_1 := Aside0.mk hr0_1
 have HC0_1 := Aside0.mk hc0_1
 clear hr0_1 hc0_1
 have HB := Aside0.mk (Below.refl w.heap.size w)
 have H : (spec_l06Text.l0 k (⟨#[]⟩ : ByteArray) 0 l0_0 l0_1) = some r := h
 clear h
 have H' := Aside0.mk H
 clear H
 go_enter Tryd.func16, Tryd.ntmps16
 go_wp2_with (first | ((with_reducible refine gate_dst (N := 1) rfl ?_); refine box_event ?hg (N := 1) ?hd (cs := #[.slice A0_0 l0_0.length c0_0, .slice A0_1 l0_1.length c0_1]) (t := 32) ?hr ?_; (case hd => rfl); (case hg => rfl); (case hr => first | (go_simp; done) | (go_simp; rfl)); intro gb160 hg w2 hbox hb; have n0_ := Aside0.mk (below_step (by repeat first | exact HB.out | apply below_alloc | apply pw_below_drewN | apply below_drew1) hb); have n1_ := Aside0.mk (hbox); have n2_ := Aside0.mk ((by rw [hg]; exact (below_size (by repeat first | exact HB.out | apply below_alloc | apply pw_below_drewN | apply below_drew1)) : w.heap.size ≤ gb160)); have n3_ := Aside0.mk ((by rw [hg]; exact (below_size (by repeat first | exact HB.out | apply below_alloc | apply pw_below_drewN | apply below_drew1)) : w.heap.size ≤ gb160)); clear HB; have HB := n0_; have BK160 := n1_; have GW160 := n2_; have GE160 := n3_; clear n0_ n1_ n2_ n3_; clear hb hbox hg))
 go_loopg [3, 4] k (fun kq v3 v4 w' => ∃ (x3_1 : ByteArray) (x4_1 : Int), v3 = .string x3_1 ∧ v4 = .int .i64 x4_1 ∧ Aside0 (spec_l06Text.l0 kq x3_1 x4_1 l0_0 l0_1 = some r) ∧ Aside0 (kq ≤ k) ∧ Aside0 (w'.heap[gb160]? = some (.cells #[(.slice A0_0 l0_0.length c0_0), (.slice A0_1 l0_1.length c0_1)] 32 (0, 0))) ∧ Aside0 (Below w.heap.size w w'))
 case atStart => exact ⟨((⟨#[]⟩ : ByteArray)), (0), (by first | rfl | (simp; done) | (simp [*]; done)), (by first | rfl | (simp; done) | (simp [*]; done)), H', ⟨Nat.le_refl _⟩, ⟨by (with_reducible repeat first | apply blk_drewN | apply blk_drew | apply blk_alloc); exact BK160.out⟩, ⟨by repeat (first | (with_reducible first | exact HB.out | apply below_alloc | apply pw_below_drewN | apply below_drew1 | refine below_set ?_ GE160.out) | exact HB.out)⟩⟩
 case round =>
  clear H'
  try clear c1
  try clear p2
  obtain ⟨x3_1, x4_1, rfl, rfl, HA, HK1, BK160, HB⟩ := hrel
  cases gk with
  | zero => exact absurd HA.out (by simp [spec_l06Text.l0])
  | succ k1 =>
   have H := HA.out
   clear HA
   simp only [spec_l06Text.l0] at H
   by_cases c3 : x4_1 < (l0_0.length : Int)
   ·rw [if_pos c3] at H
    have c3b0 : decide (x4_1 < (l0_0.length : Int)) = true := decide_eq_true c3
    clear c3
    by_cases c4 : 0 ≤ x4_1
    ·rw [if_pos c4] at H
     have c4b0 : decide (0 ≤ x4_1) = true := decide_eq_true c4
     clear c4
     replace H := Option.bind_eq_some_iff.mp H
     obtain ⟨t162, A50, H⟩ := H
     replace H : (if 5 + t162.size ≤ 9223372036854775807 then (if ((⟨#[110, 111, 100, 101, 32]⟩ : ByteArray) ++ t162).size + 1 ≤ 9223372036854775807 then ((spec_l06Num.f k1 ((rd_T65 l0_0 x4_1).f1)).bind fun t164 => (if (((⟨#[110, 111, 100, 101, 32]⟩ : ByteArray) ++ t162) ++ (⟨#[32]⟩ : ByteArray)).size + t164.size ≤ 9223372036854775807 then (if ((((⟨#[110, 111, 100, 101, 32]⟩ : ByteArray) ++ t162) ++ (⟨#[32]⟩ : ByteArray)) ++ t164).size + 1 ≤ 9223372036854775807 then (if x3_1.size + (((((⟨#[110, 111, 100, 101, 32]⟩ : ByteArray) ++ t162) ++ (⟨#[32]⟩ : ByteArray)) ++ t164) ++ (⟨#[10]⟩ : ByteArray)).size ≤ 9223372036854775807 then (spec_l06Text.l0 k1 (x3_1 ++ (((((⟨#[110, 111, 100, 101, 32]⟩ : ByteArray) ++ t162) ++ (⟨#[32]⟩ : ByteArray)) ++ t164) ++ (⟨#[10]⟩ : ByteArray))) (wrap64 (x4_1 + 1)) l0_0 l0_1) else (none)) else (none)) else (none))) else (none)) else (none)) = some r := H
     have A5 := Aside0.mk A50
     clear A50
     by_cases c6 : 5 + t162.size ≤ 9223372036854775807
     ·rw [if_pos c6] at H
      have c6b0 := eq_true c6
      have c6b1 : decide (5 + t162.size ≤ 9223372036854775807) = true := decide_eq_true c6
      try have c6b2 : (9223372036854775807 < 5 + t162.size) = False := eq_false (Nat.not_lt.2 c6)
      by_cases c7 : ((⟨#[110, 111, 100, 101, 32]⟩ : ByteArray) ++ t162).size + 1 ≤ 9223372036854775807
      ·rw [if_pos c7] at H
       have c7b0 := eq_true c7
       have c7b1 : decide (((⟨#[110, 111, 100, 101, 32]⟩ : ByteArray) ++ t162).size + 1 ≤ 9223372036854775807) = true := decide_eq_true c7
       try have c7b2 : (9223372036854775807 < ((⟨#[110, 111, 100, 101, 32]⟩ : ByteArray) ++ t162).size + 1) = False := eq_false (Nat.not_lt.2 c7)
       have c7n := c7
       simp only [ByteArray.size_append, show ((⟨#[104, 111, 115, 116]⟩ : ByteArray).size = 4) from rfl, show ((⟨#[10]⟩ : ByteArray).size = 1) from rfl, show ((⟨#[110, 111, 100, 101, 32]⟩ : ByteArray).size = 5) from rfl, show ((⟨#[114, 111, 111, 116]⟩ : ByteArray).size = 4) from rfl, show ((⟨#[114, 97, 99, 107]⟩ : ByteArray).size = 4) from rfl, show ((⟨#[32]⟩ : ByteArray).size = 1) from rfl, show ((⟨#[]⟩ : ByteArray).size = 0) from rfl] at c7n
       have c7b3 := eq_false (Nat.not_lt.2 c7n)
       clear c7n
       replace H := Option.bind_eq_some_iff.mp H
       obtain ⟨t164, A80, H⟩ := H
       replace H : (if (((⟨#[110, 111, 100, 101, 32]⟩ : ByteArray) ++ t162) ++ (⟨#[32]⟩ : ByteArray)).size + t164.size ≤ 9223372036854775807 then (if ((((⟨#[110, 111, 100, 101, 32]⟩ : ByteArray) ++ t162) ++ (⟨#[32]⟩ : ByteArray)) ++ t164).size + 1 ≤ 9223372036854775807 then (if x3_1.size + (((((⟨#[110, 111, 100, 101, 32]⟩ : ByteArray) ++ t162) ++ (⟨#[32]⟩ : ByteArray)) ++ t164) ++ (⟨#[10]⟩ : ByteArray)).size ≤ 9223372036854775807 then (spec_l06Text.l0 k1 (x3_1 ++ (((((⟨#[110, 111, 100, 101, 32]⟩ : ByteArray) ++ t162) ++ (⟨#[32]⟩ : ByteArray)) ++ t164) ++ (⟨#[10]⟩ : ByteArray))) (wrap64 (x4_1 + 1)) l0_0 l0_1) else (none)) else (none)) else (none)) = some r := H
       have A8 := Aside0.mk A80
       clear A80
       by_cases c9 : (((⟨#[110, 111, 100, 101, 32]⟩ : ByteArray) ++ t162) ++ (⟨#[32]⟩ : ByteArray)).size + t164.size ≤ 9223372036854775807
       ·rw [if_pos c9] at H
        have c9b0 := eq_true c9
        have c9b1 : decide ((((⟨#[110, 111, 100, 101, 32]⟩ : ByteArray) ++ t162) ++ (⟨#[32]⟩ : ByteArray)).size + t164.size ≤ 9223372036854775807) = true := decide_eq_true c9
        try have c9b2 : (9223372036854775807 < (((⟨#[110, 111, 100, 101, 32]⟩ : ByteArray) ++ t162) ++ (⟨#[32]⟩ : ByteArray)).size + t164.size) = False := eq_false (Nat.not_lt.2 c9)
        have c9n := c9
        simp only [ByteArray.size_append, show ((⟨#[104, 111, 115, 116]⟩ : ByteArray).size = 4) from rfl, show ((⟨#[10]⟩ : ByteArray).size = 1) from rfl, show ((⟨#[110, 111, 100, 101, 32]⟩ : ByteArray).size = 5) from rfl, show ((⟨#[114, 111, 111, 116]⟩ : ByteArray).size = 4) from rfl, show ((⟨#[114, 97, 99, 107]⟩ : ByteArray).size = 4) from rfl, show ((⟨#[32]⟩ : ByteArray).size = 1) from rfl, show ((⟨#[]⟩ : ByteArray).size = 0) from rfl] at c9n
        have c9b3 := eq_false (Nat.not_lt.2 c9n)
        clear c9n
        by_cases c10 : ((((⟨#[110, 111, 100, 101, 32]⟩ : ByteArray) ++ t162) ++ (⟨#[32]⟩ : ByteArray)) ++ t164).size + 1 ≤ 9223372036854775807
        ·rw [if_pos c10] at H
         have c10b0 := eq_true c10
         have c10b1 : decide (((((⟨#[110, 111, 100, 101, 32]⟩ : ByteArray) ++ t162) ++ (⟨#[32]⟩ : ByteArray)) ++ t164).size + 1 ≤ 9223372036854775807) = true := decide_eq_true c10
         try have c10b2 : (9223372036854775807 < ((((⟨#[110, 111, 100, 101, 32]⟩ : ByteArray) ++ t162) ++ (⟨#[32]⟩ : ByteArray)) ++ t164).size + 1) = False := eq_false (Nat.not_lt.2 c10)
         have c10n := c10
         simp only [ByteArray.size_append, show ((⟨#[104, 111, 115, 116]⟩ : ByteArray).size = 4) from rfl, show ((⟨#[10]⟩ : ByteArray).size = 1) from rfl, show ((⟨#[110, 111, 100, 101, 32]⟩ : ByteArray).size = 5) from rfl, show ((⟨#[114, 111, 111, 116]⟩ : ByteArray).size = 4) from rfl, show ((⟨#[114, 97, 99, 107]⟩ : ByteArray).size = 4) from rfl, show ((⟨#[32]⟩ : ByteArray).size = 1) from rfl, show ((⟨#[]⟩ : ByteArray).size = 0) from rfl] at c10n
         have c10b3 := eq_false (Nat.not_lt.2 c10n)
         clear c10n
         by_cases c11 : x3_1.size + (((((⟨#[110, 111, 100, 101, 32]⟩ : ByteArray) ++ t162) ++ (⟨#[32]⟩ : ByteArray)) ++ t164) ++ (⟨#[10]⟩ : ByteArray)).size ≤ 9223372036854775807
         ·rw [if_pos c11] at H
          have c11b0 := eq_true c11
          have c11b1 : decide (x3_1.size + (((((⟨#[110, 111, 100, 101, 32]⟩ : ByteArray) ++ t162) ++ (⟨#[32]⟩ : ByteArray)) ++ t164) ++ (⟨#[10]⟩ : ByteArray)).size ≤ 9223372036854775807) = true := decide_eq_true c11
          try have c11b2 : (9223372036854775807 < x3_1.size + (((((⟨#[110, 111, 100, 101, 32]⟩ : ByteArray) ++ t162) ++ (⟨#[32]⟩ : ByteArray)) ++ t164) ++ (⟨#[10]⟩ : ByteArray)).size) = False := eq_false (Nat.not_lt.2 c11)
          have c11n := c11
          simp only [ByteArray.size_append, show ((⟨#[104, 111, 115, 116]⟩ : ByteArray).size = 4) from rfl, show ((⟨#[10]⟩ : ByteArray).size = 1) from rfl, show ((⟨#[110, 111, 100, 101, 32]⟩ : ByteArray).size = 5) from rfl, show ((⟨#[114, 111, 111, 116]⟩ : ByteArray).size = 4) from rfl, show ((⟨#[114, 97, 99, 107]⟩ : ByteArray).size = 4) from rfl, show ((⟨#[32]⟩ : ByteArray).size = 1) from rfl, show ((⟨#[]⟩ : ByteArray).size = 0) from rfl] at c11n
          have c11b3 := eq_false (Nat.not_lt.2 c11n)
          clear c11n
          have H' := Aside0.mk H
          clear H
          have hcz12_0 : wr.cell? ⟨gb160, 0, none⟩ = some (.slice A0_0 l0_0.length c0_0) := (blk_cell BK160.out 0).trans rfl
          have hcz12_1 : wr.cell? ⟨gb160, 1, none⟩ = some (.slice A0_1 l0_1.length c0_1) := (blk_cell BK160.out 1).trans rfl
          have hfz12_0 := blk_frozen BK160.out 0
          have hfz12_1 := blk_frozen BK160.out 1
          try go_wp2
          have n0_ := Aside0.mk (blk_drew BK160.out)
          have n1_ := Aside0.mk (below_drew1 HB.out)
          clear BK160
          clear HB
          have BK160 := n0_
          have HB := n1_
          clear n0_ n1_
          have p161 : 0 ≤ (x4_1 : Int) := of_decide_eq_true (by assumption)
          have q161 : x4_1 < (l0_0.length : Int) := of_decide_eq_true (by assumption)
          obtain ⟨ad161, e161, hx161_0, hx161_1⟩ := at_T65 HR0_0.out x4_1 p161 q161
          have hw161_1 := hx161_1
          have hw161_0 := hx161_0
          cases e161
          replace hx161_0 := (HB.out.cell (World.block_lt_of_cell? w _ hx161_0)).trans hx161_0
          replace hx161_1 := (HB.out.cell (World.block_lt_of_cell? w _ hx161_1)).trans hx161_1
          replace p161 := eq_true p161
          replace q161 := eq_true q161
          have p163 : 0 ≤ (x4_1 : Int) := of_decide_eq_true (by assumption)
          have q163 : x4_1 < (l0_0.length : Int) := of_decide_eq_true (by assumption)
          obtain ⟨ad163, e163, hx163_0, hx163_1⟩ := at_T65 HR0_0.out x4_1 p163 q163
          have hw163_1 := hx163_1
          have hw163_0 := hx163_0
          obtain rfl : ad161 = ad163 := (by injection e163)
          replace hx163_0 := (HB.out.cell (World.block_lt_of_cell? w _ hx163_0)).trans hx163_0
          replace hx163_1 := (HB.out.cell (World.block_lt_of_cell? w _ hx163_1)).trans hx163_1
          replace p163 := eq_true p163
          replace q163 := eq_true q163
          refine start_ (n := 21) (S := fun w' => w'.cell? ⟨gb160, 0, none⟩ = some (.slice (some ad161) l0_0.length c0_0) ∧ w'.cell? ⟨gb160, 1, none⟩ = some (.slice A0_1 l0_1.length c0_1) ∧ w'.cell? (ad161.add ((x4_1).toNat * 2)) = some (.int .i64 ((rd_T65 l0_0 x4_1).f0)) ∧ w'.cell? ⟨(ad161.add ((x4_1).toNat * 2)).block, (ad161.add ((x4_1).toNat * 2)).off + 1, none⟩ = some (.int .i64 ((rd_T65 l0_0 x4_1).f1)) ∧ w'.cell? (ad161.add ((x4_1).toNat * 2)) = some (.int .i64 ((rd_T65 l0_0 x4_1).f0)) ∧ w'.cell? ⟨(ad161.add ((x4_1).toNat * 2)).block, (ad161.add ((x4_1).toNat * 2)).off + 1, none⟩ = some (.int .i64 ((rd_T65 l0_0 x4_1).f1))) (ds := []) mz16_0 (by kernel_rfl) rfl rfl ⟨(blk_cell BK160.out 0).trans rfl, (blk_cell BK160.out 1).trans rfl, ((HB.out.cell (World.block_lt_of_cell? w _ hw161_0)).trans hw161_0), ((HB.out.cell (World.block_lt_of_cell? w _ hw161_1)).trans hw161_1), ((HB.out.cell (World.block_lt_of_cell? w _ hw163_0)).trans hw163_0), ((HB.out.cell (World.block_lt_of_cell? w _ hw163_1)).trans hw163_1)⟩ (fun hHeld => ?_); refine with_tabW spec_l06Text.tab5 spec_l06Text.bits5 (fun HT_ HW_ => ?_)
          generalize wr.drew = w13 at BK160 HB hx161_0 hx161_1 hx163_0 hx163_1 hHeld ⊢
          refine pu_z16 0 (some 15) ?_ mz16_1 rfl rfl (any_of HT_.out (by kernel_rfl)) (fun _ _ _ h => h) (Or.inl ⟨by rfl, ?_⟩) ?_ ?_ ?_
          (rotate_left; ·(intro w'; go_simp; with_reducible rfl)); (rotate_left; ·(simp only [Act.put, pq_z16]; rfl))
          refine pu_z16 1 (some 16) ?_ mz16_2 rfl rfl (any_of HT_.out (by kernel_rfl)) (fun _ _ _ h => h) (Or.inl ⟨by rfl, ?_⟩) ?_ ?_ ?_
          (rotate_left; ·(intro w'; go_simp; with_reducible rfl)); (rotate_left; ·(simp only [Act.put, pq_z16]; rfl))
          refine pu_z16 3 (some 18) ?_ mz16_3 rfl rfl (any_of HT_.out (by kernel_rfl)) (fun _ _ _ h => h) (Or.inl ⟨by rfl, ?_⟩) ?_ ?_ ?_
          (rotate_left; ·(intro w'; go_simp; with_reducible rfl)); (rotate_left; ·(simp only [Act.put, pq_z16]; rfl))
          refine pu_z16 10 (some 25) ?_ mz16_4 rfl rfl (any_of HT_.out (by kernel_rfl)) (fun _ _ _ h => h) (Or.inl ⟨by rfl, ?_⟩) ?_ ?_ ?_
          (rotate_left; ·(intro w'; go_simp; with_reducible rfl)); (rotate_left; ·(simp only [Act.put, pq_z16]; rfl))
          refine pu_z16 12 (some 27) ?_ mz16_5 rfl rfl (any_of HT_.out (by kernel_rfl)) (fun _ _ _ h => h) (Or.inl ⟨by rfl, ?_⟩) ?_ ?_ ?_
          (rotate_left; ·(intro w'; go_simp; with_reducible rfl)); (rotate_left; ·(simp only [Act.put, pq_z16]; rfl))
          refine take_ (i := 2) (N := some 17) (v := ?_) (a' := ?_) mz16_6 rfl rfl (take_ofW HT_.out HW_.out (by kernel_rfl)) (fun _ _ _ h => h) (Or.inl ⟨by rfl, ?_⟩) hHeld ?_ ?_
          (rotate_left; ·(rintro w' ⟨s0, s1, s2, s3, s4, s5⟩; go_simp; with_reducible rfl)); (rotate_left; ·(simp only [Act.put, pq_z16]; rfl))
          refine pu_z16 4 (some 19) ?_ mz16_7 rfl rfl (any_of HT_.out (by kernel_rfl)) (fun _ _ _ h => h) (Or.inl ⟨by rfl, ?_⟩) ?_ ?_ ?_
          (rotate_left; ·(intro w'; go_simp; with_reducible rfl)); (rotate_left; ·(simp only [Act.put, pq_z16]; rfl))
          refine pu_z16 5 (some 20) ?_ mz16_8 rfl rfl (any_of HT_.out (by kernel_rfl)) (fun _ _ _ h => h) (Or.inl ⟨by rfl, ?_⟩) ?_ ?_ ?_
          (rotate_left; ·(intro w'; go_simp; with_reducible rfl)); (rotate_left; ·(simp only [Act.put, pq_z16]; rfl))
          refine take_ (i := 6) (N := some 21) (v := ?_) (a' := ?_) mz16_9 rfl rfl (take_ofW HT_.out HW_.out (by kernel_rfl)) (fun _ _ _ h => h) (Or.inl ⟨by rfl, ?_⟩) hHeld ?_ ?_
          (rotate_left; ·(rintro w' ⟨s0, s1, s2, s3, s4, s5⟩; go_simp; with_reducible rfl)); (rotate_left; ·(simp only [Act.put, pq_z16]; rfl))
          refine take_ (i := 11) (N := some 26) (v := ?_) (a' := ?_) mz16_10 rfl rfl (take_ofW HT_.out HW_.out (by kernel_rfl)) (fun _ _ _ h => h) (Or.inl ⟨by rfl, ?_⟩) hHeld ?_ ?_
          (rotate_left; ·(rintro w' ⟨s0, s1, s2, s3, s4, s5⟩; go_simp; with_reducible rfl)); (rotate_left; ·(simp only [Act.put, pq_z16]; rfl))
          refine pu_z16 13 (some 28) ?_ mz16_11 rfl rfl (any_of HT_.out (by kernel_rfl)) (fun _ _ _ h => h) (Or.inl ⟨by rfl, ?_⟩) ?_ ?_ ?_
          (rotate_left; ·(intro w'; go_simp; with_reducible rfl)); (rotate_left; ·(simp only [Act.put, pq_z16]; rfl))
          refine pu_z16 14 (some 29) ?_ mz16_12 rfl rfl (any_of HT_.out (by kernel_rfl)) (fun _ _ _ h => h) (Or.inl ⟨by rfl, ?_⟩) ?_ ?_ ?_
          (rotate_left; ·(intro w'; go_simp; with_reducible rfl)); (rotate_left; ·(simp only [Act.put, pq_z16]; rfl))
          refine take_ (i := 15) (N := some 30) (v := ?_) (a' := ?_) mz16_13 rfl rfl (take_ofW HT_.out HW_.out (by kernel_rfl)) (fun _ _ _ h => h) (Or.inl ⟨by rfl, ?_⟩) hHeld ?_ ?_
          (rotate_left; ·(rintro w' ⟨s0, s1, s2, s3, s4, s5⟩; go_simp; with_reducible rfl)); (rotate_left; ·(simp only [Act.put, pq_z16]; rfl))
          refine one_ (i := 7) (N := some 22) mz16_14 rfl rfl (one_of HT_.out (by kernel_rfl)) (by decide) (fun K hK => ?_)
          refine goes_ Tryd.func34 (by kernel_rfl) rfl #[.int .i64 ((rd_T65 l0_0 x4_1).f0)] (by rfl) rfl rfl (by (try simp only [List.map_toArray, List.map_cons, List.map_nil]); first | done | rfl | (simp only [List.length_drop, List.length_take]; rfl)) ?_
          with_reducible refine (spec_l06Num.calls k1 ((rd_T65 l0_0 x4_1).f0) t162 _ A5.out).mono ?_
          rintro e w14 ⟨rfl, hb⟩
          refine ⟨_, rfl, ?_⟩
          have n0_ := Aside0.mk (blk_below (g := gb160) (o := .cells #[.slice (some ad161) l0_0.length c0_0, .slice A0_1 l0_1.length c0_1] 32 (0, 0)) (by (with_reducible repeat first | apply blk_drewN | apply blk_drew | apply blk_alloc); exact BK160.out) hb)
          have n1_ := Aside0.mk (below_step (by repeat (first | (with_reducible first | exact HB.out | apply below_alloc | apply pw_below_drewN | apply below_drew1 | refine below_set ?_ GE160.out) | exact HB.out)) hb)
          clear BK160
          clear HB
          have BK160 := n0_
          have HB := n1_
          clear n0_ n1_
          (try clear hb)
          (try clear hb2)
          (try clear hk)
          (try clear hi)
          refine hK.out _ _ ⟨(blk_cell BK160.out 0).trans rfl, (blk_cell BK160.out 1).trans rfl, ((HB.out.cell (World.block_lt_of_cell? w _ hw161_0)).trans hw161_0), ((HB.out.cell (World.block_lt_of_cell? w _ hw161_1)).trans hw161_1), ((HB.out.cell (World.block_lt_of_cell? w _ hw163_0)).trans hw163_0), ((HB.out.cell (World.block_lt_of_cell? w _ hw163_1)).trans hw163_1)⟩ (fun hHeld => ?_)
          clear hK K
          refine norm_ (a' := ?_) ?_ ?_
          (rotate_left; ·(show Act.put _ (some 22) _ = _; simp only [Act.put, pq_z16]; rfl))
          refine pu_z16 8 (some 23) ?_ mz16_15 rfl rfl (any_of HT_.out (by kernel_rfl)) (fun _ _ _ h => h) (Or.inl ⟨by rfl, ?_⟩) ?_ ?_ ?_
          (rotate_left; ·(intro w'; go_simp; with_reducible rfl)); (rotate_left; ·(simp only [Act.put, pq_z16]; rfl))
          refine pu_z16 9 (some 24) ?_ mz16_16 rfl rfl (any_of HT_.out (by kernel_rfl)) (fun _ _ _ h => h) (Or.inl ⟨by rfl, ?_⟩) ?_ ?_ ?_
          (rotate_left; ·(intro w'; go_simp; with_reducible rfl)); (rotate_left; ·(simp only [Act.put, pq_z16]; rfl))
          refine one_ (i := 16) (N := some 31) mz16_17 rfl rfl (one_of HT_.out (by kernel_rfl)) (by decide) (fun K hK => ?_)
          refine goes_ Tryd.func34 (by kernel_rfl) rfl #[.int .i64 ((rd_T65 l0_0 x4_1).f1)] (by rfl) rfl rfl (by (try simp only [List.map_toArray, List.map_cons, List.map_nil]); first | done | rfl | (simp only [List.length_drop, List.length_take]; rfl)) ?_
          with_reducible refine (spec_l06Num.calls k1 ((rd_T65 l0_0 x4_1).f1) t164 _ A8.out).mono ?_
          rintro e w15 ⟨rfl, hb⟩
          refine ⟨_, rfl, ?_⟩
          have n0_ := Aside0.mk (blk_below (g := gb160) (o := .cells #[.slice (some ad161) l0_0.length c0_0, .slice A0_1 l0_1.length c0_1] 32 (0, 0)) (by (with_reducible repeat first | apply blk_drewN | apply blk_drew | apply blk_alloc); exact BK160.out) hb)
          have n1_ := Aside0.mk (below_step (by repeat (first | (with_reducible first | exact HB.out | apply below_alloc | apply pw_below_drewN | apply below_drew1 | refine below_set ?_ GE160.out) | exact HB.out)) hb)
          clear BK160
          clear HB
          have BK160 := n0_
          have HB := n1_
          clear n0_ n1_
          (try clear hb)
          (try clear hb2)
          (try clear hk)
          (try clear hi)
          refine hK.out _ _ ⟨(blk_cell BK160.out 0).trans rfl, (blk_cell BK160.out 1).trans rfl, ((HB.out.cell (World.block_lt_of_cell? w _ hw161_0)).trans hw161_0), ((HB.out.cell (World.block_lt_of_cell? w _ hw161_1)).trans hw161_1), ((HB.out.cell (World.block_lt_of_cell? w _ hw163_0)).trans hw163_0), ((HB.out.cell (World.block_lt_of_cell? w _ hw163_1)).trans hw163_1)⟩ (fun hHeld => ?_)
          clear hK K
          refine norm_ (a' := ?_) ?_ ?_
          (rotate_left; ·(show Act.put _ (some 31) _ = _; simp only [Act.put, pq_z16]; rfl))
          refine pu_z16 17 (some 32) ?_ mz16_18 rfl rfl (any_of HT_.out (by kernel_rfl)) (fun _ _ _ h => h) (Or.inl ⟨by rfl, ?_⟩) ?_ ?_ ?_
          (rotate_left; ·(intro w'; go_simp; with_reducible rfl)); (rotate_left; ·(simp only [Act.put, pq_z16]; rfl))
          refine pu_z16 18 (some 33) ?_ mz16_19 rfl rfl (any_of HT_.out (by kernel_rfl)) (fun _ _ _ h => h) (Or.inl ⟨by rfl, ?_⟩) ?_ ?_ ?_
          (rotate_left; ·(intro w'; go_simp; with_reducible rfl)); (rotate_left; ·(simp only [Act.put, pq_z16]; rfl))
          refine pu_z16 19 (some 34) ?_ mz16_20 rfl rfl (any_of HT_.out (by kernel_rfl)) (fun _ _ _ h => h) (Or.inl ⟨by rfl, ?_⟩) ?_ ?_ ?_
          (rotate_left; ·(intro w'; go_simp; with_reducible rfl)); (rotate_left; ·(simp only [Act.put, pq_z16]; rfl))
          refine pu_z16 20 (some 3) ?_ mz16_21 rfl rfl (any_of HT_.out (by kernel_rfl)) (fun _ _ _ h => h) (Or.inl ⟨by rfl, ?_⟩) ?_ ?_ ?_
          (rotate_left; ·(intro w'; go_simp; with_reducible rfl)); (rotate_left; ·(simp only [Act.put, pq_z16]; rfl))
          refine done_ (done_of HT_.out (by kernel_rfl)) ?_
          try go_wp2
          go_roundg k1
          case measure => have := HK1.out; omega
          case rel => exact ⟨(x3_1 ++ (((((⟨#[110, 111, 100, 101, 32]⟩ : ByteArray) ++ t162) ++ (⟨#[32]⟩ : ByteArray)) ++ t164) ++ (⟨#[10]⟩ : ByteArray))), (wrap64 (x4_1 + 1)), (by first | rfl | (simp; done) | (simp [*]; done)), (by first | rfl | (simp; done) | (simp [*]; done)), H', ⟨by have := HK1.out; omega⟩, ⟨by (with_reducible repeat first | apply blk_drewN | apply blk_drew | apply blk_alloc); exact BK160.out⟩, ⟨by repeat (first | (with_reducible first | exact HB.out | apply below_alloc | apply pw_below_drewN | apply below_drew1 | refine below_set ?_ GE160.out) | exact HB.out)⟩⟩
         ·rw [if_neg c11] at H
          exact absurd H (by simp)
        ·rw [if_neg c10] at H
         exact absurd H (by simp)
       ·rw [if_neg c9] at H
        exact absurd H (by simp)
      ·rw [if_neg c7] at H
       exact absurd H (by simp)
     ·rw [if_neg c6] at H
      exact absurd H (by simp)
    ·rw [if_neg c4] at H
     exact absurd H (by simp)
   ·rw [if_neg c3] at H
    have c3b0 : decide (x4_1 < (l0_0.length : Int)) = false := decide_eq_false c3
    clear c3
    have H' := Aside0.mk H
    clear H
    have hcz16_0 : wr.cell? ⟨gb160, 0, none⟩ = some (.slice A0_0 l0_0.length c0_0) := (blk_cell BK160.out 0).trans rfl
    have hcz16_1 : wr.cell? ⟨gb160, 1, none⟩ = some (.slice A0_1 l0_1.length c0_1) := (blk_cell BK160.out 1).trans rfl
    have hfz16_0 := blk_frozen BK160.out 0
    have hfz16_1 := blk_frozen BK160.out 1
    go_wp2
    go_loopg [3, 5] k1 (fun kq v3 v5 w' => ∃ (x3_2 : ByteArray) (x5_2 : Int), v3 = .string x3_2 ∧ v5 = .int .i64 x5_2 ∧ Aside0 (spec_l06Text.l1 kq x3_2 x5_2 l0_0 l0_1 = some r) ∧ Aside0 (kq ≤ k1) ∧ Aside0 (w'.heap[gb160]? = some (.cells #[(.slice A0_0 l0_0.length c0_0), (.slice A0_1 l0_1.length c0_1)] 32 (0, 0))) ∧ Aside0 (Below w.heap.size w w'))
    case atStart => exact ⟨(x3_1), (0), (by first | rfl | (simp; done) | (simp [*]; done)), (by first | rfl | (simp; done) | (simp [*]; done)), H', ⟨Nat.le_refl _⟩, ⟨by (with_reducible repeat first | apply blk_drewN | apply blk_drew | apply blk_alloc); exact BK160.out⟩, ⟨by repeat (first | (with_reducible first | exact HB.out | apply below_alloc | apply pw_below_drewN | apply below_drew1 | refine below_set ?_ GE160.out) | exact HB.out)⟩⟩
    case round =>
     clear H'
     try clear c1
     try clear p1
     try clear q1
     try clear hx1
     try clear p2
     try clear c3
     try clear c3b0
     try clear c4
     try clear c4b0
     try clear c6
     try clear c6b0
     try clear c6b1
     try clear c6b2
     try clear p6
     try clear c7
     try clear c7b0
     try clear c7b1
     try clear c7b2
     try clear c9
     try clear c9b0
     try clear c9b1
     try clear c9b2
     try clear c10
     try clear c10b0
     try clear c10b1
     try clear c10b2
     try clear c11
     try clear c11b0
     try clear c11b1
     try clear c11b2
     try clear c16
     try clear p16
     try clear q16
     try clear hx16
     try clear hcz12_0
     try clear hcz12_1
     try clear hcz16_0
     try clear hcz16_1
     try clear hfz12_0
     try clear hfz12_1
     try clear hfz16_0
     try clear hfz16_1
     try clear hx161_0
     try clear hx161_1
     try clear hx163_0
     try clear hx163_1
     try clear p161
     try clear p163
     try clear p2
     try clear q161
     try clear q163
     obtain ⟨x3_2, x5_2, rfl, rfl, HA, HK2, BK160, HB⟩ := hrel
     cases gk with
     | zero => exact absurd HA.out (by simp [spec_l06Text.l1])
     | succ k2 =>
      have H := HA.out
      clear HA
      simp only [spec_l06Text.l1] at H
      by_cases c17 : x5_2 < (l0_1.length : Int)
      ·rw [if_pos c17] at H
       have c17b0 : decide (x5_2 < (l0_1.length : Int)) = true := decide_eq_true c17
       clear c17
       by_cases c18 : 0 ≤ x5_2
       ·rw [if_pos c18] at H
        have c18b0 : decide (0 ≤ x5_2) = true := decide_eq_true c18
        clear c18
        obtain ⟨y167, hy167⟩ : ∃ y_ : List ByteArray, y_ = (([(⟨#[104, 111, 115, 116]⟩ : ByteArray), (⟨#[114, 97, 99, 107]⟩ : ByteArray), (⟨#[114, 111, 111, 116]⟩ : ByteArray)] : List ByteArray)) := ⟨_, rfl⟩
        replace H : (if 0 ≤ (wrap64 (((rd_T62 l0_1 x5_2).f1) - 1)) then (if (wrap64 (((rd_T62 l0_1 x5_2).f1) - 1)) < (y167.length : Int) then (if (rdOf ByteArray.empty y167 (wrap64 (((rd_T62 l0_1 x5_2).f1) - 1))).size + 1 ≤ 9223372036854775807 then ((spec_l06Num.f k2 ((rd_T62 l0_1 x5_2).f0)).bind fun t171 => (if ((rdOf ByteArray.empty y167 (wrap64 (((rd_T62 l0_1 x5_2).f1) - 1))) ++ (⟨#[32]⟩ : ByteArray)).size + t171.size ≤ 9223372036854775807 then (if x3_2.size + (((rdOf ByteArray.empty y167 (wrap64 (((rd_T62 l0_1 x5_2).f1) - 1))) ++ (⟨#[32]⟩ : ByteArray)) ++ t171).size ≤ 9223372036854775807 then (spec_l06Text.l2 k2 (x3_2 ++ (((rdOf ByteArray.empty y167 (wrap64 (((rd_T62 l0_1 x5_2).f1) - 1))) ++ (⟨#[32]⟩ : ByteArray)) ++ t171)) x5_2 0 l0_0 l0_1 ((rd_T62 l0_1 x5_2).f0) ((rd_T62 l0_1 x5_2).f1) ((rd_T62 l0_1 x5_2).f2)) else (none)) else (none))) else (none)) else (none)) else (none)) = some r := by first | (rw [hy167]; with_reducible exact H) | (have H2_ := (Option.bind_some _ _).symm.trans H; rw [hy167]; with_reducible exact H2_) | (have H2_ := (Option.bind_some _ _).symm.trans H; with_reducible exact H2_) | with_reducible exact H | (rw [hy167]; exact H) | exact H
        have Ny167 := Aside0.mk hy167
        clear hy167
        obtain ⟨ji19, hji19⟩ : ∃ j_ : Int, (wrap64 (((rd_T62 l0_1 x5_2).f1) - 1)) = j_ := ⟨_, rfl⟩
        replace H : (if 0 ≤ (ji19) then (if (ji19) < (y167.length : Int) then (if (rdOf ByteArray.empty y167 (ji19)).size + 1 ≤ 9223372036854775807 then ((spec_l06Num.f k2 ((rd_T62 l0_1 x5_2).f0)).bind fun t171 => (if ((rdOf ByteArray.empty y167 (ji19)) ++ (⟨#[32]⟩ : ByteArray)).size + t171.size ≤ 9223372036854775807 then (if x3_2.size + (((rdOf ByteArray.empty y167 (ji19)) ++ (⟨#[32]⟩ : ByteArray)) ++ t171).size ≤ 9223372036854775807 then (spec_l06Text.l2 k2 (x3_2 ++ (((rdOf ByteArray.empty y167 (ji19)) ++ (⟨#[32]⟩ : ByteArray)) ++ t171)) x5_2 0 l0_0 l0_1 ((rd_T62 l0_1 x5_2).f0) ((rd_T62 l0_1 x5_2).f1) ((rd_T62 l0_1 x5_2).f2)) else (none)) else (none))) else (none)) else (none)) else (none)) = some r := by first | (rw [hji19] at H; exact H) | (simp only [hji19] at H ⊢; exact H)
        have hji19w : (IntKind.i64.wrap (((rd_T62 l0_1 x5_2).f1) - 1)) = ji19 := (i64_w _).trans hji19
        by_cases c20 : 0 ≤ (ji19)
        ·rw [if_pos c20] at H
         have c20b0 : decide (0 ≤ (ji19)) = true := decide_eq_true c20
         clear c20
         by_cases c21 : (ji19) < (y167.length : Int)
         ·rw [if_pos c21] at H
          have c21b0 : decide ((ji19) < (y167.length : Int)) = true := decide_eq_true c21
          clear c21
          by_cases c22 : (rdOf ByteArray.empty y167 (ji19)).size + 1 ≤ 9223372036854775807
          ·rw [if_pos c22] at H
           have c22b0 := eq_true c22
           have c22b1 : decide ((rdOf ByteArray.empty y167 (ji19)).size + 1 ≤ 9223372036854775807) = true := decide_eq_true c22
           try have c22b2 : (9223372036854775807 < (rdOf ByteArray.empty y167 (ji19)).size + 1) = False := eq_false (Nat.not_lt.2 c22)
           replace H := Option.bind_eq_some_iff.mp H
           obtain ⟨t171, A230, H⟩ := H
           replace H : (if ((rdOf ByteArray.empty y167 (ji19)) ++ (⟨#[32]⟩ : ByteArray)).size + t171.size ≤ 9223372036854775807 then (if x3_2.size + (((rdOf ByteArray.empty y167 (ji19)) ++ (⟨#[32]⟩ : ByteArray)) ++ t171).size ≤ 9223372036854775807 then (spec_l06Text.l2 k2 (x3_2 ++ (((rdOf ByteArray.empty y167 (ji19)) ++ (⟨#[32]⟩ : ByteArray)) ++ t171)) x5_2 0 l0_0 l0_1 ((rd_T62 l0_1 x5_2).f0) ((rd_T62 l0_1 x5_2).f1) ((rd_T62 l0_1 x5_2).f2)) else (none)) else (none)) = some r := H
           have A23 := Aside0.mk A230
           clear A230
           by_cases c24 : ((rdOf ByteArray.empty y167 (ji19)) ++ (⟨#[32]⟩ : ByteArray)).size + t171.size ≤ 9223372036854775807
           ·rw [if_pos c24] at H
            have c24b0 := eq_true c24
            have c24b1 : decide (((rdOf ByteArray.empty y167 (ji19)) ++ (⟨#[32]⟩ : ByteArray)).size + t171.size ≤ 9223372036854775807) = true := decide_eq_true c24
            try have c24b2 : (9223372036854775807 < ((rdOf ByteArray.empty y167 (ji19)) ++ (⟨#[32]⟩ : ByteArray)).size + t171.size) = False := eq_false (Nat.not_lt.2 c24)
            have c24n := c24
            simp only [ByteArray.size_append, show ((⟨#[104, 111, 115, 116]⟩ : ByteArray).size = 4) from rfl, show ((⟨#[10]⟩ : ByteArray).size = 1) from rfl, show ((⟨#[110, 111, 100, 101, 32]⟩ : ByteArray).size = 5) from rfl, show ((⟨#[114, 111, 111, 116]⟩ : ByteArray).size = 4) from rfl, show ((⟨#[114, 97, 99, 107]⟩ : ByteArray).size = 4) from rfl, show ((⟨#[32]⟩ : ByteArray).size = 1) from rfl, show ((⟨#[]⟩ : ByteArray).size = 0) from rfl] at c24n
            have c24b3 := eq_false (Nat.not_lt.2 c24n)
            clear c24n
            by_cases c25 : x3_2.size + (((rdOf ByteArray.empty y167 (ji19)) ++ (⟨#[32]⟩ : ByteArray)) ++ t171).size ≤ 9223372036854775807
            ·rw [if_pos c25] at H
             have c25b0 := eq_true c25
             have c25b1 : decide (x3_2.size + (((rdOf ByteArray.empty y167 (ji19)) ++ (⟨#[32]⟩ : ByteArray)) ++ t171).size ≤ 9223372036854775807) = true := decide_eq_true c25
             try have c25b2 : (9223372036854775807 < x3_2.size + (((rdOf ByteArray.empty y167 (ji19)) ++ (⟨#[32]⟩ : ByteArray)) ++ t171).size) = False := eq_false (Nat.not_lt.2 c25)
             have c25n := c25
             simp only [ByteArray.size_append, show ((⟨#[104, 111, 115, 116]⟩ : ByteArray).size = 4) from rfl, show ((⟨#[10]⟩ : ByteArray).size = 1) from rfl, show ((⟨#[110, 111, 100, 101, 32]⟩ : ByteArray).size = 5) from rfl, show ((⟨#[114, 111, 111, 116]⟩ : ByteArray).size = 4) from rfl, show ((⟨#[114, 97, 99, 107]⟩ : ByteArray).size = 4) from rfl, show ((⟨#[32]⟩ : ByteArray).size = 1) from rfl, show ((⟨#[]⟩ : ByteArray).size = 0) from rfl] at c25n
             have c25b3 := eq_false (Nat.not_lt.2 c25n)
             clear c25n
             have H' := Aside0.mk H
             clear H
             have hcz26_0 : wr.cell? ⟨gb160, 0, none⟩ = some (.slice A0_0 l0_0.length c0_0) := (blk_cell BK160.out 0).trans rfl
             have hcz26_1 : wr.cell? ⟨gb160, 1, none⟩ = some (.slice A0_1 l0_1.length c0_1) := (blk_cell BK160.out 1).trans rfl
             have hfz26_0 := blk_frozen BK160.out 0
             have hfz26_1 := blk_frozen BK160.out 1
             have p165 : 0 ≤ (x5_2 : Int) := of_decide_eq_true (by assumption)
             have q165 : x5_2 < (l0_1.length : Int) := of_decide_eq_true (by assumption)
             obtain ⟨ad165, A165_2, c165_2, e165, hx165_0, hx165_1, hx165_2, hl165_2, hi165_2⟩ := at_T62 HR0_1.out x5_2 p165 q165
             cases e165
             replace hx165_0 := (HB.out.cell (World.block_lt_of_cell? w _ hx165_0)).trans hx165_0
             replace hx165_1 := (HB.out.cell (World.block_lt_of_cell? w _ hx165_1)).trans hx165_1
             replace hx165_2 := (HB.out.cell (World.block_lt_of_cell? w _ hx165_2)).trans hx165_2
             have HR165_2 := Aside0.mk hi165_2
             have HC165_2 := Aside0.mk hl165_2
             clear hi165_2 hl165_2
             replace p165 := eq_true p165
             replace q165 := eq_true q165
             try go_wp2_with (first | ((with_reducible refine gate_dst (N := 6) rfl ?_); refine box_event ?hg (N := 6) ?hd (cs := #[.int .i64 0, .int .i64 0, .slice none 0 0]) (t := 62) ?hr ?_; (case hd => rfl); (case hg => rfl); (case hr => first | (go_simp; done) | (go_simp; rfl)); intro gb166 hg w27 hbox hb; have n0_ := Aside0.mk (blk_below (g := gb160) (o := .cells #[.slice A0_0 l0_0.length c0_0, .slice (some ad165) l0_1.length c0_1] 32 (0, 0)) (by (with_reducible repeat first | apply blk_drewN | apply blk_drew | apply blk_alloc); exact BK160.out) hb); have n1_ := Aside0.mk (below_step (by repeat (first | (with_reducible first | exact HB.out | apply below_alloc | apply pw_below_drewN | apply below_drew1 | refine below_set ?_ GE160.out) | exact HB.out)) hb); have n2_ := Aside0.mk (hbox); have n3_ := Aside0.mk ((by rw [hg]; exact (below_size (by repeat (first | (with_reducible first | exact HB.out | apply below_alloc | apply pw_below_drewN | apply below_drew1 | refine below_set ?_ GE160.out) | exact HB.out))) : w.heap.size ≤ gb166)); have n4_ := Aside0.mk ((by rw [hg]; exact (below_size (by repeat (first | (with_reducible first | exact HB.out | apply below_alloc | apply pw_below_drewN | apply below_drew1 | refine below_set ?_ GE160.out) | exact HB.out))) : w.heap.size ≤ gb166)); have n5_ := Aside0.mk ((by rw [hg]; exact Nat.ne_of_lt (blk_lt (g := gb160) (o := .cells #[.slice A0_0 l0_0.length c0_0, .slice (some ad165) l0_1.length c0_1] 32 (0, 0)) (by (with_reducible repeat first | apply blk_drewN | apply blk_drew | apply blk_alloc); exact BK160.out)) : gb160 ≠ gb166)); have n6_ := Aside0.mk ((by rw [hg]; exact Nat.ne_of_gt (blk_lt (g := gb160) (o := .cells #[.slice A0_0 l0_0.length c0_0, .slice (some ad165) l0_1.length c0_1] 32 (0, 0)) (by (with_reducible repeat first | apply blk_drewN | apply blk_drew | apply blk_alloc); exact BK160.out)) : gb166 ≠ gb160)); clear BK160; clear HB; have BK160 := n0_; have HB := n1_; have BK166 := n2_; have GW166 := n3_; have GE166 := n4_; have NB160_166 := n5_; have NB166_160 := n6_; clear n0_ n1_ n2_ n3_ n4_ n5_ n6_; clear hb hbox hg; have hnb28 := NB166_160.out; have hnc28 := NB160_166.out; have hcz29_0 : w27.cell? ⟨gb166, 0, none⟩ = some (.int .i64 0) := (blk_cell BK166.out 0).trans rfl; have hcz29_1 : w27.cell? ⟨gb166, 1, none⟩ = some (.int .i64 0) := (blk_cell BK166.out 1).trans rfl; have hcz29_2 : w27.cell? ⟨gb166, 2, none⟩ = some (.slice none 0 0) := (blk_cell BK166.out 2).trans rfl; have hfz29_0 := blk_frozen BK166.out 0; have hfz29_1 := blk_frozen BK166.out 1; have hfz29_2 := blk_frozen BK166.out 2))
             have pi170 : (0 ≤ ((ji19) : Int)) = True := eq_true (of_decide_eq_true (by assumption))
             have qi170 : ((ji19) < (y167.length : Int)) = True := eq_true (of_decide_eq_true (by assumption))
             have n0_ : Aside0 ((((w27.setCell ⟨gb166, 0, none⟩ (.int .i64 ((rd_T62 l0_1 x5_2).f0))).setCell ⟨gb166, 1, none⟩ (.int .i64 ((rd_T62 l0_1 x5_2).f1))).setCell ⟨gb166, 2, none⟩ (.slice A165_2 ((rd_T62 l0_1 x5_2).f2).length c165_2)).heap[gb160]? = some (.cells #[.slice A0_0 l0_0.length c0_0, .slice (some ad165) l0_1.length c0_1] 32 (0, 0))) := ⟨by (with_reducible repeat first | apply blk_drewN | apply blk_drew | apply blk_alloc); refine blk_far ?_ NB160_166.out _; (with_reducible repeat first | apply blk_drewN | apply blk_drew | apply blk_alloc); refine blk_far ?_ NB160_166.out _; (with_reducible repeat first | apply blk_drewN | apply blk_drew | apply blk_alloc); refine blk_far ?_ NB160_166.out _; (with_reducible repeat first | apply blk_drewN | apply blk_drew | apply blk_alloc); exact BK160.out⟩
             have n1_ : Aside0 ((((w27.setCell ⟨gb166, 0, none⟩ (.int .i64 ((rd_T62 l0_1 x5_2).f0))).setCell ⟨gb166, 1, none⟩ (.int .i64 ((rd_T62 l0_1 x5_2).f1))).setCell ⟨gb166, 2, none⟩ (.slice A165_2 ((rd_T62 l0_1 x5_2).f2).length c165_2)).heap[gb166]? = some (.cells #[.int .i64 ((rd_T62 l0_1 x5_2).f0), .int .i64 ((rd_T62 l0_1 x5_2).f1), .slice A165_2 ((rd_T62 l0_1 x5_2).f2).length c165_2] 62 (0, 0))) := ⟨by (with_reducible repeat first | apply blk_drewN | apply blk_drew | apply blk_alloc); refine blk_put (cs := #[.int .i64 ((rd_T62 l0_1 x5_2).f0), .int .i64 ((rd_T62 l0_1 x5_2).f1), .slice none 0 0]) ?_ 2 _ rfl; (with_reducible repeat first | apply blk_drewN | apply blk_drew | apply blk_alloc); refine blk_put (cs := #[.int .i64 ((rd_T62 l0_1 x5_2).f0), .int .i64 0, .slice none 0 0]) ?_ 1 _ rfl; (with_reducible repeat first | apply blk_drewN | apply blk_drew | apply blk_alloc); refine blk_put (cs := #[.int .i64 0, .int .i64 0, .slice none 0 0]) ?_ 0 _ rfl; (with_reducible repeat first | apply blk_drewN | apply blk_drew | apply blk_alloc); exact BK166.out⟩
             have n2_ : Aside0 (Below w.heap.size w (((w27.setCell ⟨gb166, 0, none⟩ (.int .i64 ((rd_T62 l0_1 x5_2).f0))).setCell ⟨gb166, 1, none⟩ (.int .i64 ((rd_T62 l0_1 x5_2).f1))).setCell ⟨gb166, 2, none⟩ (.slice A165_2 ((rd_T62 l0_1 x5_2).f2).length c165_2))) := ⟨by repeat (first | (with_reducible first | exact HB.out | apply below_alloc | apply pw_below_drewN | apply below_drew1 | refine below_set ?_ GE160.out | refine below_set ?_ GE166.out) | exact HB.out)⟩
             (try clear BK160)
             (try clear BK166)
             (try clear HB)
             generalize (((w27.setCell ⟨gb166, 0, none⟩ (.int .i64 ((rd_T62 l0_1 x5_2).f0))).setCell ⟨gb166, 1, none⟩ (.int .i64 ((rd_T62 l0_1 x5_2).f1))).setCell ⟨gb166, 2, none⟩ (.slice A165_2 ((rd_T62 l0_1 x5_2).f2).length c165_2)) = w30 at n0_ n1_ n2_ ⊢
             have BK160 := n0_
             have BK166 := n1_
             have HB := n2_
             clear n0_ n1_ n2_
             have n0_ := Aside0.mk (blk_drew BK160.out)
             have n1_ := Aside0.mk (blk_drew BK166.out)
             have n2_ := Aside0.mk (below_drew1 HB.out)
             clear BK160
             clear BK166
             clear HB
             have BK160 := n0_
             have BK166 := n1_
             have HB := n2_
             clear n0_ n1_ n2_
             refine start_ (n := 14) (S := fun w' => w'.cell? ⟨gb166, 0, none⟩ = some (.int .i64 ((rd_T62 l0_1 x5_2).f0)) ∧ w'.cell? ⟨gb166, 1, none⟩ = some (.int .i64 ((rd_T62 l0_1 x5_2).f1)) ∧ w'.cell? ⟨gb166, 2, none⟩ = some (.slice A165_2 ((rd_T62 l0_1 x5_2).f2).length c165_2)) (ds := []) mz16_22 (by kernel_rfl) rfl rfl ⟨(blk_cell BK166.out 0).trans rfl, (blk_cell BK166.out 1).trans rfl, (blk_cell BK166.out 2).trans rfl⟩ (fun hHeld => ?_); refine with_tabW spec_l06Text.tab10 spec_l06Text.bits10 (fun HT_ HW_ => ?_)
             generalize w30.drew = w31 at BK160 BK166 HB hHeld ⊢
             refine pu_z16 0 (some 47) ?_ mz16_23 rfl rfl (any_of HT_.out (by kernel_rfl)) (fun _ _ _ h => h) (Or.inl ⟨by rfl, ?_⟩) ?_ ?_ ?_
             (rotate_left; ·(intro w'; go_simp; with_reducible rfl)); (rotate_left; ·(simp only [Act.put, pq_z16]; rfl))
             refine pu_z16 2 (some 49) ?_ mz16_24 rfl rfl (any_of HT_.out (by kernel_rfl)) (fun _ _ _ h => h) (Or.inl ⟨by rfl, ?_⟩) ?_ ?_ ?_
             (rotate_left; ·(intro w'; go_simp; with_reducible rfl)); (rotate_left; ·(simp only [Act.put, pq_z16]; rfl))
             refine pu_z16 8 (some 55) ?_ mz16_25 rfl rfl (any_of HT_.out (by kernel_rfl)) (fun _ _ _ h => h) (Or.inl ⟨by rfl, ?_⟩) ?_ ?_ ?_
             (rotate_left; ·(intro w'; go_simp; with_reducible rfl)); (rotate_left; ·(simp only [Act.put, pq_z16]; rfl))
             refine take_ (i := 3) (N := some 50) (v := ?_) (a' := ?_) mz16_26 rfl rfl (take_ofW HT_.out HW_.out (by kernel_rfl)) (fun _ _ _ h => h) (Or.inl ⟨by rfl, ?_⟩) hHeld ?_ ?_
             (rotate_left; ·(rintro w' ⟨s0, s1, s2⟩; go_simp; with_reducible rfl)); (rotate_left; ·(simp only [Act.put, pq_z16]; rfl))
             refine pu_z16 4 (some 51) ?_ mz16_27 rfl rfl (any_of HT_.out (by kernel_rfl)) (fun _ _ _ h => h) (Or.inl ⟨by rfl, ?_⟩) ?_ ?_ ?_
             (rotate_left; ·(intro w'; go_simp; with_reducible rfl)); (rotate_left; ·(simp only [Act.put, pq_z16]; rfl))
             refine take_ (i := 9) (N := some 56) (v := ?_) (a' := ?_) mz16_28 rfl rfl (take_ofW HT_.out HW_.out (by kernel_rfl)) (fun _ _ _ h => h) (Or.inl ⟨by rfl, ?_⟩) hHeld ?_ ?_
             (rotate_left; ·(rintro w' ⟨s0, s1, s2⟩; go_simp; with_reducible rfl)); (rotate_left; ·(simp only [Act.put, pq_z16]; rfl))
             refine join_ (σ := Value × Addr) 3 mz16_29 (fun s_ => [(48, s_.1), (53, .string (rdOf ByteArray.empty y167 (ji19))), (57, .string t171), (52, .pointer (some (s_.2.add ((ji19)).toNat))), (54, .string ((rdOf ByteArray.empty y167 (ji19)) ++ (⟨#[32]⟩ : ByteArray)))]) (fun s_ w' => (w'.cell? ⟨gb166, 0, none⟩ = some (.int .i64 ((rd_T62 l0_1 x5_2).f0)) ∧ w'.cell? ⟨gb166, 1, none⟩ = some (.int .i64 ((rd_T62 l0_1 x5_2).f1)) ∧ w'.cell? ⟨gb166, 2, none⟩ = some (.slice A165_2 ((rd_T62 l0_1 x5_2).f2).length c165_2)) ∧ (Kd.R Kd.string 9 w' w.heap.size (fun _ => True) s_.1 y167) ∧ (∃ c_, (s_.1 : Value) = .slice (some s_.2) y167.length c_) ∧ (w'.heap[gb160]? = some (.cells #[.slice A0_0 l0_0.length c0_0, .slice (some ad165) l0_1.length c0_1] 32 (0, 0))) ∧ (w'.heap[gb166]? = some (.cells #[.int .i64 ((rd_T62 l0_1 x5_2).f0), .int .i64 ((rd_T62 l0_1 x5_2).f1), .slice A165_2 ((rd_T62 l0_1 x5_2).f2).length c165_2] 62 (0, 0))) ∧ (Below w.heap.size w w')) ?_ ?_
             rotate_left
             ·intro hCont
              refine two_ (i := 1) (j := 10) (Ni := some 48) (Nj := some 57) mz16_30 mz16_31 rfl rfl rfl rfl (two_of HT_.out (by kernel_rfl)) (by decide) (by decide) (fun K hK => ?_) (fun K hK => ?_)
              ·skip
               refine Kd.R_lit_step Kd.string _ 9 ?hg (N := 48) ?hd (xs := ([(⟨#[104, 111, 115, 116]⟩ : ByteArray), (⟨#[114, 97, 99, 107]⟩ : ByteArray), (⟨#[114, 111, 111, 116]⟩ : ByteArray)] : List ByteArray)) (inner := [.string (⟨#[104, 111, 115, 116]⟩ : ByteArray), .string (⟨#[114, 97, 99, 107]⟩ : ByteArray), .string (⟨#[114, 111, 111, 116]⟩ : ByteArray)]) (ok := fun _ => True) (okp := fun _ => True) ?hr ?hp (fun _ hk => hk) trivial (Below.refl _ _) (Nat.le_refl _) (by simp) ?_; (case hd => rfl); (case hg => rfl); (case hr => first | (go_simp; done) | (go_simp; rfl)); (case hp => exact (Reps.one (show Kd.M Kd.string _ _ _ (⟨#[104, 111, 115, 116]⟩ : ByteArray) [.string (⟨#[104, 111, 115, 116]⟩ : ByteArray)] from rfl) (Reps.one (show Kd.M Kd.string _ _ _ (⟨#[114, 97, 99, 107]⟩ : ByteArray) [.string (⟨#[114, 97, 99, 107]⟩ : ByteArray)] from rfl) (Reps.one (show Kd.M Kd.string _ _ _ (⟨#[114, 111, 111, 116]⟩ : ByteArray) [.string (⟨#[114, 111, 111, 116]⟩ : ByteArray)] from rfl) (Reps.none _ _)))))
               intro v168 w32 ho33 hb hg_ hnew_
               clear hg_ hnew_
               (first | rw [← Ny167.out] at ho33 | (simp only [Int.reduceToNat] at ho33; rw [← Ny167.out] at ho33))
               have n0_ := Aside0.mk (Kd.R_lower ho33 (below_size (by repeat (first | (with_reducible first | exact HB.out | apply below_alloc | apply pw_below_drewN | apply below_drew1 | refine below_set ?_ GE160.out | refine below_set ?_ GE166.out) | exact HB.out))))
               have n1_ := Aside0.mk (blk_below (g := gb160) (o := .cells #[.slice A0_0 l0_0.length c0_0, .slice (some ad165) l0_1.length c0_1] 32 (0, 0)) (by (with_reducible repeat first | apply blk_drewN | apply blk_drew | apply blk_alloc); exact BK160.out) hb)
               have n2_ := Aside0.mk (blk_below (g := gb166) (o := .cells #[.int .i64 ((rd_T62 l0_1 x5_2).f0), .int .i64 ((rd_T62 l0_1 x5_2).f1), .slice A165_2 ((rd_T62 l0_1 x5_2).f2).length c165_2] 62 (0, 0)) (by (with_reducible repeat first | apply blk_drewN | apply blk_drew | apply blk_alloc); exact BK166.out) hb)
               have n3_ := Aside0.mk (below_step (by repeat (first | (with_reducible first | exact HB.out | apply below_alloc | apply pw_below_drewN | apply below_drew1 | refine below_set ?_ GE160.out | refine below_set ?_ GE166.out) | exact HB.out)) hb)
               clear BK160
               clear BK166
               clear HB
               have HO169 := n0_
               have BK160 := n1_
               have BK166 := n2_
               have HB := n3_
               clear n0_ n1_ n2_ n3_
               clear hb ho33
               obtain ⟨Ao34, co34, eo34⟩ := Kd.R_slice HO169.out
               subst eo34
               obtain ⟨ado34, fo34, _⟩ := Kd.at_string (Kd.R_reads' HO169.out).2.2 0 (by decide) (by rw [Ny167.out]; simp)
               cases fo34
               refine hK.out _ _ ⟨(blk_cell BK166.out 0).trans rfl, (blk_cell BK166.out 1).trans rfl, (blk_cell BK166.out 2).trans rfl⟩ (fun hHeld => ?_)
               clear hK K
               refine norm_ (a' := ?_) ?_ ?_
               (rotate_left; ·(show Act.put _ (some 48) _ = _; simp only [Act.put, pq_z16]; rfl))
               refine pu_z16 5 (some 52) ?_ mz16_32 rfl rfl (any_of HT_.out (by kernel_rfl)) (fun _ _ _ h => h) (Or.inl ⟨by rfl, ?_⟩) ?_ ?_ ?_
               (rotate_left; ·(intro w'; go_simp; with_reducible rfl)); (rotate_left; ·(simp only [Act.put, pq_z16]; rfl))
               refine two_ (i := 6) (j := 10) (Ni := some 53) (Nj := some 57) mz16_33 mz16_34 rfl rfl rfl rfl (two_of HT_.out (by kernel_rfl)) (by decide) (by decide) (fun K hK => ?_) (fun K hK => ?_)
               ·skip
                (have p170 : 0 ≤ ((ji19) : Int) := of_decide_eq_true (by assumption); have q170 : (ji19) < (y167.length : Int) := of_decide_eq_true (by assumption); obtain ⟨ad170, e170, hx170_0⟩ := Kd.at_string (Kd.R_reads' HO169.out).2.2 (ji19) p170 q170; obtain rfl : ado34 = ad170 := (by injection e170))
                refine value_ (w1 := ?_) (v := ?_) (by rfl) rfl ?_ ?_
                rotate_left 2
                ·go_simp
                 constructor
                 ·rfl
                 ·rfl
                clear hx170_0
                refine hK.out _ _ ⟨(blk_cell BK166.out 0).trans rfl, (blk_cell BK166.out 1).trans rfl, (blk_cell BK166.out 2).trans rfl⟩ (fun hHeld => ?_)
                clear hK K
                refine norm_ (a' := ?_) ?_ ?_
                (rotate_left; ·(show Act.put _ (some 53) _ = _; simp only [Act.put, pq_z16]; rfl))
                refine pu_z16 7 (some 54) ?_ mz16_35 rfl rfl (any_of HT_.out (by kernel_rfl)) (fun _ _ _ h => h) (Or.inl ⟨by rfl, ?_⟩) ?_ ?_ ?_
                (rotate_left; ·(intro w'; go_simp; with_reducible rfl)); (rotate_left; ·(simp only [Act.put, pq_z16]; rfl))
                refine one_ (i := 10) (N := some 57) mz16_29 rfl rfl (one_of HT_.out (by kernel_rfl)) (by decide) (fun K hK => ?_)
                refine goes_ Tryd.func34 (by kernel_rfl) rfl #[.int .i64 ((rd_T62 l0_1 x5_2).f0)] (by rfl) rfl rfl (by (try simp only [List.map_toArray, List.map_cons, List.map_nil]); first | done | rfl | (simp only [List.length_drop, List.length_take]; rfl)) ?_
                with_reducible refine (spec_l06Num.calls k2 ((rd_T62 l0_1 x5_2).f0) t171 _ A23.out).mono ?_
                rintro e w35 ⟨rfl, hb⟩
                refine ⟨_, rfl, ?_⟩
                have n0_ := Aside0.mk (Kd.R_below (by (with_reducible repeat (first | apply Kd.R_alloc | apply Kd.R_drewN | apply Kd.R_drew)); exact HO169.out) hb)
                have n1_ := Aside0.mk (blk_below (g := gb160) (o := .cells #[.slice A0_0 l0_0.length c0_0, .slice (some ad165) l0_1.length c0_1] 32 (0, 0)) (by (with_reducible repeat first | apply blk_drewN | apply blk_drew | apply blk_alloc); exact BK160.out) hb)
                have n2_ := Aside0.mk (blk_below (g := gb166) (o := .cells #[.int .i64 ((rd_T62 l0_1 x5_2).f0), .int .i64 ((rd_T62 l0_1 x5_2).f1), .slice A165_2 ((rd_T62 l0_1 x5_2).f2).length c165_2] 62 (0, 0)) (by (with_reducible repeat first | apply blk_drewN | apply blk_drew | apply blk_alloc); exact BK166.out) hb)
                have n3_ := Aside0.mk (below_step (by repeat (first | (with_reducible first | exact HB.out | apply below_alloc | apply pw_below_drewN | apply below_drew1 | refine below_set ?_ GE160.out | refine below_set ?_ GE166.out) | exact HB.out)) hb)
                clear HO169
                clear BK160
                clear BK166
                clear HB
                have HO169 := n0_
                have BK160 := n1_
                have BK166 := n2_
                have HB := n3_
                clear n0_ n1_ n2_ n3_
                (try clear hb)
                (try clear hb2)
                (try clear hk)
                (try clear hi)
                refine hK.out _ _ ⟨(blk_cell BK166.out 0).trans rfl, (blk_cell BK166.out 1).trans rfl, (blk_cell BK166.out 2).trans rfl⟩ (fun hHeld => ?_)
                clear hK K
                refine norm_ (a' := ?_) ?_ ?_
                (rotate_left; ·(show Act.put _ (some 57) _ = _; simp only [Act.put, pq_z16]; rfl))
                exact norm_ (by simp only [putAll, Act.put, List.setIfInBounds_toArray, List.set_cons_zero, List.set_cons_succ]) (hCont (.slice (some ado34) y167.length co34, ado34) _ ⟨hHeld, (by (with_reducible repeat (first | apply Kd.R_alloc | apply Kd.R_drewN | apply Kd.R_drew)); exact HO169.out), ⟨_, rfl⟩, (by (with_reducible repeat first | apply blk_drewN | apply blk_drew | apply blk_alloc); exact BK160.out), (by (with_reducible repeat first | apply blk_drewN | apply blk_drew | apply blk_alloc); exact BK166.out), (by repeat (first | (with_reducible first | exact HB.out | apply below_alloc | apply pw_below_drewN | apply below_drew1 | refine below_set ?_ GE160.out | refine below_set ?_ GE166.out) | exact HB.out))⟩)
               ·skip
                refine goes_ Tryd.func34 (by kernel_rfl) rfl #[.int .i64 ((rd_T62 l0_1 x5_2).f0)] (by rfl) rfl rfl (by (try simp only [List.map_toArray, List.map_cons, List.map_nil]); first | done | rfl | (simp only [List.length_drop, List.length_take]; rfl)) ?_
                with_reducible refine (spec_l06Num.calls k2 ((rd_T62 l0_1 x5_2).f0) t171 _ A23.out).mono ?_
                rintro e w35 ⟨rfl, hb⟩
                refine ⟨_, rfl, ?_⟩
                have n0_ := Aside0.mk (Kd.R_below (by (with_reducible repeat (first | apply Kd.R_alloc | apply Kd.R_drewN | apply Kd.R_drew)); exact HO169.out) hb)
                have n1_ := Aside0.mk (blk_below (g := gb160) (o := .cells #[.slice A0_0 l0_0.length c0_0, .slice (some ad165) l0_1.length c0_1] 32 (0, 0)) (by (with_reducible repeat first | apply blk_drewN | apply blk_drew | apply blk_alloc); exact BK160.out) hb)
                have n2_ := Aside0.mk (blk_below (g := gb166) (o := .cells #[.int .i64 ((rd_T62 l0_1 x5_2).f0), .int .i64 ((rd_T62 l0_1 x5_2).f1), .slice A165_2 ((rd_T62 l0_1 x5_2).f2).length c165_2] 62 (0, 0)) (by (with_reducible repeat first | apply blk_drewN | apply blk_drew | apply blk_alloc); exact BK166.out) hb)
                have n3_ := Aside0.mk (below_step (by repeat (first | (with_reducible first | exact HB.out | apply below_alloc | apply pw_below_drewN | apply below_drew1 | refine below_set ?_ GE160.out | refine below_set ?_ GE166.out) | exact HB.out)) hb)
                clear HO169
                clear BK160
                clear BK166
                clear HB
                have HO169 := n0_
                have BK160 := n1_
                have BK166 := n2_
                have HB := n3_
                clear n0_ n1_ n2_ n3_
                (try clear hb)
                (try clear hb2)
                (try clear hk)
                (try clear hi)
                refine hK.out _ _ ⟨(blk_cell BK166.out 0).trans rfl, (blk_cell BK166.out 1).trans rfl, (blk_cell BK166.out 2).trans rfl⟩ (fun hHeld => ?_)
                clear hK K
                refine norm_ (a' := ?_) ?_ ?_
                (rotate_left; ·(show Act.put _ (some 57) _ = _; simp only [Act.put, pq_z16]; rfl))
                refine one_ (i := 6) (N := some 53) mz16_36 rfl rfl (one_of HT_.out (by kernel_rfl)) (by decide) (fun K hK => ?_)
                (have p170 : 0 ≤ ((ji19) : Int) := of_decide_eq_true (by assumption); have q170 : (ji19) < (y167.length : Int) := of_decide_eq_true (by assumption); obtain ⟨ad170, e170, hx170_0⟩ := Kd.at_string (Kd.R_reads' HO169.out).2.2 (ji19) p170 q170; obtain rfl : ado34 = ad170 := (by injection e170))
                refine value_ (w1 := ?_) (v := ?_) (by rfl) rfl ?_ ?_
                rotate_left 2
                ·go_simp
                 constructor
                 ·rfl
                 ·rfl
                clear hx170_0
                refine hK.out _ _ ⟨(blk_cell BK166.out 0).trans rfl, (blk_cell BK166.out 1).trans rfl, (blk_cell BK166.out 2).trans rfl⟩ (fun hHeld => ?_)
                clear hK K
                refine norm_ (a' := ?_) ?_ ?_
                (rotate_left; ·(show Act.put _ (some 53) _ = _; simp only [Act.put, pq_z16]; rfl))
                refine pu_z16 7 (some 54) ?_ mz16_29 rfl rfl (any_of HT_.out (by kernel_rfl)) (fun _ _ _ h => h) (Or.inl ⟨by rfl, ?_⟩) ?_ ?_ ?_
                (rotate_left; ·(intro w'; go_simp; with_reducible rfl)); (rotate_left; ·(simp only [Act.put, pq_z16]; rfl))
                exact norm_ (by simp only [putAll, Act.put, List.setIfInBounds_toArray, List.set_cons_zero, List.set_cons_succ]) (hCont (.slice (some ado34) y167.length co34, ado34) _ ⟨hHeld, (by (with_reducible repeat (first | apply Kd.R_alloc | apply Kd.R_drewN | apply Kd.R_drew)); exact HO169.out), ⟨_, rfl⟩, (by (with_reducible repeat first | apply blk_drewN | apply blk_drew | apply blk_alloc); exact BK160.out), (by (with_reducible repeat first | apply blk_drewN | apply blk_drew | apply blk_alloc); exact BK166.out), (by repeat (first | (with_reducible first | exact HB.out | apply below_alloc | apply pw_below_drewN | apply below_drew1 | refine below_set ?_ GE160.out | refine below_set ?_ GE166.out) | exact HB.out))⟩)
              ·skip
               refine goes_ Tryd.func34 (by kernel_rfl) rfl #[.int .i64 ((rd_T62 l0_1 x5_2).f0)] (by rfl) rfl rfl (by (try simp only [List.map_toArray, List.map_cons, List.map_nil]); first | done | rfl | (simp only [List.length_drop, List.length_take]; rfl)) ?_
               with_reducible refine (spec_l06Num.calls k2 ((rd_T62 l0_1 x5_2).f0) t171 _ A23.out).mono ?_
               rintro e w32 ⟨rfl, hb⟩
               refine ⟨_, rfl, ?_⟩
               have n0_ := Aside0.mk (blk_below (g := gb160) (o := .cells #[.slice A0_0 l0_0.length c0_0, .slice (some ad165) l0_1.length c0_1] 32 (0, 0)) (by (with_reducible repeat first | apply blk_drewN | apply blk_drew | apply blk_alloc); exact BK160.out) hb)
               have n1_ := Aside0.mk (blk_below (g := gb166) (o := .cells #[.int .i64 ((rd_T62 l0_1 x5_2).f0), .int .i64 ((rd_T62 l0_1 x5_2).f1), .slice A165_2 ((rd_T62 l0_1 x5_2).f2).length c165_2] 62 (0, 0)) (by (with_reducible repeat first | apply blk_drewN | apply blk_drew | apply blk_alloc); exact BK166.out) hb)
               have n2_ := Aside0.mk (below_step (by repeat (first | (with_reducible first | exact HB.out | apply below_alloc | apply pw_below_drewN | apply below_drew1 | refine below_set ?_ GE160.out | refine below_set ?_ GE166.out) | exact HB.out)) hb)
               clear BK160
               clear BK166
               clear HB
               have BK160 := n0_
               have BK166 := n1_
               have HB := n2_
               clear n0_ n1_ n2_
               (try clear hb)
               (try clear hb2)
               (try clear hk)
               (try clear hi)
               refine hK.out _ _ ⟨(blk_cell BK166.out 0).trans rfl, (blk_cell BK166.out 1).trans rfl, (blk_cell BK166.out 2).trans rfl⟩ (fun hHeld => ?_)
               clear hK K
               refine norm_ (a' := ?_) ?_ ?_
               (rotate_left; ·(show Act.put _ (some 57) _ = _; simp only [Act.put, pq_z16]; rfl))
               refine one_ (i := 1) (N := some 48) mz16_37 rfl rfl (one_of HT_.out (by kernel_rfl)) (by decide) (fun K hK => ?_)
               refine Kd.R_lit_step Kd.string _ 9 ?hg (N := 48) ?hd (xs := ([(⟨#[104, 111, 115, 116]⟩ : ByteArray), (⟨#[114, 97, 99, 107]⟩ : ByteArray), (⟨#[114, 111, 111, 116]⟩ : ByteArray)] : List ByteArray)) (inner := [.string (⟨#[104, 111, 115, 116]⟩ : ByteArray), .string (⟨#[114, 97, 99, 107]⟩ : ByteArray), .string (⟨#[114, 111, 111, 116]⟩ : ByteArray)]) (ok := fun _ => True) (okp := fun _ => True) ?hr ?hp (fun _ hk => hk) trivial (Below.refl _ _) (Nat.le_refl _) (by simp) ?_; (case hd => rfl); (case hg => rfl); (case hr => first | (go_simp; done) | (go_simp; rfl)); (case hp => exact (Reps.one (show Kd.M Kd.string _ _ _ (⟨#[104, 111, 115, 116]⟩ : ByteArray) [.string (⟨#[104, 111, 115, 116]⟩ : ByteArray)] from rfl) (Reps.one (show Kd.M Kd.string _ _ _ (⟨#[114, 97, 99, 107]⟩ : ByteArray) [.string (⟨#[114, 97, 99, 107]⟩ : ByteArray)] from rfl) (Reps.one (show Kd.M Kd.string _ _ _ (⟨#[114, 111, 111, 116]⟩ : ByteArray) [.string (⟨#[114, 111, 111, 116]⟩ : ByteArray)] from rfl) (Reps.none _ _)))))
               intro v168 w33 ho34 hb hg_ hnew_
               clear hg_ hnew_
               (first | rw [← Ny167.out] at ho34 | (simp only [Int.reduceToNat] at ho34; rw [← Ny167.out] at ho34))
               have n0_ := Aside0.mk (Kd.R_lower ho34 (below_size (by repeat (first | (with_reducible first | exact HB.out | apply below_alloc | apply pw_below_drewN | apply below_drew1 | refine below_set ?_ GE160.out | refine below_set ?_ GE166.out) | exact HB.out))))
               have n1_ := Aside0.mk (blk_below (g := gb160) (o := .cells #[.slice A0_0 l0_0.length c0_0, .slice (some ad165) l0_1.length c0_1] 32 (0, 0)) (by (with_reducible repeat first | apply blk_drewN | apply blk_drew | apply blk_alloc); exact BK160.out) hb)
               have n2_ := Aside0.mk (blk_below (g := gb166) (o := .cells #[.int .i64 ((rd_T62 l0_1 x5_2).f0), .int .i64 ((rd_T62 l0_1 x5_2).f1), .slice A165_2 ((rd_T62 l0_1 x5_2).f2).length c165_2] 62 (0, 0)) (by (with_reducible repeat first | apply blk_drewN | apply blk_drew | apply blk_alloc); exact BK166.out) hb)
               have n3_ := Aside0.mk (below_step (by repeat (first | (with_reducible first | exact HB.out | apply below_alloc | apply pw_below_drewN | apply below_drew1 | refine below_set ?_ GE160.out | refine below_set ?_ GE166.out) | exact HB.out)) hb)
               clear BK160
               clear BK166
               clear HB
               have HO169 := n0_
               have BK160 := n1_
               have BK166 := n2_
               have HB := n3_
               clear n0_ n1_ n2_ n3_
               clear hb ho34
               obtain ⟨Ao35, co35, eo35⟩ := Kd.R_slice HO169.out
               subst eo35
               obtain ⟨ado35, fo35, _⟩ := Kd.at_string (Kd.R_reads' HO169.out).2.2 0 (by decide) (by rw [Ny167.out]; simp)
               cases fo35
               refine hK.out _ _ ⟨(blk_cell BK166.out 0).trans rfl, (blk_cell BK166.out 1).trans rfl, (blk_cell BK166.out 2).trans rfl⟩ (fun hHeld => ?_)
               clear hK K
               refine norm_ (a' := ?_) ?_ ?_
               (rotate_left; ·(show Act.put _ (some 48) _ = _; simp only [Act.put, pq_z16]; rfl))
               refine pu_z16 5 (some 52) ?_ mz16_34 rfl rfl (any_of HT_.out (by kernel_rfl)) (fun _ _ _ h => h) (Or.inl ⟨by rfl, ?_⟩) ?_ ?_ ?_
               (rotate_left; ·(intro w'; go_simp; with_reducible rfl)); (rotate_left; ·(simp only [Act.put, pq_z16]; rfl))
               refine one_ (i := 6) (N := some 53) mz16_36 rfl rfl (one_of HT_.out (by kernel_rfl)) (by decide) (fun K hK => ?_)
               (have p170 : 0 ≤ ((ji19) : Int) := of_decide_eq_true (by assumption); have q170 : (ji19) < (y167.length : Int) := of_decide_eq_true (by assumption); obtain ⟨ad170, e170, hx170_0⟩ := Kd.at_string (Kd.R_reads' HO169.out).2.2 (ji19) p170 q170; obtain rfl : ado35 = ad170 := (by injection e170))
               refine value_ (w1 := ?_) (v := ?_) (by rfl) rfl ?_ ?_
               rotate_left 2
               ·go_simp
                constructor
                ·rfl
                ·rfl
               clear hx170_0
               refine hK.out _ _ ⟨(blk_cell BK166.out 0).trans rfl, (blk_cell BK166.out 1).trans rfl, (blk_cell BK166.out 2).trans rfl⟩ (fun hHeld => ?_)
               clear hK K
               refine norm_ (a' := ?_) ?_ ?_
               (rotate_left; ·(show Act.put _ (some 53) _ = _; simp only [Act.put, pq_z16]; rfl))
               refine pu_z16 7 (some 54) ?_ mz16_29 rfl rfl (any_of HT_.out (by kernel_rfl)) (fun _ _ _ h => h) (Or.inl ⟨by rfl, ?_⟩) ?_ ?_ ?_
               (rotate_left; ·(intro w'; go_simp; with_reducible rfl)); (rotate_left; ·(simp only [Act.put, pq_z16]; rfl))
               exact norm_ (by simp only [putAll, Act.put, List.setIfInBounds_toArray, List.set_cons_zero, List.set_cons_succ]) (hCont (.slice (some ado35) y167.length co35, ado35) _ ⟨hHeld, (by (with_reducible repeat (first | apply Kd.R_alloc | apply Kd.R_drewN | apply Kd.R_drew)); exact HO169.out), ⟨_, rfl⟩, (by (with_reducible repeat first | apply blk_drewN | apply blk_drew | apply blk_alloc); exact BK160.out), (by (with_reducible repeat first | apply blk_drewN | apply blk_drew | apply blk_alloc); exact BK166.out), (by repeat (first | (with_reducible first | exact HB.out | apply below_alloc | apply pw_below_drewN | apply below_drew1 | refine below_set ?_ GE160.out | refine below_set ?_ GE166.out) | exact HB.out))⟩)
             rintro ⟨v168, adz_v168⟩ w36 ⟨hS_, h0_, h1_, h2_, h3_, h4_⟩
             have n0_ : Aside0 (Kd.R Kd.string 9 w36 w.heap.size (fun _ => True) v168 y167) := ⟨h0_⟩
             have n1_ : Aside0 (∃ c_, (v168 : Value) = .slice (some adz_v168) y167.length c_) := ⟨h1_⟩
             have n2_ : Aside0 (w36.heap[gb160]? = some (.cells #[.slice A0_0 l0_0.length c0_0, .slice (some ad165) l0_1.length c0_1] 32 (0, 0))) := ⟨h2_⟩
             have n3_ : Aside0 (w36.heap[gb166]? = some (.cells #[.int .i64 ((rd_T62 l0_1 x5_2).f0), .int .i64 ((rd_T62 l0_1 x5_2).f1), .slice A165_2 ((rd_T62 l0_1 x5_2).f2).length c165_2] 62 (0, 0))) := ⟨h3_⟩
             have n4_ : Aside0 (Below w.heap.size w w36) := ⟨h4_⟩
             clear BK160
             clear BK166
             clear HB
             clear h0_ h1_ h2_ h3_ h4_
             have HO169 := n0_
             have HA_HO169 := n1_
             have BK160 := n2_
             have BK166 := n3_
             have HB := n4_
             clear n0_ n1_ n2_ n3_ n4_
             have hHeld : w36.cell? ⟨gb166, 0, none⟩ = some (.int .i64 ((rd_T62 l0_1 x5_2).f0)) ∧ w36.cell? ⟨gb166, 1, none⟩ = some (.int .i64 ((rd_T62 l0_1 x5_2).f1)) ∧ w36.cell? ⟨gb166, 2, none⟩ = some (.slice A165_2 ((rd_T62 l0_1 x5_2).f2).length c165_2) := hS_
             obtain ⟨co37, eo37⟩ := HA_HO169.out
             clear HA_HO169
             subst eo37
             refine norm_ (a' := ?_) ?_ ?_
             rotate_left
             ·simp only [putAll, Act.put, List.setIfInBounds_toArray, List.set_cons_zero, List.set_cons_succ]
              rfl
             refine pu_z16 11 (some 58) ?_ mz16_38 rfl rfl (any_of HT_.out (by kernel_rfl)) (fun _ _ _ h => h) (Or.inl ⟨by rfl, ?_⟩) ?_ ?_ ?_
             (rotate_left; ·(intro w'; go_simp; with_reducible rfl)); (rotate_left; ·(simp only [Act.put, pq_z16]; rfl))
             refine pu_z16 12 (some 59) ?_ mz16_39 rfl rfl (any_of HT_.out (by kernel_rfl)) (fun _ _ _ h => h) (Or.inl ⟨by rfl, ?_⟩) ?_ ?_ ?_
             (rotate_left; ·(intro w'; go_simp; with_reducible rfl)); (rotate_left; ·(simp only [Act.put, pq_z16]; rfl))
             refine pu_z16 13 (some 3) ?_ mz16_40 rfl rfl (any_of HT_.out (by kernel_rfl)) (fun _ _ _ h => h) (Or.inl ⟨by rfl, ?_⟩) ?_ ?_ ?_
             (rotate_left; ·(intro w'; go_simp; with_reducible rfl)); (rotate_left; ·(simp only [Act.put, pq_z16]; rfl))
             refine done_ (done_of HT_.out (by kernel_rfl)) ?_
             try go_wp2
             go_loopg [3, 7] k2 (fun kq v3 v7 w' => ∃ (x3_3 : ByteArray) (x7_3 : Int), v3 = .string x3_3 ∧ v7 = .int .i64 x7_3 ∧ Aside0 (spec_l06Text.l2 kq x3_3 x5_2 x7_3 l0_0 l0_1 ((rd_T62 l0_1 x5_2).f0) ((rd_T62 l0_1 x5_2).f1) ((rd_T62 l0_1 x5_2).f2) = some r) ∧ Aside0 (kq ≤ k2) ∧ Aside0 (w'.heap[gb160]? = some (.cells #[(.slice A0_0 l0_0.length c0_0), (.slice (some ad165) l0_1.length c0_1)] 32 (0, 0))) ∧ Aside0 (w'.heap[gb166]? = some (.cells #[.int .i64 ((rd_T62 l0_1 x5_2).f0), .int .i64 ((rd_T62 l0_1 x5_2).f1), (.slice A165_2 ((rd_T62 l0_1 x5_2).f2).length c165_2)] 62 (0, 0))) ∧ Aside0 (Below w.heap.size w w'))
             case atStart => exact ⟨(x3_2 ++ (((rdOf ByteArray.empty y167 (ji19)) ++ (⟨#[32]⟩ : ByteArray)) ++ t171)), (0), (by first | rfl | (simp; done) | (simp only [← hji19] <;> (first | rfl | simp)) | (simp [*]; done)), (by first | rfl | (simp; done) | (simp [*]; done)), H', ⟨Nat.le_refl _⟩, ⟨by (with_reducible repeat first | apply blk_drewN | apply blk_drew | apply blk_alloc); exact BK160.out⟩, ⟨by (with_reducible repeat first | apply blk_drewN | apply blk_drew | apply blk_alloc); exact BK166.out⟩, ⟨by repeat (first | (with_reducible first | exact HB.out | apply below_alloc | apply pw_below_drewN | apply below_drew1 | refine below_set ?_ GE160.out | refine below_set ?_ GE166.out) | exact HB.out)⟩⟩
             case round =>
              clear H'
              try clear c1
              try clear p1
              try clear q1
              try clear hx1
              try clear qi1
              try clear c2
              try clear p2
              try clear c3
              try clear c3b0
              try clear c4
              try clear c4b0
              try clear c6
              try clear c6b0
              try clear c6b1
              try clear c6b2
              try clear p6
              try clear c7
              try clear c7b0
              try clear c7b1
              try clear c7b2
              try clear c9
              try clear c9b0
              try clear c9b1
              try clear c9b2
              try clear c10
              try clear c10b0
              try clear c10b1
              try clear c10b2
              try clear c11
              try clear c11b0
              try clear c11b1
              try clear c11b2
              try clear c16
              try clear p16
              try clear q16
              try clear hx16
              try clear c17
              try clear c17b0
              try clear p17
              try clear q17
              try clear hx17
              try clear qi17
              try clear c18
              try clear c18b0
              try clear c20
              try clear c20b0
              try clear c21
              try clear c21b0
              try clear c22
              try clear c22b0
              try clear c22b1
              try clear c22b2
              try clear c24
              try clear c24b0
              try clear c24b1
              try clear c24b2
              try clear c25
              try clear c25b0
              try clear c25b1
              try clear c25b2
              try clear c28
              try clear c34
              try clear hcz12_0
              try clear hcz12_1
              try clear hcz16_0
              try clear hcz16_1
              try clear hcz26_0
              try clear hcz26_1
              try clear hcz29_0
              try clear hcz29_1
              try clear hcz29_2
              try clear hfz12_0
              try clear hfz12_1
              try clear hfz16_0
              try clear hfz16_1
              try clear hfz26_0
              try clear hfz26_1
              try clear hfz29_0
              try clear hfz29_1
              try clear hfz29_2
              try clear hx161_0
              try clear hx161_1
              try clear hx163_0
              try clear hx163_1
              try clear hx165_0
              try clear hx165_1
              try clear hx165_2
              try clear hx170_0
              try clear p1
              try clear p16
              try clear p161
              try clear p163
              try clear p165
              try clear p170
              try clear p2
              try clear p6
              try clear q1
              try clear q16
              try clear q161
              try clear q163
              try clear q165
              try clear q170
              obtain ⟨x3_3, x7_3, rfl, rfl, HA, HK3, BK160, BK166, HB⟩ := hrel
              cases gk with
              | zero => exact absurd HA.out (by simp [spec_l06Text.l2])
              | succ k3 =>
               have H := HA.out
               clear HA
               simp only [spec_l06Text.l2] at H
               by_cases c38 : x7_3 < (((rd_T62 l0_1 x5_2).f2).length : Int)
               ·rw [if_pos c38] at H
                have c38b0 : decide (x7_3 < (((rd_T62 l0_1 x5_2).f2).length : Int)) = true := decide_eq_true c38
                clear c38
                by_cases c39 : 0 ≤ x7_3
                ·rw [if_pos c39] at H
                 have c39b0 : decide (0 ≤ x7_3) = true := decide_eq_true c39
                 clear c39
                 replace H := Option.bind_eq_some_iff.mp H
                 obtain ⟨t173, A400, H⟩ := H
                 replace H : (if 1 + t173.size ≤ 9223372036854775807 then (if x3_3.size + ((⟨#[32]⟩ : ByteArray) ++ t173).size ≤ 9223372036854775807 then (spec_l06Text.l2 k3 (x3_3 ++ ((⟨#[32]⟩ : ByteArray) ++ t173)) x5_2 (wrap64 (x7_3 + 1)) l0_0 l0_1 ((rd_T62 l0_1 x5_2).f0) ((rd_T62 l0_1 x5_2).f1) ((rd_T62 l0_1 x5_2).f2)) else (none)) else (none)) = some r := H
                 have A40 := Aside0.mk A400
                 clear A400
                 by_cases c41 : 1 + t173.size ≤ 9223372036854775807
                 ·rw [if_pos c41] at H
                  have c41b0 := eq_true c41
                  have c41b1 : decide (1 + t173.size ≤ 9223372036854775807) = true := decide_eq_true c41
                  try have c41b2 : (9223372036854775807 < 1 + t173.size) = False := eq_false (Nat.not_lt.2 c41)
                  by_cases c42 : x3_3.size + ((⟨#[32]⟩ : ByteArray) ++ t173).size ≤ 9223372036854775807
                  ·rw [if_pos c42] at H
                   have c42b0 := eq_true c42
                   have c42b1 : decide (x3_3.size + ((⟨#[32]⟩ : ByteArray) ++ t173).size ≤ 9223372036854775807) = true := decide_eq_true c42
                   try have c42b2 : (9223372036854775807 < x3_3.size + ((⟨#[32]⟩ : ByteArray) ++ t173).size) = False := eq_false (Nat.not_lt.2 c42)
                   have c42n := c42
                   simp only [ByteArray.size_append, show ((⟨#[104, 111, 115, 116]⟩ : ByteArray).size = 4) from rfl, show ((⟨#[10]⟩ : ByteArray).size = 1) from rfl, show ((⟨#[110, 111, 100, 101, 32]⟩ : ByteArray).size = 5) from rfl, show ((⟨#[114, 111, 111, 116]⟩ : ByteArray).size = 4) from rfl, show ((⟨#[114, 97, 99, 107]⟩ : ByteArray).size = 4) from rfl, show ((⟨#[32]⟩ : ByteArray).size = 1) from rfl, show ((⟨#[]⟩ : ByteArray).size = 0) from rfl] at c42n
                   have c42b3 := eq_false (Nat.not_lt.2 c42n)
                   clear c42n
                   have H' := Aside0.mk H
                   clear H
                   have hnb43 := NB166_160.out
                   have hnc43 := NB160_166.out
                   have hcz44_0 : wr.cell? ⟨gb166, 0, none⟩ = some (.int .i64 ((rd_T62 l0_1 x5_2).f0)) := (blk_cell BK166.out 0).trans rfl
                   have hcz44_1 : wr.cell? ⟨gb166, 1, none⟩ = some (.int .i64 ((rd_T62 l0_1 x5_2).f1)) := (blk_cell BK166.out 1).trans rfl
                   have hcz44_2 : wr.cell? ⟨gb166, 2, none⟩ = some (.slice A165_2 ((rd_T62 l0_1 x5_2).f2).length c165_2) := (blk_cell BK166.out 2).trans rfl
                   have hfz44_0 := blk_frozen BK166.out 0
                   have hfz44_1 := blk_frozen BK166.out 1
                   have hfz44_2 := blk_frozen BK166.out 2
                   have p172 : 0 ≤ (x7_3 : Int) := of_decide_eq_true (by assumption)
                   have q172 : x7_3 < (((rd_T62 l0_1 x5_2).f2).length : Int) := of_decide_eq_true (by assumption)
                   obtain ⟨ad172, e172, hx172_0⟩ := Kd.at_int HR165_2.out x7_3 p172 q172
                   cases e172
                   replace hx172_0 := (HB.out.cell (World.block_lt_of_cell? w _ hx172_0)).trans hx172_0
                   replace p172 := eq_true p172
                   replace q172 := eq_true q172
                   go_wp2_with (first | ((with_reducible refine gate_callee (f := 34) rfl ?_); refine goesL_ (some 73) rfl rfl Tryd.func34 (by kernel_rfl) rfl #[.int .i64 (rd ((rd_T62 l0_1 x5_2).f2) x7_3)] rfl (by (try simp only [List.map_toArray, List.map_cons, List.map_nil]); first | done | rfl | (simp only [List.length_drop, List.length_take]; rfl)) ?_; (with_reducible refine (spec_l06Num.calls k3 (rd ((rd_T62 l0_1 x5_2).f2) x7_3) t173 _ A40.out).mono ?_); rintro e w45 ⟨rfl, hb⟩; refine ⟨_, rfl, ?_⟩; have n0_ := Aside0.mk (blk_below (g := gb160) (o := .cells #[.slice A0_0 l0_0.length c0_0, .slice (some ad165) l0_1.length c0_1] 32 (0, 0)) (by (with_reducible repeat first | apply blk_drewN | apply blk_drew | apply blk_alloc); exact BK160.out) hb); have n1_ := Aside0.mk (blk_below (g := gb166) (o := .cells #[.int .i64 ((rd_T62 l0_1 x5_2).f0), .int .i64 ((rd_T62 l0_1 x5_2).f1), .slice (some ad172) ((rd_T62 l0_1 x5_2).f2).length c165_2] 62 (0, 0)) (by (with_reducible repeat first | apply blk_drewN | apply blk_drew | apply blk_alloc); exact BK166.out) hb); have n2_ := Aside0.mk (below_step (by repeat (first | (with_reducible first | exact HB.out | apply below_alloc | apply pw_below_drewN | apply below_drew1 | refine below_set ?_ GE160.out | refine below_set ?_ GE166.out) | exact HB.out)) hb); clear BK160; clear BK166; clear HB; have BK160 := n0_; have BK166 := n1_; have HB := n2_; clear n0_ n1_ n2_; (try clear hb); (try clear hb2); (try clear hk); (try clear hi)))
                   go_roundg k3
                   case measure => have := HK1.out; have := HK2.out; have := HK3.out; omega
                   case rel => exact ⟨(x3_3 ++ ((⟨#[32]⟩ : ByteArray) ++ t173)), (wrap64 (x7_3 + 1)), (by first | rfl | (simp; done) | (simp [*]; done)), (by first | rfl | (simp; done) | (simp [*]; done)), H', ⟨by have := HK1.out; have := HK2.out; have := HK3.out; omega⟩, ⟨by (with_reducible repeat first | apply blk_drewN | apply blk_drew | apply blk_alloc); exact BK160.out⟩, ⟨by (with_reducible repeat first | apply blk_drewN | apply blk_drew | apply blk_alloc); exact BK166.out⟩, ⟨by repeat (first | (with_reducible first | exact HB.out | apply below_alloc | apply pw_below_drewN | apply below_drew1 | refine below_set ?_ GE160.out | refine below_set ?_ GE166.out) | exact HB.out)⟩⟩
                  ·rw [if_neg c42] at H
                   exact absurd H (by simp)
                 ·rw [if_neg c41] at H
                  exact absurd H (by simp)
                ·rw [if_neg c39] at H
                 exact absurd H (by simp)
               ·rw [if_neg c38] at H
                have c38b0 : decide (x7_3 < (((rd_T62 l0_1 x5_2).f2).length : Int)) = false := decide_eq_false c38
                clear c38
                by_cases c46 : x3_3.size + 1 ≤ 9223372036854775807
                ·rw [if_pos c46] at H
                 have c46b0 := eq_true c46
                 have c46b1 : decide (x3_3.size + 1 ≤ 9223372036854775807) = true := decide_eq_true c46
                 try have c46b2 : (9223372036854775807 < x3_3.size + 1) = False := eq_false (Nat.not_lt.2 c46)
                 have H' := Aside0.mk H
                 clear H
                 have hnb47 := NB166_160.out
                 have hnc47 := NB160_166.out
                 have hcz48_0 : wr.cell? ⟨gb166, 0, none⟩ = some (.int .i64 ((rd_T62 l0_1 x5_2).f0)) := (blk_cell BK166.out 0).trans rfl
                 have hcz48_1 : wr.cell? ⟨gb166, 1, none⟩ = some (.int .i64 ((rd_T62 l0_1 x5_2).f1)) := (blk_cell BK166.out 1).trans rfl
                 have hcz48_2 : wr.cell? ⟨gb166, 2, none⟩ = some (.slice A165_2 ((rd_T62 l0_1 x5_2).f2).length c165_2) := (blk_cell BK166.out 2).trans rfl
                 have hfz48_0 := blk_frozen BK166.out 0
                 have hfz48_1 := blk_frozen BK166.out 1
                 have hfz48_2 := blk_frozen BK166.out 2
                 go_wp2
                 go_roundg k3
                 case measure => have := HK1.out; have := HK2.out; have := HK3.out; omega
                 case rel => exact ⟨(x3_3 ++ (⟨#[10]⟩ : ByteArray)), (wrap64 (x5_2 + 1)), (by first | rfl | (simp; done) | (simp [*]; done)), (by first | rfl | (simp; done) | (simp [*]; done)), H', ⟨by have := HK1.out; have := HK2.out; have := HK3.out; omega⟩, ⟨by (with_reducible repeat first | apply blk_drewN | apply blk_drew | apply blk_alloc); exact BK160.out⟩, ⟨by repeat (first | (with_reducible first | exact HB.out | apply below_alloc | apply pw_below_drewN | apply below_drew1 | refine below_set ?_ GE160.out | refine below_set ?_ GE166.out) | exact HB.out)⟩⟩
                ·rw [if_neg c46] at H
                 exact absurd H (by simp)
            ·rw [if_neg c25] at H
             exact absurd H (by simp)
           ·rw [if_neg c24] at H
            exact absurd H (by simp)
          ·rw [if_neg c22] at H
           exact absurd H (by simp)
         ·rw [if_neg c21] at H
          exact absurd H (by simp)
        ·rw [if_neg c20] at H
         exact absurd H (by simp)
       ·rw [if_neg c18] at H
        exact absurd H (by simp)
      ·rw [if_neg c17] at H
       have c17b0 : decide (x5_2 < (l0_1.length : Int)) = false := decide_eq_false c17
       clear c17
       obtain rfl := Option.some.inj H
       have hcz49_0 : wr.cell? ⟨gb160, 0, none⟩ = some (.slice A0_0 l0_0.length c0_0) := (blk_cell BK160.out 0).trans rfl
       have hcz49_1 : wr.cell? ⟨gb160, 1, none⟩ = some (.slice A0_1 l0_1.length c0_1) := (blk_cell BK160.out 1).trans rfl
       have hfz49_0 := blk_frozen BK160.out 0
       have hfz49_1 := blk_frozen BK160.out 1
       go_wp2
       go_ret
       exact ⟨by first | rfl | (simp [*, errW_none, errW_some] <;> rfl), by repeat (first | (with_reducible first | exact HB.out | apply below_alloc | apply pw_below_drewN | apply below_drew1 | refine below_set ?_ GE160.out) | exact HB.out)⟩

end Go.Proofs.YtohjpgcmhihdhaaDoor.Q

namespace Go.Proofs.YtohjpgcmhihdhaaDoor.Pure
open Go.RowKit Go.Proofs.YtohjpgcmhihdhaaDoor.Q Go.Proofs.YtohjpgcmhihdhaaDoorW.PrintWords Go.Proofs.YtohjpgcmhihdhaaDoorW.PrintLast Go.Proofs.YtohjpgcmhihdhaaDoorW.PrintMore
set_option linter.unusedVariables false
set_option linter.unusedSimpArgs false
/-- bytes as a text -/
def toB (l : List UInt8) : ByteArray := ⟨l.toArray⟩
theorem toB_app (a b : List UInt8) : toB (a ++ b) = toB a ++ toB b := by
  apply ByteArray.ext
  simp [toB]
theorem toB_bytes (s : ByteArray) : toB s.data.toList = s := by
  apply ByteArray.ext
  simp [toB]
theorem app_assoc (a b c : ByteArray) : (a ++ b) ++ c = a ++ (b ++ c) := ByteArray.append_assoc
/-- a small number: what ids, weights and kinds are -/
def Small6 (n : Int) : Prop := -1000000 ≤ n ∧ n ≤ 1000000
theorem small_in {n : Int} (h : Small6 n) : In64 n := ⟨by have := h.1; omega, by have := h.2; omega⟩
theorem dec_le (n : Int) (h : Small6 n) : (decB n).size ≤ 21 := decB_size n (small_in h).1 (small_in h).2
def sp : ByteArray := ⟨#[32]⟩
def nl : ByteArray := ⟨#[10]⟩
theorem node_line (x : S65) : (((((⟨#[110, 111, 100, 101, 32]⟩ : ByteArray) ++ decB x.f0) ++ (⟨#[32]⟩ : ByteArray)) ++ decB x.f1) ++ (⟨#[10]⟩ : ByteArray)) = nodeLine x := by
  unfold nodeLine lineB
  simp only [List.foldl_cons, List.foldl_nil]
  rw [show (⟨#[110, 111, 100, 101, 32]⟩ : ByteArray) = (⟨#[110, 111, 100, 101]⟩ : ByteArray) ++ (⟨#[32]⟩ : ByteArray) from rfl]
  simp only [app_assoc]
section
variable (D : List S65) (B : List S62)
theorem text_items (x3 : ByteArray) (n : Nat) (b0 b1 : Int) (it : List Int) (hit : it.length ≤ 1000) (hs : ∀ y ∈ it, Small6 y) (r : ByteArray) (h : ∀ s2 : ByteArray, s2 = lineB x3 it → Ev (fun k => spec_l06Text.l1 k (s2 ++ (⟨#[10]⟩ : ByteArray)) (wrap64 ((n : Int) + 1)) D B) r) (hx : x3.size ≤ 1000000000) : Ev (fun k => spec_l06Text.l2 k x3 n 0 D B b0 b1 it) r := by
  have key : ∀ (d i : Nat) (s : ByteArray), i + d = it.length → s.size + 22 * d ≤ 1000000000 + 22000 → lineB s (it.drop i) = lineB x3 it → Ev (fun k => spec_l06Text.l2 k s n i D B b0 b1 it) r := fun d => by
    induction d with
    | zero =>
      intro i s hi hsz he
      obtain rfl : i = it.length := by omega
      rw [List.drop_length] at he
      refine Ev.step (fun k => ?_) (h s he)
      simp only [spec_l06Text.l2]
      have h1 : (⟨#[10]⟩ : ByteArray).size = 1 := rfl
      rw [if_neg (by omega), if_pos (by omega)]
    | succ d ih =>
      intro i s hi hsz he
      have hil : i < it.length := by omega
      have hsm := hs _ (List.getElem_mem hil)
      have hd := dec_le _ hsm
      have hz : ((⟨#[32]⟩ : ByteArray) ++ decB it[i]).size = 1 + (decB it[i]).size := size_app _ _
      refine Ev.step (f := ?zf1) (fun k => ?_) ?_
      rotate_left
      · simp only [spec_l06Text.l2]
        rw [if_pos (by omega), if_pos (by omega), rd_get it i hil, up64 i it.length hil (by omega)]
      · refine Ev.bind (num_ev _ hsm.1 hsm.2) ?_
        simp only [if_pos (show 1 + (decB it[i]).size ≤ 9223372036854775807 by omega), if_pos (show s.size + ((⟨#[32]⟩ : ByteArray) ++ decB it[i]).size ≤ 9223372036854775807 by rw [hz]; omega)]
        refine ih (i + 1) _ (by omega) (by rw [size_app, hz]; omega) ?_
        rw [← he, List.drop_eq_getElem_cons hil, lineB_cons]
  exact key it.length 0 x3 (by omega) (by omega) rfl
end
theorem lineB_app (a : ByteArray) : ∀ (l : List Int) (b : ByteArray), lineB (a ++ b) l = a ++ lineB b l
  | [], b => rfl
  | x :: l, b => by rw [lineB_cons, lineB_cons, app_assoc, lineB_app a l]
theorem toB_nil : toB [] = ByteArray.empty := rfl
theorem app_empty (s : ByteArray) : s ++ ByteArray.empty = s := ByteArray.append_empty
theorem kw_rd (k : Int) (h1 : 1 ≤ k) (h3 : k ≤ 3) : rdOf ByteArray.empty ([(⟨#[104, 111, 115, 116]⟩ : ByteArray), (⟨#[114, 97, 99, 107]⟩ : ByteArray), (⟨#[114, 111, 111, 116]⟩ : ByteArray)] : List ByteArray) (wrap64 (k - 1)) = kwB k := by
  rw [show wrap64 (k - 1) = k - 1 from by unfold wrap64; omega]
  have h : k = 1 ∨ k = 2 ∨ k = 3 := by omega
  rcases h with rfl | rfl | rfl <;> rfl
/-- what a bucket is, for its line -/
def BktS (x : S62) : Prop := Small6 x.f0 ∧ (1 ≤ x.f1 ∧ x.f1 ≤ 3) ∧ x.f2.length ≤ 1000 ∧ ∀ y ∈ x.f2, Small6 y
theorem bkt_size (x : S62) (h : BktS x) : (bktLine x).size ≤ 30000 := by
  have h1 := lineB_size (x.f0 :: x.f2) (kwB x.f1) (fun y hy => by
    rcases List.mem_cons.1 hy with e | e
    · rw [e]; exact small_in h.1
    · exact small_in (h.2.2.2 y e))
  have h3 : (⟨#[10]⟩ : ByteArray).size = 1 := rfl
  have h4 := kwB_size x.f1
  have h5 := h.2.2.1
  rw [List.length_cons] at h1
  unfold bktLine
  rw [size_app]
  omega
theorem node_size (x : S65) (h : Small6 x.f0 ∧ Small6 x.f1) : (nodeLine x).size ≤ 1000 := by
  have h1 := lineB_size [x.f0, x.f1] ⟨#[110, 111, 100, 101]⟩ (by simp; exact ⟨small_in h.1, small_in h.2⟩)
  have h2 : (⟨#[110, 111, 100, 101]⟩ : ByteArray).size = 4 := rfl
  have h3 : (⟨#[10]⟩ : ByteArray).size = 1 := rfl
  simp only [List.length_cons, List.length_nil] at h1
  unfold nodeLine
  rw [size_app]
  omega
theorem bkt_line (x : S62) : lineB ((kwB x.f1 ++ (⟨#[32]⟩ : ByteArray)) ++ decB x.f0) x.f2 ++ (⟨#[10]⟩ : ByteArray) = bktLine x := by
  unfold bktLine
  rw [lineB_cons, app_assoc (kwB x.f1)]
theorem bkts_cons (x : S62) (l : List S62) : toB (bktsT (x :: l)) = bktLine x ++ toB (bktsT l) := by
  unfold bktsT
  rw [List.flatMap_cons, toB_app, toB_bytes]
theorem nodes_cons (x : S65) (l : List S65) : toB (nodesT (x :: l)) = nodeLine x ++ toB (nodesT l) := by
  unfold nodesT
  rw [List.flatMap_cons, toB_app, toB_bytes]
theorem text_bkts (D : List S65) (B : List S62) (hB : B.length ≤ 1000) (hb : ∀ x ∈ B, BktS x) : ∀ (d i : Nat) (s : ByteArray), i + d = B.length → s.size + 30000 * d ≤ 900000000 → Ev (fun k => spec_l06Text.l1 k s i D B) (s ++ toB (bktsT (B.drop i)))
  | 0, i, s, hi, hs => by
    obtain rfl : i = B.length := by omega
    rw [List.drop_length, show toB (bktsT ([] : List S62)) = ByteArray.empty from rfl, app_empty]
    refine ev_end (fun k => ?_)
    simp only [spec_l06Text.l1]
    rw [if_neg (by omega)]
  | d + 1, i, s, hi, hs => by
    have hil : i < B.length := by omega
    have hx := hb _ (List.getElem_mem hil)
    have hd := dec_le _ hx.1
    have hkw := kwB_size B[i].f1
    have hsz := bkt_size _ hx
    have h1 : (⟨#[32]⟩ : ByteArray).size = 1 := rfl
    have z1 : (kwB B[i].f1 ++ (⟨#[32]⟩ : ByteArray)).size = 5 := by rw [size_app, hkw, h1]
    have z2 : ((kwB B[i].f1 ++ (⟨#[32]⟩ : ByteArray)) ++ decB B[i].f0).size = 5 + (decB B[i].f0).size := by rw [size_app, z1]
    have hw : wrap64 (B[i].f1 - 1) = B[i].f1 - 1 := by have := hx.2.1; unfold wrap64; omega
    refine Ev.step (f := ?zf1) (fun k => ?_) ?_
    rotate_left
    · simp only [spec_l06Text.l1]
      rw [if_pos (by omega), if_pos (by omega), rd_bkt B i hil, Option.bind_some, if_pos (by rw [hw]; have := hx.2.1; omega), if_pos (by rw [hw]; have := hx.2.1; simp; omega), kw_rd _ hx.2.1.1 hx.2.1.2, if_pos (by omega)]
    · refine Ev.bind (num_ev _ hx.1.1 hx.1.2) ?_
      simp only [if_pos (show (kwB B[i].f1 ++ (⟨#[32]⟩ : ByteArray)).size + (decB B[i].f0).size ≤ 9223372036854775807 by omega), if_pos (show s.size + ((kwB B[i].f1 ++ (⟨#[32]⟩ : ByteArray)) ++ decB B[i].f0).size ≤ 9223372036854775807 by omega)]
      refine text_items D B _ i _ _ _ hx.2.2.1 hx.2.2.2 _ (fun s2 hs2 => ?_) (by rw [size_app]; omega)
      have e2 : s2 ++ (⟨#[10]⟩ : ByteArray) = s ++ bktLine B[i] := by rw [hs2, lineB_app, app_assoc, bkt_line]
      rw [e2, up64 i B.length hil (by omega), List.drop_eq_getElem_cons hil, bkts_cons, ← app_assoc]
      exact text_bkts D B hB hb d (i + 1) _ (by omega) (by rw [size_app]; omega)
theorem text_nodes (D : List S65) (B : List S62) (hD : D.length ≤ 1000) (hd : ∀ x ∈ D, Small6 x.f0 ∧ Small6 x.f1) (r : ByteArray → ByteArray) (hr : ∀ s : ByteArray, s.size ≤ 2000000 → Ev (fun k => spec_l06Text.l1 k s 0 D B) (r s)) : ∀ (d i : Nat) (s : ByteArray), i + d = D.length → s.size + 1000 * d ≤ 2000000 → Ev (fun k => spec_l06Text.l0 k s i D B) (r (s ++ toB (nodesT (D.drop i))))
  | 0, i, s, hi, hs => by
    obtain rfl : i = D.length := by omega
    rw [List.drop_length, show toB (nodesT ([] : List S65)) = ByteArray.empty from rfl, app_empty]
    refine Ev.step (fun k => ?_) (hr s (by omega))
    simp only [spec_l06Text.l0]
    rw [if_neg (by omega)]
  | d + 1, i, s, hi, hs => by
    have hil : i < D.length := by omega
    have hx := hd _ (List.getElem_mem hil)
    have hd0 := dec_le _ hx.1
    have hd1 := dec_le _ hx.2
    have hsz := node_size _ hx
    have h1 : (⟨#[32]⟩ : ByteArray).size = 1 := rfl
    have h5 : (⟨#[110, 111, 100, 101, 32]⟩ : ByteArray).size = 5 := rfl
    have h10 : (⟨#[10]⟩ : ByteArray).size = 1 := rfl
    have hnl := node_line D[i]
    refine Ev.step (f := ?zf1) (fun k => ?_) ?_
    rotate_left
    · simp only [spec_l06Text.l0]
      rw [if_pos (by omega), if_pos (by omega), rd_dev D i hil]
    · refine Ev.bind (num_ev _ hx.1.1 hx.1.2) ?_
      simp only [if_pos (show 5 + (decB D[i].f0).size ≤ 9223372036854775807 by omega), if_pos (show ((⟨#[110, 111, 100, 101, 32]⟩ : ByteArray) ++ decB D[i].f0).size + 1 ≤ 9223372036854775807 by rw [size_app]; omega)]
      refine Ev.bind (num_ev _ hx.2.1 hx.2.2) ?_
      simp only [hnl, if_pos (show (((⟨#[110, 111, 100, 101, 32]⟩ : ByteArray) ++ decB D[i].f0) ++ (⟨#[32]⟩ : ByteArray)).size + (decB D[i].f1).size ≤ 9223372036854775807 by rw [size_app, size_app]; omega), if_pos (show ((((⟨#[110, 111, 100, 101, 32]⟩ : ByteArray) ++ decB D[i].f0) ++ (⟨#[32]⟩ : ByteArray)) ++ decB D[i].f1).size + 1 ≤ 9223372036854775807 by rw [size_app, size_app, size_app]; omega), if_pos (show s.size + (nodeLine D[i]).size ≤ 9223372036854775807 by omega)]
      rw [up64 i D.length hil (by omega), List.drop_eq_getElem_cons hil, nodes_cons, ← app_assoc]
      exact text_nodes D B hD hd r hr d (i + 1) _ (by omega) (by rw [size_app]; omega)
/-- the topology's text -/
def treeB8 (D : List S65) (B : List S62) : ByteArray := ⟨(nodesT D ++ bktsT B).toArray⟩
theorem treeB8_eq (D : List S65) (B : List S62) : treeB8 D B = toB (nodesT D) ++ toB (bktsT B) := toB_app _ _
/-- what a valid topology holds, for its text -/
structure TextOk (D : List S65) (B : List S62) : Prop where
  dl : D.length ≤ 1000
  bl : B.length ≤ 1000
  d : ∀ x ∈ D, Small6 x.f0 ∧ Small6 x.f1
  b : ∀ x ∈ B, BktS x
theorem text_ev (D : List S65) (B : List S62) (H : TextOk D B) : Ev (fun k => spec_l06Text.f k D B) (treeB8 D B) := by
  have h := text_nodes D B H.dl H.d (fun s => s ++ toB (bktsT B)) (fun s hs => by
    have := text_bkts D B H.bl H.b B.length 0 s (by omega) (by have := H.bl; omega)
    rw [List.drop_zero] at this
    exact this) D.length 0 (⟨#[]⟩ : ByteArray) (by omega) (by have := H.dl; have h0 : (⟨#[]⟩ : ByteArray).size = 0 := rfl; omega)
  rw [List.drop_zero] at h
  have e : ((⟨#[]⟩ : ByteArray) ++ toB (nodesT D)) ++ toB (bktsT B) = treeB8 D B := by
    rw [treeB8_eq, show (⟨#[]⟩ : ByteArray) = ByteArray.empty from rfl, ByteArray.empty_append]
  rw [← e]
  exact h
theorem valid_text {D : List S65} {B : List S62} (V : Valid D B) : TextOk D B := by
  refine ⟨by have := V.dev; omega, by have := V.bkt; omega, fun x hx => ?_, fun x hx => ?_⟩
  · obtain ⟨i, hi, rfl⟩ := List.mem_iff_getElem.1 hx
    have := V.devs i hi
    unfold Small6
    omega
  · obtain ⟨i, hi, rfl⟩ := List.mem_iff_getElem.1 hx
    have hb := V.bkts i hi
    refine ⟨by unfold Small6; omega, hb.2.1, by omega, fun y hy => ?_⟩
    have hk := (item_kind V i hi y hy).1
    by_cases c : 1 ≤ kindAt D B y
    · obtain ⟨n, hn, -, e, -⟩ := kindAt_bucket V y c
      have := V.bkts n hn
      unfold Small6
      omega
    · have e0 : kindAt D B y = if 0 ≤ devAt D y then 0 else if bucketAt B y < 0 then -1 else (rd_T62 B (bucketAt B y)).f1 := rfl
      rcases devAt_hit D y with e | ⟨n, hn, -, e⟩
      · rw [e0, e, if_neg (by omega)] at hk c
        rcases bucketAt_hit B y with e2 | ⟨n, hn, e2, e3⟩
        · rw [e2, if_pos (by omega)] at hk; omega
        · have := V.bkts n hn
          unfold Small6
          omega
      · have := V.devs n hn
        unfold Small6
        omega

end Go.Proofs.YtohjpgcmhihdhaaDoor.Pure

namespace Go.Proofs.YtohjpgcmhihdhaaDoor.Q
open Go.RowKit Go.Proofs.YtohjpgcmhihdhaaDoorW.PrintWords Go.Proofs.YtohjpgcmhihdhaaDoorW.PrintLast Go.Proofs.YtohjpgcmhihdhaaDoorW.PrintMore
set_option linter.unusedVariables false
/-- a topology that reads so -/
structure TreeC (w : World) (A0 : Option Addr) (c0 : Nat) (D : List (S65)) (A1 : Option Addr) (c1 : Nat) (B : List (S62)) : Prop where
  d : Kd.C k65 w A0 D.length D
  hd : D.length ≤ c0
  b : Kd.C k62 w A1 B.length B
  hb : B.length ≤ c1
theorem TreeC.below {w w' : World} {A0 A1 : Option Addr} {c0 c1 : Nat} {D : List (S65)} {B : List (S62)} (h : TreeC w A0 c0 D A1 c1 B) (hb : Below w.heap.size w w') : TreeC w' A0 c0 D A1 c1 B :=
  ⟨Kd.C_below h.d hb, h.hd, Kd.C_below h.b hb, h.hb⟩
theorem toTreeC.calls (k : Nat) (A0_0 : Option Addr) (c0_0 : Nat) (l0_0 : List (S68)) (A0_1 : Option Addr) (c0_1 : Nat) (l0_1 : List (S60)) (r1 : List (S65)) (r2 : List (S62)) (w : World) (hr0_0 : Kd.C k68 w A0_0 l0_0.length l0_0) (hc0_0 : l0_0.length ≤ c0_0) (hr0_1 : Kd.C k60 w A0_1 l0_1.length l0_1) (hc0_1 : l0_1.length ≤ c0_1) (h : laws_toTree.f k l0_0 l0_1 = some (r1, r2)) :
    Calls Tryd.prog 7 #[.agg #[.slice A0_0 l0_0.length c0_0, .slice A0_1 l0_1.length c0_1]] w fun e w' => ∃ (A0 : Option Addr) (c0 : Nat) (A1 : Option Addr) (c1 : Nat), e = .returned (.agg #[.slice A0 r1.length c0, .slice A1 r2.length c1]) ∧ TreeC w' A0 c0 r1 A1 c1 r2 ∧ Below w.heap.size w w' :=
  (laws_toTree.calls k A0_0 c0_0 l0_0 A0_1 c0_1 l0_1 r1 r2 w hr0_0 hc0_0 hr0_1 hc0_1 h).mono fun e w' ⟨v0, v1, he, h0, h1, hb⟩ => by
    obtain ⟨A0, c0, e0, hl0, hC0⟩ := Kd.R_reads h0
    obtain ⟨A1, c1, e1⟩ := Kd.S_slice h1
    subst e0 e1
    obtain ⟨-, hl1, hC1⟩ := Kd.S_reads' h1
    exact ⟨A0, c0, A1, c1, he, ⟨hC0, hl0, hC1, hl1⟩, hb⟩
/-- whole numbers that read so -/
structure IntsC (w : World) (A : Option Addr) (c : Nat) (l : List Int) : Prop where
  r : Kd.C (Kd.int .i64) w A l.length l
  h : l.length ≤ c
theorem IntsC.below {w w' : World} {A : Option Addr} {c : Nat} {l : List Int} (h : IntsC w A c l) (hb : Below w.heap.size w w') : IntsC w' A c l := ⟨Kd.C_below h.r hb, h.h⟩
theorem toIntsC.calls (k : Nat) (A0 : Option Addr) (c0 : Nat) (l0 : List Int) (r1 : List Int) (w : World) (hr0 : Kd.C (Kd.int .i64) w A0 l0.length l0) (hc0 : l0.length ≤ c0) (h : laws_toInt64S.f k l0 = some r1) :
    Calls Tryd.prog 62 #[.slice A0 l0.length c0] w fun e w' => ∃ (A : Option Addr) (c : Nat), e = .returned (.slice A r1.length c) ∧ IntsC w' A c r1 ∧ Below w.heap.size w w' :=
  (laws_toInt64S.calls k A0 c0 l0 r1 w hr0 hc0 h).mono fun e w' ⟨v0, he, h0, hb⟩ => by
    obtain ⟨A, c, e0, hl0, hC0⟩ := Kd.R_reads h0
    subst e0
    exact ⟨A, c, he, ⟨hC0, hl0⟩, hb⟩

end Go.Proofs.YtohjpgcmhihdhaaDoor.Q

namespace Go.Proofs.YtohjpgcmhihdhaaDoor.Q
open Go.RowKit Go.Proofs.YtohjpgcmhihdhaaDoorW.PrintWords Go.Proofs.YtohjpgcmhihdhaaDoorW.PrintLast Go.Proofs.YtohjpgcmhihdhaaDoorW.PrintMore
attribute [local go_sem] max2_int min2_int max_two min_two max_three min_three max_four min_four   -- for this text's walks alone
set_option linter.unusedVariables false
set_option linter.unusedSimpArgs false
/-! ### spec_TreeText: function 6 -/
def spec_TreeText.f (k : Nat) (l0_0 : List (S65)) (l0_1 : List (S62)) : Option (ByteArray × Int) := (spec_l06OK.f k l0_0 l0_1).bind fun t175 => (if t175 = true then ((spec_l06Text.f k l0_0 l0_1).bind fun t176 => (some (t176, 0))) else (some ((⟨#[]⟩ : ByteArray), 1)))
set_option maxHeartbeats 8000000 in
set_option maxRecDepth 100000 in
theorem spec_TreeText.calls (k : Nat) (A0_0 : Option Addr) (c0_0 : Nat) (l0_0 : List (S65)) (A0_1 : Option Addr) (c0_1 : Nat) (l0_1 : List (S62)) (r1 : ByteArray) (r2 : Int) (w : World) (hr0_0 : Kd.C k65 w A0_0 l0_0.length l0_0) (hc0_0 : l0_0.length ≤ c0_0) (hr0_1 : Kd.C k62 w A0_1 l0_1.length l0_1) (hc0_1 : l0_1.length ≤ c0_1) (h : spec_TreeText.f k l0_0 l0_1 = some (r1, r2)) :
    Calls Tryd.prog 6 #[.agg #[.slice A0_0 l0_0.length c0_0, .slice A0_1 l0_1.length c0_1]] w fun e w' => e = .returned (.tuple #[.string r1, .int .i64 r2]) ∧ Below w.heap.size w w' := by
  have hu32 := Tryd.underlying32
  have HR0_0 := Aside0.mk hr0_0
  have HC0_0 := Aside0.mk hc0_0
  clear hr0_0 hc0_0
  have HR0_1 := Aside0.mk hr0_1
  have HC0_1 := Aside0.mk hc0_1
  clear hr0_1 hc0_1
  have HB := Aside0.mk (Below.refl w.heap.size w)
  have H : ((spec_l06OK.f k l0_0 l0_1).bind fun t175 => (if t175 = true then ((spec_l06Text.f k l0_0 l0_1).bind fun t176 => (some (t176, 0))) else (some ((⟨#[]⟩ : ByteArray), 1)))) = some (r1, r2) := h
  clear h
  replace H := Option.bind_eq_some_iff.mp H
  obtain ⟨t175, A20, H⟩ := H
  set_option simprocs false in try dsimp only at H
  have A2 := Aside0.mk A20
  clear A20
  by_cases c3 : t175 = true
  · subst c3
    rw [if_pos rfl] at H
    replace H := Option.bind_eq_some_iff.mp H
    obtain ⟨t176, A40, H⟩ := H
    set_option simprocs false in try dsimp only at H
    have A4 := Aside0.mk A40
    clear A40
    simp only [Option.some.injEq, Prod.mk.injEq] at H
    obtain ⟨rfl, rfl⟩ := H
    go_enter Tryd.func6, Tryd.ntmps6
    go_wp2_with (first | ((with_reducible refine gate_dst (N := 1) rfl ?_); refine box_event ?hg (N := 1) ?hd (cs := #[.slice A0_0 l0_0.length c0_0, .slice A0_1 l0_1.length c0_1]) (t := 32) ?hr ?_; (case hd => rfl); (case hg => rfl); (case hr => first | (go_simp; done) | (go_simp; rfl)); intro gb174 hg w5 hbox hb; have n0_ := Aside0.mk (below_step (by repeat first | exact HB.out | apply pw_below_drewN) hb); have n1_ := Aside0.mk (hbox); clear HB; have HB := n0_; have BK174 := n1_; clear n0_ n1_; clear hb hbox hg; have hcz6_0 := (blk_cell BK174.out 0).trans rfl; have hcz6_1 := (blk_cell BK174.out 1).trans rfl) | ((with_reducible refine gate_callee (f := 15) rfl ?_); refine goesL_ (some 5) rfl rfl Tryd.func15 (by kernel_rfl) rfl #[.agg #[.slice A0_0 l0_0.length c0_0, .slice A0_1 l0_1.length c0_1]] rfl (by (try simp only [List.map_toArray, List.map_cons, List.map_nil]); first | done | rfl) ?_; (with_reducible refine (spec_l06OK.calls k _ _ l0_0 _ _ l0_1 true _ ?side1 ?side2 ?side3 ?side4 A2.out).mono ?_); (case side1 => exact (Kd.C_below HR0_0.out HB.out)); (case side2 => exact HC0_0.out); (case side3 => exact (Kd.C_below HR0_1.out HB.out)); (case side4 => exact HC0_1.out); rintro e w7 ⟨rfl, hb⟩; refine ⟨_, rfl, ?_⟩; have n0_ := Aside0.mk (blk_below (by exact BK174.out) hb); have n1_ := Aside0.mk (below_step (by repeat first | exact HB.out | apply pw_below_drewN) hb); clear BK174; clear HB; have BK174 := n0_; have HB := n1_; clear n0_ n1_; (try clear hb); (try clear hb2); (try clear hk); (try clear hi); have hcz8_0 := (blk_cell BK174.out 0).trans rfl; have hcz8_1 := (blk_cell BK174.out 1).trans rfl) | ((with_reducible refine gate_callee (f := 16) rfl ?_); refine goesL_ (some 8) rfl rfl Tryd.func16 (by kernel_rfl) rfl #[.agg #[.slice A0_0 l0_0.length c0_0, .slice A0_1 l0_1.length c0_1]] rfl (by (try simp only [List.map_toArray, List.map_cons, List.map_nil]); first | done | rfl) ?_; (with_reducible refine (spec_l06Text.calls k _ _ l0_0 _ _ l0_1 t176 _ ?side1 ?side2 ?side3 ?side4 A4.out).mono ?_); (case side1 => exact (Kd.C_below HR0_0.out HB.out)); (case side2 => exact HC0_0.out); (case side3 => exact (Kd.C_below HR0_1.out HB.out)); (case side4 => exact HC0_1.out); rintro e w9 ⟨rfl, hb⟩; refine ⟨_, rfl, ?_⟩; have n0_ := Aside0.mk (blk_below (by exact BK174.out) hb); have n1_ := Aside0.mk (below_step (by repeat first | exact HB.out | apply pw_below_drewN) hb); clear BK174; clear HB; have BK174 := n0_; have HB := n1_; clear n0_ n1_; (try clear hb); (try clear hb2); (try clear hk); (try clear hi)))
    go_ret2
    exact ⟨by first | rfl | (simp [*, errW_none, errW_some] <;> rfl), by repeat first | exact HB.out | apply pw_below_drewN⟩
  · replace c3 := Bool.eq_false_iff.mpr c3
    subst c3
    rw [if_neg (show ¬ (false = true) by decide)] at H
    simp only [Option.some.injEq, Prod.mk.injEq] at H
    obtain ⟨rfl, rfl⟩ := H
    go_enter Tryd.func6, Tryd.ntmps6
    go_wp2_with (first | ((with_reducible refine gate_dst (N := 1) rfl ?_); refine box_event ?hg (N := 1) ?hd (cs := #[.slice A0_0 l0_0.length c0_0, .slice A0_1 l0_1.length c0_1]) (t := 32) ?hr ?_; (case hd => rfl); (case hg => rfl); (case hr => first | (go_simp; done) | (go_simp; rfl)); intro gb174 hg w10 hbox hb; have n0_ := Aside0.mk (below_step (by repeat first | exact HB.out | apply pw_below_drewN) hb); have n1_ := Aside0.mk (hbox); clear HB; have HB := n0_; have BK174 := n1_; clear n0_ n1_; clear hb hbox hg; have hcz11_0 := (blk_cell BK174.out 0).trans rfl; have hcz11_1 := (blk_cell BK174.out 1).trans rfl) | ((with_reducible refine gate_callee (f := 15) rfl ?_); refine goesL_ (some 5) rfl rfl Tryd.func15 (by kernel_rfl) rfl #[.agg #[.slice A0_0 l0_0.length c0_0, .slice A0_1 l0_1.length c0_1]] rfl (by (try simp only [List.map_toArray, List.map_cons, List.map_nil]); first | done | rfl) ?_; (with_reducible refine (spec_l06OK.calls k _ _ l0_0 _ _ l0_1 false _ ?side1 ?side2 ?side3 ?side4 A2.out).mono ?_); (case side1 => exact (Kd.C_below HR0_0.out HB.out)); (case side2 => exact HC0_0.out); (case side3 => exact (Kd.C_below HR0_1.out HB.out)); (case side4 => exact HC0_1.out); rintro e w12 ⟨rfl, hb⟩; refine ⟨_, rfl, ?_⟩; have n0_ := Aside0.mk (blk_below (by exact BK174.out) hb); have n1_ := Aside0.mk (below_step (by repeat first | exact HB.out | apply pw_below_drewN) hb); clear BK174; clear HB; have BK174 := n0_; have HB := n1_; clear n0_ n1_; (try clear hb); (try clear hb2); (try clear hk); (try clear hi)))
    go_ret2
    exact ⟨by first | rfl | (simp [*, errW_none, errW_some] <;> rfl), by repeat first | exact HB.out | apply pw_below_drewN⟩

end Go.Proofs.YtohjpgcmhihdhaaDoor.Q

namespace Go.Proofs.YtohjpgcmhihdhaaDoor.Pure
open Go.RowKit Go.Proofs.YtohjpgcmhihdhaaDoor.Q Go.Proofs.YtohjpgcmhihdhaaDoorW.PrintWords Go.Proofs.YtohjpgcmhihdhaaDoorW.PrintLast Go.Proofs.YtohjpgcmhihdhaaDoorW.PrintMore
set_option linter.unusedVariables false
set_option linter.unusedSimpArgs false
theorem textOk_walk {D : List S65} {B : List S62} (H : TextOk D B) : (∀ x ∈ D, In64 x.f0 ∧ In64 x.f1) ∧ ∀ x ∈ B, In64 x.f0 ∧ (1 ≤ x.f1 ∧ x.f1 ≤ 3) ∧ x.f2.length ≤ 1000 ∧ ∀ y ∈ x.f2, In64 y :=
  ⟨fun x hx => ⟨small_in (H.d x hx).1, small_in (H.d x hx).2⟩, fun x hx => ⟨small_in (H.b x hx).1, (H.b x hx).2.1, (H.b x hx).2.2.1, fun y hy => small_in ((H.b x hx).2.2.2 y hy)⟩⟩
/-- the program's answer: the text, and which error -/
def textAns (D : List S65) (B : List S62) (o : Bool) : ByteArray × Int := if o = true then (treeB8 D B, 0) else (⟨#[]⟩, 1)
set_option maxHeartbeats 2000000 in
set_option maxRecDepth 100000 in
theorem treeTextI_at (k : Nat) (A0 : Option Addr) (c0 : Nat) (D : List S65) (A1 : Option Addr) (c1 : Nat) (B : List S62) (o : Bool) (w : World) (hr0 : Kd.C k65 w A0 D.length D) (hc0 : D.length ≤ c0) (hr1 : Kd.C k62 w A1 B.length B) (hc1 : B.length ≤ c1) (ho : impl_TreeOk.f k D B = some o) (hok : o = true → TextOk D B) (ht : TabW w) :
    Calls Tryd.prog 8 #[.agg #[.slice A0 D.length c0, .slice A1 B.length c1]] w fun e w' => e = .returned (.tuple #[.string (textAns D B o).1, .int .i64 (textAns D B o).2]) ∧ Below w.heap.size w w' := by
  have HR0 := Aside0.mk hr0
  have HR1 := Aside0.mk hr1
  have HC0 := Aside0.mk hc0
  have HC1 := Aside0.mk hc1
  have HO := Aside0.mk ho
  have HK := Aside0.mk hok
  have HT := Aside0.mk ht
  clear hr0 hr1 hc0 hc1 ho hok ht
  go_enter Tryd.func8, Tryd.ntmps8
  go_wp2_with fail
  have BA := Aside0.mk (blk_new w (.cells #[.slice A0 D.length c0, .slice A1 B.length c1] 32))
  have HB := Aside0.mk (below_alloc (Below.refl w.heap.size w) (.cells #[.slice A0 D.length c0, .slice A1 B.length c1] 32))
  generalize (w.alloc (.cells #[.slice A0 D.length c0, .slice A1 B.length c1] 32)) = w1 at BA HB ⊢
  (with_reducible refine (impl_TreeOk.calls k A0 c0 D A1 c1 B o _ (Kd.C_below HR0.out HB.out) HC0.out (Kd.C_below HR1.out HB.out) HC1.out HO.out).mono ?_)
  rintro e w2 ⟨rfl, hb⟩
  replace BA := Aside0.mk (blk_below BA.out hb)
  replace HB := Aside0.mk (below_step HB.out hb)
  clear hb
  have hBA0 := (blk_cell BA.out 0).trans rfl
  have hBA1 := (blk_cell BA.out 1).trans rfl
  cases o with
  | false =>
    go_wp2_with fail
    go_ret2
    exact ⟨rfl, HB.out⟩
  | true =>
    have H := Aside0.mk (HK.out rfl)
    clear HK
    go_wp2_with fail
    refine (treeText_at A0 c0 D A1 c1 B _ (Kd.C_below HR0.out HB.out) HC0.out (Kd.C_below HR1.out HB.out) HC1.out H.out.dl H.out.bl (textOk_walk H.out).1 (textOk_walk H.out).2 (HT.out.on HB.out)).mono ?_
    rintro e w3 ⟨rfl, hb⟩
    replace HB := Aside0.mk (below_step HB.out hb)
    clear hb hBA0 hBA1 BA
    go_wp2_with fail
    go_ret2
    exact ⟨rfl, HB.out⟩
set_option maxHeartbeats 8000000 in
set_option maxRecDepth 100000 in
theorem lawTreeText_at (k : Nat) (A0_0 : Option Addr) (c0_0 : Nat) (l0_0 : List S68) (A0_1 : Option Addr) (c0_1 : Nat) (l0_1 : List S60) (t1 : Int) (D : List S65) (B : List S62) (o : Bool) (w : World) (hr0_0 : Kd.C k68 w A0_0 l0_0.length l0_0) (hc0_0 : l0_0.length ≤ c0_0) (hr0_1 : Kd.C k60 w A0_1 l0_1.length l0_1) (hc0_1 : l0_1.length ≤ c0_1)
    (e1 : laws_szTree.f k l0_0 l0_1 1048576 = some t1) (e2 : 0 ≤ t1 → laws_toTree.f k l0_0 l0_1 = some (D, B) ∧ spec_TreeText.f k D B = some (textAns D B o) ∧ impl_TreeOk.f k D B = some o ∧ (o = true → TextOk D B) ∧ laws_eqTree.f k D B D B = some true) (ht : TabW w) :
    Calls Tryd.prog 3 #[.agg #[.slice A0_0 l0_0.length c0_0, .slice A0_1 l0_1.length c0_1]] w fun e w' => e = .returned (.bool true) ∧ Below w.heap.size w w' := by
  have HA0 := Aside0.mk hr0_0
  have HA1 := Aside0.mk hr0_1
  have HC0 := Aside0.mk hc0_0
  have HC1 := Aside0.mk hc0_1
  have E1 := Aside0.mk e1
  have H0 := Aside0.mk e2
  have HT := Aside0.mk ht
  clear hr0_0 hr0_1 hc0_0 hc0_1 e1 e2 ht
  go_enter Tryd.func3, Tryd.ntmps3
  go_wp2_with fail
  have BA := Aside0.mk (blk_new w (.cells #[.slice A0_0 l0_0.length c0_0, .slice A0_1 l0_1.length c0_1] 25))
  have HB := Aside0.mk (below_alloc (Below.refl w.heap.size w) (.cells #[.slice A0_0 l0_0.length c0_0, .slice A0_1 l0_1.length c0_1] 25))
  generalize (w.alloc (.cells #[.slice A0_0 l0_0.length c0_0, .slice A0_1 l0_1.length c0_1] 25)) = w1 at BA HB ⊢
  (with_reducible refine (laws_szTree.calls k A0_0 c0_0 l0_0 A0_1 c0_1 l0_1 1048576 t1 _ (Kd.C_below HA0.out HB.out) HC0.out (Kd.C_below HA1.out HB.out) HC1.out E1.out).mono ?_)
  rintro e w2 ⟨rfl, hb⟩
  replace BA := Aside0.mk (blk_below BA.out hb)
  replace HB := Aside0.mk (below_step HB.out hb)
  clear hb
  have hBA0 := (blk_cell BA.out 0).trans rfl
  have hBA1 := (blk_cell BA.out 1).trans rfl
  by_cases d1 : t1 < 0
  case pos =>
    have db := decide_eq_true d1
    clear d1
    go_wp2_with fail
    go_ret
    exact ⟨rfl, HB.out⟩
  obtain ⟨E2, E3, E4, E5, E6⟩ := H0.out (by omega)
  replace E2 := Aside0.mk E2
  replace E3 := Aside0.mk E3
  replace E4 := Aside0.mk E4
  replace E5 := Aside0.mk E5
  replace E6 := Aside0.mk E6
  clear H0
  obtain ⟨⟨s, s2⟩, es⟩ : ∃ q, textAns D B o = q := ⟨_, rfl⟩
  replace E3 := Aside0.mk (E3.out.trans (congrArg some es))
  have ES := Aside0.mk es
  clear es
  have db1 := decide_eq_false d1
  clear d1
  go_wp2_with fail
  clear db1
  (with_reducible refine (toTreeC.calls k A0_0 c0_0 l0_0 A0_1 c0_1 l0_1 D B _ (Kd.C_below HA0.out HB.out) HC0.out (Kd.C_below HA1.out HB.out) HC1.out E2.out).mono ?_)
  rintro e w12 ⟨P0, p0, P1, p1, rfl, TP, hb⟩
  clear hBA0 hBA1
  replace BA := Aside0.mk (blk_below BA.out hb)
  replace HB := Aside0.mk (below_step HB.out hb)
  clear hb
  have hBA0 := (blk_cell BA.out 0).trans rfl
  have hBA1 := (blk_cell BA.out 1).trans rfl
  replace TP := Aside0.mk TP
  go_wp2_with fail
  (with_reducible refine (spec_TreeText.calls k P0 p0 D P1 p1 B s s2 _ TP.out.d TP.out.hd TP.out.b TP.out.hb E3.out).mono ?_)
  rintro e w13 ⟨rfl, hb⟩
  clear hBA0 hBA1
  replace BA := Aside0.mk (blk_below BA.out hb)
  replace HB := Aside0.mk (below_step HB.out hb)
  replace TP := Aside0.mk (TP.out.below hb)
  clear hb
  have hBA0 := (blk_cell BA.out 0).trans rfl
  have hBA1 := (blk_cell BA.out 1).trans rfl
  go_wp2_with fail
  clear TP
  (with_reducible refine (toTreeC.calls k A0_0 c0_0 l0_0 A0_1 c0_1 l0_1 D B _ (Kd.C_below HA0.out HB.out) HC0.out (Kd.C_below HA1.out HB.out) HC1.out E2.out).mono ?_)
  rintro e w14 ⟨X0, x0, X1, x1, rfl, TX, hb⟩
  clear hBA0 hBA1
  replace BA := Aside0.mk (blk_below BA.out hb)
  replace HB := Aside0.mk (below_step HB.out hb)
  clear hb
  have hBA0a := fun o => (blk_cell (blk_alloc BA.out o) 0).trans rfl
  have hBA1a := fun o => (blk_cell (blk_alloc BA.out o) 1).trans rfl
  have hBA0 := (blk_cell BA.out 0).trans rfl
  have hBA1 := (blk_cell BA.out 1).trans rfl
  replace TX := Aside0.mk TX
  go_wp2_with fail
  have hb := below_alloc (Below.refl w14.heap.size w14) (.cells #[.slice X0 D.length x0, .slice X1 B.length x1] 32)
  have BX := Aside0.mk (blk_new w14 (.cells #[.slice X0 D.length x0, .slice X1 B.length x1] 32))
  clear hBA0 hBA1
  clear hBA0a hBA1a
  replace BA := Aside0.mk (blk_below BA.out hb)
  replace HB := Aside0.mk (below_step HB.out hb)
  replace TX := Aside0.mk (TX.out.below hb)
  clear hb
  generalize (w14.alloc (.cells #[.slice X0 D.length x0, .slice X1 B.length x1] 32)) = wx at BA HB TX BX ⊢
  generalize w14.heap.size = gx at BX ⊢
  have hBA0 := (blk_cell BA.out 0).trans rfl
  have hBA1 := (blk_cell BA.out 1).trans rfl
  have hBX0 := (blk_cell BX.out 0).trans rfl
  have hBX1 := (blk_cell BX.out 1).trans rfl
  (refine (treeTextI_at k X0 x0 D X1 x1 B o _ TX.out.d TX.out.hd TX.out.b TX.out.hb E4.out E5.out (HT.out.on HB.out)).mono ?_)
  rintro e w15 ⟨he, hb⟩
  rw [ES.out] at he
  subst he
  clear hBA0 hBA1 hBX0 hBX1
  replace BA := Aside0.mk (blk_below BA.out hb)
  replace HB := Aside0.mk (below_step HB.out hb)
  replace TX := Aside0.mk (TX.out.below hb)
  replace BX := Aside0.mk (blk_below BX.out hb)
  clear hb
  have hBA0 := (blk_cell BA.out 0).trans rfl
  have hBA1 := (blk_cell BA.out 1).trans rfl
  have hBX0 := (blk_cell BX.out 0).trans rfl
  have hBX1 := (blk_cell BX.out 1).trans rfl
  go_wp2_with fail
  have HK := Aside0.mk (show ∀ w', Below w15.heap.size w15 w' → (fun w' => w'.cell? ⟨w.heap.size, 0, none⟩ = some (.slice A0_0 l0_0.length c0_0) ∧ w'.cell? ⟨w.heap.size, 1, none⟩ = some (.slice A0_1 l0_1.length c0_1) ∧ w'.cell? ⟨gx, 0, none⟩ = some (.slice X0 D.length x0) ∧ w'.cell? ⟨gx, 1, none⟩ = some (.slice X1 B.length x1) ∧ Below w15.heap.size w15 w') w' from fun w' h => ⟨(h.cell (blk_lt BA.out)).trans hBA0, (h.cell (blk_lt BA.out)).trans hBA1, (h.cell (blk_lt BX.out)).trans hBX0, (h.cell (blk_lt BX.out)).trans hBX1, h⟩)
  go_region_held3 (fun w' => w'.cell? ⟨w.heap.size, 0, none⟩ = some (.slice A0_0 l0_0.length c0_0) ∧ w'.cell? ⟨w.heap.size, 1, none⟩ = some (.slice A0_1 l0_1.length c0_1) ∧ w'.cell? ⟨gx, 0, none⟩ = some (.slice X0 D.length x0) ∧ w'.cell? ⟨gx, 1, none⟩ = some (.slice X1 B.length x1) ∧ Below w15.heap.size w15 w') (first | exact HK.out _ hbb | exact HK.out _ (below_drew1 (Below.refl _ _)) | exact HK.out _ (Below.refl _ _)) (first | (go_at_call 7; go_split_ands; (with_reducible refine (toTreeC.calls k A0_0 c0_0 l0_0 A0_1 c0_1 l0_1 D B _ (Kd.C_below HA0.out (below_step HB.out (show Below w15.heap.size w15 _ by assumption))) HC0.out (Kd.C_below HA1.out (below_step HB.out (show Below w15.heap.size w15 _ by assumption))) HC1.out E2.out).mono ?_); rintro e wz ⟨Z0, z0, Z1, z1, rfl, TZ, hb⟩; have hbb : Below w15.heap.size w15 _ := below_step (by assumption) hb) | (go_at_call 9; go_split_ands; (with_reducible refine (laws_eqTree.calls k X0 x0 D X1 x1 B Z0 z0 D Z1 z1 B true _ (TX.out.below (show Below w15.heap.size w15 _ by assumption)).d TX.out.hd (TX.out.below (show Below w15.heap.size w15 _ by assumption)).b TX.out.hb TZ.d TZ.hd TZ.b TZ.hb E6.out).mono ?_); rintro e wy ⟨rfl, hb⟩; have hbb : Below w15.heap.size w15 _ := below_step (by assumption) hb))
  have hb := hbb
  clear hBA0 hBA1 hBX0 hBX1
  replace BA := Aside0.mk (blk_below BA.out hb)
  replace HB := Aside0.mk (below_step HB.out hb)
  replace TX := Aside0.mk (TX.out.below hb)
  replace BX := Aside0.mk (blk_below BX.out hb)
  clear hb HK
  clear TZ
  have hBA0 := (blk_cell BA.out 0).trans rfl
  have hBA1 := (blk_cell BA.out 1).trans rfl
  have hBX0 := (blk_cell BX.out 0).trans rfl
  have hBX1 := (blk_cell BX.out 1).trans rfl
  go_wp2_with fail
  go_ret
  exact ⟨rfl, HB.out⟩

end Go.Proofs.YtohjpgcmhihdhaaDoor.Pure

namespace Go.Proofs.YtohjpgcmhihdhaaDoorW.PrintMore
open Go.RowKit Go.Proofs.YtohjpgcmhihdhaaDoorW.PrintWords Go.Proofs.YtohjpgcmhihdhaaDoorW.PrintLast Go.Proofs.YtohjpgcmhihdhaaDoor.Q Go.Proofs.YtohjpgcmhihdhaaDoor.Pure
attribute [local go_sem] Oper.semAt_some
set_option linter.unusedVariables false
set_option linter.unusedSimpArgs false
/-- a line without its end -/
def trimNl (x : ByteArray) : ByteArray := ⟨(Lib.trimSuffix x.data.toList (⟨#[10]⟩ : ByteArray).data.toList).toArray⟩
/-- lines read one behind the other (k: at least as many as there are bytes) -/
def readL : Nat → ByteArray → List S65 → List S62 → Option (List S65 × List S62)
  | 0, _, D, B => some (D, B)
  | k + 1, r, D, B => if r.size = 0 then some (D, B) else (addM D B (trimNl (cutL r).1)).bind fun y => readL k (cutL r).2 y.1 y.2
def readM (s : ByteArray) : Option (List S65 × List S62) := readL s.size s [] []
theorem readL_end (k : Nat) (r : ByteArray) (D : List S65) (B : List S62) (h : r.size = 0) : readL k r D B = some (D, B) := by
  cases k with
  | zero => rfl
  | succ k => unfold readL; rw [if_pos h]
theorem cutL_size (r : ByteArray) (h : 0 < r.size) : (cutL r).2.size < r.size ∧ (cutL r).1.size ≤ r.size := by
  unfold cutL
  split
  · rw [ByteArray.size_extract, ByteArray.size_extract]
    omega
  · exact ⟨h, Nat.le_refl _⟩
theorem trimNl_size (x : ByteArray) : (trimNl x).size ≤ x.size := by
  unfold trimNl Lib.trimSuffix
  split
  · show (List.take _ x.data.toList).toArray.size ≤ x.data.size
    rw [List.size_toArray, List.length_take, Array.length_toList]
    omega
  · exact Nat.le_refl _
/-- a line adds one at most -/
theorem addM_len {D D' : List S65} {B B' : List S62} {s : ByteArray} (h : addM D B s = some (D', B')) : D'.length + B'.length = D.length + B.length + 1 := by
  unfold addM at h
  obtain ⟨⟨w, n⟩, -, h⟩ := Option.bind_eq_some_iff.1 h
  cases n with
  | nil => cases h
  | cons a r =>
    simp only at h
    split at h
    · cases h
    · split at h
      · split at h
        · injection h with h; injection h with h1 h2; subst h1; subst h2; simp; omega
        · cases h
      · injection h with h; injection h with h1 h2; subst h1; subst h2; simp; omega
/-- what lies in memory while the text is read -/
structure RdS (w0 W : World) (g2 g3 gt bs : Nat) (x : ByteArray) (v0 v1 : Value) (D : List S65) (B : List S62) : Prop where
  t : TreeAt gt W gt v0 v1 D B
  b2 : W.heap[g2]? = some (.cells #[.slice none 0 0, .slice none 0 0] 32 (0, 0))
  b3 : W.heap[g3]? = some (.cells #[.int .i64 0] 2 (0, 0))
  bx : W.heap[bs]? = some (.cells #[.string x] 9 (0, 0))
  bl : Below w0.heap.size w0 W
/-- the blocks' numbers -/
structure RdG (w0 : World) (g2 g3 gt bs : Nat) : Prop where
  l2 : w0.heap.size ≤ g2
  l3 : w0.heap.size ≤ g3
  lt : w0.heap.size ≤ gt
  lb : w0.heap.size ≤ bs
  n2 : g2 ≠ gt
  h3 : g3 < gt
section
variable {w0 W W' : World} {g2 g3 gt bs : Nat} {x y : ByteArray} {v0 v1 : Value} {D : List S65} {B : List S62}
theorem TreeAt.move {base : Nat} (h : TreeAt base W gt v0 v1 D B) (hm : ∀ (k : Nat) (cs : Array Value) (q : Nat), W.heap[k]? = some (.cells cs q (0, 0)) → W'.heap[k]? = W.heap[k]?) : TreeAt base W' gt v0 v1 D B := by
  refine ⟨(hm _ _ _ h.box).trans h.box, Kd.R_mono (Kd.R_move (Kd.R_bound h.d) (fun k hk => ?_)) (fun _ _ => trivial), Kd.S_mono (Kd.S_move (Kd.S_bound h.b) (fun k hk => ?_)) (fun _ _ => trivial)⟩
  · obtain ⟨_, _, _, q, _, cs, hc⟩ := hk
    exact hm _ _ _ hc
  · obtain ⟨_, _, _, q, _, cs, hc⟩ := hk
    exact hm _ _ _ hc
theorem RdS.put (h : RdS w0 W g2 g3 gt bs x v0 v1 D B) {k : Nat} {o : Obj} (hk : W.heap[k]? = some o) (ho : o.isCells = false) (o' : Obj) (hb : w0.heap.size ≤ k) : RdS w0 (W.putObj k o') g2 g3 gt bs x v0 v1 D B := by
  have hm : ∀ (j : Nat) (cs : Array Value) (q : Nat), W.heap[j]? = some (.cells cs q (0, 0)) → (W.putObj k o').heap[j]? = W.heap[j]? := fun j cs q hj => World.putObj_heap_other (fun e => by subst e; rw [hk] at hj; injection hj with hj; subst hj; cases ho)
  refine ⟨h.t.move hm, (hm _ _ _ h.b2).trans h.b2, (hm _ _ _ h.b3).trans h.b3, (hm _ _ _ h.bx).trans h.bx, h.bl.grown (grownBy_putObj' W k o') (by have := (Array.getElem?_eq_some_iff.1 hk).1; have := h.bl.size; omega) (fun j e => by cases e; exact hb)⟩
theorem RdS.alloc (h : RdS w0 W g2 g3 gt bs x v0 v1 D B) (o : Obj) : RdS w0 (W.alloc o) g2 g3 gt bs x v0 v1 D B := by
  have hb := below_alloc (Below.refl W.heap.size W) o
  exact ⟨h.t.below hb, blk_below h.b2 hb, blk_below h.b3 hb, blk_below h.bx hb, below_alloc h.bl o⟩
theorem RdS.drew (h : RdS w0 W g2 g3 gt bs x v0 v1 D B) : RdS w0 W.drew g2 g3 gt bs x v0 v1 D B := by
  have hb := below_drew1 (Below.refl W.heap.size W)
  exact ⟨h.t.below hb, h.b2, h.b3, h.bx, below_drew1 h.bl⟩
theorem RdS.below (h : RdS w0 W g2 g3 gt bs x v0 v1 D B) (hb : Below W.heap.size W W') : RdS w0 W' g2 g3 gt bs x v0 v1 D B :=
  ⟨h.t.below hb, blk_below h.b2 hb, blk_below h.b3 hb, blk_below h.bx hb, below_step h.bl hb⟩
/-- the results are stored -/
theorem RdS.store (h : RdS w0 W g2 g3 gt bs x v0 v1 D B) (hn : g2 ≠ gt) (h3 : g3 < gt) (l2 : w0.heap.size ≤ g2) (l3 : w0.heap.size ≤ g3) (u0 u1 u2 : Value) :
    Kd.R k65 65 (((W.setCell ⟨g2, 0, none⟩ u0).setCell ⟨g2, 1, none⟩ u1).setCell ⟨g3, 0, none⟩ u2) gt (fun _ => True) v0 D ∧ Kd.S kqB 62 (((W.setCell ⟨g2, 0, none⟩ u0).setCell ⟨g2, 1, none⟩ u1).setCell ⟨g3, 0, none⟩ u2) gt (fun _ => True) v1 B ∧
    (((W.setCell ⟨g2, 0, none⟩ u0).setCell ⟨g2, 1, none⟩ u1).setCell ⟨g3, 0, none⟩ u2).heap[g2]? = some (.cells #[u0, u1] 32 (0, 0)) ∧
    (((W.setCell ⟨g2, 0, none⟩ u0).setCell ⟨g2, 1, none⟩ u1).setCell ⟨g3, 0, none⟩ u2).heap[g3]? = some (.cells #[u2] 2 (0, 0)) ∧ Below w0.heap.size w0 (((W.setCell ⟨g2, 0, none⟩ u0).setCell ⟨g2, 1, none⟩ u1).setCell ⟨g3, 0, none⟩ u2) := by
  have n23 := blk_ne h.b2 h.b3 (by decide)
  have b1 : (W.setCell ⟨g2, 0, none⟩ u0).heap[g2]? = some (.cells #[u0, .slice none 0 0] 32 (0, 0)) := blk_put h.b2 0 _ rfl
  have b2 : ((W.setCell ⟨g2, 0, none⟩ u0).setCell ⟨g2, 1, none⟩ u1).heap[g2]? = some (.cells #[u0, u1] 32 (0, 0)) := blk_put b1 1 _ rfl
  have c2 : ((W.setCell ⟨g2, 0, none⟩ u0).setCell ⟨g2, 1, none⟩ u1).heap[g3]? = some (.cells #[.int .i64 0] 2 (0, 0)) := blk_far (blk_far h.b3 n23.symm _) n23.symm _
  have d2 := Kd.R_set (Kd.R_set h.t.d h.b2 (by decide) 0 u0) b1 (by decide) 1 u1
  have e2 := Kd.S_set (Kd.S_set h.t.b h.b2 (by decide) 0 u0) b1 (by decide) 1 u1
  refine ⟨Kd.R_set d2 c2 (by decide) 0 u2, ?_, blk_far b2 n23 _, blk_put c2 0 _ rfl, ((h.bl.setCell l2 _).setCell l2 _).setCell l3 _⟩
  exact Kd.S_mono (Kd.S_far (p := ⟨g3, 0, none⟩) (Kd.S_mono (Kd.S_bound e2) (ok' := fun k => k ≠ g3) (fun k hk => by have := hk.2.1; omega)) (fun k hk => hk) u2) (fun _ _ => trivial)
theorem RdS.fin (h : RdS w0 W g2 g3 gt bs x v0 v1 D B) (hG : RdG w0 g2 g3 gt bs) {DD : Nat} (hD : W.heap[DD]? = some (.deferred (some []))) (hg : w0.heap.size ≤ DD) (u0 u1 u2 : Value) {W' : World} (hW : W' = ((W.setCell ⟨g2, 0, none⟩ u0).setCell ⟨g2, 1, none⟩ u1).setCell ⟨g3, 0, none⟩ u2) :
    W'.heap[DD]? = some (.deferred (some [])) ∧ Kd.R k65 65 (W'.putObj DD (.deferred none)) w0.heap.size (fun _ => True) v0 D ∧ Kd.S kqB 62 (W'.putObj DD (.deferred none)) w0.heap.size (fun _ => True) v1 B ∧
    (W'.putObj DD (.deferred none)).heap[g2]? = some (.cells #[u0, u1] 32 (0, 0)) ∧ (W'.putObj DD (.deferred none)).heap[g3]? = some (.cells #[u2] 2 (0, 0)) ∧ Below w0.heap.size w0 (W'.putObj DD (.deferred none)) := by
  obtain ⟨s1, s2, s3, s4, s5⟩ := h.store hG.n2 hG.h3 hG.l2 hG.l3 u0 u1 u2
  have n2 : DD ≠ g2 := fun e => by have := h.b2; rw [← e, hD] at this; cases this
  have n3 : DD ≠ g3 := fun e => by have := h.b3; rw [← e, hD] at this; cases this
  have hD' : W'.heap[DD]? = some (.deferred (some [])) := by
    rw [hW]
    exact (Below.heap_setCell _ ⟨g3, 0, none⟩ u2 DD n3).trans ((Below.heap_setCell _ ⟨g2, 1, none⟩ u1 DD n2).trans ((Below.heap_setCell _ ⟨g2, 0, none⟩ u0 DD n2).trans hD))
  rw [← hW] at s1 s2 s3 s4 s5
  have nd : ∀ (j : Nat) (cs : Array Value) (q : Nat), W'.heap[j]? = some (.cells cs q (0, 0)) → (W'.putObj DD (.deferred none)).heap[j]? = W'.heap[j]? := fun j cs q hj => World.putObj_heap_other (fun e => by subst e; rw [hD'] at hj; cases hj)
  refine ⟨hD', Kd.R_mono (Kd.R_move (Kd.R_bound (Kd.R_lower s1 hG.lt)) (fun k hk => ?_)) (fun _ _ => trivial), Kd.S_mono (Kd.S_move (Kd.S_bound (Kd.S_lower s2 hG.lt)) (fun k hk => ?_)) (fun _ _ => trivial), (nd _ _ _ s3).trans s3, (nd _ _ _ s4).trans s4, s5.grown (grownBy_putObj' W' DD _) (by have := (Array.getElem?_eq_some_iff.1 hD').1; have := s5.size; omega) (fun j e => by cases e; exact hg)⟩
  · obtain ⟨_, _, _, q, _, cs, hc⟩ := hk
    exact nd _ _ _ hc
  · obtain ⟨_, _, _, q, _, cs, hc⟩ := hk
    exact nd _ _ _ hc
/-- the text in the box is cut -/
theorem RdS.cut (h : RdS w0 W g2 g3 gt bs x v0 v1 D B) (hg : w0.heap.size ≤ bs) : RdS w0 (W.setCell ⟨bs, 0, none⟩ (.string y)) g2 g3 gt bs y v0 v1 D B := by
  have n2 := blk_ne h.b2 h.bx (by decide)
  have n3 := blk_ne h.b3 h.bx (by decide)
  have nt := blk_ne h.t.box h.bx (by decide)
  exact ⟨⟨blk_far h.t.box nt _, Kd.R_set h.t.d h.bx (by decide) 0 _, Kd.S_set h.t.b h.bx (by decide) 0 _⟩, blk_far h.b2 n2 _, blk_far h.b3 n3 _, blk_put h.bx 0 _ rfl, h.bl.setCell hg _⟩
/-- a line was added -/
theorem RdS.line {v0' v1' : Value} {D' : List S65} {B' : List S62} (h : RdS w0 W g2 g3 gt bs x v0 v1 D B) (hn : g2 ≠ gt) (hk : Kept W W' (AddS gt v0 v1)) (hb : Below w0.heap.size W W') (ht : TreeAt gt W' gt v0' v1' D' B') : RdS w0 W' g2 g3 gt bs x v0' v1' D' B' := by
  have far : ∀ (k : Nat) (cs : Array Value) (q : Nat), W.heap[k]? = some (.cells cs q (0, 0)) → k ≠ gt → 65 ≠ q → 62 ≠ q → W'.heap[k]? = some (.cells cs q (0, 0)) := fun k cs q hc h1 h2 h3 =>
    blk_kept hc hk (fun hs => by
      rcases hs with e | e | e
      · exact h1 e
      · exact Kd.R_ne h.t.d hc h2 e.symm
      · exact Kd.R_ne (Kd.S_R h.t.b) hc h3 e.symm)
  exact ⟨ht, far _ _ _ h.b2 hn (by decide) (by decide), far _ _ _ h.b3 (blk_ne h.b3 h.t.box (by decide)) (by decide) (by decide), far _ _ _ h.bx (blk_ne h.bx h.t.box (by decide)) (by decide) (by decide), h.bl.trans hb⟩
/-- the results' cells lie as they lay -/
theorem RdS.res (h : RdS w0 W g2 g3 gt bs x v0 v1 D B) (hn : g2 ≠ gt) (hk : Kept W W' (AddS gt v0 v1)) : W'.heap[g2]? = some (.cells #[.slice none 0 0, .slice none 0 0] 32 (0, 0)) ∧ W'.heap[g3]? = some (.cells #[.int .i64 0] 2 (0, 0)) := by
  have far : ∀ (k : Nat) (cs : Array Value) (q : Nat), W.heap[k]? = some (.cells cs q (0, 0)) → k ≠ gt → 65 ≠ q → 62 ≠ q → W'.heap[k]? = some (.cells cs q (0, 0)) := fun k cs q hc h1 h2 h3 =>
    blk_kept hc hk (fun hs => by
      rcases hs with e | e | e
      · exact h1 e
      · exact Kd.R_ne h.t.d hc h2 e.symm
      · exact Kd.R_ne (Kd.S_R h.t.b) hc h3 e.symm)
  exact ⟨far _ _ _ h.b2 hn (by decide) (by decide), far _ _ _ h.b3 (blk_ne h.b3 h.t.box (by decide)) (by decide) (by decide)⟩
/-- a line's adding keeps what is no cells -/
theorem RdS.others (h : RdS w0 W g2 g3 gt bs x v0 v1 D B) (hk : Kept W W' (AddS gt v0 v1)) : KeepsOthers W W' := by
  refine ⟨hk.1, fun k o ho hc => (hk.2 k (Array.getElem?_eq_some_iff.1 ho).1 (fun hs => ?_)).trans ho⟩
  have key : ∀ (cs : Array Value) (q : Nat), W.heap[k]? = some (.cells cs q (0, 0)) → False := fun cs q e => by
    rw [ho] at e; injection e with e; subst e; cases hc
  rcases hs with e | e | e
  · subst e; exact key _ _ h.t.box
  · obtain ⟨cs, hcs⟩ := Kd.R_typed h.t.d k e; exact key _ _ hcs
  · obtain ⟨cs, hcs⟩ := Kd.S_typed h.t.b k e; exact key _ _ hcs
end
theorem lines_mk (s : ByteArray) (w : World) : Calls Tryd.prog 25 #[.string s] w fun e w' => e = .returned (.func (.func 50) #[] #[.pointer (some ⟨w.heap.size, 0, none⟩)]) ∧ w' = w.alloc (.cells #[.string s] 9) := by
  go_enter Tryd.func25, Tryd.ntmps25
  go_wp2_with fail
  go_ret
  exact ⟨rfl, rfl⟩
theorem run_loadVar_int (w : World) (g : Nat) (v : Value) (h : w.cell? ⟨g, 0, none⟩ = some v) : (loadVar 2 ⟨g, 0, none⟩).run Tryd.prog w = .ok v w := by
  simp [loadVar, go_sem, Tryd.isAgg2, h]
theorem results_ci {fn : Func} {p p' : Tmp} {ty : TypeId} (h : fn.results = #[.cell p ty, .cell p' 2]) (tmps : Array Value) (w : World) (g g' : Nat) (u v : Value)
    (hp : tmps.getD p undef = .pointer (some ⟨g, 0, none⟩)) (hu : (loadVar ty ⟨g, 0, none⟩).run Tryd.prog w = .ok u w)
    (hp' : tmps.getD p' undef = .pointer (some ⟨g', 0, none⟩)) (hv : w.cell? ⟨g', 0, none⟩ = some v) :
    (results fn tmps).run Tryd.prog w = .ok (.tuple #[u, v]) w := by
  have h1 : tmps[p]?.getD undef = .pointer (some ⟨g, 0, none⟩) := by simpa using hp
  have h2 : tmps[p']?.getD undef = .pointer (some ⟨g', 0, none⟩) := by simpa using hp'
  simp [results, h, h1, h2, asAddr, hu, run_loadVar_int w g' v hv]
/-- what ReadTree hands back -/
def ReadOut (s : ByteArray) (ok : List S65 → List S62 → Bool) (e : Ending) (w w' : World) : Prop :=
  ∃ u0 u1 c, e = .returned (.tuple #[.agg #[u0, u1], .int .i64 c]) ∧ Below w.heap.size w w' ∧
    ((∃ D B, readM s = some (D, B) ∧ ok D B = true ∧ treeB8 D B = s ∧ c = 0 ∧ Kd.R k65 65 w' w.heap.size (fun _ => True) u0 D ∧ Kd.S kqB 62 w' w.heap.size (fun _ => True) u1 B) ∨
     (c = 7 ∧ u0 = .slice none 0 0 ∧ u1 = .slice none 0 0 ∧ ∀ D B, readM s = some (D, B) → ok D B = true → treeB8 D B ≠ s))
/-- between two lines -/
def RdI (s : ByteArray) (w : World) (g2 g3 gt bs : Nat) (r : ByteArray) (W : World) : Prop :=
  ∃ D B v0 v1 k, RdS w W g2 g3 gt bs r v0 v1 D B ∧ r.size ≤ k ∧ readL k r D B = readM s ∧ D.length + B.length + r.size ≤ s.size
/-- a line is cut, and not yet added -/
def RdI2 (s : ByteArray) (w : World) (g2 g3 gt bs : Nat) (x r : ByteArray) (W : World) : Prop :=
  ∃ D B v0 v1 k, RdS w W g2 g3 gt bs r v0 v1 D B ∧ r.size ≤ k ∧ ((addM D B (trimNl x)).bind fun y => readL k r y.1 y.2) = readM s ∧ D.length + B.length + 1 + r.size ≤ s.size ∧ x.size ≤ s.size
/-- a line was none -/
def RdX (s : ByteArray) (w : World) (g2 g3 : Nat) (c : Code) (W : World) : Prop :=
  c = .ret ∧ readM s = none ∧ W.heap[g2]? = some (.cells #[.slice none 0 0, .slice none 0 0] 32 (0, 0)) ∧ W.heap[g3]? = some (.cells #[.int .i64 7] 2 (0, 0)) ∧ Below w.heap.size w W
theorem RdI.cut {s : ByteArray} {w W : World} {g2 g3 gt bs : Nat} {r : ByteArray} (h : RdI s w g2 g3 gt bs r W) (hg : w.heap.size ≤ bs) (hr : 0 < r.size) : RdI2 s w g2 g3 gt bs (cutL r).1 (cutL r).2 (W.setCell ⟨bs, 0, none⟩ (.string (cutL r).2)) := by
  obtain ⟨D, B, v0, v1, k, h1, h2, h3, h4⟩ := h
  have hc := cutL_size r hr
  cases k with
  | zero => omega
  | succ k =>
    refine ⟨D, B, v0, v1, k, h1.cut hg, by omega, ?_, by omega, by omega⟩
    unfold readL at h3
    rw [if_neg (by omega)] at h3
    exact h3
theorem RdI2.drew {s : ByteArray} {w W : World} {g2 g3 gt bs : Nat} {x r : ByteArray} (h : RdI2 s w g2 g3 gt bs x r W) : RdI2 s w g2 g3 gt bs x r W.drew := by
  obtain ⟨D, B, v0, v1, k, h1, h2⟩ := h
  exact ⟨D, B, v0, v1, k, h1.drew, h2⟩
theorem RdX.put {s : ByteArray} {w W : World} {g2 g3 : Nat} {c : Code} (h : RdX s w g2 g3 c W) {k : Nat} {o : Obj} (hk : W.heap[k]? = some o) (ho : o.isCells = false) (o' : Obj) (hb : w.heap.size ≤ k) : RdX s w g2 g3 c (W.putObj k o') := by
  obtain ⟨h1, h2, h3, h4, h5⟩ := h
  have hm : ∀ (j : Nat) (cs : Array Value) (q : Nat), W.heap[j]? = some (.cells cs q (0, 0)) → (W.putObj k o').heap[j]? = W.heap[j]? := fun j cs q hj => World.putObj_heap_other (fun e => by subst e; rw [hk] at hj; injection hj with hj; subst hj; cases ho)
  exact ⟨h1, h2, (hm _ _ _ h3).trans h3, (hm _ _ _ h4).trans h4, h5.grown (grownBy_putObj' W k o') (by have := (Array.getElem?_eq_some_iff.1 hk).1; have := h5.size; omega) (fun j e => by cases e; exact hb)⟩
theorem rds_start (s : ByteArray) (w : World) : RdS w ((((w.alloc (.cells #[.slice none 0 0, .slice none 0 0] 32)).alloc (.cells #[.int .i64 0] 2)).alloc (.cells #[.slice none 0 0, .slice none 0 0] 32)).alloc (.cells #[.string s] 9)) w.heap.size (w.heap.size + 1) (w.heap.size + 1 + 1) (w.heap.size + 1 + 1 + 1) s (.slice none 0 0) (.slice none 0 0) [] [] := by
  refine ⟨⟨?_, Kd.R_nil _ _ _ _ _, Kd.S_nil _ _ _ _ _⟩, ?_, ?_, ?_, below_alloc (below_alloc (below_alloc (below_alloc (Below.refl _ _) _) _) _) _⟩
  · have h := blk_alloc (blk_new ((w.alloc (.cells #[.slice none 0 0, .slice none 0 0] 32)).alloc (.cells #[.int .i64 0] 2)) (.cells #[.slice none 0 0, .slice none 0 0] 32)) (.cells #[.string s] 9)
    rw [World.size_alloc, World.size_alloc] at h
    exact h
  · exact blk_alloc (blk_alloc (blk_alloc (blk_new w (.cells #[.slice none 0 0, .slice none 0 0] 32)) _) _) _
  · have h := blk_alloc (blk_alloc (blk_new (w.alloc (.cells #[.slice none 0 0, .slice none 0 0] 32)) (.cells #[.int .i64 0] 2)) (.cells #[.slice none 0 0, .slice none 0 0] 32)) (.cells #[.string s] 9)
    rw [World.size_alloc] at h
    exact h
  · have h := blk_new (((w.alloc (.cells #[.slice none 0 0, .slice none 0 0] 32)).alloc (.cells #[.int .i64 0] 2)).alloc (.cells #[.slice none 0 0, .slice none 0 0] 32)) (.cells #[.string s] 9)
    rw [World.size_alloc, World.size_alloc, World.size_alloc] at h
    exact h
theorem RdI.put {s : ByteArray} {w W : World} {g2 g3 gt bs : Nat} {r : ByteArray} (h : RdI s w g2 g3 gt bs r W) {k : Nat} {o : Obj} (hk : W.heap[k]? = some o) (ho : o.isCells = false) (o' : Obj) (hb : w.heap.size ≤ k) : RdI s w g2 g3 gt bs r (W.putObj k o') := by
  obtain ⟨D, B, v0, v1, q, h1, h2⟩ := h
  exact ⟨D, B, v0, v1, q, h1.put hk ho o' hb, h2⟩
theorem RdI2.put {s : ByteArray} {w W : World} {g2 g3 gt bs : Nat} {x r : ByteArray} (h : RdI2 s w g2 g3 gt bs x r W) {k : Nat} {o : Obj} (hk : W.heap[k]? = some o) (ho : o.isCells = false) (o' : Obj) (hb : w.heap.size ≤ k) : RdI2 s w g2 g3 gt bs x r (W.putObj k o') := by
  obtain ⟨D, B, v0, v1, q, h1, h2⟩ := h
  exact ⟨D, B, v0, v1, q, h1.put hk ho o' hb, h2⟩
theorem RdI.alloc {s : ByteArray} {w W : World} {g2 g3 gt bs : Nat} {r : ByteArray} (h : RdI s w g2 g3 gt bs r W) (o : Obj) : RdI s w g2 g3 gt bs r (W.alloc o) := by
  obtain ⟨D, B, v0, v1, q, h1, h2⟩ := h
  exact ⟨D, B, v0, v1, q, h1.alloc o, h2⟩
theorem RdI.box {s : ByteArray} {w W : World} {g2 g3 gt bs : Nat} {r : ByteArray} (h : RdI s w g2 g3 gt bs r W) (hs : s.size ≤ 1048576) : W.cell? ⟨bs, 0, none⟩ = some (.string r) ∧ W.frozen? ⟨bs, 0, none⟩ = false ∧ r.size ≤ 1048576 := by
  obtain ⟨D, B, v0, v1, q, h1, h2, h3, h4⟩ := h
  exact ⟨(blk_cell h1.bx 0).trans rfl, blk_frozen h1.bx 0, by omega⟩
set_option maxHeartbeats 8000000 in
set_option maxRecDepth 100000 in
theorem readTree_at (s : ByteArray) (w : World) (hs : s.size ≤ 1048576) (hD : DoorW w) (ok : List S65 → List S62 → Bool) (hok : ∀ D B, readM s = some (D, B) → ∃ k, impl_TreeOk.f k D B = some (ok D B) ∧ (ok D B = true → TextOk D B)) :
    Calls Tryd.prog 11 #[.string s] w fun e w' => ReadOut s ok e w w' := by
  have HS := Aside0.mk hs
  have HD := Aside0.mk hD
  have HO := Aside0.mk hok
  clear hs hD hok
  refine (callsIn_wide (n := 5)).1 ?_
  refine callsIn_of_wp_marks Tryd.func11 rfl trivial ?_ rfl
  simp only [Tryd.ntmps11, List.size_toArray, List.length_cons, List.length_nil, Nat.reduceAdd, Nat.reduceSub, Array.replicate_succ, Array.replicate_zero, List.push_toArray, List.append_toArray, List.nil_append, List.cons_append]
  gi_wp2
  refine ⟨trivial, (callsIn_wide.2 (lines_mk s _)).mono ?_⟩
  rintro e w' ⟨rfl, rfl⟩
  gi_wp2
  have h0 := rds_start s w
  generalize ((((w.alloc (.cells #[.slice none 0 0, .slice none 0 0] 32)).alloc (.cells #[.int .i64 0] 2)).alloc (.cells #[.slice none 0 0, .slice none 0 0] 32)).alloc (.cells #[.string s] 9)) = W1 at h0 ⊢
  obtain ⟨g2, e2⟩ : ∃ g, g = w.heap.size := ⟨_, rfl⟩
  obtain ⟨g3, e3⟩ : ∃ g, g = w.heap.size + 1 := ⟨_, rfl⟩
  obtain ⟨gt, e4⟩ : ∃ g, g = w.heap.size + 1 + 1 := ⟨_, rfl⟩
  obtain ⟨bs, e5⟩ : ∃ g, g = w.heap.size + 1 + 1 + 1 := ⟨_, rfl⟩
  rw [← e5, ← e4, ← e3, ← e2] at h0
  rw [← e5, ← e4, ← e3, ← e2]
  have HG := Aside0.mk (show RdG w g2 g3 gt bs from ⟨by omega, by omega, by omega, by omega, by omega, by omega⟩)
  clear e2 e3 e4 e5
  have hW := h0.bl.size
  refine range_lines (by omega) bs (by rfl) (enters_of Tryd.func50 (by kernel_rfl) rfl) (RdI s w g2 g3 gt bs) (RdI2 s w g2 g3 gt bs) (RdX s w g2 g3)
    (fun r W o h => h.alloc o) (fun r W k o o' hk h ho hc => h.put ho hc o' (by omega)) (fun x r W k o o' hk h ho hc => h.put ho hc o' (by omega)) (fun c W k o o' hk h ho hc => h.put ho hc o' (by omega))
    (fun r W h => h.box HS.out) (fun r W h hr => ⟨h.cut HG.out.lb hr, (h.cut HG.out.lb hr).drew⟩) s ⟨[], [], _, _, s.size, h0, Nat.le_refl _, rfl, by simp⟩
    (fun x => { tmps := #[.string s, undef, .pointer (some ⟨g2, 0, none⟩), .pointer (some ⟨g3, 0, none⟩), .pointer (some ⟨gt, 0, none⟩), .string x, .string s, .func (.func 50) #[] #[.pointer (some ⟨bs, 0, none⟩)], .string x, undef, undef, undef, undef, undef, undef, undef, undef, undef, undef, undef, undef, undef, undef, undef, undef], defers := [] }) ?assign ?body ?done ?stop
  case assign =>
    intro l x W K hK
    gi_wp2
    exact hK
  case body =>
    rintro l x r W ⟨D, B, v0, v1, k, hR, hk, hL, hlen, hx⟩
    have HR := Aside0.mk hR
    have HL := Aside0.mk hL
    have HE := Aside0.mk hlen
    have HK := Aside0.mk hk
    have htx := trimNl_size x
    have hx9 : x.size ≤ 9223372036854775807 := by have := HS.out; omega
    have hx2 : (trimNl x).size ≤ 1048576 := by have := HS.out; omega
    have hdl : D.length ≤ 2097152 ∧ B.length ≤ 2097152 := by have := HS.out; omega
    clear hR hL hlen hk htx
    gi_wp2
    refine ⟨trivial, CallsIn.inRound l ((callsIn_wide.2 (Tryd.strings_TrimSuffix x ⟨#[10]⟩ W hx9)).mono ?_)⟩
    rintro e w' ⟨rfl, rfl⟩
    gi_wp2
    refine ⟨trivial, CallsIn.inRound l ((callsIn_wide.2 (addLine_at gt gt (trimNl x) v0 v1 D B _ hx2 (HD.out.on HR.out.bl) HR.out.t (Nat.le_refl _) hdl.1 hdl.2)).mono ?_)⟩
    rintro e w3 ⟨rfl, hnew, hb, hkp⟩
    have HN := Aside0.mk hnew
    have HB := Aside0.mk (hb.mono HG.out.lt)
    have HKP := Aside0.mk hkp
    have HO2 := Aside0.mk (HR.out.others hkp)
    obtain ⟨hr2, hr3⟩ := HR.out.res HG.out.n2 hkp
    have HR2 := Aside0.mk hr2
    have HR3 := Aside0.mk hr3
    clear hnew hb hkp hr2 hr3 hx9 hx2 hdl
    cases hadd : addM D B (trimNl x) with
    | none =>
      rw [hadd] at HL
      have n23 := blk_ne HR2.out HR3.out (by decide)
      have HN23 := Aside0.mk n23
      have c0 := (blk_cell HR2.out 0).trans rfl
      have c1 := (blk_cell HR2.out 1).trans rfl
      have c2 := (blk_cell HR3.out 0).trans rfl
      have f0 := blk_frozen HR2.out 0
      have f1 := blk_frozen HR2.out 1
      have f2 := blk_frozen HR3.out 0
      have n32 := n23.symm
      simp only [Option.isSome_none]
      gi_wp2
      exact ⟨HO2.out.trans (((KeepsOthers.setCell _ _ _).trans (KeepsOthers.setCell _ _ _)).trans (KeepsOthers.setCell _ _ _)), rfl, HL.out.symm, blk_far (blk_put (cs := #[.slice none 0 0, .slice none 0 0]) (blk_put HR2.out 0 _ rfl) 1 _ rfl) HN23.out _, blk_put (cs := #[.int .i64 0]) (blk_far (blk_far HR3.out HN23.out.symm _) HN23.out.symm _) 0 _ rfl, (((HR.out.bl.trans HB.out).setCell HG.out.l2 _).setCell HG.out.l2 _).setCell HG.out.l3 _⟩
    | some y =>
      obtain ⟨D', B'⟩ := y
      rw [hadd] at HL
      obtain ⟨v0', v1', ht⟩ := HN.out D' B' hadd
      have hl2 := addM_len hadd
      have HR4 := Aside0.mk (HR.out.line HG.out.n2 HKP.out HB.out ht)
      clear ht
      simp only [Option.isSome_some]
      gi_wp2
      exact ⟨HO2.out, D', B', v0', v1', k, HR4.out, HK.out, HL.out, by have := HE.out; omega⟩
  case done =>
    rintro DD r W hDg hr ⟨D, B, v0, v1, k, hR, hk, hL, hlen⟩ hD
    have HRM := Aside0.mk (show readM s = some (D, B) from by rw [← hL, readL_end k r D B hr])
    have HR := Aside0.mk hR
    obtain ⟨k1, hk1, htx⟩ := HO.out D B HRM.out
    have HK1 := Aside0.mk hk1
    have HTX := Aside0.mk htx
    have HDD := Aside0.mk hD
    clear hR hk hL hlen hk1 htx hD hr
    obtain ⟨A0, c0, e0, hl0, hC0⟩ := Kd.R_reads HR.out.t.d
    obtain ⟨A1, c1, e1⟩ := Kd.S_slice HR.out.t.b
    subst e0 e1
    obtain ⟨-, hl1, hC1⟩ := Kd.S_reads' HR.out.t.b
    have HC0 := Aside0.mk hC0
    have HC1 := Aside0.mk (kqB_C hC1)
    have HL0 := Aside0.mk hl0
    have HL1 := Aside0.mk hl1
    clear hC0 hC1 hl0 hl1
    have t0 := (blk_cell HR.out.t.box 0).trans rfl
    have t1 := (blk_cell HR.out.t.box 1).trans rfl
    gi_wp2
    refine ⟨trivial, (callsIn_wide.2 (impl_TreeOk.calls k1 A0 c0 D A1 c1 B (ok D B) W HC0.out HL0.out HC1.out HL1.out HK1.out)).mono ?_⟩
    rintro e W2 ⟨rfl, hb⟩
    have HDD2 := Aside0.mk (show W2.heap[DD]? = some (.deferred (some [])) from blk_below HDD.out hb)
    have HR2 := Aside0.mk (HR.out.below hb)
    have HC02 := Aside0.mk (Kd.C_below HC0.out hb)
    have HC12 := Aside0.mk (Kd.C_below HC1.out hb)
    clear hb HR HDD HC0 HC1 t0 t1
    have t0 := (blk_cell HR2.out.t.box 0).trans rfl
    have t1 := (blk_cell HR2.out.t.box 1).trans rfl
    have c0' := (blk_cell HR2.out.b2 0).trans rfl
    have c1' := (blk_cell HR2.out.b2 1).trans rfl
    have c2' := (blk_cell HR2.out.b3 0).trans rfl
    have f0 := blk_frozen HR2.out.b2 0
    have f1 := blk_frozen HR2.out.b2 1
    have f2 := blk_frozen HR2.out.b3 0
    have n23 := blk_ne HR2.out.b2 HR2.out.b3 (by decide)
    have n32 := n23.symm
    cases hokv : ok D B with
    | false =>
      gi_wp2
      refine ⟨trivial, ?_⟩
      gi_wp2
      obtain ⟨s0, s1, s2, s3, s4, s5⟩ := HR2.out.fin HG.out HDD2.out (by omega) (.slice none 0 0) (.slice none 0 0) (.int .i64 7) rfl
      refine ⟨by simp, .inl ⟨_, _, rfl, run_takeDeferred s0, ?_⟩⟩
      refine ⟨_, results_ci rfl _ _ g2 g3 (.agg #[.slice none 0 0, .slice none 0 0]) (.int .i64 7) rfl (run_loadVar_row _ g2 32 32 _ (0, 0) _ s3 Tryd.underlying32 rfl (by kernel_rfl)) rfl ((blk_cell s4 0).trans rfl), ?_⟩
      exact ⟨_, _, 7, rfl, s5, .inr ⟨rfl, rfl, rfl, fun D2 B2 h h2 => by rw [HRM.out] at h; injection h with h; injection h with e1 e2; subst e1; subst e2; rw [hokv] at h2; cases h2⟩⟩
    | true =>
      have HTO := Aside0.mk (HTX.out hokv)
      gi_wp2
      refine ⟨trivial, (callsIn_wide.2 (treeText_at A0 c0 D A1 c1 B _ HC02.out HL0.out HC12.out HL1.out HTO.out.dl HTO.out.bl (textOk_walk HTO.out).1 (textOk_walk HTO.out).2 (HD.out.tab.on HR2.out.bl))).mono ?_⟩
      rintro e W3 ⟨rfl, hb⟩
      have HDD3 := Aside0.mk (show W3.heap[DD]? = some (.deferred (some [])) from blk_below HDD2.out hb)
      have HR3 := Aside0.mk (HR2.out.below hb)
      clear hb HR2 HDD2 HC02 HC12 t0 t1 c0' c1' c2' f0 f1 f2 n23 n32
      have t0 := (blk_cell HR3.out.t.box 0).trans rfl
      have t1 := (blk_cell HR3.out.t.box 1).trans rfl
      have c0' := (blk_cell HR3.out.b2 0).trans rfl
      have c1' := (blk_cell HR3.out.b2 1).trans rfl
      have c2' := (blk_cell HR3.out.b3 0).trans rfl
      have f0 := blk_frozen HR3.out.b2 0
      have f1 := blk_frozen HR3.out.b2 1
      have f2 := blk_frozen HR3.out.b3 0
      have n23 := blk_ne HR3.out.b2 HR3.out.b3 (by decide)
      have n32 := n23.symm
      have etx : (⟨(nodesT D ++ bktsT B).toArray⟩ : ByteArray) = treeB8 D B := rfl
      rw [etx]
      clear etx
      by_cases hts : treeB8 D B = s
      · rw [hts]
        gi_wp2
        obtain ⟨s0, s1, s2, s3, s4, s5⟩ := HR3.out.fin HG.out HDD3.out (by omega) (.slice A0 D.length c0) (.slice A1 B.length c1) (.int .i64 0) rfl
        refine ⟨by simp, .inl ⟨_, _, rfl, run_takeDeferred s0, ?_⟩⟩
        refine ⟨_, results_ci rfl _ _ g2 g3 (.agg #[.slice A0 D.length c0, .slice A1 B.length c1]) (.int .i64 0) rfl (run_loadVar_row _ g2 32 32 _ (0, 0) _ s3 Tryd.underlying32 rfl (by kernel_rfl)) rfl ((blk_cell s4 0).trans rfl), ?_⟩
        exact ⟨_, _, 0, rfl, s5, .inl ⟨D, B, HRM.out, hokv, hts, rfl, s1, s2⟩⟩
      · have hne := str_ne hts
        have hne2 : ((treeB8 D B).toList != s.toList) = true := by rw [bne, hne]; rfl
        obtain ⟨tx, etx⟩ : ∃ tx, treeB8 D B = tx := ⟨_, rfl⟩
        rw [etx] at hne hne2 ⊢
        gi_wp2
        obtain ⟨s0, s1, s2, s3, s4, s5⟩ := HR3.out.fin HG.out HDD3.out (by omega) (.slice none 0 0) (.slice none 0 0) (.int .i64 7) rfl
        refine ⟨by simp, .inl ⟨_, _, rfl, run_takeDeferred s0, ?_⟩⟩
        refine ⟨_, results_ci rfl _ _ g2 g3 (.agg #[.slice none 0 0, .slice none 0 0]) (.int .i64 7) rfl (run_loadVar_row _ g2 32 32 _ (0, 0) _ s3 Tryd.underlying32 rfl (by kernel_rfl)) rfl ((blk_cell s4 0).trans rfl), ?_⟩
        exact ⟨_, _, 7, rfl, s5, .inr ⟨rfl, rfl, rfl, fun D2 B2 h h2 => by rw [HRM.out] at h; injection h with h; injection h with e1 e2; subst e1; subst e2; exact hts⟩⟩
  case stop =>
    rintro DD c W hDg ⟨rfl, hM, hb2, hb3, hbl⟩ hD
    have c0 := (blk_cell hb2 0).trans rfl
    have c1 := (blk_cell hb2 1).trans rfl
    have c2 := (blk_cell hb3 0).trans rfl
    gi_wp2
    have nd : ∀ (j : Nat) (cs : Array Value) (q : Nat), W.heap[j]? = some (.cells cs q (0, 0)) → (W.putObj DD (.deferred none)).heap[j]? = some (.cells cs q (0, 0)) := fun j cs q hj => (World.putObj_heap_other (fun e => by subst e; rw [hD] at hj; cases hj)).trans hj
    refine ⟨by simp, .inl ⟨_, _, rfl, run_takeDeferred hD, ?_⟩⟩
    refine ⟨_, results_ci rfl _ _ g2 g3 (.agg #[.slice none 0 0, .slice none 0 0]) (.int .i64 7) rfl (run_loadVar_row _ g2 32 32 _ (0, 0) _ (nd _ _ _ hb2) Tryd.underlying32 rfl (by kernel_rfl)) rfl ((blk_cell (nd _ _ _ hb3) 0).trans rfl), ?_⟩
    exact ⟨_, _, 7, rfl, hbl.grown (grownBy_putObj' W DD _) (by have := (Array.getElem?_eq_some_iff.1 hD).1; have := hbl.size; omega) (fun j e => by cases e; omega), .inr ⟨rfl, rfl, rfl, fun D B h => by rw [hM] at h; cases h⟩⟩

end Go.Proofs.YtohjpgcmhihdhaaDoorW.PrintMore

namespace Go.Proofs.YtohjpgcmhihdhaaDoor.Pure
open Go.RowKit Go.Proofs.YtohjpgcmhihdhaaDoor.Q Go.Proofs.YtohjpgcmhihdhaaDoorW.PrintWords Go.Proofs.YtohjpgcmhihdhaaDoorW.PrintLast Go.Proofs.YtohjpgcmhihdhaaDoorW.PrintMore
set_option linter.unusedVariables false
set_option linter.unusedSimpArgs false
/-! numerals -/
theorem dig_byte (d : Nat) (h : d < 10) : (UInt8.ofNat (48 + d)).toNat = 48 + d := by
  rw [UInt8.toNat_ofNat']
  omega
theorem digits_all (u : Nat) : ∀ c ∈ Lib.decDigits u, 48 ≤ c.toNat ∧ c.toNat ≤ 57 := by
  induction u using Nat.strongRecOn with
  | _ u ih =>
    intro c hc
    rw [Lib.decDigits] at hc
    split at hc
    · rw [List.mem_singleton] at hc
      rw [hc, dig_byte u (by omega)]
      omega
    · rcases List.mem_append.1 hc with h | h
      · exact ih (u / 10) (by omega) c h
      · rw [List.mem_singleton] at h
        rw [h, dig_byte (u % 10) (by omega)]
        omega
theorem digits_ne (u : Nat) : Lib.decDigits u ≠ [] := by
  rw [Lib.decDigits]
  split <;> simp
theorem parse_digits (u : Nat) (hu : u ≤ 1000000) : ∀ r, Lib.parseUint10 0 (Lib.decDigits u ++ r) = Lib.parseUint10 u r := by
  induction u using Nat.strongRecOn with
  | _ u ih =>
    intro r
    rw [Lib.decDigits]
    split
    · rename_i h
      have hb := dig_byte u h
      simp only [List.singleton_append, Lib.parseUint10]
      rw [hb, if_pos (by omega), if_neg (by omega), if_neg (by omega)]
      congr 1
      omega
    · rename_i h
      have hb := dig_byte (u % 10) (by omega)
      rw [List.append_assoc, ih (u / 10) (by omega) (by omega)]
      simp only [List.singleton_append, Lib.parseUint10]
      rw [hb, if_pos (by omega), if_neg (by omega), if_neg (by omega)]
      congr 1
      omega
theorem parse_itoa (n : Int) (h : Small6 n) : Lib.parseIntB 64 (Lib.itoa n) = .ok n := by
  rw [Lib.parseIntB_64]
  have key : ∀ u : Nat, u ≤ 1000000 → Lib.parseMag (Lib.decDigits u) = .ok u := fun u hu => by
    unfold Lib.parseMag
    rw [if_neg (digits_ne u)]
    have := parse_digits u hu []
    rw [List.append_nil] at this
    rw [this]
    rfl
  unfold Small6 at h
  by_cases c : n < 0
  · obtain ⟨u, rfl⟩ : ∃ u : Nat, n = -(u : Int) := ⟨n.natAbs, by omega⟩
    rw [Lib.itoa_neg u (by omega)]
    unfold Lib.atoiAll
    simp only [show (45 : UInt8).toNat = 45 from rfl, or_true, if_true, key u (by omega)]
    rw [if_neg (by simp), if_neg (by omega)]
  · obtain ⟨u, rfl⟩ := Int.eq_ofNat_of_zero_le (show 0 ≤ n by omega)
    rw [Lib.itoa_nonneg]
    have hd := digits_all u
    have hk := key u (by omega)
    cases hl : Lib.decDigits u with
    | nil => exact absurd hl (digits_ne u)
    | cons b r =>
      have hb := hd b (by rw [hl]; simp)
      rw [hl] at hk
      have n1 : ¬ (b.toNat = 43 ∨ b.toNat = 45) := by omega
      have n2 : ¬ b.toNat = 45 := by omega
      unfold Lib.atoiAll
      simp only [if_neg n1]
      rw [hk]
      simp only [n2, not_false_eq_true, true_and, false_and, if_false]
      rw [if_neg (by omega)]
theorem rdDec_dec (n : Int) (h : Small6 n) : rdDec (decB n) = some n := by
  unfold rdDec
  have e : (decB n).data.toList = Lib.itoa n := by simp [decB]
  rw [e, parse_itoa n h]
  simp
theorem rdNums_dec : ∀ l : List Int, (∀ x ∈ l, Small6 x) → rdNums (l.map decB) = some l
  | [], _ => rfl
  | x :: l, h => by
    show (rdDec (decB x)).bind _ = _
    rw [rdDec_dec x (h x (by simp)), Option.bind_some, rdNums_dec l (fun y hy => h y (by simp [hy]))]
    rfl
/-- a text without a byte -/
def Free (c : UInt8) (s : ByteArray) : Prop := ∀ b ∈ s.data.toList, b ≠ c
theorem free_dec (n : Int) : Free 10 (decB n) ∧ Free 32 (decB n) := by
  have e : (decB n).data.toList = Lib.itoa n := by simp [decB]
  have key : ∀ b ∈ Lib.itoa n, b.toNat = 45 ∨ 48 ≤ b.toNat := fun b hb => by
    unfold Lib.itoa at hb
    split at hb
    · rcases List.mem_cons.1 hb with h | h
      · left; rw [h]; rfl
      · right; exact (digits_all _ b h).1
    · right; exact (digits_all _ b hb).1
  refine ⟨fun b hb he => ?_, fun b hb he => ?_⟩
  · rw [e] at hb
    have := key b hb
    rw [he] at this
    have e2 : (10 : UInt8).toNat = 10 := rfl
    omega
  · rw [e] at hb
    have := key b hb
    rw [he] at this
    have e2 : (32 : UInt8).toNat = 32 := rfl
    omega
theorem free_app {c : UInt8} {a b : ByteArray} (ha : Free c a) (hb : Free c b) : Free c (a ++ b) := fun x hx => by
  rw [ByteArray.data_append, Array.toList_append] at hx
  rcases List.mem_append.1 hx with h | h
  · exact ha x h
  · exact hb x h
/-! where a byte stands -/
theorem index_free (c : UInt8) : ∀ (l r : List UInt8), (∀ b ∈ l, b ≠ c) → Lib.indexByte (l ++ c :: r) c = l.length
  | [], r, _ => by simp [Lib.indexByte]
  | b :: l, r, h => by
    have hb := h b (by simp)
    have ih := index_free c l r (fun x hx => h x (by simp [hx]))
    show (if b == c then 0 else if Lib.indexByte (l ++ c :: r) c == -1 then -1 else Lib.indexByte (l ++ c :: r) c + 1) = _
    rw [ih, if_neg (by simpa using hb), if_neg (by simp), List.length_cons]
    omega
theorem index_none (c : UInt8) : ∀ (l : List UInt8), (∀ b ∈ l, b ≠ c) → Lib.indexByte l c = -1
  | [], _ => rfl
  | b :: l, h => by
    have hb := h b (by simp)
    have ih := index_none c l (fun x hx => h x (by simp [hx]))
    show (if b == c then 0 else if Lib.indexByte l c == -1 then -1 else Lib.indexByte l c + 1) = _
    rw [ih, if_neg (by simpa using hb)]
    rfl
theorem ext_list {a b : ByteArray} (h : a.data.toList = b.data.toList) : a = b := ByteArray.ext (Array.toList_inj.1 h)
theorem list_app (a b : ByteArray) : (a ++ b).data.toList = a.data.toList ++ b.data.toList := by rw [ByteArray.data_append, Array.toList_append]
theorem list_extract (a : ByteArray) (i j : Nat) : (a.extract i j).data.toList = (a.data.toList.take j).drop i := by
  rw [ByteArray.data_extract, Array.toList_extract, List.extract_eq_take_drop, List.drop_take]
/-- a line is cut off -/
theorem cut_line (x r : ByteArray) (h : Free 10 x) : cutL (x ++ ((⟨#[10]⟩ : ByteArray) ++ r)) = (x ++ (⟨#[10]⟩ : ByteArray), r) := by
  have e : (x ++ ((⟨#[10]⟩ : ByteArray) ++ r)).data.toList = x.data.toList ++ 10 :: r.data.toList := by rw [list_app, list_app]; rfl
  have e' : (x ++ ((⟨#[10]⟩ : ByteArray) ++ r)).data.toList = (x.data.toList ++ [10]) ++ r.data.toList := by rw [e]; simp
  have hl : (x.data.toList ++ [10]).length = x.data.toList.length + 1 := by rw [List.length_append]; rfl
  have hi := index_free 10 x.data.toList r.data.toList h
  have hs : (x ++ ((⟨#[10]⟩ : ByteArray) ++ r)).size = x.data.toList.length + 1 + r.size := by
    rw [size_app, size_app]
    have h1 : (⟨#[10]⟩ : ByteArray).size = 1 := rfl
    have h2 : x.data.toList.length = x.size := len_bytes x
    omega
  unfold cutL
  rw [e, hi, if_pos (by omega)]
  refine Prod.ext (ext_list ?_) (ext_list ?_)
  · show ((x ++ _).extract 0 _).data.toList = _
    rw [list_extract, e', list_app, Int.toNat_natCast, List.drop_zero, List.take_left' hl]
  · show ((x ++ _).extract _ _).data.toList = _
    have h2 : r.data.toList.length = r.size := len_bytes r
    rw [list_extract, e', hs, Int.toNat_natCast, List.take_of_length_le (by rw [List.length_append, hl]; omega), List.drop_left' hl]
theorem trim_line (x : ByteArray) : trimNl (x ++ (⟨#[10]⟩ : ByteArray)) = x := by
  apply ext_list
  unfold trimNl Lib.trimSuffix Lib.hasSuffix
  have e : (x ++ (⟨#[10]⟩ : ByteArray)).data.toList = x.data.toList ++ [10] := by rw [list_app]
  rw [e, if_pos (by simp)]
  simp
/-! words -/
theorem sp_list : (⟨#[32]⟩ : ByteArray).data.toList = [32] := rfl
theorem indexB_eq (s : ByteArray) : Lib.indexB s ⟨#[32]⟩ = Lib.indexByte s.data.toList 32 := Lib.index_one _ _
theorem words_one (x : ByteArray) (h : Free 32 x) : wordsB x = [x] := by
  have hi : Lib.indexB x ⟨#[32]⟩ = -1 := by rw [indexB_eq]; exact index_none 32 _ h
  unfold wordsB
  rw [Lib.countB_miss x _ hi]
  rfl
theorem words_cons (x y : ByteArray) (h : Free 32 x) : wordsB (x ++ ((⟨#[32]⟩ : ByteArray) ++ y)) = x :: wordsB y := by
  have e : (x ++ ((⟨#[32]⟩ : ByteArray) ++ y)).data.toList = x.data.toList ++ 32 :: y.data.toList := by rw [list_app, list_app]; rfl
  have e' : (x ++ ((⟨#[32]⟩ : ByteArray) ++ y)).data.toList = (x.data.toList ++ [32]) ++ y.data.toList := by rw [e]; simp
  have hl : (x.data.toList ++ [32]).length = x.size + 1 := by rw [List.length_append, len_bytes]; rfl
  have hi : Lib.indexB (x ++ ((⟨#[32]⟩ : ByteArray) ++ y)) ⟨#[32]⟩ = (x.size : Nat) := by
    rw [indexB_eq, e, index_free 32 _ _ h, len_bytes]
  have h1 : (⟨#[32]⟩ : ByteArray).size = 1 := rfl
  have hs : (x ++ ((⟨#[32]⟩ : ByteArray) ++ y)).size = x.size + 1 + y.size := by rw [size_app, size_app]; omega
  have hx : x.data.toList.length = x.size := len_bytes x
  have hy : y.data.toList.length = y.size := len_bytes y
  have e1 : (x ++ ((⟨#[32]⟩ : ByteArray) ++ y)).extract 0 (x.size + 0) = x := by
    apply ext_list
    rw [list_extract, e, List.drop_zero, List.take_left' (by omega)]
  have e2 : (x ++ ((⟨#[32]⟩ : ByteArray) ++ y)).extract (x.size + 1) (x ++ ((⟨#[32]⟩ : ByteArray) ++ y)).size = y := by
    apply ext_list
    rw [list_extract, e', hs, List.take_of_length_le (by rw [List.length_append, hl]; omega), List.drop_left' hl]
  unfold wordsB
  rw [Lib.countB_hit _ _ x.size (by rw [h1]; omega) hi, h1, e2, Nat.add_comm 1, Lib.splitB_hit _ _ _ _ x.size hi, h1, e1, e2]
theorem words_line : ∀ (l : List Int) (s : ByteArray), Free 32 s → wordsB (lineB s l) = s :: l.map decB
  | [], s, h => words_one s h
  | x :: l, s, h => by
    rw [lineB_cons, ← app_assoc, lineB_app, app_assoc, words_cons s _ h, words_line l (decB x) (free_dec x).2]
    rfl
theorem free_line : ∀ (l : List Int) (s : ByteArray), Free 10 s → Free 10 (lineB s l)
  | [], s, h => h
  | x :: l, s, h => by
    rw [lineB_cons]
    exact free_line l _ (free_app h (free_app (fun b hb => by simp at hb; subst hb; decide) (free_dec x).1))
theorem rdLine_line (s : ByteArray) (l : List Int) (h : Free 32 s) (hl : ∀ x ∈ l, Small6 x) : rdLine (lineB s l) = some (s, l) := by
  unfold rdLine
  rw [words_line l s h, List.tail_cons, rdNums_dec l hl]
  rfl
/-! lines -/
theorem kdW_kwB (k : Int) (h1 : 1 ≤ k) (h3 : k ≤ 3) : kdW (kwB k) = k := by
  have h : k = 1 ∨ k = 2 ∨ k = 3 := by omega
  rcases h with rfl | rfl | rfl <;> rfl
theorem free_kw (k : Int) (c : UInt8) (hc : c = 10 ∨ c = 32) : Free c (kwB k) := by
  unfold kwB
  split
  · intro b hb
    simp at hb
    rcases hc with rfl | rfl <;> rcases hb with rfl | rfl | rfl | rfl <;> decide
  · split
    · intro b hb
      simp at hb
      rcases hc with rfl | rfl <;> rcases hb with rfl | rfl | rfl | rfl <;> decide
    · intro b hb
      simp at hb
      rcases hc with rfl | rfl <;> rcases hb with rfl | rfl | rfl <;> decide
theorem free_node (c : UInt8) (hc : c = 10 ∨ c = 32) : Free c ⟨#[110, 111, 100, 101]⟩ := by
  intro b hb
  simp at hb
  rcases hc with rfl | rfl <;> rcases hb with rfl | rfl | rfl | rfl <;> decide
theorem addM_node (D : List S65) (B : List S62) (x : S65) (h : Small6 x.f0 ∧ Small6 x.f1) : addM D B (lineB ⟨#[110, 111, 100, 101]⟩ [x.f0, x.f1]) = some (D ++ [x], B) := by
  unfold addM
  rw [rdLine_line _ _ (free_node 32 (.inr rfl)) (fun y hy => by
    simp at hy
    rcases hy with rfl | rfl
    · exact h.1
    · exact h.2)]
  rfl
theorem addM_bkt (D : List S65) (B : List S62) (x : S62) (h : BktS x) : addM D B (lineB (kwB x.f1) (x.f0 :: x.f2)) = some (D, B ++ [x]) := by
  unfold addM
  rw [rdLine_line _ _ (free_kw x.f1 32 (.inr rfl)) (fun y hy => by
    rcases List.mem_cons.1 hy with e | e
    · rw [e]; exact h.1
    · exact h.2.2.2 y e), Option.bind_some]
  simp only [kdW_kwB x.f1 h.2.1.1 h.2.1.2]
  rw [if_neg (by have := h.2.1; omega), if_neg (by have := h.2.1; omega)]
theorem read_line (k : Nat) (x r : ByteArray) (D : List S65) (B : List S62) (h : Free 10 x) : readL (k + 1) ((x ++ (⟨#[10]⟩ : ByteArray)) ++ r) D B = (addM D B x).bind fun y => readL k r y.1 y.2 := by
  have e : ∀ s, readL (k + 1) s D B = if s.size = 0 then some (D, B) else (addM D B (trimNl (cutL s).1)).bind fun y => readL k (cutL s).2 y.1 y.2 := fun s => rfl
  have hs : ((x ++ (⟨#[10]⟩ : ByteArray)) ++ r).size = x.size + 1 + r.size := by rw [size_app, size_app]; rfl
  rw [e, if_neg (by omega), app_assoc, cut_line x r h, trim_line]
theorem read_nodes : ∀ (l : List S65), (∀ x ∈ l, Small6 x.f0 ∧ Small6 x.f1) → ∀ (D : List S65) (B : List S62) (rest : ByteArray) (k : Nat), (toB (nodesT l) ++ rest).size ≤ k → ∃ k', rest.size ≤ k' ∧ readL k (toB (nodesT l) ++ rest) D B = readL k' rest (D ++ l) B
  | [], _, D, B, rest, k, hk => by
    have e : toB (nodesT ([] : List S65)) ++ rest = rest := ByteArray.empty_append
    rw [e] at hk ⊢
    exact ⟨k, hk, by rw [List.append_nil]⟩
  | x :: l, h, D, B, rest, k, hk => by
    have hx := h x (by simp)
    have en : nodeLine x = lineB ⟨#[110, 111, 100, 101]⟩ [x.f0, x.f1] ++ (⟨#[10]⟩ : ByteArray) := rfl
    have hf := free_line [x.f0, x.f1] ⟨#[110, 111, 100, 101]⟩ (free_node 10 (.inl rfl))
    rw [nodes_cons, en, app_assoc] at hk ⊢
    have h1 : (⟨#[10]⟩ : ByteArray).size = 1 := rfl
    cases k with
    | zero => rw [size_app, size_app] at hk; omega
    | succ k =>
      obtain ⟨k', h2, h3⟩ := read_nodes l (fun y hy => h y (by simp [hy])) (D ++ [x]) B rest k (by rw [size_app, size_app] at hk; omega)
      refine ⟨k', h2, ?_⟩
      rw [read_line k _ _ D B hf, addM_node D B x hx, Option.bind_some, h3, List.append_assoc]
      rfl
theorem read_bkts : ∀ (l : List S62), (∀ x ∈ l, BktS x) → ∀ (D : List S65) (B : List S62) (rest : ByteArray) (k : Nat), (toB (bktsT l) ++ rest).size ≤ k → ∃ k', rest.size ≤ k' ∧ readL k (toB (bktsT l) ++ rest) D B = readL k' rest D (B ++ l)
  | [], _, D, B, rest, k, hk => by
    have e : toB (bktsT ([] : List S62)) ++ rest = rest := ByteArray.empty_append
    rw [e] at hk ⊢
    exact ⟨k, hk, by rw [List.append_nil]⟩
  | x :: l, h, D, B, rest, k, hk => by
    have hx := h x (by simp)
    have en : bktLine x = lineB (kwB x.f1) (x.f0 :: x.f2) ++ (⟨#[10]⟩ : ByteArray) := rfl
    have hf := free_line (x.f0 :: x.f2) (kwB x.f1) (free_kw x.f1 10 (.inl rfl))
    rw [bkts_cons, en, app_assoc] at hk ⊢
    have h1 : (⟨#[10]⟩ : ByteArray).size = 1 := rfl
    cases k with
    | zero => rw [size_app, size_app] at hk; omega
    | succ k =>
      obtain ⟨k', h2, h3⟩ := read_bkts l (fun y hy => h y (by simp [hy])) D (B ++ [x]) rest k (by rw [size_app, size_app] at hk; omega)
      refine ⟨k', h2, ?_⟩
      rw [read_line k _ _ D B hf, addM_bkt D B x hx, Option.bind_some, h3, List.append_assoc]
      rfl
/-- a topology's text reads as it, and on -/
theorem read_text (D : List S65) (B : List S62) (H : TextOk D B) (rest : ByteArray) : ∃ k', rest.size ≤ k' ∧ readM (treeB8 D B ++ rest) = readL k' rest D B := by
  unfold readM
  rw [treeB8_eq, app_assoc]
  obtain ⟨k1, h1, h2⟩ := read_nodes D H.d [] [] (toB (bktsT B) ++ rest) _ (Nat.le_refl _)
  obtain ⟨k2, h3, h4⟩ := read_bkts B H.b ([] ++ D) [] rest k1 h1
  exact ⟨k2, h3, by rw [h2, h4]; rfl⟩
theorem readM_text (D : List S65) (B : List S62) (H : TextOk D B) : readM (treeB8 D B) = some (D, B) := by
  obtain ⟨k, -, h⟩ := read_text D B H ByteArray.empty
  rw [app_empty] at h
  rw [h, readL_end k _ D B rfl]
theorem readM_more (D : List S65) (B : List S62) (H : TextOk D B) : readM (treeB8 D B ++ (⟨#[10]⟩ : ByteArray)) = none := by
  obtain ⟨k, hk, h⟩ := read_text D B H ⟨#[10]⟩
  have h1 : (⟨#[10]⟩ : ByteArray).size = 1 := rfl
  rw [h]
  cases k with
  | zero => omega
  | succ k =>
    have e : (⟨#[10]⟩ : ByteArray) = (ByteArray.empty ++ (⟨#[10]⟩ : ByteArray)) ++ ByteArray.empty := by rw [app_empty, ByteArray.empty_append]
    rw [e, read_line k ByteArray.empty ByteArray.empty D B (fun b hb => by simp at hb)]
    rfl
/-! what is read are numbers of the machine -/
theorem rdNums_wf : ∀ (l : List ByteArray) (ns : List Int), rdNums l = some ns → ∀ x ∈ ns, In64 x
  | [], ns, h, x, hx => by
    injection h with h
    subst h
    cases hx
  | y :: l, ns, h, x, hx => by
    obtain ⟨v, hv, h⟩ := Option.bind_eq_some_iff.1 h
    obtain ⟨r, hr, rfl⟩ := Option.map_eq_some_iff.1 h
    rcases List.mem_cons.1 hx with rfl | hx
    · unfold rdDec at hv
      split at hv
      · rename_i w hw
        have hb := Lib.parseIntB_bounds hw
        split at hv
        · injection hv with hv
          subst hv
          unfold In64
          omega
        · cases hv
      · cases hv
    · exact rdNums_wf l r hr x hx
theorem wfI_iff (x : Int) : wfI x = true ↔ In64 x := by unfold wfI In64; exact decide_eq_true_iff
theorem wf_iff (D : List S65) (B : List S62) : wfTree D B = true ↔ (∀ x ∈ D, In64 x.f0 ∧ In64 x.f1) ∧ ∀ x ∈ B, In64 x.f0 ∧ In64 x.f1 ∧ ∀ y ∈ x.f2, In64 y := by
  unfold wfTree
  simp only [Bool.and_eq_true, List.all_eq_true, wfI_iff, and_assoc]
theorem kdW_in (s : ByteArray) : In64 (kdW s) := by
  unfold kdW In64
  repeat' split
  all_goals omega
theorem addM_wf {D D' : List S65} {B B' : List S62} {s : ByteArray} (hw : wfTree D B = true) (h : addM D B s = some (D', B')) : wfTree D' B' = true := by
  rw [wf_iff] at hw ⊢
  unfold addM at h
  obtain ⟨⟨w, n⟩, hr, h⟩ := Option.bind_eq_some_iff.1 h
  have hn : ∀ x ∈ n, In64 x := by
    unfold rdLine at hr
    obtain ⟨l, hl, e⟩ := Option.map_eq_some_iff.1 hr
    injection e with e1 e2
    subst e2
    exact rdNums_wf _ _ hl
  cases n with
  | nil => cases h
  | cons a r =>
    simp only at h
    split at h
    · cases h
    · split at h
      · split at h
        · injection h with h
          injection h with h1 h2
          subst h1
          subst h2
          refine ⟨fun x hx => ?_, hw.2⟩
          rcases List.mem_append.1 hx with hx | hx
          · exact hw.1 x hx
          · rw [List.mem_singleton] at hx
            subst hx
            exact ⟨hn _ (by simp), hn _ (by simp)⟩
        · cases h
      · injection h with h
        injection h with h1 h2
        subst h1
        subst h2
        refine ⟨hw.1, fun x hx => ?_⟩
        rcases List.mem_append.1 hx with hx | hx
        · exact hw.2 x hx
        · rw [List.mem_singleton] at hx
          subst hx
          exact ⟨hn _ (by simp), kdW_in w, fun y hy => hn y (by simp [hy])⟩
theorem readL_wf : ∀ (k : Nat) (r : ByteArray) (D : List S65) (B : List S62) (D' : List S65) (B' : List S62), wfTree D B = true → readL k r D B = some (D', B') → wfTree D' B' = true ∧ D'.length + B'.length ≤ D.length + B.length + k
  | 0, r, D, B, D', B', hw, h => by
    injection h with h
    injection h with h1 h2
    subst h1
    subst h2
    exact ⟨hw, Nat.le_refl _⟩
  | k + 1, r, D, B, D', B', hw, h => by
    have e : readL (k + 1) r D B = if r.size = 0 then some (D, B) else (addM D B (trimNl (cutL r).1)).bind fun y => readL k (cutL r).2 y.1 y.2 := rfl
    rw [e] at h
    split at h
    · injection h with h
      injection h with h1 h2
      subst h1
      subst h2
      exact ⟨hw, by omega⟩
    · obtain ⟨⟨D1, B1⟩, h1, h2⟩ := Option.bind_eq_some_iff.1 h
      have h3 := readL_wf k _ D1 B1 D' B' (addM_wf hw h1) h2
      have h4 := addM_len h1
      exact ⟨h3.1, by omega⟩
theorem read_ok (s : ByteArray) (hs : s.size ≤ 1048576) (D : List S65) (B : List S62) (h : readM s = some (D, B)) : ∃ k, impl_TreeOk.f k D B = some (treeOkB D B) ∧ (treeOkB D B = true → TextOk D B) := by
  have hw := readL_wf s.size s [] [] D B (by rw [wf_iff]; simp) h
  simp only [List.length_nil] at hw
  obtain ⟨k, hk⟩ := impl_ok_ev D B (by omega) hw.1
  exact ⟨k, hk k (Nat.le_refl _), fun ho => valid_text (valid_of D B ho)⟩
/-- a valid topology's own text is read -/
theorem read_own {D : List S65} {B : List S62} (ho : treeOkB D B = true) {e : Ending} {w w' : World} (h : ReadOut (treeB8 D B) treeOkB e w w') :
    ∃ u0 u1, e = .returned (.tuple #[.agg #[u0, u1], .int .i64 0]) ∧ Below w.heap.size w w' ∧ Kd.R k65 65 w' w.heap.size (fun _ => True) u0 D ∧ Kd.S kqB 62 w' w.heap.size (fun _ => True) u1 B := by
  have hr := readM_text D B (valid_text (valid_of D B ho))
  obtain ⟨u0, u1, c, rfl, hb, h⟩ := h
  rcases h with ⟨D1, B1, h1, -, -, rfl, h2, h3⟩ | ⟨-, -, -, h4⟩
  · rw [hr] at h1
    injection h1 with h1
    injection h1 with e1 e2
    subst e1
    subst e2
    exact ⟨u0, u1, rfl, hb, h2, h3⟩
  · exact absurd rfl (h4 D B hr ho)
/-- with one line more it is none -/
theorem read_more {D : List S65} {B : List S62} (ho : treeOkB D B = true) {e : Ending} {w w' : World} (h : ReadOut (treeB8 D B ++ (⟨#[10]⟩ : ByteArray)) treeOkB e w w') :
    e = .returned (.tuple #[.agg #[.slice none 0 0, .slice none 0 0], .int .i64 7]) ∧ Below w.heap.size w w' := by
  have hr := readM_more D B (valid_text (valid_of D B ho))
  obtain ⟨u0, u1, c, rfl, hb, h⟩ := h
  rcases h with ⟨D1, B1, h1, -⟩ | ⟨rfl, rfl, rfl, -⟩
  · rw [hr] at h1
    cases h1
  · exact ⟨rfl, hb⟩

end Go.Proofs.YtohjpgcmhihdhaaDoor.Pure

namespace Go.Proofs.YtohjpgcmhihdhaaDoor.Q
open Go.RowKit Go.Proofs.YtohjpgcmhihdhaaDoorW.PrintWords Go.Proofs.YtohjpgcmhihdhaaDoorW.PrintLast Go.Proofs.YtohjpgcmhihdhaaDoorW.PrintMore
attribute [local go_sem] max2_int min2_int max_two min_two max_three min_three max_four min_four   -- for this text's walks alone
set_option linter.unusedVariables false
set_option linter.unusedSimpArgs false
/-! ### impl_SameTree: function 12 -/
def impl_SameTree.f (k : Nat) (l0_0 : List (S65)) (l0_1 : List (S62)) (l1_0 : List (S65)) (l1_1 : List (S62)) : Option (Bool) := (impl_TreeOk.f k l0_0 l0_1).bind fun t423 => (if t423 = true then ((impl_TreeOk.f k l1_0 l1_1).bind fun t424 => (if t424 = true then ((impl_sameTree.f k l0_0 l0_1 l1_0 l1_1).bind fun t425 => (some t425)) else (some false))) else (some false))
set_option maxHeartbeats 8000000 in
set_option maxRecDepth 100000 in
theorem impl_SameTree.calls (k : Nat) (A0_0 : Option Addr) (c0_0 : Nat) (l0_0 : List (S65)) (A0_1 : Option Addr) (c0_1 : Nat) (l0_1 : List (S62)) (A1_0 : Option Addr) (c1_0 : Nat) (l1_0 : List (S65)) (A1_1 : Option Addr) (c1_1 : Nat) (l1_1 : List (S62)) (r : Bool) (w : World) (hr0_0 : Kd.C k65 w A0_0 l0_0.length l0_0) (hc0_0 : l0_0.length ≤ c0_0) (hr0_1 : Kd.C k62 w A0_1 l0_1.length l0_1) (hc0_1 : l0_1.length ≤ c0_1) (hr1_0 : Kd.C k65 w A1_0 l1_0.length l1_0) (hc1_0 : l1_0.length ≤ c1_0) (hr1_1 : Kd.C k62 w A1_1 l1_1.length l1_1) (hc1_1 : l1_1.length ≤ c1_1) (h : impl_SameTree.f k l0_0 l0_1 l1_0 l1_1 = some r) :
    Calls Tryd.prog 12 #[.agg #[.slice A0_0 l0_0.length c0_0, .slice A0_1 l0_1.length c0_1], .agg #[.slice A1_0 l1_0.length c1_0, .slice A1_1 l1_1.length c1_1]] w fun e w' => e = .returned (.bool r) ∧ Below w.heap.size w w' := by
  have hu32 := Tryd.underlying32
  have HR0_0 := Aside0.mk hr0_0
  have HC0_0 := Aside0.mk hc0_0
  clear hr0_0 hc0_0
  have HR0_1 := Aside0.mk hr0_1
  have HC0_1 := Aside0.mk hc0_1
  clear hr0_1 hc0_1
  have HR1_0 := Aside0.mk hr1_0
  have HC1_0 := Aside0.mk hc1_0
  clear hr1_0 hc1_0
  have HR1_1 := Aside0.mk hr1_1
  have HC1_1 := Aside0.mk hc1_1
  clear hr1_1 hc1_1
  have HB := Aside0.mk (Below.refl w.heap.size w)
  have H : ((impl_TreeOk.f k l0_0 l0_1).bind fun t423 => (if t423 = true then ((impl_TreeOk.f k l1_0 l1_1).bind fun t424 => (if t424 = true then ((impl_sameTree.f k l0_0 l0_1 l1_0 l1_1).bind fun t425 => (some t425)) else (some false))) else (some false))) = some r := h
  clear h
  replace H := Option.bind_eq_some_iff.mp H
  obtain ⟨t423, A30, H⟩ := H
  set_option simprocs false in try dsimp only at H
  have A3 := Aside0.mk A30
  clear A30
  by_cases c4 : t423 = true
  · subst c4
    rw [if_pos rfl] at H
    replace H := Option.bind_eq_some_iff.mp H
    obtain ⟨t424, A50, H⟩ := H
    set_option simprocs false in try dsimp only at H
    have A5 := Aside0.mk A50
    clear A50
    by_cases c6 : t424 = true
    · subst c6
      rw [if_pos rfl] at H
      replace H := Option.bind_eq_some_iff.mp H
      obtain ⟨t425, A70, H⟩ := H
      set_option simprocs false in try dsimp only at H
      have A7 := Aside0.mk A70
      clear A70
      obtain rfl := Option.some.inj H
      go_enter Tryd.func12, Tryd.ntmps12
      go_wp2_with (first | ((with_reducible refine gate_dst (N := 2) rfl ?_); refine box_event ?hg (N := 2) ?hd (cs := #[.slice A0_0 l0_0.length c0_0, .slice A0_1 l0_1.length c0_1]) (t := 32) ?hr ?_; (case hd => rfl); (case hg => rfl); (case hr => first | (go_simp; done) | (go_simp; rfl)); intro gb421 hg w8 hbox hb; have n0_ := Aside0.mk (below_step (by repeat first | exact HB.out | apply pw_below_drewN) hb); have n1_ := Aside0.mk (hbox); clear HB; have HB := n0_; have BK421 := n1_; clear n0_ n1_; clear hb hbox hg) | ((with_reducible refine gate_dst (N := 3) rfl ?_); refine box_event ?hg (N := 3) ?hd (cs := #[.slice A1_0 l1_0.length c1_0, .slice A1_1 l1_1.length c1_1]) (t := 32) ?hr ?_; (case hd => rfl); (case hg => rfl); (case hr => first | (go_simp; done) | (go_simp; rfl)); intro gb422 hg w9 hbox hb; have n0_ := Aside0.mk (blk_below (by exact BK421.out) hb); have n1_ := Aside0.mk (below_step (by repeat first | exact HB.out | apply pw_below_drewN) hb); have n2_ := Aside0.mk (hbox); clear BK421; clear HB; have BK421 := n0_; have HB := n1_; have BK422 := n2_; clear n0_ n1_ n2_; clear hb hbox hg; have hcz11_0 := (blk_cell BK421.out 0).trans rfl; have hcz11_1 := (blk_cell BK421.out 1).trans rfl) | ((with_reducible refine gate_callee (f := 19) rfl ?_); refine goesL_ (some 6) rfl rfl Tryd.func19 (by kernel_rfl) rfl #[.agg #[.slice A0_0 l0_0.length c0_0, .slice A0_1 l0_1.length c0_1]] rfl (by (try simp only [List.map_toArray, List.map_cons, List.map_nil]); first | done | rfl) ?_; (with_reducible refine (impl_TreeOk.calls k _ _ l0_0 _ _ l0_1 true _ ?side1 ?side2 ?side3 ?side4 A3.out).mono ?_); (case side1 => exact (Kd.C_below HR0_0.out HB.out)); (case side2 => exact HC0_0.out); (case side3 => exact (Kd.C_below HR0_1.out HB.out)); (case side4 => exact HC0_1.out); rintro e w12 ⟨rfl, hb⟩; refine ⟨_, rfl, ?_⟩; have n0_ := Aside0.mk (blk_below (by exact BK421.out) hb); have n1_ := Aside0.mk (blk_below (by exact BK422.out) hb); have n2_ := Aside0.mk (below_step (by repeat first | exact HB.out | apply pw_below_drewN) hb); clear BK421; clear BK422; clear HB; have BK421 := n0_; have BK422 := n1_; have HB := n2_; clear n0_ n1_ n2_; (try clear hb); (try clear hb2); (try clear hk); (try clear hi); have hcz13_0 := (blk_cell BK422.out 0).trans rfl; have hcz13_1 := (blk_cell BK422.out 1).trans rfl) | (go_at_call 19; (with_reducible refine (impl_TreeOk.calls k _ _ l1_0 _ _ l1_1 true _ ?side1 ?side2 ?side3 ?side4 A5.out).mono ?_); (case side1 => exact (Kd.C_below HR1_0.out HB.out)); (case side2 => exact HC1_0.out); (case side3 => exact (Kd.C_below HR1_1.out HB.out)); (case side4 => exact HC1_1.out); rintro e w14 ⟨rfl, hb⟩; have n0_ := Aside0.mk (blk_below (by exact BK421.out) hb); have n1_ := Aside0.mk (blk_below (by exact BK422.out) hb); have n2_ := Aside0.mk (below_step (by repeat first | exact HB.out | apply pw_below_drewN) hb); clear BK421; clear BK422; clear HB; have BK421 := n0_; have BK422 := n1_; have HB := n2_; clear n0_ n1_ n2_; (try clear hb); (try clear hb2); (try clear hk); (try clear hi); have hcz15_0 := (blk_cell BK421.out 0).trans rfl; have hcz15_1 := (blk_cell BK421.out 1).trans rfl; have hcz16_0 := (blk_cell BK422.out 0).trans rfl; have hcz16_1 := (blk_cell BK422.out 1).trans rfl) | (go_at_call 28; (with_reducible refine (impl_sameTree.calls k _ _ l0_0 _ _ l0_1 _ _ l1_0 _ _ l1_1 t425 _ ?side1 ?side2 ?side3 ?side4 ?side5 ?side6 ?side7 ?side8 A7.out).mono ?_); (case side1 => exact (Kd.C_below HR0_0.out HB.out)); (case side2 => exact HC0_0.out); (case side3 => exact (Kd.C_below HR0_1.out HB.out)); (case side4 => exact HC0_1.out); (case side5 => exact (Kd.C_below HR1_0.out HB.out)); (case side6 => exact HC1_0.out); (case side7 => exact (Kd.C_below HR1_1.out HB.out)); (case side8 => exact HC1_1.out); rintro e w17 ⟨rfl, hb⟩; have n0_ := Aside0.mk (blk_below (by exact BK421.out) hb); have n1_ := Aside0.mk (blk_below (by exact BK422.out) hb); have n2_ := Aside0.mk (below_step (by repeat first | exact HB.out | apply pw_below_drewN) hb); clear BK421; clear BK422; clear HB; have BK421 := n0_; have BK422 := n1_; have HB := n2_; clear n0_ n1_ n2_; (try clear hb); (try clear hb2); (try clear hk); (try clear hi)))
      go_ret
      exact ⟨by first | rfl | (simp [*, errW_none, errW_some] <;> rfl), by repeat first | exact HB.out | apply pw_below_drewN⟩
    · replace c6 := Bool.eq_false_iff.mpr c6
      subst c6
      rw [if_neg (show ¬ (false = true) by decide)] at H
      obtain rfl := Option.some.inj H
      go_enter Tryd.func12, Tryd.ntmps12
      go_wp2_with (first | ((with_reducible refine gate_dst (N := 2) rfl ?_); refine box_event ?hg (N := 2) ?hd (cs := #[.slice A0_0 l0_0.length c0_0, .slice A0_1 l0_1.length c0_1]) (t := 32) ?hr ?_; (case hd => rfl); (case hg => rfl); (case hr => first | (go_simp; done) | (go_simp; rfl)); intro gb421 hg w18 hbox hb; have n0_ := Aside0.mk (below_step (by repeat first | exact HB.out | apply pw_below_drewN) hb); have n1_ := Aside0.mk (hbox); clear HB; have HB := n0_; have BK421 := n1_; clear n0_ n1_; clear hb hbox hg) | ((with_reducible refine gate_dst (N := 3) rfl ?_); refine box_event ?hg (N := 3) ?hd (cs := #[.slice A1_0 l1_0.length c1_0, .slice A1_1 l1_1.length c1_1]) (t := 32) ?hr ?_; (case hd => rfl); (case hg => rfl); (case hr => first | (go_simp; done) | (go_simp; rfl)); intro gb422 hg w19 hbox hb; have n0_ := Aside0.mk (blk_below (by exact BK421.out) hb); have n1_ := Aside0.mk (below_step (by repeat first | exact HB.out | apply pw_below_drewN) hb); have n2_ := Aside0.mk (hbox); clear BK421; clear HB; have BK421 := n0_; have HB := n1_; have BK422 := n2_; clear n0_ n1_ n2_; clear hb hbox hg; have hcz21_0 := (blk_cell BK421.out 0).trans rfl; have hcz21_1 := (blk_cell BK421.out 1).trans rfl) | ((with_reducible refine gate_callee (f := 19) rfl ?_); refine goesL_ (some 6) rfl rfl Tryd.func19 (by kernel_rfl) rfl #[.agg #[.slice A0_0 l0_0.length c0_0, .slice A0_1 l0_1.length c0_1]] rfl (by (try simp only [List.map_toArray, List.map_cons, List.map_nil]); first | done | rfl) ?_; (with_reducible refine (impl_TreeOk.calls k _ _ l0_0 _ _ l0_1 true _ ?side1 ?side2 ?side3 ?side4 A3.out).mono ?_); (case side1 => exact (Kd.C_below HR0_0.out HB.out)); (case side2 => exact HC0_0.out); (case side3 => exact (Kd.C_below HR0_1.out HB.out)); (case side4 => exact HC0_1.out); rintro e w22 ⟨rfl, hb⟩; refine ⟨_, rfl, ?_⟩; have n0_ := Aside0.mk (blk_below (by exact BK421.out) hb); have n1_ := Aside0.mk (blk_below (by exact BK422.out) hb); have n2_ := Aside0.mk (below_step (by repeat first | exact HB.out | apply pw_below_drewN) hb); clear BK421; clear BK422; clear HB; have BK421 := n0_; have BK422 := n1_; have HB := n2_; clear n0_ n1_ n2_; (try clear hb); (try clear hb2); (try clear hk); (try clear hi); have hcz23_0 := (blk_cell BK422.out 0).trans rfl; have hcz23_1 := (blk_cell BK422.out 1).trans rfl) | (go_at_call 19; (with_reducible refine (impl_TreeOk.calls k _ _ l1_0 _ _ l1_1 false _ ?side1 ?side2 ?side3 ?side4 A5.out).mono ?_); (case side1 => exact (Kd.C_below HR1_0.out HB.out)); (case side2 => exact HC1_0.out); (case side3 => exact (Kd.C_below HR1_1.out HB.out)); (case side4 => exact HC1_1.out); rintro e w24 ⟨rfl, hb⟩; have n0_ := Aside0.mk (blk_below (by exact BK421.out) hb); have n1_ := Aside0.mk (blk_below (by exact BK422.out) hb); have n2_ := Aside0.mk (below_step (by repeat first | exact HB.out | apply pw_below_drewN) hb); clear BK421; clear BK422; clear HB; have BK421 := n0_; have BK422 := n1_; have HB := n2_; clear n0_ n1_ n2_; (try clear hb); (try clear hb2); (try clear hk); (try clear hi)))
      go_ret
      exact ⟨by first | rfl | (simp [*, errW_none, errW_some] <;> rfl), by repeat first | exact HB.out | apply pw_below_drewN⟩
  · replace c4 := Bool.eq_false_iff.mpr c4
    subst c4
    rw [if_neg (show ¬ (false = true) by decide)] at H
    obtain rfl := Option.some.inj H
    go_enter Tryd.func12, Tryd.ntmps12
    go_wp2_with (first | ((with_reducible refine gate_dst (N := 2) rfl ?_); refine box_event ?hg (N := 2) ?hd (cs := #[.slice A0_0 l0_0.length c0_0, .slice A0_1 l0_1.length c0_1]) (t := 32) ?hr ?_; (case hd => rfl); (case hg => rfl); (case hr => first | (go_simp; done) | (go_simp; rfl)); intro gb421 hg w25 hbox hb; have n0_ := Aside0.mk (below_step (by repeat first | exact HB.out | apply pw_below_drewN) hb); have n1_ := Aside0.mk (hbox); clear HB; have HB := n0_; have BK421 := n1_; clear n0_ n1_; clear hb hbox hg) | ((with_reducible refine gate_dst (N := 3) rfl ?_); refine box_event ?hg (N := 3) ?hd (cs := #[.slice A1_0 l1_0.length c1_0, .slice A1_1 l1_1.length c1_1]) (t := 32) ?hr ?_; (case hd => rfl); (case hg => rfl); (case hr => first | (go_simp; done) | (go_simp; rfl)); intro gb422 hg w26 hbox hb; have n0_ := Aside0.mk (blk_below (by exact BK421.out) hb); have n1_ := Aside0.mk (below_step (by repeat first | exact HB.out | apply pw_below_drewN) hb); have n2_ := Aside0.mk (hbox); clear BK421; clear HB; have BK421 := n0_; have HB := n1_; have BK422 := n2_; clear n0_ n1_ n2_; clear hb hbox hg; have hcz28_0 := (blk_cell BK421.out 0).trans rfl; have hcz28_1 := (blk_cell BK421.out 1).trans rfl) | ((with_reducible refine gate_callee (f := 19) rfl ?_); refine goesL_ (some 6) rfl rfl Tryd.func19 (by kernel_rfl) rfl #[.agg #[.slice A0_0 l0_0.length c0_0, .slice A0_1 l0_1.length c0_1]] rfl (by (try simp only [List.map_toArray, List.map_cons, List.map_nil]); first | done | rfl) ?_; (with_reducible refine (impl_TreeOk.calls k _ _ l0_0 _ _ l0_1 false _ ?side1 ?side2 ?side3 ?side4 A3.out).mono ?_); (case side1 => exact (Kd.C_below HR0_0.out HB.out)); (case side2 => exact HC0_0.out); (case side3 => exact (Kd.C_below HR0_1.out HB.out)); (case side4 => exact HC0_1.out); rintro e w29 ⟨rfl, hb⟩; refine ⟨_, rfl, ?_⟩; have n0_ := Aside0.mk (blk_below (by exact BK421.out) hb); have n1_ := Aside0.mk (blk_below (by exact BK422.out) hb); have n2_ := Aside0.mk (below_step (by repeat first | exact HB.out | apply pw_below_drewN) hb); clear BK421; clear BK422; clear HB; have BK421 := n0_; have BK422 := n1_; have HB := n2_; clear n0_ n1_ n2_; (try clear hb); (try clear hb2); (try clear hk); (try clear hi)))
    go_ret
    exact ⟨by first | rfl | (simp [*, errW_none, errW_some] <;> rfl), by repeat first | exact HB.out | apply pw_below_drewN⟩

end Go.Proofs.YtohjpgcmhihdhaaDoor.Q

namespace Go.Proofs.YtohjpgcmhihdhaaDoor.Pure
open Go.RowKit Go.Proofs.YtohjpgcmhihdhaaDoor.Q Go.Proofs.YtohjpgcmhihdhaaDoorW.PrintWords Go.Proofs.YtohjpgcmhihdhaaDoorW.PrintLast Go.Proofs.YtohjpgcmhihdhaaDoorW.PrintMore
set_option linter.unusedVariables false
set_option linter.unusedSimpArgs false
theorem nodes_size : ∀ (l : List S65), (∀ x ∈ l, Small6 x.f0 ∧ Small6 x.f1) → (toB (nodesT l)).size ≤ 1000 * l.length
  | [], _ => Nat.le_refl _
  | x :: l, h => by
    have h1 := node_size x (h x (by simp))
    have h2 := nodes_size l (fun y hy => h y (by simp [hy]))
    rw [nodes_cons, size_app, List.length_cons]
    omega
theorem bkts_size : ∀ (l : List S62), (∀ x ∈ l, BktS x) → (toB (bktsT l)).size ≤ 30000 * l.length
  | [], _ => Nat.le_refl _
  | x :: l, h => by
    have h1 := bkt_size x (h x (by simp))
    have h2 := bkts_size l (fun y hy => h y (by simp [hy]))
    rw [bkts_cons, size_app, List.length_cons]
    omega
theorem text_size {D : List S65} {B : List S62} (V : Valid D B) : (treeB8 D B).size ≤ 400000 := by
  have H := valid_text V
  have h1 := nodes_size D H.d
  have h2 := bkts_size B H.b
  have := V.dev
  have := V.bkt
  rw [treeB8_eq, size_app]
  omega
set_option maxHeartbeats 8000000 in
set_option maxRecDepth 100000 in
theorem lawReadText_at (k : Nat) (A0 : Option Addr) (c0 : Nat) (l0 : List Int) (D : List S65) (B : List S62) (w : World) (hr0 : Kd.C (Kd.int .u8) w A0 l0.length l0) (hc0 : l0.length ≤ c0)
    (e1 : l0.length ≤ 1048576 → spec_A8Tree.f k l0 = some (D, B) ∧ treeOkB D B = true ∧ impl_TreeOk.f k D B = some true ∧ impl_SameTree.f k D B D B = some true) (hD : DoorW w) :
    Calls Tryd.prog 4 #[.slice A0 l0.length c0] w fun e w' => e = .returned (.bool true) ∧ Below w.heap.size w w' := by
  have HA0 := Aside0.mk hr0
  have HC0 := Aside0.mk hc0
  have HD := Aside0.mk hD
  have H0 := Aside0.mk e1
  clear hr0 hc0 e1 hD
  by_cases cl : (l0.length : Int) > 1048576
  case pos =>
    have cb := decide_eq_true (show 1048576 < (l0.length : Int) by omega)
    have cn := decide_eq_true (show 1048576 < l0.length by omega)
    clear cl
    go_enter Tryd.func4, Tryd.ntmps4
    go_wp2_with fail
    go_ret
    exact ⟨rfl, Below.refl _ _⟩
  obtain ⟨E1, E2, E3, E4⟩ := H0.out (by omega)
  replace E1 := Aside0.mk E1
  replace E2 := Aside0.mk E2
  replace E3 := Aside0.mk E3
  replace E4 := Aside0.mk E4
  have V := Aside0.mk (valid_of D B E2.out)
  have TS := Aside0.mk (text_size V.out)
  clear H0
  have cb := decide_eq_false (show ¬ 1048576 < (l0.length : Int) by omega)
  have cn := decide_eq_false (show ¬ 1048576 < l0.length by omega)
  clear cl
  go_enter Tryd.func4, Tryd.ntmps4
  go_wp2_with fail
  refine (spec_A8Tree.calls k A0 c0 l0 D B _ HA0.out HC0.out E1.out).mono ?_
  rintro e w1 ⟨v0, v1, rfl, h0, h1, hb⟩
  have HB := Aside0.mk hb
  obtain ⟨P0, p0, rfl, hl0, hC0⟩ := Kd.R_reads h0
  obtain ⟨P1, p1, rfl⟩ := Kd.S_slice h1
  obtain ⟨-, hl1, hC1⟩ := Kd.S_reads' h1
  have HL0 := Aside0.mk hl0
  have HL1 := Aside0.mk hl1
  have HX0 := Aside0.mk hC0
  have HX1 := Aside0.mk hC1
  clear h0 h1 hb hl0 hl1 hC0 hC1 cb cn
  go_wp2_with fail
  have hb := below_alloc (Below.refl w1.heap.size w1) (.cells #[.slice P0 D.length p0, .slice P1 B.length p1] 32)
  have BT := Aside0.mk (blk_new w1 (.cells #[.slice P0 D.length p0, .slice P1 B.length p1] 32))
  replace HB := Aside0.mk (below_step HB.out hb)
  replace HX0 := Aside0.mk (Kd.C_below HX0.out hb)
  replace HX1 := Aside0.mk (Kd.C_below HX1.out hb)
  clear hb
  generalize (w1.alloc (.cells #[.slice P0 D.length p0, .slice P1 B.length p1] 32)) = w2 at HB HX0 HX1 BT ⊢
  generalize w1.heap.size = gt at BT ⊢
  have ht0 := (blk_cell BT.out 0).trans rfl
  have ht1 := (blk_cell BT.out 1).trans rfl
  (refine (treeTextI_at k P0 p0 D P1 p1 B true _ HX0.out HL0.out HX1.out HL1.out E3.out (fun _ => valid_text V.out) (HD.out.tab.on HB.out)).mono ?_)
  rintro e w3 ⟨he, hb⟩
  have he2 : e = .returned (.tuple #[.string (treeB8 D B), .int .i64 0]) := he
  subst he2
  clear he ht0 ht1
  replace HB := Aside0.mk (below_step HB.out hb)
  replace HX0 := Aside0.mk (Kd.C_below HX0.out hb)
  replace HX1 := Aside0.mk (Kd.C_below HX1.out hb)
  replace BT := Aside0.mk (blk_below BT.out hb)
  clear hb
  go_wp2_with fail
  refine (readTree_at (treeB8 D B) _ (by have := TS.out; omega) (HD.out.on HB.out) treeOkB (read_ok _ (by have := TS.out; omega))).mono ?_
  intro e w4 ho
  obtain ⟨u0, u1, rfl, hb, hu0, hu1⟩ := read_own E2.out ho
  clear ho
  obtain ⟨X0, x0, rfl, hy0, hZ0⟩ := Kd.R_reads hu0
  obtain ⟨X1, x1, rfl⟩ := Kd.S_slice hu1
  obtain ⟨-, hy1, hZ1⟩ := Kd.S_reads' hu1
  have HY0 := Aside0.mk hy0
  have HY1 := Aside0.mk hy1
  have HZ0 := Aside0.mk hZ0
  have HZ1 := Aside0.mk (kqB_C hZ1)
  clear hu0 hu1 hy0 hy1 hZ0 hZ1
  replace HB := Aside0.mk (below_step HB.out hb)
  replace HX0 := Aside0.mk (Kd.C_below HX0.out hb)
  replace HX1 := Aside0.mk (Kd.C_below HX1.out hb)
  replace BT := Aside0.mk (blk_below BT.out hb)
  clear hb
  have hsz : (treeB8 D B).size + 1 ≤ 9223372036854775807 := by have := TS.out; omega
  go_wp2_with fail
  have hb := below_alloc (Below.refl w4.heap.size w4) (.cells #[.slice X0 D.length x0, .slice X1 B.length x1] 32)
  have BX := Aside0.mk (blk_new w4 (.cells #[.slice X0 D.length x0, .slice X1 B.length x1] 32))
  replace HB := Aside0.mk (below_step HB.out hb)
  replace HX0 := Aside0.mk (Kd.C_below HX0.out hb)
  replace HX1 := Aside0.mk (Kd.C_below HX1.out hb)
  replace HZ0 := Aside0.mk (Kd.C_below HZ0.out hb)
  replace HZ1 := Aside0.mk (Kd.C_below HZ1.out hb)
  replace BT := Aside0.mk (blk_below BT.out hb)
  clear hb hsz
  generalize (w4.alloc (.cells #[.slice X0 D.length x0, .slice X1 B.length x1] 32)) = w5 at HB HX0 HX1 HZ0 HZ1 BT BX ⊢
  generalize w4.heap.size = gx at BX ⊢
  have h1 : (⟨#[10]⟩ : ByteArray).size = 1 := rfl
  refine (readTree_at (treeB8 D B ++ (⟨#[10]⟩ : ByteArray)) _ (by rw [size_app]; have := TS.out; omega) (HD.out.on HB.out) treeOkB (read_ok _ (by rw [size_app]; have := TS.out; omega))).mono ?_
  intro e w6 ho
  obtain ⟨rfl, hb⟩ := read_more E2.out ho
  clear ho h1
  replace HB := Aside0.mk (below_step HB.out hb)
  replace HX0 := Aside0.mk (Kd.C_below HX0.out hb)
  replace HX1 := Aside0.mk (Kd.C_below HX1.out hb)
  replace HZ0 := Aside0.mk (Kd.C_below HZ0.out hb)
  replace HZ1 := Aside0.mk (Kd.C_below HZ1.out hb)
  replace BT := Aside0.mk (blk_below BT.out hb)
  replace BX := Aside0.mk (blk_below BX.out hb)
  clear hb
  have ht0 := (blk_cell BT.out 0).trans rfl
  have ht1 := (blk_cell BT.out 1).trans rfl
  have hx0 := (blk_cell BX.out 0).trans rfl
  have hx1 := (blk_cell BX.out 1).trans rfl
  have ht0a := fun o => (blk_cell (blk_alloc BT.out o) 0).trans rfl
  have ht1a := fun o => (blk_cell (blk_alloc BT.out o) 1).trans rfl
  have hx0a := fun o => (blk_cell (blk_alloc BX.out o) 0).trans rfl
  have hx1a := fun o => (blk_cell (blk_alloc BX.out o) 1).trans rfl
  go_wp2_with fail
  have hb := below_alloc (Below.refl w6.heap.size w6) (.cells #[.slice none 0 0, .slice none 0 0] 32)
  replace HB := Aside0.mk (below_step HB.out hb)
  replace HX0 := Aside0.mk (Kd.C_below HX0.out hb)
  replace HX1 := Aside0.mk (Kd.C_below HX1.out hb)
  replace HZ0 := Aside0.mk (Kd.C_below HZ0.out hb)
  replace HZ1 := Aside0.mk (Kd.C_below HZ1.out hb)
  clear hb
  refine (impl_SameTree.calls k X0 x0 D X1 x1 B P0 p0 D P1 p1 B true _ HZ0.out HY0.out HZ1.out HY1.out HX0.out HL0.out HX1.out HL1.out E4.out).mono ?_
  rintro e w7 ⟨rfl, hb⟩
  replace HB := Aside0.mk (below_step HB.out hb)
  clear hb
  go_wp2_with fail
  go_ret
  exact ⟨rfl, HB.out⟩

theorem same_self (D : List S65) (B : List S62) (hv : treeOkB D B = true) (hw : wfTree D B = true) : Ev (fun k => impl_SameTree.f k D B D B) true := by
  have V := valid_of D B hv
  have hD : D.length ≤ 9223372036854775807 := by have := V.dev; omega
  have ho := impl_ok_ev D B hD hw
  rw [hv] at ho
  have hs := impl_same_ev D B D B (by have := V.dev; omega) (fun x hx => by
    obtain ⟨i, hi, rfl⟩ := List.getElem_of_mem hx
    have := (V.bkts i hi).2.2
    omega)
  have e : sameTr D B D B = true := by simp [sameTr]
  rw [e] at hs
  unfold impl_SameTree.f
  refine Ev.bind ho ?_
  simp only [if_true]
  refine Ev.bind ho ?_
  simp only [if_true]
  exact ev_then1 hs
theorem FnTreeText (l0 : List Int) (hwf : ∀ x ∈ l0, (Lit.int .u8 x).wf = true) : ∃ (k : Nat) (D : List S65) (B : List S62), spec_A8Tree.f k l0 = some (D, B) ∧ treeOkB D B = true ∧ impl_TreeOk.f k D B = some true ∧ impl_SameTree.f k D B D B = some true := by
  obtain ⟨D, B, ⟨K1, h1⟩, hv, hw, _, d2, _⟩ := A8Tree_is l0 (bytes_of_wf hwf)
  have ho := impl_ok_ev D B (by omega) hw
  rw [hv] at ho
  obtain ⟨K2, h2⟩ := ho
  obtain ⟨K3, h3⟩ := same_self D B hv hw
  exact ⟨K1 + K2 + K3, D, B, h1 _ (by omega), hv, h2 _ (by omega), h3 _ (by omega)⟩

end Go.Proofs.YtohjpgcmhihdhaaDoor.Pure
