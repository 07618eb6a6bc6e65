/- Walks and plain laws of one claim, several texts in one. -/
import Derived.Test.YtohjpgcmhihdhaaQ0
import Derived.Test.YtohjpgcmhihdhaaQf44
import Derived.Test.YtohjpgcmhihdhaaQf45
import Derived.Test.YtohjpgcmhihdhaaOClear
import Derived.Test.YtohjpgcmhihdhaaQf31
import Derived.Test.YtohjpgcmhihdhaaQf60
import Derived.Test.YtohjpgcmhihdhaaQf61
import Derived.Test.YtohjpgcmhihdhaaQf18
import Derived.Test.YtohjpgcmhihdhaaQf25
import Derived.Test.YtohjpgcmhihdhaaQf26
import Derived.Test.YtohjpgcmhihdhaaQf29
import Derived.Test.YtohjpgcmhihdhaaQf30
import Derived.Test.YtohjpgcmhihdhaaQf32
namespace Go.Proofs.Ytohjpgcmhihdhaa.Q
open Go.RowKit Go.Proofs.YtohjpgcmhihdhaaW.PrintWords Go.Proofs.YtohjpgcmhihdhaaW.PrintLast Go.Proofs.YtohjpgcmhihdhaaW.PrintMore
attribute [local go_sem] max2_int min2_int max_two min_two max_three min_three max_four min_four   -- for this text's walks alone
set_option linter.unusedVariables false
set_option linter.unusedSimpArgs false
/-! ### impl_Tree_placeWhole: function 28 -/
def impl_Tree_placeWhole.l0 : Nat → Int → List Int → Int → Int → List (S34) → List (S70) → Int → Int → Int → Bool → Option (List Int)
  | 0, _, _, _, _, _, _, _, _, _, _ => none
  | k + 1, x2, x9, x13, x14, x351000, x351001, x352000, x352001, x352002, x352003 => if x14 < x13 then ((impl_Tree_search.f k x351000 x351001 x352000 x352001 x352002 x352003 x2 x9 x14 ([] : List Int)).bind fun t355 => (if 0 ≤ x14 then (if x14 < (x9.length : Int) then (impl_Tree_placeWhole.l0 k x2 (x9.set (x14 : Int).toNat t355) x13 (wrap64 (x14 + 1)) x351000 x351001 x352000 x352001 x352002 x352003) else (none)) else (none))) else (some x9)
def impl_Tree_placeWhole.f (k : Nat) (l0_0 : List (S34)) (l0_1 : List (S70)) (a1_0 : Int) (a1_1 : Int) (a1_2 : Int) (a1_3 : Bool) (a2 : Int) (a3 : Int) : Option (List Int) := (impl_emptyPlaces.f a3).bind fun t352 => (impl_Tree_placeWhole.l0 k a2 t352 a3 0 l0_0 l0_1 a1_0 a1_1 a1_2 a1_3)
set_option maxHeartbeats 8000000 in
set_option maxRecDepth 100000 in
theorem impl_Tree_placeWhole.calls (k : Nat) (A0_0 : Option Addr) (c0_0 : Nat) (l0_0 : List (S34)) (A0_1 : Option Addr) (c0_1 : Nat) (l0_1 : List (S70)) (a1_0 : Int) (a1_1 : Int) (a1_2 : Int) (a1_3 : Bool) (a2 : Int) (a3 : Int) (r : List Int) (w : World) (hr0_0 : Kd.C k34 w A0_0 l0_0.length l0_0) (hc0_0 : l0_0.length ≤ c0_0) (hr0_1 : Kd.C k70 w A0_1 l0_1.length l0_1) (hc0_1 : l0_1.length ≤ c0_1) (h : impl_Tree_placeWhole.f k l0_0 l0_1 a1_0 a1_1 a1_2 a1_3 a2 a3 = some r) :
    Calls Try.prog 28 #[.agg #[.slice A0_0 l0_0.length c0_0, .slice A0_1 l0_1.length c0_1], .agg #[.int .i64 a1_0, .int .i64 a1_1, .int .i64 a1_2, .bool a1_3], .int .i64 a2, .int .i64 a3] w fun e w' => ∃ v0_ : Value, e = .returned (v0_) ∧ Kd.R (Kd.int .i64) 2 w' w.heap.size (fun _ => True) v0_ r ∧ Below w.heap.size w w' := by
  have hu26 := Try.underlying26
  have hu29 := Try.underlying29
  have HR0_0 := Aside0.mk hr0_0
  have HC0_0 := Aside0.mk hc0_0
  clear hr0_0 hc0_0
  have HR0_1 := Aside0.mk hr0_1
  have HC0_1 := Aside0.mk hc0_1
  clear hr0_1 hc0_1
  have HB := Aside0.mk (Below.refl w.heap.size w)
  have H : ((impl_emptyPlaces.f a3).bind fun t352 => (impl_Tree_placeWhole.l0 k a2 t352 a3 0 l0_0 l0_1 a1_0 a1_1 a1_2 a1_3)) = some r := h
  clear h
  replace H := Option.bind_eq_some_iff.mp H
  obtain ⟨t352, A50, H⟩ := H
  set_option simprocs false in try dsimp only at H
  have A5 := Aside0.mk A50
  clear A50
  have H' := Aside0.mk H
  clear H
  go_enter Try.func28, Try.ntmps28
  go_wp2_with (first | ((with_reducible refine gate_dst (N := 4) rfl ?_); refine box_event ?hg (N := 4) ?hd (cs := #[.slice A0_0 l0_0.length c0_0, .slice A0_1 l0_1.length c0_1]) (t := 26) ?hr ?_; (case hd => rfl); (case hg => rfl); (case hr => first | (go_simp; done) | (go_simp; rfl)); intro gb350 hg w6 hbox hb; have n0_ := Aside0.mk (below_step (by repeat first | exact HB.out | apply pw_below_drewN) hb); have n1_ := Aside0.mk (hbox); have n2_ := Aside0.mk ((by rw [hg]; exact (below_size (by repeat first | exact HB.out | apply pw_below_drewN)) : w.heap.size ≤ gb350)); have n3_ := Aside0.mk ((by rw [hg]; exact (below_size (by repeat first | exact HB.out | apply pw_below_drewN)) : w.heap.size ≤ gb350)); clear HB; have HB := n0_; have BK350 := n1_; have GW350 := n2_; have GE350 := n3_; clear n0_ n1_ n2_ n3_; clear hb hbox hg) | ((with_reducible refine gate_dst (N := 5) rfl ?_); refine box_event ?hg (N := 5) ?hd (cs := #[.int .i64 a1_0, .int .i64 a1_1, .int .i64 a1_2, .bool a1_3]) (t := 29) ?hr ?_; (case hd => rfl); (case hg => rfl); (case hr => first | (go_simp; done) | (go_simp; rfl)); intro gb351 hg w7 hbox hb; have n0_ := Aside0.mk (blk_below (by exact BK350.out) hb); have n1_ := Aside0.mk (below_step (by repeat first | exact HB.out | apply pw_below_drewN) hb); have n2_ := Aside0.mk (hbox); have n3_ := Aside0.mk ((by rw [hg]; exact (below_size (by repeat first | exact HB.out | apply pw_below_drewN)) : w.heap.size ≤ gb351)); have n4_ := Aside0.mk ((by rw [hg]; exact (below_size (by repeat first | exact HB.out | apply pw_below_drewN)) : w.heap.size ≤ gb351)); have n5_ := Aside0.mk ((by rw [hg]; exact Nat.ne_of_lt (blk_lt (g := gb350) (o := .cells #[.slice A0_0 l0_0.length c0_0, .slice A0_1 l0_1.length c0_1] 26 (0, 0)) (by exact BK350.out)) : gb350 ≠ gb351)); have n6_ := Aside0.mk ((by rw [hg]; exact Nat.ne_of_gt (blk_lt (g := gb350) (o := .cells #[.slice A0_0 l0_0.length c0_0, .slice A0_1 l0_1.length c0_1] 26 (0, 0)) (by exact BK350.out)) : gb351 ≠ gb350)); clear BK350; clear HB; have BK350 := n0_; have HB := n1_; have BK351 := n2_; have GW351 := n3_; have GE351 := n4_; have NB350_351 := n5_; have NB351_350 := n6_; clear n0_ n1_ n2_ n3_ n4_ n5_ n6_; clear hb hbox hg) | ((with_reducible refine gate_callee (f := 45) rfl ?_); refine goesL_ (some 12) rfl rfl Try.func45 (by kernel_rfl) rfl #[.int .i64 a3] rfl (by (try simp only [List.map_toArray, List.map_cons, List.map_nil]); first | done | rfl) ?_; (with_reducible refine (impl_emptyPlaces.calls a3 t352 _ A5.out).mono ?_); rintro e w8 ⟨v353, rfl, ho0, hb⟩; refine ⟨_, rfl, ?_⟩; have n0_ := Aside0.mk (Kd.R_lower ho0 (below_size (by repeat first | exact HB.out | apply pw_below_drewN))); have n1_ := Aside0.mk (blk_below (by exact BK350.out) hb); have n2_ := Aside0.mk (blk_below (by exact BK351.out) hb); have n3_ := Aside0.mk (below_step (by repeat first | exact HB.out | apply pw_below_drewN) hb); clear BK350; clear BK351; clear HB; have HO354 := n0_; have BK350 := n1_; have BK351 := n2_; have HB := n3_; clear n0_ n1_ n2_ n3_; (try clear hb); (try clear hb2); (try clear hk); (try clear hi); (try clear ho0)))
  go_loopg [14] k (fun kq v14 w' => ∃ (x9_1 : List Int) (x14_1 : Int), v14 = .int .i64 x14_1 ∧ Aside0 (impl_Tree_placeWhole.l0 kq a2 x9_1 a3 x14_1 l0_0 l0_1 a1_0 a1_1 a1_2 a1_3 = some r) ∧ Aside0 (kq ≤ k) ∧ Aside0 (Kd.R (Kd.int .i64) 2 w' w.heap.size (fun _ => True) v353 x9_1) ∧ Aside0 (w'.heap[gb350]? = some (.cells #[(.slice A0_0 l0_0.length c0_0), (.slice A0_1 l0_1.length c0_1)] 26 (0, 0))) ∧ Aside0 (w'.heap[gb351]? = some (.cells #[.int .i64 a1_0, .int .i64 a1_1, .int .i64 a1_2, .bool a1_3] 29 (0, 0))) ∧ Aside0 (Below w.heap.size w w'))
  case atStart => exact ⟨(t352), (0), (by first | rfl | (simp; done) | (simp [*]; done)), H', ⟨Nat.le_refl _⟩, ⟨by (with_reducible repeat (first | apply Kd.R_alloc | apply Kd.R_drewN | apply Kd.R_drew)); exact HO354.out⟩, ⟨by exact BK350.out⟩, ⟨by exact BK351.out⟩, ⟨by repeat first | exact HB.out | apply pw_below_drewN⟩⟩
  case round =>
    clear H'
    try clear c2
    try clear p2
    try clear c4
    obtain ⟨x9_1, x14_1, rfl, HA, HK1, HO_9, BK350, BK351, HB⟩ := hrel
    cases gk with
    | zero => exact absurd HA.out (by simp [impl_Tree_placeWhole.l0])
    | succ k1 =>
      have H := HA.out
      clear HA
      simp only [impl_Tree_placeWhole.l0] at H
      by_cases c9 : x14_1 < a3
      · rw [if_pos c9] at H
        have c9b0 : decide (x14_1 < a3) = true := decide_eq_true c9
        clear c9
        replace H := Option.bind_eq_some_iff.mp H
        obtain ⟨t355, A100, H⟩ := H
        set_option simprocs false in try dsimp only at H
        have A10 := Aside0.mk A100
        clear A100
        by_cases c11 : 0 ≤ x14_1
        · rw [if_pos c11] at H
          have c11b0 : decide (0 ≤ x14_1) = true := decide_eq_true c11
          clear c11
          by_cases c12 : x14_1 < (x9_1.length : Int)
          · rw [if_pos c12] at H
            have c12b0 : decide (x14_1 < (x9_1.length : Int)) = true := decide_eq_true c12
            clear c12
            obtain ⟨y356, hy356⟩ : ∃ y_ : List Int, y_ = (x9_1.set (x14_1 : Int).toNat t355) := ⟨_, rfl⟩
            replace H : (impl_Tree_placeWhole.l0 k1 a2 y356 a3 (wrap64 (x14_1 + 1)) l0_0 l0_1 a1_0 a1_1 a1_2 a1_3) = some r := by first | (rw [hy356]; with_reducible exact H) | (have H2_ := (Option.bind_some _ _).symm.trans H; rw [hy356]; with_reducible exact H2_) | (have H2_ := (Option.bind_some _ _).symm.trans H; with_reducible exact H2_) | with_reducible exact H | (rw [hy356]; exact H) | exact H
            have Ny356 := Aside0.mk hy356
            clear hy356
            have H' := Aside0.mk H
            clear H
            have hnb14 := NB350_351.out
            have hnc14 := NB351_350.out
            have hcz15_0 := (blk_cell BK350.out 0).trans rfl
            have hcz15_1 := (blk_cell BK350.out 1).trans rfl
            have hcz16_0 := (blk_cell BK351.out 0).trans rfl
            have hcz16_1 := (blk_cell BK351.out 1).trans rfl
            have hcz16_2 := (blk_cell BK351.out 2).trans rfl
            have hcz16_3 := (blk_cell BK351.out 3).trans rfl
            obtain ⟨Ao17, co17, eo17⟩ := Kd.R_slice HO_9.out
            subst eo17
            go_wp2_with (first | ((with_reducible refine gate_callee (f := 44) rfl ?_); refine goesL_ (some 24) rfl rfl Try.func44 (by kernel_rfl) rfl #[.agg #[.slice A0_0 l0_0.length c0_0, .slice A0_1 l0_1.length c0_1], .agg #[.int .i64 a1_0, .int .i64 a1_1, .int .i64 a1_2, .bool a1_3], .int .i64 a2, .slice Ao17 x9_1.length co17, .int .i64 x14_1, .slice none 0 0] rfl (by (try simp only [List.map_toArray, List.map_cons, List.map_nil]); first | done | rfl) ?_; (refine (impl_Tree_search.calls k1 _ _ l0_0 _ _ l0_1 a1_0 a1_1 a1_2 a1_3 a2 _ _ x9_1 x14_1 _ _ ([] : List Int) t355 _ ?side1 ?side2 ?side3 ?side4 ?side5 ?side6 ?side7 ?side8 A10.out).mono ?_); (case side1 => exact (Kd.C_below HR0_0.out HB.out)); (case side2 => exact HC0_0.out); (case side3 => exact (Kd.C_below HR0_1.out HB.out)); (case side4 => exact HC0_1.out); (case side5 => exact (Kd.R_reads' HO_9.out).2.2); (case side6 => exact (Kd.R_reads' HO_9.out).2.1); (case side7 => exact Kd.C_nil _ _); (case side8 => exact Nat.le_refl _); rintro e w18 ⟨rfl, hb⟩; refine ⟨_, rfl, ?_⟩; have n0_ := Aside0.mk (Kd.R_below (by (with_reducible repeat (first | apply Kd.R_alloc | apply Kd.R_drewN | apply Kd.R_drew)); exact HO_9.out) hb); have n1_ := Aside0.mk (blk_below (by exact BK350.out) hb); have n2_ := Aside0.mk (blk_below (by exact BK351.out) hb); have n3_ := Aside0.mk (below_step (by repeat first | exact HB.out | apply pw_below_drewN) hb); clear HO_9; clear BK350; clear BK351; clear HB; have HO_9 := n0_; have BK350 := n1_; have BK351 := n2_; have HB := n3_; clear n0_ n1_ n2_ n3_; (try clear hb); (try clear hb2); (try clear hk); (try clear hi); have p13 : 0 ≤ (x14_1 : Int) := of_decide_eq_true (by assumption); have q13 : (x14_1 : Int) < ((x9_1.length : Int) : Int) := of_decide_eq_true (by assumption); obtain ⟨go13, co13, eo13, gb13, gl13, cl13, HG13⟩ := Kd.R_form HO_9.out (by omega); (first | cases eo13 | (injection eo13 with ea_ en_ ec_; (first | subst ea_ | (injection ea_ with ea_; subst ea_)); subst ec_; clear en_)); have GB13 := Aside0.mk gb13; have GG13 := Aside0.mk HG13; clear gb13 gl13 HG13; obtain ⟨hx13_0, hf13_0⟩ := Kd.R_celln 0 HO_9.out (x14_1 : Int) p13 q13; replace p13 := eq_true p13; replace q13 := eq_true q13; obtain ⟨hy19_, hz19_⟩ := Kd.R_celln 0 HO_9.out (x14_1 : Int) (of_decide_eq_true (by assumption)) (of_decide_eq_true (by assumption)); have HP19 := Kd.R_putg HO_9.out (x14_1 : Int) t355) | ((with_reducible refine gate_store (t := 2) (p := 25) rfl ?_); refine store_event (t := 2) (p := 25) (v := ?vo_w20) (w1 := (w18.setCell ⟨go13, (x14_1 : Int).toNat, none⟩ (.int .i64 t355))) ?hg ?ho ?hn ?hr ?_; (case ho => rfl); (case hg => rfl); (case hn => rfl); (case hr => first | (go_simp; done) | (go_simp; rfl)); intro w20 hw; have hg : w18.grownBy w20 (some go13) := (by rw [hw]; exact HP19.2); have hp_ : Kd.R (Kd.int .i64) 2 w20 w.heap.size (fun _ => True) (.slice (some ⟨go13, 0, none⟩) x9_1.length co17) y356 := (by rw [hw, Ny356.out]; exact HP19.1); clear HP19; have n0_ := Aside0.mk (hp_); have n1_ := Aside0.mk (blk_grown (g := gb350) (o := .cells #[.slice A0_0 l0_0.length c0_0, .slice A0_1 l0_1.length c0_1] 26 (0, 0)) (by exact BK350.out) hg (Kd.R_ne HO_9.out BK350.out (by decide))); have n2_ := Aside0.mk (blk_grown (g := gb351) (o := .cells #[.int .i64 a1_0, .int .i64 a1_1, .int .i64 a1_2, .bool a1_3] 29 (0, 0)) (by exact BK351.out) hg (Kd.R_ne HO_9.out BK351.out (by decide))); have n3_ := Aside0.mk ((by rw [hw]; exact below_set (HB.out) GB13.out : Below w.heap.size w w20)); clear HO_9; clear BK350; clear BK351; clear HB; have HO_9 := n0_; have BK350 := n1_; have BK351 := n2_; have HB := n3_; clear n0_ n1_ n2_ n3_; clear hg hw hp_))
            go_roundg k1
            case measure => have := HK1.out; omega
            case rel => exact ⟨(y356), (wrap64 (x14_1 + 1)), (by first | rfl | (simp; done) | (simp [*]; done)), H', ⟨by have := HK1.out; omega⟩, ⟨by (with_reducible repeat (first | apply Kd.R_alloc | apply Kd.R_drewN | apply Kd.R_drew)); exact HO_9.out⟩, ⟨by exact BK350.out⟩, ⟨by exact BK351.out⟩, ⟨by repeat first | exact HB.out | apply pw_below_drewN⟩⟩
          · rw [if_neg c12] at H
            exact absurd H (by simp)
        · rw [if_neg c11] at H
          exact absurd H (by simp)
      · rw [if_neg c9] at H
        have c9b0 : decide (x14_1 < a3) = false := decide_eq_false c9
        clear c9
        obtain rfl := Option.some.inj H
        go_wp2
        go_ret
        exact ⟨_, by first | rfl | (simp [*, errW_none, errW_some] <;> rfl), by (with_reducible repeat (first | apply Kd.R_alloc | apply Kd.R_drewN | apply Kd.R_drew)); exact HO_9.out, by repeat first | exact HB.out | apply pw_below_drewN⟩

/-! ### impl_Tree_place: function 27 -/
/-- a thing is struck, or all are kept -/
theorem idx_split (p : Int → Bool) : ∀ (l : List Int) (i : Int), (idxFrom p l i = -1 ∧ ∀ x ∈ l, p x = false) ∨ ∃ n, n < l.length ∧ idxFrom p l i = i + (n : Int) ∧ p (l.getD n 0) = true ∧ ∀ x ∈ l.take n, p x = false
  | [], i => .inl ⟨rfl, fun x h => by cases h⟩
  | y :: l, i => by
    cases hy : p y with
    | true => exact .inr ⟨0, by simp, by simp [idxFrom, hy], by simpa using hy, fun x h => by cases h⟩
    | false =>
      rcases idx_split p l (i + 1) with ⟨e, h⟩ | ⟨n, hn, e, h1, h2⟩
      · exact .inl ⟨by simp [idxFrom, hy, e], fun x hx => by rcases List.mem_cons.1 hx with rfl | hx; exact hy; exact h x hx⟩
      · refine .inr ⟨n + 1, by simpa using hn, ?_, by simpa using h1, fun x hx => ?_⟩
        · simp only [idxFrom, hy, Bool.false_eq_true, if_false, e]
          omega
        · rcases List.mem_cons.1 hx with rfl | hx
          · exact hy
          · exact h2 x hx
/-- what holds while the kept ones are laid to the front -/
structure KeptAt (q : Int → Bool) (xs ys : List Int) (i j : Nat) : Prop where
  len : ys.length = xs.length
  lt : i < j
  le : j ≤ xs.length
  front : ys.take i = (xs.take j).filter q
  back : ys.drop j = xs.drop j
theorem KeptAt.here {q : Int → Bool} {xs ys : List Int} {i j : Nat} (h : KeptAt q xs ys i j) (hj : j < xs.length) : rd ys (j : Int) = xs.getD j 0 := by
  have e := congrArg (fun l => l.head?) h.back
  simp only [List.head?_drop] at e
  unfold rd
  rw [Int.toNat_natCast, List.getD_eq_getElem?_getD, List.getD_eq_getElem?_getD, e]
theorem KeptAt.skip {q : Int → Bool} {xs ys : List Int} {i j : Nat} (h : KeptAt q xs ys i j) (hj : j < xs.length) (hq : q (xs.getD j 0) = false) : KeptAt q xs ys i (j + 1) := by
  have e : xs.getD j 0 = xs[j] := by rw [List.getD_eq_getElem?_getD, List.getElem?_eq_getElem hj]; rfl
  refine ⟨h.len, by have := h.lt; omega, hj, ?_, ?_⟩
  · rw [h.front, List.take_succ_eq_append_getElem hj, List.filter_append, List.filter_cons_of_neg (by rw [← e, hq]; decide)]
    simp
  · rw [← List.drop_drop (i := 1) (j := j), h.back, List.drop_drop]
theorem KeptAt.keep {q : Int → Bool} {xs ys : List Int} {i j : Nat} (h : KeptAt q xs ys i j) (hj : j < xs.length) (hq : q (xs.getD j 0) = true) : KeptAt q xs (ys.set i (xs.getD j 0)) (i + 1) (j + 1) := by
  have e : xs.getD j 0 = xs[j] := by rw [List.getD_eq_getElem?_getD, List.getElem?_eq_getElem hj]; rfl
  have h1 := h.lt
  have h2 := h.len
  refine ⟨by rw [List.length_set, h2], by omega, hj, ?_, ?_⟩
  · rw [List.take_succ_eq_append_getElem (by rw [List.length_set]; omega), List.take_set_of_le (Nat.le_refl _), h.front, List.getElem_set_self, List.take_succ_eq_append_getElem hj, List.filter_append, List.filter_cons_of_pos (by rw [← e]; exact hq), e]
    simp
  · rw [List.drop_set_of_lt (by omega), ← List.drop_drop (i := 1) (j := j), h.back, List.drop_drop]
theorem KeptAt.start {p : Int → Bool} {xs : List Int} {n : Nat} (hn : n < xs.length) (hp : p (xs.getD n 0) = true) (hf : ∀ x ∈ xs.take n, p x = false) : KeptAt (fun x => !p x) xs xs n (n + 1) := by
  have e : xs.getD n 0 = xs[n] := by rw [List.getD_eq_getElem?_getD, List.getElem?_eq_getElem hn]; rfl
  refine ⟨rfl, by omega, hn, ?_, rfl⟩
  rw [List.take_succ_eq_append_getElem hn, List.filter_append, List.filter_cons_of_neg (by rw [← e, hp]; decide), List.filter_eq_self.2 (fun x hx => by simp [hf x hx])]
  simp
theorem KeptAt.done {q : Int → Bool} {xs ys : List Int} {i : Nat} (h : KeptAt q xs ys i xs.length) : ys.take i = xs.filter q := by
  have := h.front
  rwa [List.take_length] at this
set_option maxHeartbeats 4000000 in
set_option maxRecDepth 100000 in
theorem deleteInts.calls (g cap n : Nat) (xs : List Int) (f : Nat) (lb : Array Value) (p : Int → Bool) (w0 w : World) (eg : ∀ args w, (callFunc f args).run Try.prog w = .ok (.enter f args) w)
    (hp : ∀ (W : World) (x : Int), Calls Try.prog f (#[.int .i64 x] ++ lb) W fun e w' => e = .returned (.bool (p x)) ∧ Below W.heap.size W w')
    (hO : Kd.R (Kd.int .i64) 2 w w0.heap.size (fun _ => True) (.slice (some ⟨g, 0, none⟩) n cap) xs) (hB : Below w0.heap.size w0 w) :
    Calls Try.prog 46 #[.slice (some ⟨g, 0, none⟩) n cap, .func (.func f) #[] lb] w fun e w' => ∃ m, e = .returned (.slice (some ⟨g, 0, none⟩) m cap) ∧ Kd.R (Kd.int .i64) 2 w' w0.heap.size (fun _ => True) (.slice (some ⟨g, 0, none⟩) m cap) (xs.filter fun x => !p x) ∧ Below w0.heap.size w0 w' ∧ w.grownBy w' (some g) := by
  obtain ⟨rfl, hcap, hC⟩ := Kd.R_reads' hO
  have hm := Kd.C_max hC
  have HP := Aside0.mk hp
  have hI := indexInt64.calls (some ⟨g, 0, none⟩) cap xs f lb p w eg hC (fun W x cs hW hcs => by
    have e : cs = [.int .i64 x] := hcs
    subst e
    exact (hp W x).mono (fun e w' h => ⟨h.1, below_step hW h.2⟩))
  have HG := Aside0.mk (Kd.R_base hO g rfl)
  rcases idx_split p xs 0 with ⟨e, hall⟩ | ⟨i0, hi0, e, ht, hall⟩
  · rw [e] at hI
    have HF := Aside0.mk (show (xs.filter fun x => !p x) = xs from List.filter_eq_self.2 (fun x hx => by simp [hall x hx]))
    have HO := Aside0.mk hO
    have HB := Aside0.mk hB
    clear hO hB hC hp hall e
    go_enter Try.func46, Try.ntmps46
    go_wp2_with fail
    (with_reducible refine hI.mono ?_)
    clear hI
    rintro e w1 ⟨rfl, hb⟩
    have HO1 := Aside0.mk (Kd.R_below HO.out hb)
    have HB1 := Aside0.mk (below_step HB.out hb)
    have HK := Aside0.mk (grown_of_below hb (some g))
    clear hb
    go_wp2_with fail
    go_ret
    exact ⟨_, rfl, by rw [HF.out]; exact HO1.out, HB1.out, HK.out⟩
  · rw [e, Int.zero_add] at hI
    have HO := Aside0.mk hO
    have HB := Aside0.mk hB
    have HS := Aside0.mk (KeptAt.start hi0 ht hall)
    clear hO hB hC hp hall e ht
    go_enter Try.func46, Try.ntmps46
    have hne : ((i0 : Int) == -1) = false := beq_eq_false_iff_ne.2 (by omega)
    go_wp2_with fail
    (with_reducible refine hI.mono ?_)
    clear hI
    rintro e w1 ⟨rfl, hb⟩
    have HO1 := Aside0.mk (Kd.R_below HO.out hb)
    have HB1 := Aside0.mk (below_step HB.out hb)
    have HK := Aside0.mk (grown_of_below hb (some g))
    clear hb HO HB
    go_wp2_with fail
    go_loopg [5, 6, 7] xs.length (fun gg s5 s6 _ wr => ∃ (i j : Nat) (ys : List Int), s5 = .int .i64 (i : Int) ∧ s6 = .int .i64 (j : Int) ∧ j ≤ xs.length ∧ xs.length - j ≤ gg ∧ Aside0 (KeptAt (fun x => !p x) xs ys i j) ∧ Aside0 (Kd.R (Kd.int .i64) 2 wr w0.heap.size (fun _ => True) (.slice (some ⟨g, 0, none⟩) xs.length cap) ys) ∧ Aside0 (Below w0.heap.size w0 wr) ∧ Aside0 (w.grownBy wr (some g)))
    case atStart => exact ⟨i0, i0 + 1, xs, rfl, by rw [Int.natCast_add]; go_num, by omega, by omega, HS, HO1, HB1, HK⟩
    case round =>
      clear HS HO1 HB1 HK hne
      obtain ⟨i, j, ys, rfl, rfl, hjn, hgg, HS, HO, HB, HK⟩ := hrel
      have hij := HS.out.lt
      have c1 := eq_true (show (0 : Int) ≤ (j : Int) by omega)
      by_cases hlt : j < xs.length
      · have c2 := eq_true (show (j : Int) < (xs.length : Int) by omega)
        have c3 := eq_true (show (0 : Int) ≤ (i : Int) by omega)
        have c4 := eq_true (show (i : Int) < (xs.length : Int) by omega)
        have hcj : wr.cell? ⟨g, j, none⟩ = some (.int .i64 (rd ys (j : Int))) := (Kd.R_celln (0 : Int) HO.out (j : Int) (by omega) (by omega)).1
        rw [HS.out.here hlt] at hcj
        have hcall := HP.out wr (xs.getD j 0)
        have HS1 := Aside0.mk (fun h => HS.out.skip hlt h)
        have HS2 := Aside0.mk (fun h => HS.out.keep hlt h)
        generalize xs.getD j 0 = u at hcj hcall HS1 HS2
        cases hq : p u with
        | true =>
          rw [hq] at hcall
          have HQ := Aside0.mk hq
          clear hq c3 c4
          go_wp2_with fail
          (with_reducible refine hcall.mono ?_)
          clear hcall
          rintro e w2 ⟨rfl, hb⟩
          have HO2 := Aside0.mk (Kd.R_below HO.out hb)
          have HB2 := Aside0.mk (below_step HB.out hb)
          have HK2 := Aside0.mk (HK.out.trans (grown_of_below hb (some g)))
          clear hb hcj
          go_wp2_with fail
          go_roundg (gk - 1)
          case measure => omega
          case rel => exact ⟨i, j + 1, ys, rfl, by rw [Int.natCast_add]; go_num, by omega, by omega, ⟨HS1.out (by simp [HQ.out])⟩, HO2, HB2, HK2⟩
        | false =>
          rw [hq] at hcall
          have HQ := Aside0.mk hq
          clear hq
          go_wp2_with fail
          (with_reducible refine hcall.mono ?_)
          clear hcall
          rintro e w2 ⟨rfl, hb⟩
          have HO2 := Aside0.mk (Kd.R_below HO.out hb)
          have HB2 := Aside0.mk (below_step HB.out hb)
          have HK2 := Aside0.mk (HK.out.trans (grown_of_below hb (some g)))
          clear hb hcj
          obtain ⟨hci, hfi⟩ := Kd.R_celln (0 : Int) HO2.out (i : Int) (by omega) (by omega)
          rw [Int.toNat_natCast] at hci hfi
          go_wp2_with fail
          clear hci hfi
          have HO3 := Aside0.mk (Kd.R_putn HO2.out (i : Int) u)
          have HB3 := Aside0.mk (below_set (j := i) (v := .int .i64 u) HB2.out HG.out)
          have ho := Kd.own_of_R HO2.out
          rw [HS.out.len] at ho
          have HK3 := Aside0.mk (HK2.out.trans (ho.stored i (.int .i64 u)).2)
          clear ho
          rw [Int.toNat_natCast] at HO3
          go_roundg (gk - 1)
          case measure => omega
          case rel => exact ⟨i + 1, j + 1, ys.set i u, by rw [Int.natCast_add]; go_num, by rw [Int.natCast_add]; go_num, by omega, by omega, ⟨HS2.out (by simp [HQ.out])⟩, HO3, HB3, HK3⟩
      · obtain rfl : j = xs.length := by omega
        have c2 := eq_false (show ¬ (xs.length : Int) < (xs.length : Int) by omega)
        have c3 := eq_true (show (0 : Int) ≤ (i : Int) by omega)
        have c4 := eq_true (show (i : Int) ≤ (xs.length : Int) by omega)
        have c5 := eq_true (show (i : Int) ≤ (cap : Int) by omega)
        have c6 := eq_false (show ¬ cap = i by omega)
        have hlen := HS.out.len
        have hcl : ∀ ty, (Builtin.clear_ #[36] ty #[.slice (some ⟨g, i, none⟩) (xs.length - i) (cap - i)]).run Try.prog wr = .ok (.tuple #[]) (wr.setCells g i (List.replicate (xs.length - i) (.int .i64 0))) := fun ty =>
          clear_ints wr 36 ty Try.underlying36 (fun w => by kernel_rfl) g i _ _ (by omega) (fun k hk => by
            have := (Kd.R_celln (0 : Int) HO.out ((i + k : Nat) : Int) (by omega) (by omega)).1
            rw [Int.toNat_natCast] at this
            rw [this]; rfl) (fun k hk => by
            have := (Kd.R_celln (0 : Int) HO.out ((i + k : Nat) : Int) (by omega) (by omega)).2
            rwa [Int.toNat_natCast] at this)
        have HL := Aside0.mk (R_laid i (List.replicate (xs.length - i) 0) HO.out hlen (by simp; omega))
        have ez : encs (Value.int .i64) (List.replicate (xs.length - i) 0) = List.replicate (xs.length - i) (.int .i64 0) := by simp [encs]
        rw [ez] at HL
        have HB4 := Aside0.mk (HB.out.grown HL.out.2 (below_size HB.out) (fun k hk => by injection hk with hk; subst hk; exact HG.out))
        have HK4 := Aside0.mk (HK.out.trans HL.out.2)
        have HT := Aside0.mk (Kd.R_take HL.out.1 (m := i) (by simp; omega))
        have HF := Aside0.mk HS.out.done
        have HI := Aside0.mk (show i ≤ ys.length by omega)
        clear ez HL hlen hij
        go_wp2_with fail
        go_ret
        refine ⟨i, rfl, ?_, HB4.out, HK4.out⟩
        have h := HT.out
        rwa [List.append_assoc, List.take_append, List.length_take, Nat.min_eq_left HI.out, Nat.sub_self, List.take_zero, List.append_nil, List.take_take, Nat.min_self, HF.out] at h
/-- those of the devices that are out are found anew, place by place -/
def insteadL (has : Int → Option Bool) (g : List Int → Nat → Option Int) : Nat → Nat → List Int → Option (List Int)
  | 0, _, L => some L
  | d + 1, a, L => (has (rd L a)).bind fun t => if t = true then (g L a).bind fun x => insteadL has g d (a + 1) (L.set a x) else insteadL has g d (a + 1) L
theorem instead_here (has : Int → Option Bool) (g : List Int → Nat → Option Int) (N a : Nat) (L : List Int) (h : a < N) : insteadL has g (N - a) a L = (has (rd L a)).bind fun t => if t = true then (g L a).bind fun x => insteadL has g (N - (a + 1)) (a + 1) (L.set a x) else insteadL has g (N - (a + 1)) (a + 1) L := by
  rw [show N - a = (N - (a + 1)) + 1 by omega]
  rfl
def frontL (M ys : List Int) : List Int := ys.take (min ys.length M.length) ++ M.drop (min ys.length M.length)
def impl_Tree_place.f (k : Nat) (l0_0 : List (S34)) (l0_1 : List (S70)) (a1_0 a1_1 a1_2 : Int) (a1_3 : Bool) (a2 a3 : Int) (l4 : List Int) : Option (List Int) :=
  if 0 ≤ a3 ∧ a3 ≤ 7 then (impl_Tree_placeWhole.f k l0_0 l0_1 a1_0 a1_1 a1_2 a1_3 a2 a3).bind fun P => if P.length = a3.toNat then (insteadL (fun x => slices_Contains_int64_int64.f k l4 x) (fun L a => impl_Tree_search.f k l0_0 l0_1 a1_0 a1_1 a1_2 a1_3 a2 L (a : Int) l4) a3.toNat 0 P).bind fun L => if a1_3 = true then some L else (impl_emptyPlaces.f a3).bind fun M => some (frontL M (L.filter fun x => !decide (x < 0))) else none else none
set_option maxHeartbeats 4000000 in
set_option maxRecDepth 100000 in
/-- the same for whatever slice one owns -/
theorem deleteAny.calls (A : Option Addr) (n c : Nat) (xs : List Int) (f : Nat) (lb : Array Value) (p : Int → Bool) (w0 w : World) (eg : ∀ args w, (callFunc f args).run Try.prog w = .ok (.enter f args) w)
    (hp : ∀ (W : World) (x : Int), Calls Try.prog f (#[.int .i64 x] ++ lb) W fun e w' => e = .returned (.bool (p x)) ∧ Below W.heap.size W w')
    (hO : Kd.R (Kd.int .i64) 2 w w0.heap.size (fun _ => True) (.slice A n c) xs) (hB : Below w0.heap.size w0 w) :
    Calls Try.prog 46 #[.slice A n c, .func (.func f) #[] lb] w fun e w' => ∃ m, e = .returned (.slice A m c) ∧ Kd.R (Kd.int .i64) 2 w' w0.heap.size (fun _ => True) (.slice A m c) (xs.filter fun x => !p x) ∧ Below w0.heap.size w0 w' ∧ ∀ k, k < w.heap.size → some k ≠ (Value.slice A n c).ownBlock → w'.heap[k]? = w.heap[k]? := by
  rcases (Kd.own_of_R hO).2 with ⟨ev, hz⟩ | ⟨g, cap, cur, ev, -⟩
  · injection ev with e1 e2 e3
    subst e1 e2 e3
    have hx : xs = [] := List.eq_nil_of_length_eq_zero (Kd.R_reads' hO).1.symm
    subst hx
    have hI := indexInt64.calls none 0 [] f lb p w eg (Kd.C_nil _ _) (fun W x cs hW hcs => by
      have e : cs = [.int .i64 x] := hcs
      subst e
      exact (hp W x).mono (fun e w' h => ⟨h.1, below_step hW h.2⟩))
    rw [show ([] : List Int).length = 0 from rfl] at hI
    have HB := Aside0.mk hB
    clear hO hB hp hz
    go_enter Try.func46, Try.ntmps46
    go_wp2_with fail
    (with_reducible refine hI.mono ?_)
    clear hI
    rintro e w1 ⟨rfl, hb⟩
    have HB1 := Aside0.mk (below_step HB.out hb)
    have HK := Aside0.mk (fun k (hk : k < w.heap.size) => hb.block k hk)
    clear hb
    have e0 : idxFrom p ([] : List Int) 0 = -1 := rfl
    rw [e0]
    go_wp2_with fail
    go_ret
    exact ⟨0, rfl, Kd.R_nil _ _ _ _ _, HB1.out, fun k hk _ => HK.out k hk⟩
  · injection ev with e1 e2 e3
    subst e1 e2 e3
    exact (deleteInts.calls g c _ xs f lb p w0 w eg hp hO hB).mono fun e w' ⟨m, h1, h2, h3, h4⟩ => ⟨m, h1, h2, h3, fun k hk hne => h4.block k hk hne⟩
theorem placeClosure.calls (W : World) (x : Int) : Calls Try.prog 47 (#[.int .i64 x] ++ #[]) W fun e w' => e = .returned (.bool (decide (x < 0))) ∧ Below W.heap.size W w' := by
  show Calls Try.prog 47 #[.int .i64 x] W _
  go_enter Try.func47, Try.ntmps47
  go_wp2_with fail
  go_ret
  exact ⟨rfl, Below.refl _ _⟩
set_option maxHeartbeats 8000000 in
set_option maxRecDepth 100000 in
theorem impl_Tree_place.calls (k : Nat) (A0_0 : Option Addr) (c0_0 : Nat) (l0_0 : List (S34)) (A0_1 : Option Addr) (c0_1 : Nat) (l0_1 : List (S70)) (a1_0 : Int) (a1_1 : Int) (a1_2 : Int) (a1_3 : Bool) (a2 : Int) (a3 : Int) (A4 : Option Addr) (c4 : Nat) (l4 : List Int) (r : List Int) (w : World) (hr0_0 : Kd.C k34 w A0_0 l0_0.length l0_0) (hc0_0 : l0_0.length ≤ c0_0) (hr0_1 : Kd.C k70 w A0_1 l0_1.length l0_1) (hc0_1 : l0_1.length ≤ c0_1) (hr4 : Kd.C (Kd.int .i64) w A4 l4.length l4) (hc4 : l4.length ≤ c4) (h : impl_Tree_place.f k l0_0 l0_1 a1_0 a1_1 a1_2 a1_3 a2 a3 l4 = some r) :
    Calls Try.prog 27 #[.agg #[.slice A0_0 l0_0.length c0_0, .slice A0_1 l0_1.length c0_1], .agg #[.int .i64 a1_0, .int .i64 a1_1, .int .i64 a1_2, .bool a1_3], .int .i64 a2, .int .i64 a3, .slice A4 l4.length c4] w fun e w' => ∃ v_ : Value, e = .returned v_ ∧ Kd.R (Kd.int .i64) 2 w' w.heap.size (fun _ => True) v_ r ∧ Below w.heap.size w w' := by
  have HA0 := Aside0.mk hr0_0
  have HA1 := Aside0.mk hr0_1
  have HC0 := Aside0.mk hc0_0
  have HC1 := Aside0.mk hc0_1
  have HL := Aside0.mk hr4
  have HD := Aside0.mk hc4
  clear hr0_0 hr0_1 hc0_0 hc0_1 hr4 hc4
  unfold impl_Tree_place.f at h
  by_cases hn : 0 ≤ a3 ∧ a3 ≤ 7
  case neg => rw [if_neg hn] at h; cases h
  rw [if_pos hn] at h
  obtain ⟨P, E1, h1⟩ := Option.bind_eq_some_iff.1 h
  clear h
  by_cases hl : P.length = a3.toNat
  case neg => rw [if_neg hl] at h1; cases h1
  rw [if_pos hl] at h1
  obtain ⟨L, E2, h⟩ := Option.bind_eq_some_iff.1 h1
  clear h1
  replace E1 := Aside0.mk E1
  obtain ⟨N, rfl⟩ := Int.eq_ofNat_of_zero_le hn.1
  rw [Int.toNat_natCast] at E2 hl
  replace E2 := Aside0.mk (show insteadL (fun x => slices_Contains_int64_int64.f k l4 x) (fun L a => impl_Tree_search.f k l0_0 l0_1 a1_0 a1_1 a1_2 a1_3 a2 L (a : Int) l4) (N - 0) 0 P = some L from E2)
  have H := Aside0.mk h
  clear h
  have h7 : N ≤ 7 := by omega
  clear hn
  go_enter Try.func27, Try.ntmps27
  go_wp2_with fail
  have BA := Aside0.mk (blk_alloc (blk_new w (.cells #[.slice A0_0 l0_0.length c0_0, .slice A0_1 l0_1.length c0_1] 26)) (.cells #[.int .i64 a1_0, .int .i64 a1_1, .int .i64 a1_2, .bool a1_3] 29))
  have BR := Aside0.mk (blk_new (w.alloc (.cells #[.slice A0_0 l0_0.length c0_0, .slice A0_1 l0_1.length c0_1] 26)) (.cells #[.int .i64 a1_0, .int .i64 a1_1, .int .i64 a1_2, .bool a1_3] 29))
  have HB := Aside0.mk (below_alloc (below_alloc (Below.refl w.heap.size w) (.cells #[.slice A0_0 l0_0.length c0_0, .slice A0_1 l0_1.length c0_1] 26)) (.cells #[.int .i64 a1_0, .int .i64 a1_1, .int .i64 a1_2, .bool a1_3] 29))
  have hs : (w.alloc (.cells #[.slice A0_0 l0_0.length c0_0, .slice A0_1 l0_1.length c0_1] 26)).heap.size = w.heap.size + 1 := by unfold World.alloc; exact Array.size_push _
  rw [hs] at BR
  try rw [hs]
  clear hs
  generalize ((w.alloc (.cells #[.slice A0_0 l0_0.length c0_0, .slice A0_1 l0_1.length c0_1] 26)).alloc (.cells #[.int .i64 a1_0, .int .i64 a1_1, .int .i64 a1_2, .bool a1_3] 29)) = w1 at BA BR HB ⊢
  obtain ⟨gt, hgt⟩ : ∃ g, g = w.heap.size := ⟨_, rfl⟩
  obtain ⟨gr, hgr⟩ : ∃ g, g = w.heap.size + 1 := ⟨_, rfl⟩
  rw [← hgr] at BR ⊢
  rw [← hgt] at BA ⊢
  clear hgr hgt
  have hBA0 := (blk_cell BA.out 0).trans rfl
  have hBA1 := (blk_cell BA.out 1).trans rfl
  have hBR0 := (blk_cell BR.out 0).trans rfl
  have hBR1 := (blk_cell BR.out 1).trans rfl
  have hBR2 := (blk_cell BR.out 2).trans rfl
  have hBR3 := (blk_cell BR.out 3).trans rfl
  have HZ := Aside0.mk (below_size HB.out)
  go_wp2_with fail
  (with_reducible refine (impl_Tree_placeWhole.calls k A0_0 c0_0 l0_0 A0_1 c0_1 l0_1 a1_0 a1_1 a1_2 a1_3 a2 (N : Int) P _ (Kd.C_below HA0.out HB.out) HC0.out (Kd.C_below HA1.out HB.out) HC1.out E1.out).mono ?_)
  rintro e w2 ⟨v, rfl, hv, hb⟩
  clear hBA0 hBA1 hBR0 hBR1 hBR2 hBR3
  replace BA := Aside0.mk (blk_below BA.out hb)
  replace BR := Aside0.mk (blk_below BR.out hb)
  replace HB := Aside0.mk (below_step HB.out hb)
  clear hb
  have HO := Aside0.mk (Kd.R_lower hv HZ.out)
  obtain ⟨A, c, rfl⟩ := Kd.R_slice hv
  clear hv E1 HZ
  rw [hl] at HO ⊢
  have hBA0 := (blk_cell BA.out 0).trans rfl
  have hBA1 := (blk_cell BA.out 1).trans rfl
  have hBR0 := (blk_cell BR.out 0).trans rfl
  have hBR1 := (blk_cell BR.out 1).trans rfl
  have hBR2 := (blk_cell BR.out 2).trans rfl
  have hBR3 := (blk_cell BR.out 3).trans rfl
  go_wp2_with fail
  clear hBA0 hBA1 hBR0 hBR1 hBR2 hBR3
  go_loopg [12, 20] N (fun gg s12 s20 wr => ∃ (a : Nat) (ys : List Int), s20 = .int .i64 (a : Int) ∧ a ≤ N ∧ N - a ≤ gg ∧ ys.length = N ∧ Aside0 (insteadL (fun x => slices_Contains_int64_int64.f k l4 x) (fun L a => impl_Tree_search.f k l0_0 l0_1 a1_0 a1_1 a1_2 a1_3 a2 L (a : Int) l4) (N - a) a ys = some L) ∧ Aside0 (Kd.R (Kd.int .i64) 2 wr w.heap.size (fun _ => True) (.slice A N c) ys) ∧ Aside0 (wr.heap[gt]? = some (.cells #[.slice A0_0 l0_0.length c0_0, .slice A0_1 l0_1.length c0_1] 26 (0, 0))) ∧ Aside0 (wr.heap[gr]? = some (.cells #[.int .i64 a1_0, .int .i64 a1_1, .int .i64 a1_2, .bool a1_3] 29 (0, 0))) ∧ Aside0 (Below w.heap.size w wr))
  case atStart => exact ⟨0, P, rfl, by omega, by omega, hl, E2, HO, BA, BR, HB⟩
  case round =>
    clear E2 HO BA BR HB hl
    obtain ⟨a, ys, rfl, haN, hgg, hl, E2, HO, BA, BR, HB⟩ := hrel
    have hBA0 := (blk_cell BA.out 0).trans rfl
    have hBA1 := (blk_cell BA.out 1).trans rfl
    have hBR0 := (blk_cell BR.out 0).trans rfl
    have hBR1 := (blk_cell BR.out 1).trans rfl
    have hBR2 := (blk_cell BR.out 2).trans rfl
    have hBR3 := (blk_cell BR.out 3).trans rfl
    by_cases ha : a < N
    case pos =>
      obtain ⟨gp, cap, ev, hgb, -⟩ := Kd.R_form HO.out (by omega)
      have HGB := Aside0.mk hgb
      clear hgb
      injection ev with e1 e2 e3
      subst e1
      have HE := Aside0.mk ((instead_here _ _ N a ys ha).symm.trans E2.out)
      clear E2 e2 e3
      obtain ⟨t, F1, h⟩ := Option.bind_eq_some_iff.1 HE.out
      clear HE
      replace F1 := Aside0.mk F1
      have HE := Aside0.mk h
      clear h
      have c1 := decide_eq_true (show (a : Int) < (N : Int) by omega)
      have c2 := eq_true (show (0 : Int) ≤ (a : Int) by omega)
      have c3 := eq_true (show (a : Int) < (N : Int) by omega)
      have hca : wr.cell? ⟨gp, a, none⟩ = some (.int .i64 (rd ys (a : Int))) := (Kd.R_celln (0 : Int) HO.out (a : Int) (by omega) (by omega)).1
      generalize rd ys (a : Int) = x at hca F1
      go_wp2_with fail
      clear hca
      (with_reducible refine (slices_Contains_int64_int64.calls k A4 c4 l4 x t _ (Kd.C_below HL.out HB.out) HD.out F1.out).mono ?_)
      rintro e w3 ⟨rfl, hd⟩
      have hb := hd.below
      clear hd
      clear hBA0 hBA1 hBR0 hBR1 hBR2 hBR3
      replace BA := Aside0.mk (blk_below BA.out hb)
      replace BR := Aside0.mk (blk_below BR.out hb)
      replace HB := Aside0.mk (below_step HB.out hb)
      replace HO := Aside0.mk (Kd.R_below HO.out hb)
      clear hb
      have hBA0 := (blk_cell BA.out 0).trans rfl
      have hBA1 := (blk_cell BA.out 1).trans rfl
      have hBR0 := (blk_cell BR.out 0).trans rfl
      have hBR1 := (blk_cell BR.out 1).trans rfl
      have hBR2 := (blk_cell BR.out 2).trans rfl
      have hBR3 := (blk_cell BR.out 3).trans rfl
      cases t with
      | false =>
        have h := HE.out
        rw [if_neg (by decide)] at h
        clear HE
        have HE := Aside0.mk h
        clear h
        go_wp2_with fail
        go_roundg (gk - 1)
        case measure => omega
        case rel => exact ⟨a + 1, ys, by rw [Int.natCast_add]; first | rfl | go_num, by omega, by omega, hl, HE, HO, BA, BR, HB⟩
      | true =>
        have h := HE.out
        rw [if_pos rfl] at h
        clear HE
        obtain ⟨y, F2, h'⟩ := Option.bind_eq_some_iff.1 h
        clear h
        replace F2 := Aside0.mk F2
        have HE := Aside0.mk h'
        clear h'
        obtain ⟨-, hcy, hCy⟩ := Kd.R_reads' HO.out
        have HCY := Aside0.mk hCy
        have HLY := Aside0.mk hcy
        clear hcy hCy
        go_wp2_with fail
        have HCZ := Aside0.mk (show Kd.C (Kd.int .i64) w3 (some ⟨gp, 0, none⟩) ys.length ys from HCY.out)
        rw [← hl]
        (with_reducible refine (impl_Tree_search.calls k A0_0 c0_0 l0_0 A0_1 c0_1 l0_1 a1_0 a1_1 a1_2 a1_3 a2 (some ⟨gp, 0, none⟩) c ys (a : Int) A4 c4 l4 y _ (Kd.C_below HA0.out HB.out) HC0.out (Kd.C_below HA1.out HB.out) HC1.out HCZ.out (by rw [hl]; exact HLY.out) (Kd.C_below HL.out HB.out) HD.out F2.out).mono ?_)
        rintro e w4 ⟨rfl, hb⟩
        clear hBA0 hBA1 hBR0 hBR1 hBR2 hBR3
        replace BA := Aside0.mk (blk_below BA.out hb)
        replace BR := Aside0.mk (blk_below BR.out hb)
        replace HB := Aside0.mk (below_step HB.out hb)
        replace HO := Aside0.mk (Kd.R_below HO.out hb)
        clear hb
        clear HCY HLY HCZ
        have hBA0 := (blk_cell BA.out 0).trans rfl
        have hBA1 := (blk_cell BA.out 1).trans rfl
        have hBR0 := (blk_cell BR.out 0).trans rfl
        have hBR1 := (blk_cell BR.out 1).trans rfl
        have hBR2 := (blk_cell BR.out 2).trans rfl
        have hBR3 := (blk_cell BR.out 3).trans rfl
        rw [hl]
        obtain ⟨hci, hfi⟩ := Kd.R_celln (0 : Int) HO.out (a : Int) (by omega) (by omega)
        rw [Int.toNat_natCast] at hci hfi
        go_wp2_with fail
        clear hci hfi
        have HO3 := Aside0.mk (Kd.R_putn HO.out (a : Int) y)
        rw [Int.toNat_natCast] at HO3
        have HB3 := Aside0.mk (below_set (j := a) (v := .int .i64 y) HB.out HGB.out)
        have BA3 := Aside0.mk (blk_far BA.out (p := ⟨gp, a, none⟩) (fun e => Kd.R_ne HO.out BA.out (by decide) (by rw [e]; rfl)) (.int .i64 y))
        have BR3 := Aside0.mk (blk_far BR.out (p := ⟨gp, a, none⟩) (fun e => Kd.R_ne HO.out BR.out (by decide) (by rw [e]; rfl)) (.int .i64 y))
        go_roundg (gk - 1)
        case measure => omega
        case rel => exact ⟨a + 1, ys.set a y, by rw [Int.natCast_add]; first | rfl | go_num, by omega, by omega, by rw [List.length_set]; exact hl, HE, HO3, BA3, BR3, HB3⟩
    obtain rfl : a = N := by omega
    have HE := Aside0.mk (show ys = L from by have := E2.out; rw [Nat.sub_self] at this; exact Option.some.inj this)
    clear E2 ha
    have c1 := decide_eq_false (show ¬ (a : Int) < (a : Int) by omega)
    cases a1_3 with
    | true =>
      have HF := Aside0.mk (show r = L from by have := H.out; rw [if_pos rfl] at this; exact (Option.some.inj this).symm)
      go_wp2_with fail
      go_ret
      exact ⟨_, rfl, by rw [HF.out, ← HE.out]; exact HO.out, HB.out⟩
    | false =>
    have h := H.out
    rw [if_neg (by decide)] at h
    clear H
    obtain ⟨M, F3, h'⟩ := Option.bind_eq_some_iff.1 h
    clear h
    replace F3 := Aside0.mk F3
    have HF := Aside0.mk (Option.some.inj h')
    clear h'
    go_wp2_with fail
    clear c1
    have HZ := Aside0.mk (below_size HB.out)
    clear hBA0 hBA1 hBR0 hBR1 hBR2 hBR3
    clear BA BR
    have hlt : ∀ j, (Value.slice A a c).ownBlock = some j → j < wr.heap.size := Kd.R_lt HO.out
    (with_reducible refine (impl_emptyPlaces.calls (a : Int) M _ F3.out).mono ?_)
    rintro e w5 ⟨v5, rfl, hv, hb⟩
    have HM := Aside0.mk (Kd.R_new' hv hlt)
    replace HO := Aside0.mk (Kd.R_below HO.out hb)
    replace HB := Aside0.mk (below_step HB.out hb)
    clear hb hlt hv
    replace HM := Aside0.mk (Kd.R_lower HM.out HZ.out)
    go_wp2_with fail
    (with_reducible refine (deleteAny.calls A a c ys 47 #[] (fun x => decide (x < 0)) w w5 @Try.call47 (fun W x => placeClosure.calls W x) HO.out HB.out).mono ?_)
    rintro e w6 ⟨m, rfl, hR, hB6, hk⟩
    have HR := Aside0.mk hR
    have HM6 := Aside0.mk (Kd.R_mono (Kd.R_step HM.out (fun j ho hlt => hk j hlt ho.2)) (ok' := fun _ => True) (fun _ _ => trivial))
    replace HB := Aside0.mk hB6
    clear hR hB6 hk HM HO
    obtain ⟨em, hmc, -⟩ := Kd.R_reads' HR.out
    subst em
    rw [HE.out] at HR ⊢
    generalize hFL : (L.filter fun x => !decide (x < 0)) = F at HR HF hmc ⊢
    clear hFL
    obtain ⟨A5, c5, rfl⟩ := Kd.R_slice HM6.out
    by_cases z : min F.length M.length = 0
    case pos =>
      have HX := Aside0.mk (run_copy_none (P := Try.prog) w6 36 36 3 2 A5 A M.length c5 F.length c Try.underlying36 (by decide) z)
      have HQ := Aside0.mk (show frontL M F = M from by unfold frontL; rw [z]; rfl)
      clear z hmc
      go_wp2_with fail
      rw [HX.out]
      go_wp2_with fail
      go_ret
      exact ⟨_, rfl, by rw [← HF.out, HQ.out]; exact HM6.out, HB.out⟩
    obtain ⟨g5, cap5, ev, hg5, -⟩ := Kd.R_form HM6.out (by omega)
    injection ev with e1 e2 e3
    subst e1
    clear e2 e3
    obtain ⟨gp, cap, ev, -⟩ := Kd.R_form HR.out (by omega)
    injection ev with e1 e2 e3
    subst e1
    clear e2 e3
    have HX := Aside0.mk (run_laid (P := Try.prog) 0 F.length c5 c 36 3 (F.take (min F.length M.length)) ⟨gp, 0, none⟩ Try.underlying36 (by decide) HM6.out rfl (Nat.zero_le _) (by rw [List.length_take]; omega) (fun j hj => by
      rw [List.length_take] at hj
      obtain ⟨ad', e1, hc⟩ := Kd.at_int (Kd.R_reads' HR.out).2.2 (j : Int) (Int.natCast_nonneg j) (by omega)
      cases e1
      rw [Int.toNat_natCast] at hc
      rw [hc]
      unfold rd
      rw [Int.toNat_natCast, List.getD_eq_getElem?_getD, List.getD_eq_getElem?_getD, List.getElem?_take, if_pos (by omega)]))
    have HL2 := R_laid 0 (F.take (min F.length M.length)) HM6.out rfl (by rw [List.length_take]; omega)
    have HO6 := Aside0.mk HL2.1
    have HB6 := Aside0.mk (HB.out.grown HL2.2 (below_size HB.out) (fun k hk => by injection hk with hk; subst hk; exact hg5))
    have HQ := Aside0.mk (show M.take 0 ++ F.take (min F.length M.length) ++ M.drop (0 + (F.take (min F.length M.length)).length) = frontL M F from by unfold frontL; rw [List.length_take, Nat.zero_add, List.take_zero, List.nil_append]; congr 2; omega)
    clear HL2 hg5 z hmc
    rw [show M.length - 0 = M.length from rfl] at HX
    go_wp2_with fail
    rw [HX.out]
    generalize w6.setCells g5 0 (encs (Value.int .i64) (F.take (min F.length M.length))) = w7 at HO6 HB6 ⊢
    clear HX
    go_wp2_with fail
    go_ret
    exact ⟨_, rfl, by rw [← HF.out, ← HQ.out]; exact HO6.out, HB6.out⟩

/-! ### impl_Place: function 11 -/
def impl_Place.f (k : Nat) (l0_0 : List (S34)) (l0_1 : List (S70)) (a1_0 : Int) (a1_1 : Int) (a1_2 : Int) (a1_3 : Bool) (a2 : Int) (a3 : Int) (l4 : List Int) : Option (List Int × Bool) := (impl_RuleOk.f k l0_0 l0_1 a1_0 a1_1 a1_2 a1_3).bind fun t359 => (if t359 = true then ((impl_between.f a3 0 7).bind fun t360 => (if t360 = true then ((impl_outOk.f k l4).bind fun t361 => (if t361 = true then ((impl_Tree_place.f k l0_0 l0_1 a1_0 a1_1 a1_2 a1_3 a2 a3 l4).bind fun t362 => (some (t362, true))) else (some (([] : List Int), false)))) else (some (([] : List Int), false)))) else (some (([] : List Int), false)))
set_option maxHeartbeats 8000000 in
set_option maxRecDepth 100000 in
theorem impl_Place.calls (k : Nat) (A0_0 : Option Addr) (c0_0 : Nat) (l0_0 : List (S34)) (A0_1 : Option Addr) (c0_1 : Nat) (l0_1 : List (S70)) (a1_0 : Int) (a1_1 : Int) (a1_2 : Int) (a1_3 : Bool) (a2 : Int) (a3 : Int) (A4 : Option Addr) (c4 : Nat) (l4 : List Int) (r1 : List Int) (r2 : Bool) (w : World) (hr0_0 : Kd.C k34 w A0_0 l0_0.length l0_0) (hc0_0 : l0_0.length ≤ c0_0) (hr0_1 : Kd.C k70 w A0_1 l0_1.length l0_1) (hc0_1 : l0_1.length ≤ c0_1) (hr4 : Kd.C (Kd.int .i64) w A4 l4.length l4) (hc4 : l4.length ≤ c4) (h : impl_Place.f k l0_0 l0_1 a1_0 a1_1 a1_2 a1_3 a2 a3 l4 = some (r1, r2)) :
  Calls Try.prog 11 #[.agg #[.slice A0_0 l0_0.length c0_0, .slice A0_1 l0_1.length c0_1], .agg #[.int .i64 a1_0, .int .i64 a1_1, .int .i64 a1_2, .bool a1_3], .int .i64 a2, .int .i64 a3, .slice A4 l4.length c4] w fun e w' => ∃ v0_ : Value, e = .returned (.tuple #[v0_, .bool r2]) ∧ Kd.R (Kd.int .i64) 2 w' w.heap.size (fun _ => True) v0_ r1 ∧ Below w.heap.size w w' := by
 have hu26 := Try.underlying26
 have hu29 := Try.underlying29
 have HR0_0 := Aside0.mk hr0_0
 have HC0_0 := Aside0.mk hc0_0
 clear hr0_0 hc0_0
 have HR0_1 := Aside0.mk hr0_1
 have HC0_1 := Aside0.mk hc0_1
 clear hr0_1 hc0_1
 have HR4 := Aside0.mk hr4
 have HC4 := Aside0.mk hc4
 clear hr4 hc4
 have HB := Aside0.mk (Below.refl w.heap.size w)
 have H : ((impl_RuleOk.f k l0_0 l0_1 a1_0 a1_1 a1_2 a1_3).bind fun t359 => (if t359 = true then ((impl_between.f a3 0 7).bind fun t360 => (if t360 = true then ((impl_outOk.f k l4).bind fun t361 => (if t361 = true then ((impl_Tree_place.f k l0_0 l0_1 a1_0 a1_1 a1_2 a1_3 a2 a3 l4).bind fun t362 => (some (t362, true))) else (some (([] : List Int), false)))) else (some (([] : List Int), false)))) else (some (([] : List Int), false)))) = some (r1, r2) := h
 clear h
 replace H := Option.bind_eq_some_iff.mp H
 obtain ⟨t359, A60, H⟩ := H
 set_option simprocs false in try dsimp only at H
 have A6 := Aside0.mk A60
 clear A60
 by_cases c7 : t359 = true
 ·subst c7
  rw [if_pos rfl] at H
  replace H := Option.bind_eq_some_iff.mp H
  obtain ⟨t360, A80, H⟩ := H
  set_option simprocs false in try dsimp only at H
  have A8 := Aside0.mk A80
  clear A80
  by_cases c9 : t360 = true
  ·subst c9
   rw [if_pos rfl] at H
   replace H := Option.bind_eq_some_iff.mp H
   obtain ⟨t361, A100, H⟩ := H
   set_option simprocs false in try dsimp only at H
   have A10 := Aside0.mk A100
   clear A100
   by_cases c11 : t361 = true
   ·subst c11
    rw [if_pos rfl] at H
    replace H := Option.bind_eq_some_iff.mp H
    obtain ⟨t362, A120, H⟩ := H
    set_option simprocs false in try dsimp only at H
    have A12 := Aside0.mk A120
    clear A120
    simp only [Option.some.injEq, Prod.mk.injEq] at H
    obtain ⟨rfl, rfl⟩ := H
    go_enter Try.func11, Try.ntmps11
    go_wp2_with (first | ((with_reducible refine gate_dst (N := 5) rfl ?_); refine box_event ?hg (N := 5) ?hd (cs := #[.slice A0_0 l0_0.length c0_0, .slice A0_1 l0_1.length c0_1]) (t := 26) ?hr ?_; (case hd => rfl); (case hg => rfl); (case hr => first | (go_simp; done) | (go_simp; rfl)); intro gb357 hg w13 hbox hb; have n0_ := Aside0.mk (below_step (by repeat first | exact HB.out | apply pw_below_drewN) hb); have n1_ := Aside0.mk (hbox); clear HB; have HB := n0_; have BK357 := n1_; clear n0_ n1_; clear hb hbox hg) | ((with_reducible refine gate_dst (N := 6) rfl ?_); refine box_event ?hg (N := 6) ?hd (cs := #[.int .i64 a1_0, .int .i64 a1_1, .int .i64 a1_2, .bool a1_3]) (t := 29) ?hr ?_; (case hd => rfl); (case hg => rfl); (case hr => first | (go_simp; done) | (go_simp; rfl)); intro gb358 hg w14 hbox hb; have n0_ := Aside0.mk (blk_below (by exact BK357.out) hb); have n1_ := Aside0.mk (below_step (by repeat first | exact HB.out | apply pw_below_drewN) hb); have n2_ := Aside0.mk (hbox); clear BK357; clear HB; have BK357 := n0_; have HB := n1_; have BK358 := n2_; clear n0_ n1_ n2_; clear hb hbox hg; have hcz16_0 := (blk_cell BK357.out 0).trans rfl; have hcz16_1 := (blk_cell BK357.out 1).trans rfl; have hcz17_0 := (blk_cell BK358.out 0).trans rfl; have hcz17_1 := (blk_cell BK358.out 1).trans rfl; have hcz17_2 := (blk_cell BK358.out 2).trans rfl; have hcz17_3 := (blk_cell BK358.out 3).trans rfl) | ((with_reducible refine gate_callee (f := 18) rfl ?_); refine goesL_ (some 14) rfl rfl Try.func18 (by kernel_rfl) rfl #[.agg #[.slice A0_0 l0_0.length c0_0, .slice A0_1 l0_1.length c0_1], .agg #[.int .i64 a1_0, .int .i64 a1_1, .int .i64 a1_2, .bool a1_3]] rfl (by (try simp only [List.map_toArray, List.map_cons, List.map_nil]); first | done | rfl) ?_; (with_reducible refine (impl_RuleOk.calls k _ _ l0_0 _ _ l0_1 a1_0 a1_1 a1_2 a1_3 true _ ?side1 ?side2 ?side3 ?side4 A6.out).mono ?_); (case side1 => exact (Kd.C_below HR0_0.out HB.out)); (case side2 => exact HC0_0.out); (case side3 => exact (Kd.C_below HR0_1.out HB.out)); (case side4 => exact HC0_1.out); rintro e w18 ⟨rfl, hb⟩; refine ⟨_, rfl, ?_⟩; have n0_ := Aside0.mk (blk_below (by exact BK357.out) hb); have n1_ := Aside0.mk (blk_below (by exact BK358.out) hb); have n2_ := Aside0.mk (below_step (by repeat first | exact HB.out | apply pw_below_drewN) hb); clear BK357; clear BK358; clear HB; have BK357 := n0_; have BK358 := n1_; have HB := n2_; clear n0_ n1_ n2_; (try clear hb); (try clear hb2); (try clear hk); (try clear hi)) | (go_at_call 25; (with_reducible refine (impl_between.calls a3 0 7 true _ A8.out).mono ?_); rintro e w' ⟨rfl, ⟨nd, rfl⟩⟩) | (go_at_call 26; (with_reducible refine (impl_outOk.calls k _ _ l4 true _ ?side1 ?side2 A10.out).mono ?_); (case side1 => exact (Kd.C_below HR4.out (by repeat first | exact HB.out | apply pw_below_drewN))); (case side2 => exact HC4.out); rintro e w19 ⟨rfl, hb⟩; have n0_ := Aside0.mk (blk_below (by exact BK357.out) hb); have n1_ := Aside0.mk (blk_below (by exact BK358.out) hb); have n2_ := Aside0.mk (below_step (by repeat first | exact HB.out | apply pw_below_drewN) hb); clear BK357; clear BK358; clear HB; have BK357 := n0_; have BK358 := n1_; have HB := n2_; clear n0_ n1_ n2_; (try clear hb); (try clear hb2); (try clear hk); (try clear hi); have hcz20_0 := (blk_cell BK357.out 0).trans rfl; have hcz20_1 := (blk_cell BK357.out 1).trans rfl; have hcz21_0 := (blk_cell BK358.out 0).trans rfl; have hcz21_1 := (blk_cell BK358.out 1).trans rfl; have hcz21_2 := (blk_cell BK358.out 2).trans rfl; have hcz21_3 := (blk_cell BK358.out 3).trans rfl) | ((with_reducible refine gate_callee (f := 27) rfl ?_); refine goesL_ (some 31) rfl rfl Try.func27 (by kernel_rfl) rfl #[.agg #[.slice A0_0 l0_0.length c0_0, .slice A0_1 l0_1.length c0_1], .agg #[.int .i64 a1_0, .int .i64 a1_1, .int .i64 a1_2, .bool a1_3], .int .i64 a2, .int .i64 a3, .slice A4 l4.length c4] rfl (by (try simp only [List.map_toArray, List.map_cons, List.map_nil]); first | done | rfl) ?_; (with_reducible refine (impl_Tree_place.calls k _ _ l0_0 _ _ l0_1 a1_0 a1_1 a1_2 a1_3 a2 a3 _ _ l4 t362 _ ?side1 ?side2 ?side3 ?side4 ?side5 ?side6 A12.out).mono ?_); (case side1 => exact (Kd.C_below HR0_0.out HB.out)); (case side2 => exact HC0_0.out); (case side3 => exact (Kd.C_below HR0_1.out HB.out)); (case side4 => exact HC0_1.out); (case side5 => exact (Kd.C_below HR4.out HB.out)); (case side6 => exact HC4.out); rintro e w22 ⟨v363, rfl, ho0, hb⟩; refine ⟨_, rfl, ?_⟩; have n0_ := Aside0.mk (Kd.R_lower ho0 (below_size (by repeat first | exact HB.out | apply pw_below_drewN))); have n1_ := Aside0.mk (blk_below (by exact BK357.out) hb); have n2_ := Aside0.mk (blk_below (by exact BK358.out) hb); have n3_ := Aside0.mk (below_step (by repeat first | exact HB.out | apply pw_below_drewN) hb); clear BK357; clear BK358; clear HB; have HO364 := n0_; have BK357 := n1_; have BK358 := n2_; have HB := n3_; clear n0_ n1_ n2_ n3_; (try clear hb); (try clear hb2); (try clear hk); (try clear hi); (try clear ho0)))
    go_ret2
    exact ⟨_, by first | rfl | (simp [*, errW_none, errW_some] <;> rfl), by (with_reducible repeat (first | apply Kd.R_alloc | apply Kd.R_drewN | apply Kd.R_drew)); exact HO364.out, by repeat first | exact HB.out | apply pw_below_drewN⟩
   ·replace c11 := Bool.eq_false_iff.mpr c11
    subst c11
    rw [if_neg (show ¬ (false = true) by decide)] at H
    simp only [Option.some.injEq, Prod.mk.injEq] at H
    obtain ⟨rfl, rfl⟩ := H
    go_enter Try.func11, Try.ntmps11
    go_wp2_with (first | ((with_reducible refine gate_dst (N := 5) rfl ?_); refine box_event ?hg (N := 5) ?hd (cs := #[.slice A0_0 l0_0.length c0_0, .slice A0_1 l0_1.length c0_1]) (t := 26) ?hr ?_; (case hd => rfl); (case hg => rfl); (case hr => first | (go_simp; done) | (go_simp; rfl)); intro gb357 hg w23 hbox hb; have n0_ := Aside0.mk (below_step (by repeat first | exact HB.out | apply pw_below_drewN) hb); have n1_ := Aside0.mk (hbox); clear HB; have HB := n0_; have BK357 := n1_; clear n0_ n1_; clear hb hbox hg) | ((with_reducible refine gate_dst (N := 6) rfl ?_); refine box_event ?hg (N := 6) ?hd (cs := #[.int .i64 a1_0, .int .i64 a1_1, .int .i64 a1_2, .bool a1_3]) (t := 29) ?hr ?_; (case hd => rfl); (case hg => rfl); (case hr => first | (go_simp; done) | (go_simp; rfl)); intro gb358 hg w24 hbox hb; have n0_ := Aside0.mk (blk_below (by exact BK357.out) hb); have n1_ := Aside0.mk (below_step (by repeat first | exact HB.out | apply pw_below_drewN) hb); have n2_ := Aside0.mk (hbox); clear BK357; clear HB; have BK357 := n0_; have HB := n1_; have BK358 := n2_; clear n0_ n1_ n2_; clear hb hbox hg; have hcz26_0 := (blk_cell BK357.out 0).trans rfl; have hcz26_1 := (blk_cell BK357.out 1).trans rfl; have hcz27_0 := (blk_cell BK358.out 0).trans rfl; have hcz27_1 := (blk_cell BK358.out 1).trans rfl; have hcz27_2 := (blk_cell BK358.out 2).trans rfl; have hcz27_3 := (blk_cell BK358.out 3).trans rfl) | ((with_reducible refine gate_callee (f := 18) rfl ?_); refine goesL_ (some 14) rfl rfl Try.func18 (by kernel_rfl) rfl #[.agg #[.slice A0_0 l0_0.length c0_0, .slice A0_1 l0_1.length c0_1], .agg #[.int .i64 a1_0, .int .i64 a1_1, .int .i64 a1_2, .bool a1_3]] rfl (by (try simp only [List.map_toArray, List.map_cons, List.map_nil]); first | done | rfl) ?_; (with_reducible refine (impl_RuleOk.calls k _ _ l0_0 _ _ l0_1 a1_0 a1_1 a1_2 a1_3 true _ ?side1 ?side2 ?side3 ?side4 A6.out).mono ?_); (case side1 => exact (Kd.C_below HR0_0.out HB.out)); (case side2 => exact HC0_0.out); (case side3 => exact (Kd.C_below HR0_1.out HB.out)); (case side4 => exact HC0_1.out); rintro e w28 ⟨rfl, hb⟩; refine ⟨_, rfl, ?_⟩; have n0_ := Aside0.mk (blk_below (by exact BK357.out) hb); have n1_ := Aside0.mk (blk_below (by exact BK358.out) hb); have n2_ := Aside0.mk (below_step (by repeat first | exact HB.out | apply pw_below_drewN) hb); clear BK357; clear BK358; clear HB; have BK357 := n0_; have BK358 := n1_; have HB := n2_; clear n0_ n1_ n2_; (try clear hb); (try clear hb2); (try clear hk); (try clear hi)) | (go_at_call 25; (with_reducible refine (impl_between.calls a3 0 7 true _ A8.out).mono ?_); rintro e w' ⟨rfl, ⟨nd, rfl⟩⟩) | (go_at_call 26; (with_reducible refine (impl_outOk.calls k _ _ l4 false _ ?side1 ?side2 A10.out).mono ?_); (case side1 => exact (Kd.C_below HR4.out (by repeat first | exact HB.out | apply pw_below_drewN))); (case side2 => exact HC4.out); rintro e w29 ⟨rfl, hb⟩; have n0_ := Aside0.mk (blk_below (by exact BK357.out) hb); have n1_ := Aside0.mk (blk_below (by exact BK358.out) hb); have n2_ := Aside0.mk (below_step (by repeat first | exact HB.out | apply pw_below_drewN) hb); clear BK357; clear BK358; clear HB; have BK357 := n0_; have BK358 := n1_; have HB := n2_; clear n0_ n1_ n2_; (try clear hb); (try clear hb2); (try clear hk); (try clear hi)))
    go_ret2
    exact ⟨_, by first | rfl | (simp [*, errW_none, errW_some] <;> rfl), by first | exact Kd.R_nil _ _ _ _ _ | exact Kd.N_nil _ _ _ _ _ | exact Kd.V_nil _ _ _ _ _ | exact Kd.Q_nil _ _ _ _ _ | exact Kd.S_nil _ _ _ _ _, by repeat first | exact HB.out | apply pw_below_drewN⟩
  ·replace c9 := Bool.eq_false_iff.mpr c9
   subst c9
   rw [if_neg (show ¬ (false = true) by decide)] at H
   simp only [Option.some.injEq, Prod.mk.injEq] at H
   obtain ⟨rfl, rfl⟩ := H
   go_enter Try.func11, Try.ntmps11
   go_wp2_with (first | ((with_reducible refine gate_dst (N := 5) rfl ?_); refine box_event ?hg (N := 5) ?hd (cs := #[.slice A0_0 l0_0.length c0_0, .slice A0_1 l0_1.length c0_1]) (t := 26) ?hr ?_; (case hd => rfl); (case hg => rfl); (case hr => first | (go_simp; done) | (go_simp; rfl)); intro gb357 hg w30 hbox hb; have n0_ := Aside0.mk (below_step (by repeat first | exact HB.out | apply pw_below_drewN) hb); have n1_ := Aside0.mk (hbox); clear HB; have HB := n0_; have BK357 := n1_; clear n0_ n1_; clear hb hbox hg) | ((with_reducible refine gate_dst (N := 6) rfl ?_); refine box_event ?hg (N := 6) ?hd (cs := #[.int .i64 a1_0, .int .i64 a1_1, .int .i64 a1_2, .bool a1_3]) (t := 29) ?hr ?_; (case hd => rfl); (case hg => rfl); (case hr => first | (go_simp; done) | (go_simp; rfl)); intro gb358 hg w31 hbox hb; have n0_ := Aside0.mk (blk_below (by exact BK357.out) hb); have n1_ := Aside0.mk (below_step (by repeat first | exact HB.out | apply pw_below_drewN) hb); have n2_ := Aside0.mk (hbox); clear BK357; clear HB; have BK357 := n0_; have HB := n1_; have BK358 := n2_; clear n0_ n1_ n2_; clear hb hbox hg; have hcz33_0 := (blk_cell BK357.out 0).trans rfl; have hcz33_1 := (blk_cell BK357.out 1).trans rfl; have hcz34_0 := (blk_cell BK358.out 0).trans rfl; have hcz34_1 := (blk_cell BK358.out 1).trans rfl; have hcz34_2 := (blk_cell BK358.out 2).trans rfl; have hcz34_3 := (blk_cell BK358.out 3).trans rfl) | ((with_reducible refine gate_callee (f := 18) rfl ?_); refine goesL_ (some 14) rfl rfl Try.func18 (by kernel_rfl) rfl #[.agg #[.slice A0_0 l0_0.length c0_0, .slice A0_1 l0_1.length c0_1], .agg #[.int .i64 a1_0, .int .i64 a1_1, .int .i64 a1_2, .bool a1_3]] rfl (by (try simp only [List.map_toArray, List.map_cons, List.map_nil]); first | done | rfl) ?_; (with_reducible refine (impl_RuleOk.calls k _ _ l0_0 _ _ l0_1 a1_0 a1_1 a1_2 a1_3 true _ ?side1 ?side2 ?side3 ?side4 A6.out).mono ?_); (case side1 => exact (Kd.C_below HR0_0.out HB.out)); (case side2 => exact HC0_0.out); (case side3 => exact (Kd.C_below HR0_1.out HB.out)); (case side4 => exact HC0_1.out); rintro e w35 ⟨rfl, hb⟩; refine ⟨_, rfl, ?_⟩; have n0_ := Aside0.mk (blk_below (by exact BK357.out) hb); have n1_ := Aside0.mk (blk_below (by exact BK358.out) hb); have n2_ := Aside0.mk (below_step (by repeat first | exact HB.out | apply pw_below_drewN) hb); clear BK357; clear BK358; clear HB; have BK357 := n0_; have BK358 := n1_; have HB := n2_; clear n0_ n1_ n2_; (try clear hb); (try clear hb2); (try clear hk); (try clear hi)) | (go_at_call 25; (with_reducible refine (impl_between.calls a3 0 7 false _ A8.out).mono ?_); rintro e w' ⟨rfl, ⟨nd, rfl⟩⟩))
   go_ret2
   exact ⟨_, by first | rfl | (simp [*, errW_none, errW_some] <;> rfl), by first | exact Kd.R_nil _ _ _ _ _ | exact Kd.N_nil _ _ _ _ _ | exact Kd.V_nil _ _ _ _ _ | exact Kd.Q_nil _ _ _ _ _ | exact Kd.S_nil _ _ _ _ _, by repeat first | exact HB.out | apply pw_below_drewN⟩
 ·replace c7 := Bool.eq_false_iff.mpr c7
  subst c7
  rw [if_neg (show ¬ (false = true) by decide)] at H
  simp only [Option.some.injEq, Prod.mk.injEq] at H
  obtain ⟨rfl, rfl⟩ := H
  go_enter Try.func11, Try.ntmps11
  go_wp2_with (first | ((with_reducible refine gate_dst (N := 5) rfl ?_); refine box_event ?hg (N := 5) ?hd (cs := #[.slice A0_0 l0_0.length c0_0, .slice A0_1 l0_1.length c0_1]) (t := 26) ?hr ?_; (case hd => rfl); (case hg => rfl); (case hr => first | (go_simp; done) | (go_simp; rfl)); intro gb357 hg w36 hbox hb; have n0_ := Aside0.mk (below_step (by repeat first | exact HB.out | apply pw_below_drewN) hb); have n1_ := Aside0.mk (hbox); clear HB; have HB := n0_; have BK357 := n1_; clear n0_ n1_; clear hb hbox hg) | ((with_reducible refine gate_dst (N := 6) rfl ?_); refine box_event ?hg (N := 6) ?hd (cs := #[.int .i64 a1_0, .int .i64 a1_1, .int .i64 a1_2, .bool a1_3]) (t := 29) ?hr ?_; (case hd => rfl); (case hg => rfl); (case hr => first | (go_simp; done) | (go_simp; rfl)); intro gb358 hg w37 hbox hb; have n0_ := Aside0.mk (blk_below (by exact BK357.out) hb); have n1_ := Aside0.mk (below_step (by repeat first | exact HB.out | apply pw_below_drewN) hb); have n2_ := Aside0.mk (hbox); clear BK357; clear HB; have BK357 := n0_; have HB := n1_; have BK358 := n2_; clear n0_ n1_ n2_; clear hb hbox hg; have hcz39_0 := (blk_cell BK357.out 0).trans rfl; have hcz39_1 := (blk_cell BK357.out 1).trans rfl; have hcz40_0 := (blk_cell BK358.out 0).trans rfl; have hcz40_1 := (blk_cell BK358.out 1).trans rfl; have hcz40_2 := (blk_cell BK358.out 2).trans rfl; have hcz40_3 := (blk_cell BK358.out 3).trans rfl) | ((with_reducible refine gate_callee (f := 18) rfl ?_); refine goesL_ (some 14) rfl rfl Try.func18 (by kernel_rfl) rfl #[.agg #[.slice A0_0 l0_0.length c0_0, .slice A0_1 l0_1.length c0_1], .agg #[.int .i64 a1_0, .int .i64 a1_1, .int .i64 a1_2, .bool a1_3]] rfl (by (try simp only [List.map_toArray, List.map_cons, List.map_nil]); first | done | rfl) ?_; (with_reducible refine (impl_RuleOk.calls k _ _ l0_0 _ _ l0_1 a1_0 a1_1 a1_2 a1_3 false _ ?side1 ?side2 ?side3 ?side4 A6.out).mono ?_); (case side1 => exact (Kd.C_below HR0_0.out HB.out)); (case side2 => exact HC0_0.out); (case side3 => exact (Kd.C_below HR0_1.out HB.out)); (case side4 => exact HC0_1.out); rintro e w41 ⟨rfl, hb⟩; refine ⟨_, rfl, ?_⟩; have n0_ := Aside0.mk (blk_below (by exact BK357.out) hb); have n1_ := Aside0.mk (blk_below (by exact BK358.out) hb); have n2_ := Aside0.mk (below_step (by repeat first | exact HB.out | apply pw_below_drewN) hb); clear BK357; clear BK358; clear HB; have BK357 := n0_; have BK358 := n1_; have HB := n2_; clear n0_ n1_ n2_; (try clear hb); (try clear hb2); (try clear hk); (try clear hi)))
  go_ret2
  exact ⟨_, by first | rfl | (simp [*, errW_none, errW_some] <;> rfl), by first | exact Kd.R_nil _ _ _ _ _ | exact Kd.N_nil _ _ _ _ _ | exact Kd.V_nil _ _ _ _ _ | exact Kd.Q_nil _ _ _ _ _ | exact Kd.S_nil _ _ _ _ _, by repeat first | exact HB.out | apply pw_below_drewN⟩

/-! ### laws_a8Has: function 12 -/
def laws_a8Has.l0 : Nat → List Int → Int → Int → Option (Bool)
  | 0, _, _, _ => none
  | k + 1, x0, x1, x5 => if x5 < (x0.length : Int) then (if 0 ≤ x5 then (if (rd x0 x5) = x1 then (some true) else (laws_a8Has.l0 k x0 x1 (wrap64 (x5 + 1)))) else (none)) else (some false)
def laws_a8Has.f (k : Nat) (l0 : List Int) (a1 : Int) : Option (Bool) := laws_a8Has.l0 k l0 a1 0
set_option maxHeartbeats 8000000 in
set_option maxRecDepth 100000 in
theorem laws_a8Has.calls (k : Nat) (A0 : Option Addr) (c0 : Nat) (l0 : List Int) (a1 : Int) (r : Bool) (w : World) (hr0 : Kd.C (Kd.int .i64) w A0 l0.length l0) (hc0 : l0.length ≤ c0) (h : laws_a8Has.f k l0 a1 = some r) :
    Calls Try.prog 12 #[.slice A0 l0.length c0, .int .i64 a1] w fun e w' => e = .returned (.bool r) ∧ Drawn0 w w' := by
  have HR0 := Aside0.mk hr0
  have HC0 := Aside0.mk hc0
  clear hr0 hc0
  have H : (laws_a8Has.l0 k l0 a1 0) = some r := h
  clear h
  have H' := Aside0.mk H
  clear H
  go_enter Try.func12, Try.ntmps12
  go_wp2
  go_loopg [5] k (fun kq v5 w' => ∃ (x5_1 : Int), v5 = .int .i64 x5_1 ∧ Aside0 (laws_a8Has.l0 kq l0 a1 x5_1 = some r) ∧ Aside0 (kq ≤ k) ∧ Drawn0 w w')
  case atStart => exact ⟨(0), (by first | rfl | (simp; done) | (simp [*]; done)), H', ⟨Nat.le_refl _⟩, by repeat (first | exact Drawn0.refl _ | apply Drawn0.step)⟩
  case round =>
    clear H'
    try clear c1
    try clear p2
    obtain ⟨x5_1, rfl, HA, HK1, ⟨m1, rfl⟩⟩ := hrel
    cases gk with
    | zero => exact absurd HA.out (by simp [laws_a8Has.l0])
    | succ k1 =>
      have H := HA.out
      clear HA
      simp only [laws_a8Has.l0] at H
      by_cases c3 : x5_1 < (l0.length : Int)
      · rw [if_pos c3] at H
        have c3b0 : decide (x5_1 < (l0.length : Int)) = true := decide_eq_true c3
        clear c3
        by_cases c4 : 0 ≤ x5_1
        · rw [if_pos c4] at H
          have c4b0 : decide (0 ≤ x5_1) = true := decide_eq_true c4
          clear c4
          by_cases c5 : (rd l0 x5_1) = a1
          · rw [if_pos c5] at H
            have c5b0 : ((rd l0 x5_1) == a1) = true := beq_iff_eq.mpr c5
            have c5b1 : ((rd l0 x5_1) != a1) = false := bne_eq_false_iff_eq.mpr c5
            clear c5
            obtain rfl := Option.some.inj H
            have p365 : 0 ≤ (x5_1 : Int) := of_decide_eq_true (by assumption)
            have q365 : x5_1 < (l0.length : Int) := of_decide_eq_true (by assumption)
            obtain ⟨ad365, e365, hx365_0⟩ := Kd.at_int HR0.out x5_1 p365 q365
            cases e365
            replace p365 := eq_true p365
            replace q365 := eq_true q365
            go_wp2
            go_ret
            exact ⟨by first | rfl | (simp; done) | (simp [*]; done), by repeat (first | exact Drawn0.refl _ | apply Drawn0.step)⟩
          · rw [if_neg c5] at H
            have c5b0 : ((rd l0 x5_1) == a1) = false := beq_eq_false_iff_ne.mpr c5
            have c5b1 : ((rd l0 x5_1) != a1) = true := bne_iff_ne.mpr c5
            have H' := Aside0.mk H
            clear H
            have p365 : 0 ≤ (x5_1 : Int) := of_decide_eq_true (by assumption)
            have q365 : x5_1 < (l0.length : Int) := of_decide_eq_true (by assumption)
            obtain ⟨ad365, e365, hx365_0⟩ := Kd.at_int HR0.out x5_1 p365 q365
            cases e365
            replace p365 := eq_true p365
            replace q365 := eq_true q365
            go_wp2
            go_roundg k1
            case measure => have := HK1.out; omega
            case rel => exact ⟨(wrap64 (x5_1 + 1)), (by first | rfl | (simp; done) | (simp [*]; done)), H', ⟨by have := HK1.out; omega⟩, by repeat (first | exact Drawn0.refl _ | apply Drawn0.step)⟩
        · rw [if_neg c4] at H
          exact absurd H (by simp)
      · rw [if_neg c3] at H
        have c3b0 : decide (x5_1 < (l0.length : Int)) = false := decide_eq_false c3
        clear c3
        obtain rfl := Option.some.inj H
        go_wp2
        go_ret
        exact ⟨by first | rfl | (simp; done) | (simp [*]; done), by repeat (first | exact Drawn0.refl _ | apply Drawn0.step)⟩

/-! ### laws_a8At: function 9 -/
def laws_a8At.f (l0 : List Int) (a1 : Int) (a2 : Int) : Option (Int) := if a2 ≤ 1 then (some 0) else (if (l0.length : Int) = 0 then (if a2 = 0 then (none) else (some (Int.tmod (wrap64 (a1 * 7)) a2))) else (if 0 ≤ (Int.tmod a1 (l0.length : Int)) then (if (Int.tmod a1 (l0.length : Int)) < (l0.length : Int) then (if 0 ≤ (Int.tmod (wrap64 (a1 + 1)) (l0.length : Int)) then (if (Int.tmod (wrap64 (a1 + 1)) (l0.length : Int)) < (l0.length : Int) then (if a2 = 0 then (none) else (some (Int.tmod (wrap64 ((wrap64 ((wrap64 ((wrap64 (rd l0 (Int.tmod a1 (l0.length : Int)))) * 31)) + (wrap64 (rd l0 (Int.tmod (wrap64 (a1 + 1)) (l0.length : Int)))))) + (wrap64 (Int.tdiv a1 (l0.length : Int))))) a2))) else (none)) else (none)) else (none)) else (none)))
set_option maxHeartbeats 8000000 in
set_option maxRecDepth 100000 in
theorem laws_a8At.calls (A0 : Option Addr) (c0 : Nat) (l0 : List Int) (a1 : Int) (a2 : Int) (r : Int) (w : World) (hr0 : Kd.C (Kd.int .u8) w A0 l0.length l0) (hc0 : l0.length ≤ c0) (h : laws_a8At.f l0 a1 a2 = some r) :
    Calls Try.prog 9 #[.slice A0 l0.length c0, .int .i64 a1, .int .i64 a2] w fun e w' => e = .returned (.int .i64 r) ∧ Drawn0 w w' := by
  have HR0 := Aside0.mk hr0
  have HC0 := Aside0.mk hc0
  clear hr0 hc0
  have H : (if a2 ≤ 1 then (some 0) else (if (l0.length : Int) = 0 then (if a2 = 0 then (none) else (some (Int.tmod (wrap64 (a1 * 7)) a2))) else (if 0 ≤ (Int.tmod a1 (l0.length : Int)) then (if (Int.tmod a1 (l0.length : Int)) < (l0.length : Int) then (if 0 ≤ (Int.tmod (wrap64 (a1 + 1)) (l0.length : Int)) then (if (Int.tmod (wrap64 (a1 + 1)) (l0.length : Int)) < (l0.length : Int) then (if a2 = 0 then (none) else (some (Int.tmod (wrap64 ((wrap64 ((wrap64 ((wrap64 (rd l0 (Int.tmod a1 (l0.length : Int)))) * 31)) + (wrap64 (rd l0 (Int.tmod (wrap64 (a1 + 1)) (l0.length : Int)))))) + (wrap64 (Int.tdiv a1 (l0.length : Int))))) a2))) else (none)) else (none)) else (none)) else (none)))) = some r := h
  clear h
  by_cases c4 : a2 ≤ 1
  · rw [if_pos c4] at H
    have c4b0 : decide (a2 ≤ 1) = true := decide_eq_true c4
    clear c4
    obtain rfl := Option.some.inj H
    go_enter Try.func9, Try.ntmps9
    go_wp2
    repeat (go_quiet (fail); try go_wp2)
    go_ret
    exact ⟨by first | rfl | (simp; done) | (simp [*]; done), by repeat (first | exact Drawn0.refl _ | apply Drawn0.step)⟩
  · rw [if_neg c4] at H
    have c4b0 : decide (a2 ≤ 1) = false := decide_eq_false c4
    clear c4
    by_cases c5 : (l0.length : Int) = 0
    · rw [if_pos c5] at H
      have c5b0 : ((l0.length : Int) == 0) = true := beq_iff_eq.mpr c5
      have c5b1 : ((l0.length : Int) != 0) = false := bne_eq_false_iff_eq.mpr c5
      clear c5
      by_cases c6 : a2 = 0
      · rw [if_pos c6] at H
        exact absurd H (by simp)
      · rw [if_neg c6] at H
        have c6b0 : (a2 == 0) = false := beq_eq_false_iff_ne.mpr c6
        have c6b1 : (a2 != 0) = true := bne_iff_ne.mpr c6
        obtain rfl := Option.some.inj H
        go_enter Try.func9, Try.ntmps9
        go_wp2
        repeat (go_quiet (fail); try go_wp2)
        go_ret
        exact ⟨by first | rfl | (simp; done) | (simp [*]; done), by repeat (first | exact Drawn0.refl _ | apply Drawn0.step)⟩
    · rw [if_neg c5] at H
      have c5b0 : ((l0.length : Int) == 0) = false := beq_eq_false_iff_ne.mpr c5
      have c5b1 : ((l0.length : Int) != 0) = true := bne_iff_ne.mpr c5
      have c5b2 : ¬ (l0 = []) := fun h_ => c5 (by rw [h_]; rfl)
      obtain ⟨ji7, hji7⟩ : ∃ j_ : Int, (Int.tmod a1 (l0.length : Int)) = j_ := ⟨_, rfl⟩
      replace H : (if 0 ≤ (ji7) then (if (ji7) < (l0.length : Int) then (if 0 ≤ (Int.tmod (wrap64 (a1 + 1)) (l0.length : Int)) then (if (Int.tmod (wrap64 (a1 + 1)) (l0.length : Int)) < (l0.length : Int) then (if a2 = 0 then (none) else (some (Int.tmod (wrap64 ((wrap64 ((wrap64 ((wrap64 (rd l0 (ji7))) * 31)) + (wrap64 (rd l0 (Int.tmod (wrap64 (a1 + 1)) (l0.length : Int)))))) + (wrap64 (Int.tdiv a1 (l0.length : Int))))) a2))) else (none)) else (none)) else (none)) else (none)) = some r := by first | (rw [hji7] at H; exact H) | (simp only [hji7] at H ⊢; exact H)
      by_cases c8 : 0 ≤ (ji7)
      · rw [if_pos c8] at H
        have c8b0 : decide (0 ≤ (ji7)) = true := decide_eq_true c8
        clear c8
        by_cases c9 : (ji7) < (l0.length : Int)
        · rw [if_pos c9] at H
          have c9b0 : decide ((ji7) < (l0.length : Int)) = true := decide_eq_true c9
          clear c9
          obtain ⟨ji10, hji10⟩ : ∃ j_ : Int, (Int.tmod (wrap64 (a1 + 1)) (l0.length : Int)) = j_ := ⟨_, rfl⟩
          replace H : (if 0 ≤ (ji10) then (if (ji10) < (l0.length : Int) then (if a2 = 0 then (none) else (some (Int.tmod (wrap64 ((wrap64 ((wrap64 ((wrap64 (rd l0 (ji7))) * 31)) + (wrap64 (rd l0 (ji10))))) + (wrap64 (Int.tdiv a1 (l0.length : Int))))) a2))) else (none)) else (none)) = some r := by first | (rw [hji10] at H; exact H) | (simp only [hji10] at H ⊢; exact H)
          by_cases c11 : 0 ≤ (ji10)
          · rw [if_pos c11] at H
            have c11b0 : decide (0 ≤ (ji10)) = true := decide_eq_true c11
            clear c11
            by_cases c12 : (ji10) < (l0.length : Int)
            · rw [if_pos c12] at H
              have c12b0 : decide ((ji10) < (l0.length : Int)) = true := decide_eq_true c12
              clear c12
              by_cases c13 : a2 = 0
              · rw [if_pos c13] at H
                exact absurd H (by simp)
              · rw [if_neg c13] at H
                have c13b0 : (a2 == 0) = false := beq_eq_false_iff_ne.mpr c13
                have c13b1 : (a2 != 0) = true := bne_iff_ne.mpr c13
                obtain rfl := Option.some.inj H
                have p245 : 0 ≤ ((ji7) : Int) := of_decide_eq_true (by assumption)
                have q245 : (ji7) < (l0.length : Int) := of_decide_eq_true (by assumption)
                obtain ⟨ad245, e245, hx245_0⟩ := Kd.at_int HR0.out (ji7) p245 q245
                cases e245
                replace p245 := eq_true p245
                replace q245 := eq_true q245
                have p246 : 0 ≤ ((ji10) : Int) := of_decide_eq_true (by assumption)
                have q246 : (ji10) < (l0.length : Int) := of_decide_eq_true (by assumption)
                obtain ⟨ad246, e246, hx246_0⟩ := Kd.at_int HR0.out (ji10) p246 q246
                obtain rfl : ad245 = ad246 := (by injection e246)
                replace p246 := eq_true p246
                replace q246 := eq_true q246
                go_enter Try.func9, Try.ntmps9
                go_wp2
                repeat (go_quiet (fail); try go_wp2)
                go_ret
                exact ⟨by first | rfl | (simp; done) | (simp only [← hji7, ← hji10] <;> (first | rfl | simp)) | (simp [*]; done), by repeat (first | exact Drawn0.refl _ | apply Drawn0.step)⟩
            · rw [if_neg c12] at H
              exact absurd H (by simp)
          · rw [if_neg c11] at H
            exact absurd H (by simp)
        · rw [if_neg c9] at H
          exact absurd H (by simp)
      · rw [if_neg c8] at H
        exact absurd H (by simp)

/-! ### laws_a8Places: function 15 -/
def laws_a8Places.l0 : Nat → List Int → Int → Int → List Int → Int → Option (List Int)
  | 0, _, _, _, _, _ => none
  | k + 1, x0, x1, x2, x7, x8 => if x8 < x2 then (if (wrap64 (x1 - (x7.length : Int))) > 0 then (if (wrap64 (x2 - x8)) = (wrap64 (x1 - (x7.length : Int))) then (if x7.length < 17592186044416 then (laws_a8Places.l0 k x0 x1 x2 (x7 ++ [x8]) (wrap64 (x8 + 1))) else (none)) else ((laws_a8At.f x0 x8 (wrap64 (x2 - x8))).bind fun t465 => (if t465 < (wrap64 (x1 - (x7.length : Int))) then (if x7.length < 17592186044416 then (laws_a8Places.l0 k x0 x1 x2 (x7 ++ [x8]) (wrap64 (x8 + 1))) else (none)) else (laws_a8Places.l0 k x0 x1 x2 x7 (wrap64 (x8 + 1)))))) else (laws_a8Places.l0 k x0 x1 x2 x7 (wrap64 (x8 + 1)))) else (some x7)
def laws_a8Places.f (k : Nat) (l0 : List Int) (a1 : Int) (a2 : Int) : Option (List Int) := laws_a8Places.l0 k l0 a1 a2 (([] : List Int)) 0
set_option maxHeartbeats 8000000 in
set_option maxRecDepth 100000 in
theorem laws_a8Places.calls (k : Nat) (A0 : Option Addr) (c0 : Nat) (l0 : List Int) (a1 : Int) (a2 : Int) (r : List Int) (w : World) (hr0 : Kd.C (Kd.int .u8) w A0 l0.length l0) (hc0 : l0.length ≤ c0) (h : laws_a8Places.f k l0 a1 a2 = some r) :
    Calls Try.prog 15 #[.slice A0 l0.length c0, .int .i64 a1, .int .i64 a2] w fun e w' => ∃ v0_ : Value, e = .returned (v0_) ∧ Kd.R (Kd.int .i64) 2 w' w.heap.size (fun _ => True) v0_ r ∧ Below w.heap.size w w' := by
  have HR0 := Aside0.mk hr0
  have HC0 := Aside0.mk hc0
  clear hr0 hc0
  have HB := Aside0.mk (Below.refl w.heap.size w)
  have H : (laws_a8Places.l0 k l0 a1 a2 (([] : List Int)) 0) = some r := h
  clear h
  obtain ⟨y459, hy459⟩ : ∃ y_ : List Int, y_ = (([] : List Int)) := ⟨_, rfl⟩
  replace H : (laws_a8Places.l0 k l0 a1 a2 y459 0) = some r := by first | (rw [hy459]; with_reducible exact H) | (have H2_ := (Option.bind_some _ _).symm.trans H; rw [hy459]; with_reducible exact H2_) | (have H2_ := (Option.bind_some _ _).symm.trans H; with_reducible exact H2_) | with_reducible exact H | (rw [hy459]; exact H) | exact H
  have Ny459 := Aside0.mk hy459
  clear hy459
  have H' := Aside0.mk H
  clear H
  go_enter Try.func15, Try.ntmps15
  go_wp2_with (first | ((with_reducible refine gate_dst (N := 11) rfl ?_); refine Kd.R_lit (Kd.int .i64) _ 2 ?hg (N := 11) ?hd (xs := ([] : List Int)) (inner := []) (ok := fun _ => True) (okp := fun _ => True) ?hr ?hp (fun _ hk => hk) trivial (Below.refl _ _) (Nat.le_refl _) (by simp) ?_; (case hd => rfl); (case hg => rfl); (case hr => first | (go_simp; done) | (go_simp; rfl)); (case hp => exact (Reps.none _ _)); intro v460 w4 ho5 hb hg_ hnew_; clear hg_ hnew_; (first | rw [← Ny459.out] at ho5 | (simp only [Int.reduceToNat] at ho5; rw [← Ny459.out] at ho5)); have n0_ := Aside0.mk (Kd.R_lower ho5 (below_size (by repeat first | exact HB.out | apply pw_below_drewN))); have n1_ := Aside0.mk (below_step (by repeat first | exact HB.out | apply pw_below_drewN) hb); clear HB; have HO461 := n0_; have HB := n1_; clear n0_ n1_; clear hb ho5))
  go_loopg [7, 8] k (fun kq v7 v8 w' => ∃ (x7_1 : List Int) (x8_1 : Int), v8 = .int .i64 x8_1 ∧ Aside0 (laws_a8Places.l0 kq l0 a1 a2 x7_1 x8_1 = some r) ∧ Aside0 (kq ≤ k) ∧ Aside0 (Kd.R (Kd.int .i64) 2 w' w.heap.size (fun _ => True) v7 x7_1) ∧ Aside0 (Below w.heap.size w w'))
  case atStart => exact ⟨(y459), (0), (by first | rfl | (simp; done) | (simp [*]; done)), H', ⟨Nat.le_refl _⟩, ⟨by (with_reducible repeat (first | apply Kd.R_alloc | apply Kd.R_drewN | apply Kd.R_drew)); exact HO461.out⟩, ⟨by repeat first | exact HB.out | apply pw_below_drewN⟩⟩
  case round =>
    clear H'
    try clear c1
    try clear p2
    obtain ⟨x7_1, x8_1, rfl, HA, HK1, HO_7, HB⟩ := hrel
    cases gk with
    | zero => exact absurd HA.out (by simp [laws_a8Places.l0])
    | succ k1 =>
      have H := HA.out
      clear HA
      simp only [laws_a8Places.l0] at H
      by_cases c6 : x8_1 < a2
      · rw [if_pos c6] at H
        have c6b0 : decide (x8_1 < a2) = true := decide_eq_true c6
        clear c6
        by_cases c7 : (wrap64 (a1 - (x7_1.length : Int))) > 0
        · rw [if_pos c7] at H
          have c7b0 : decide (0 < (wrap64 (a1 - (x7_1.length : Int)))) = true := decide_eq_true c7
          clear c7
          by_cases c8 : (wrap64 (a2 - x8_1)) = (wrap64 (a1 - (x7_1.length : Int)))
          · rw [if_pos c8] at H
            have c8b0 : ((wrap64 (a2 - x8_1)) == (wrap64 (a1 - (x7_1.length : Int)))) = true := beq_iff_eq.mpr c8
            have c8b1 : ((wrap64 (a2 - x8_1)) != (wrap64 (a1 - (x7_1.length : Int)))) = false := bne_eq_false_iff_eq.mpr c8
            clear c8
            by_cases c9 : x7_1.length < 17592186044416
            · rw [if_pos c9] at H
              have LMc9 := Aside0.mk c9
              clear c9
              obtain ⟨y462, hy462⟩ : ∃ y_ : List Int, y_ = (x7_1 ++ [x8_1]) := ⟨_, rfl⟩
              replace H : (laws_a8Places.l0 k1 l0 a1 a2 y462 (wrap64 (x8_1 + 1))) = some r := by first | (rw [hy462]; with_reducible exact H) | (have H2_ := (Option.bind_some _ _).symm.trans H; rw [hy462]; with_reducible exact H2_) | (have H2_ := (Option.bind_some _ _).symm.trans H; with_reducible exact H2_) | with_reducible exact H | (rw [hy462]; exact H) | exact H
              have Ny462 := Aside0.mk hy462
              clear hy462
              have H' := Aside0.mk H
              clear H
              obtain ⟨Ao10, co10, eo10⟩ := Kd.R_slice HO_7.out
              subst eo10
              go_wp2_with (first | ((with_reducible refine gate_builtin (b := .append) (xs := #[.tmp 39, .tmp 41]) rfl ?_); at_builtin; refine Kd.R_append (Kd.int .i64) (w0 := w) w.heap.size rfl (.tmp 39) (.tmp 41) 36 2 (.int .i64 0) 8 rfl Try.underlying36 info2 rfl (by decide) (by omega) (.slice Ao10 x7_1.length co10) x7_1 x8_1 [.int .i64 x8_1] (fun _ => True) (fun _ => False) rfl rfl ?aP (fun _ hk => hk.elim) ?aF ?aO ?aB ?aS ?aL ?_; (case aP => exact rfl); (case aB => exact (by repeat first | exact HB.out | apply pw_below_drewN)); (case aF => exact (fun _ _ => trivial)); (case aO => exact (by (with_reducible repeat (first | apply Kd.R_alloc | apply Kd.R_drewN | apply Kd.R_drew)); exact HO_7.out)); (case aS => exact (below_size (by repeat first | exact HB.out | apply pw_below_drewN))); (case aL => have := LMc9.out; omega); intro v463 w11 ho hb hg hat; rw [← Ny462.out] at ho; have n0_ := Aside0.mk (hb); have n1_ := Aside0.mk (ho); clear HB; clear HO_7; have HB := n0_; have HO464 := n1_; clear n0_ n1_; clear ho hb hg hat))
              go_roundg k1
              case measure => have := HK1.out; omega
              case rel => exact ⟨(y462), (wrap64 (x8_1 + 1)), (by first | rfl | (simp; done) | (simp [*]; done)), H', ⟨by have := HK1.out; omega⟩, ⟨by (with_reducible repeat (first | apply Kd.R_alloc | apply Kd.R_drewN | apply Kd.R_drew)); exact HO464.out⟩, ⟨by repeat first | exact HB.out | apply pw_below_drewN⟩⟩
            · rw [if_neg c9] at H
              exact absurd H (by simp)
          · rw [if_neg c8] at H
            have c8b0 : ((wrap64 (a2 - x8_1)) == (wrap64 (a1 - (x7_1.length : Int)))) = false := beq_eq_false_iff_ne.mpr c8
            have c8b1 : ((wrap64 (a2 - x8_1)) != (wrap64 (a1 - (x7_1.length : Int)))) = true := bne_iff_ne.mpr c8
            replace H := Option.bind_eq_some_iff.mp H
            obtain ⟨t465, A120, H⟩ := H
            set_option simprocs false in try dsimp only at H
            have A12 := Aside0.mk A120
            clear A120
            by_cases c13 : t465 < (wrap64 (a1 - (x7_1.length : Int)))
            · rw [if_pos c13] at H
              have c13b0 : decide (t465 < (wrap64 (a1 - (x7_1.length : Int)))) = true := decide_eq_true c13
              clear c13
              by_cases c14 : x7_1.length < 17592186044416
              · rw [if_pos c14] at H
                have LMc14 := Aside0.mk c14
                clear c14
                obtain ⟨y466, hy466⟩ : ∃ y_ : List Int, y_ = (x7_1 ++ [x8_1]) := ⟨_, rfl⟩
                replace H : (laws_a8Places.l0 k1 l0 a1 a2 y466 (wrap64 (x8_1 + 1))) = some r := by first | (rw [hy466]; with_reducible exact H) | (have H2_ := (Option.bind_some _ _).symm.trans H; rw [hy466]; with_reducible exact H2_) | (have H2_ := (Option.bind_some _ _).symm.trans H; with_reducible exact H2_) | with_reducible exact H | (rw [hy466]; exact H) | exact H
                have Ny466 := Aside0.mk hy466
                clear hy466
                have H' := Aside0.mk H
                clear H
                obtain ⟨Ao15, co15, eo15⟩ := Kd.R_slice HO_7.out
                subst eo15
                go_wp2_with (first | (go_at_call 9; (with_reducible refine (laws_a8At.calls _ _ l0 x8_1 (wrap64 (a2 - x8_1)) t465 _ ?side1 ?side2 A12.out).mono ?_); (case side1 => exact (Kd.C_below HR0.out HB.out)); (case side2 => exact HC0.out); rintro e w' ⟨rfl, ⟨nd, rfl⟩⟩) | ((with_reducible refine gate_builtin (b := .append) (xs := #[.tmp 39, .tmp 41]) rfl ?_); at_builtin; refine Kd.R_append (Kd.int .i64) (w0 := w) w.heap.size rfl (.tmp 39) (.tmp 41) 36 2 (.int .i64 0) 8 rfl Try.underlying36 info2 rfl (by decide) (by omega) (.slice Ao15 x7_1.length co15) x7_1 x8_1 [.int .i64 x8_1] (fun _ => True) (fun _ => False) rfl rfl ?aP (fun _ hk => hk.elim) ?aF ?aO ?aB ?aS ?aL ?_; (case aP => exact rfl); (case aB => exact (by repeat first | exact HB.out | apply pw_below_drewN)); (case aF => exact (fun _ _ => trivial)); (case aO => exact (by (with_reducible repeat (first | apply Kd.R_alloc | apply Kd.R_drewN | apply Kd.R_drew)); exact HO_7.out)); (case aS => exact (below_size (by repeat first | exact HB.out | apply pw_below_drewN))); (case aL => have := LMc14.out; omega); intro v467 w16 ho hb hg hat; rw [← Ny466.out] at ho; have n0_ := Aside0.mk (hb); have n1_ := Aside0.mk (ho); clear HB; clear HO_7; have HB := n0_; have HO468 := n1_; clear n0_ n1_; clear ho hb hg hat))
                go_roundg k1
                case measure => have := HK1.out; omega
                case rel => exact ⟨(y466), (wrap64 (x8_1 + 1)), (by first | rfl | (simp; done) | (simp [*]; done)), H', ⟨by have := HK1.out; omega⟩, ⟨by (with_reducible repeat (first | apply Kd.R_alloc | apply Kd.R_drewN | apply Kd.R_drew)); exact HO468.out⟩, ⟨by repeat first | exact HB.out | apply pw_below_drewN⟩⟩
              · rw [if_neg c14] at H
                exact absurd H (by simp)
            · rw [if_neg c13] at H
              have c13b0 : decide (t465 < (wrap64 (a1 - (x7_1.length : Int)))) = false := decide_eq_false c13
              clear c13
              have H' := Aside0.mk H
              clear H
              obtain ⟨Ao17, co17, eo17⟩ := Kd.R_slice HO_7.out
              subst eo17
              go_wp2_with (first | (go_at_call 9; (with_reducible refine (laws_a8At.calls _ _ l0 x8_1 (wrap64 (a2 - x8_1)) t465 _ ?side1 ?side2 A12.out).mono ?_); (case side1 => exact (Kd.C_below HR0.out HB.out)); (case side2 => exact HC0.out); rintro e w' ⟨rfl, ⟨nd, rfl⟩⟩))
              go_roundg k1
              case measure => have := HK1.out; omega
              case rel => exact ⟨(x7_1), (wrap64 (x8_1 + 1)), (by first | rfl | (simp; done) | (simp [*]; done)), H', ⟨by have := HK1.out; omega⟩, ⟨by (with_reducible repeat (first | apply Kd.R_alloc | apply Kd.R_drewN | apply Kd.R_drew)); exact HO_7.out⟩, ⟨by repeat first | exact HB.out | apply pw_below_drewN⟩⟩
        · rw [if_neg c7] at H
          have c7b0 : decide (0 < (wrap64 (a1 - (x7_1.length : Int)))) = false := decide_eq_false c7
          clear c7
          have H' := Aside0.mk H
          clear H
          obtain ⟨Ao18, co18, eo18⟩ := Kd.R_slice HO_7.out
          subst eo18
          go_wp2
          go_roundg k1
          case measure => have := HK1.out; omega
          case rel => exact ⟨(x7_1), (wrap64 (x8_1 + 1)), (by first | rfl | (simp; done) | (simp [*]; done)), H', ⟨by have := HK1.out; omega⟩, ⟨by (with_reducible repeat (first | apply Kd.R_alloc | apply Kd.R_drewN | apply Kd.R_drew)); exact HO_7.out⟩, ⟨by repeat first | exact HB.out | apply pw_below_drewN⟩⟩
      · rw [if_neg c6] at H
        have c6b0 : decide (x8_1 < a2) = false := decide_eq_false c6
        clear c6
        obtain rfl := Option.some.inj H
        go_wp2
        go_ret
        exact ⟨_, by first | rfl | (simp [*, errW_none, errW_some] <;> rfl), by (with_reducible repeat (first | apply Kd.R_alloc | apply Kd.R_drewN | apply Kd.R_drew)); exact HO_7.out, by repeat first | exact HB.out | apply pw_below_drewN⟩

/-! ### impl_CanPlace: function 16 -/
/-- the domains that are free: of the things that have one, are not out and weigh something -/
def placeGo (gd : Int → Option (Int × Bool)) (gc : Int → Option Bool) (gw : Int → Option Int) : List Int → List Int → Option (List Int)
  | S, [] => some S
  | S, x :: xs => (gd x).bind fun d => if d.2 = true then ((gc x).bind fun c => if c = true then placeGo gd gc gw S xs else (gw x).bind fun t => if t > 0 then (if wfI d.1 = true then placeGo gd gc gw (S ++ [d.1]) xs else none) else placeGo gd gc gw S xs) else placeGo gd gc gw S xs
theorem placeGo_here (gd : Int → Option (Int × Bool)) (gc : Int → Option Bool) (gw : Int → Option Int) (S l : List Int) (i : Int) (h0 : 0 ≤ i) (h1 : i < (l.length : Int)) : placeGo gd gc gw S (l.drop i.toNat) = (gd (rd l i)).bind fun d => if d.2 = true then ((gc (rd l i)).bind fun c => if c = true then placeGo gd gc gw S (l.drop (i + 1).toNat) else (gw (rd l i)).bind fun t => if t > 0 then (if wfI d.1 = true then placeGo gd gc gw (S ++ [d.1]) (l.drop (i + 1).toNat) else none) else placeGo gd gc gw S (l.drop (i + 1).toNat)) else placeGo gd gc gw S (l.drop (i + 1).toNat) := by
  obtain ⟨n, rfl⟩ := Int.eq_ofNat_of_zero_le h0
  have hl : n < l.length := by omega
  have e : ((n : Int) + 1).toNat = n + 1 := by omega
  have er : rd l (n : Int) = l[n] := by unfold rd; rw [Int.toNat_natCast, List.getD_eq_getElem?_getD, List.getElem?_eq_getElem hl]; rfl
  rw [e, Int.toNat_natCast, List.drop_eq_getElem_cons hl, er]
  rfl
def impl_CanPlace.f (k : Nat) (l0_0 : List (S34)) (l0_1 : List (S70)) (a1_0 a1_1 a1_2 : Int) (a1_3 : Bool) (l2 : List Int) : Option (Int × Bool) :=
  (impl_RuleOk.f k l0_0 l0_1 a1_0 a1_1 a1_2 a1_3).bind fun t => if t = true then ((impl_outOk.f k l2).bind fun o => if o = true then ((impl_Tree_nodesUnder.f k l0_0 l0_1 a1_1).bind fun n => if n.length ≤ 1048576 then (placeGo (fun x => impl_Tree_domain.f k l0_0 l0_1 a1_2 x) (fun x => slices_Contains_int64_int64.f k l2 x) (fun x => impl_Tree_weight.f k l0_0 l0_1 x) [] n).map fun S => (((onceOf S).length : Int), true) else none) else some (0, false)) else some (0, false)
set_option maxHeartbeats 4000000 in
set_option maxRecDepth 100000 in
theorem impl_CanPlace.calls (k : Nat) (A0_0 : Option Addr) (c0_0 : Nat) (l0_0 : List (S34)) (A0_1 : Option Addr) (c0_1 : Nat) (l0_1 : List (S70)) (a1_0 a1_1 a1_2 : Int) (a1_3 : Bool) (A2 : Option Addr) (c2 : Nat) (l2 : List Int) (r1 : Int) (r2 : Bool) (w : World) (hr0_0 : Kd.C k34 w A0_0 l0_0.length l0_0) (hc0_0 : l0_0.length ≤ c0_0) (hr0_1 : Kd.C k70 w A0_1 l0_1.length l0_1) (hc0_1 : l0_1.length ≤ c0_1) (hr2 : Kd.C (Kd.int .i64) w A2 l2.length l2) (hc2 : l2.length ≤ c2) (h : impl_CanPlace.f k l0_0 l0_1 a1_0 a1_1 a1_2 a1_3 l2 = some (r1, r2)) :
    Calls Try.prog 16 #[.agg #[.slice A0_0 l0_0.length c0_0, .slice A0_1 l0_1.length c0_1], .agg #[.int .i64 a1_0, .int .i64 a1_1, .int .i64 a1_2, .bool a1_3], .slice A2 l2.length c2] w fun e w' => e = .returned (.tuple #[.int .i64 r1, .bool r2]) ∧ Below w.heap.size w w' := by
  have HR0 := Aside0.mk hr0_0
  have HR1 := Aside0.mk hr0_1
  have HR2 := Aside0.mk hr2
  have HC0 := Aside0.mk hc0_0
  have HC1 := Aside0.mk hc0_1
  have HC2 := Aside0.mk hc2
  clear hr0_0 hr0_1 hr2 hc0_0 hc0_1 hc2
  unfold impl_CanPlace.f at h
  obtain ⟨t, ht, h2⟩ := Option.bind_eq_some_iff.1 h
  have HT := Aside0.mk ht
  have H := Aside0.mk h2
  clear h ht h2
  have hmm := @run_makeMap Try.prog
  go_enter Try.func16, Try.ntmps16
  go_wp2_with fail
  have BK := Aside0.mk (blk_alloc (blk_new w (.cells #[.slice A0_0 l0_0.length c0_0, .slice A0_1 l0_1.length c0_1] 26)) (.cells #[.int .i64 a1_0, .int .i64 a1_1, .int .i64 a1_2, .bool a1_3] 29))
  have BR := Aside0.mk (blk_new (w.alloc (.cells #[.slice A0_0 l0_0.length c0_0, .slice A0_1 l0_1.length c0_1] 26)) (.cells #[.int .i64 a1_0, .int .i64 a1_1, .int .i64 a1_2, .bool a1_3] 29))
  have HB := Aside0.mk (below_alloc (below_alloc (Below.refl w.heap.size w) (.cells #[.slice A0_0 l0_0.length c0_0, .slice A0_1 l0_1.length c0_1] 26)) (.cells #[.int .i64 a1_0, .int .i64 a1_1, .int .i64 a1_2, .bool a1_3] 29))
  have hs : (w.alloc (.cells #[.slice A0_0 l0_0.length c0_0, .slice A0_1 l0_1.length c0_1] 26)).heap.size = w.heap.size + 1 := by unfold World.alloc; exact Array.size_push _
  rw [hs] at BR
  try rw [hs]
  clear hs
  generalize ((w.alloc (.cells #[.slice A0_0 l0_0.length c0_0, .slice A0_1 l0_1.length c0_1] 26)).alloc (.cells #[.int .i64 a1_0, .int .i64 a1_1, .int .i64 a1_2, .bool a1_3] 29)) = w1 at BK BR HB ⊢
  refine (impl_RuleOk.calls k A0_0 c0_0 l0_0 A0_1 c0_1 l0_1 a1_0 a1_1 a1_2 a1_3 t _ (Kd.C_below HR0.out HB.out) HC0.out (Kd.C_below HR1.out HB.out) HC1.out HT.out).mono ?_
  rintro e w2 ⟨rfl, hb⟩
  replace BK := Aside0.mk (blk_below BK.out hb)
  replace BR := Aside0.mk (blk_below BR.out hb)
  replace HB := Aside0.mk (below_step HB.out hb)
  clear hb
  have h0 := (blk_cell BK.out 0).trans rfl
  have h1 := (blk_cell BK.out 1).trans rfl
  have g1 := (blk_cell BR.out 1).trans rfl
  have g2 := (blk_cell BR.out 2).trans rfl
  cases t with
  | false =>
    have HF := Aside0.mk (show r1 = 0 ∧ r2 = false from by have := H.out; rw [if_neg (by decide)] at this; have := Option.some.inj this; exact ⟨(congrArg Prod.fst this).symm, (congrArg Prod.snd this).symm⟩)
    go_wp2_with fail
    go_ret2
    exact ⟨by rw [HF.out.1, HF.out.2]; rfl, HB.out⟩
  | true =>
  obtain ⟨o, ho, h2⟩ := Option.bind_eq_some_iff.1 (show (impl_outOk.f k l2).bind _ = some (r1, r2) from by have := H.out; rwa [if_pos rfl] at this)
  have HT2 := Aside0.mk ho
  replace H := Aside0.mk h2
  clear ho h2
  go_wp2_with fail
  refine (impl_outOk.calls k A2 c2 l2 o _ (Kd.C_below HR2.out HB.out) HC2.out HT2.out).mono ?_
  rintro e w3 ⟨rfl, hb⟩
  clear h0 h1 g1 g2
  replace BK := Aside0.mk (blk_below BK.out hb)
  replace BR := Aside0.mk (blk_below BR.out hb)
  replace HB := Aside0.mk (below_step HB.out hb)
  clear hb
  have h0 := (blk_cell BK.out 0).trans rfl
  have h1 := (blk_cell BK.out 1).trans rfl
  have g1 := (blk_cell BR.out 1).trans rfl
  have g2 := (blk_cell BR.out 2).trans rfl
  cases o with
  | false =>
    have HF := Aside0.mk (show r1 = 0 ∧ r2 = false from by have := H.out; rw [if_neg (by decide)] at this; have := Option.some.inj this; exact ⟨(congrArg Prod.fst this).symm, (congrArg Prod.snd this).symm⟩)
    go_wp2_with fail
    go_ret2
    exact ⟨by rw [HF.out.1, HF.out.2]; rfl, HB.out⟩
  | true =>
  obtain ⟨n, hn, h2⟩ := Option.bind_eq_some_iff.1 (show (impl_Tree_nodesUnder.f k l0_0 l0_1 a1_1).bind _ = some (r1, r2) from by have := H.out; rwa [if_pos rfl] at this)
  have HU := Aside0.mk hn
  by_cases hsm : n.length ≤ 1048576
  case neg => rw [if_neg hsm] at h2; cases h2
  rw [if_pos hsm] at h2
  obtain ⟨tot, htot, e2⟩ := Option.map_eq_some_iff.1 h2
  injection e2 with e2 e3
  subst e2 e3
  replace H := Aside0.mk (show placeGo (fun x => impl_Tree_domain.f k l0_0 l0_1 a1_2 x) (fun x => slices_Contains_int64_int64.f k l2 x) (fun x => impl_Tree_weight.f k l0_0 l0_1 x) [] (n.drop (0 : Int).toNat) = some tot from htot)
  clear hn h2 htot
  have HLT := Aside0.mk (blk_lt BR.out)
  have h0a := fun o => (blk_cell (blk_alloc BK.out o) 0).trans rfl
  have h1a := fun o => (blk_cell (blk_alloc BK.out o) 1).trans rfl
  have g1a := fun o => (blk_cell (blk_alloc BR.out o) 1).trans rfl
  have g2a := fun o => (blk_cell (blk_alloc BR.out o) 2).trans rfl
  go_wp2_with fail
  have HS := Aside0.mk (OwnSet.made w3)
  have HMB := Aside0.mk (show w.heap.size ≤ w3.heap.size from HB.out.size)
  have HNE := Aside0.mk (show ¬ w.heap.size = w3.heap.size ∧ ¬ w.heap.size + 1 = w3.heap.size from by have := HLT.out; omega)
  replace BK := Aside0.mk (blk_alloc BK.out (.map #[] 0))
  replace BR := Aside0.mk (blk_alloc BR.out (.map #[] 0))
  replace HB := Aside0.mk (below_alloc HB.out (.map #[] 0))
  generalize (w3.alloc (.map #[] 0)) = w4 at HS BK BR HB ⊢
  generalize w3.heap.size = mb at HS HMB HNE ⊢
  clear h0 h1 g1 g2 HLT h0a h1a g1a g2a
  have hMB := OwnSet.lt HS.out
  refine (impl_Tree_nodesUnder.calls k A0_0 c0_0 l0_0 A0_1 c0_1 l0_1 a1_1 n _ (Kd.C_below HR0.out HB.out) HC0.out (Kd.C_below HR1.out HB.out) HC1.out HU.out).mono ?_
  rintro e w5 ⟨vn, rfl, hn, hb⟩
  replace BK := Aside0.mk (blk_below BK.out hb)
  replace BR := Aside0.mk (blk_below BR.out hb)
  replace HB := Aside0.mk (below_step HB.out hb)
  replace HS := Aside0.mk (OwnSet.below HS.out hb)
  obtain ⟨An, cn, rfl⟩ := Kd.R_slice hn
  have HN := Aside0.mk (Kd.R_mono (Kd.R_bound hn) (ok' := fun k => mb < k) (fun k hk => Nat.lt_of_lt_of_le hMB hk.2.1))
  clear hb hn hMB HU
  obtain ⟨gt, hgt⟩ : ∃ g, g = w.heap.size := ⟨_, rfl⟩
  rw [← hgt] at BK BR HNE ⊢
  clear hgt
  go_wp2_with fail
  generalize w4.heap.size = b4 at HN
  go_loopg [28] n.length (fun gg s28 wr => ∃ (kk : Int) (S : List Int), 0 ≤ kk ∧ kk ≤ n.length ∧ (n.length : Int) - kk ≤ gg ∧ s28 = .int .i64 kk ∧ (S.length : Int) ≤ kk ∧ Aside0 (Below w.heap.size w wr) ∧ Aside0 (OwnSet wr mb S.length S) ∧ Aside0 (wr.heap[gt]? = some (.cells #[.slice A0_0 l0_0.length c0_0, .slice A0_1 l0_1.length c0_1] 26 (0, 0))) ∧ Aside0 (wr.heap[gt + 1]? = some (.cells #[.int .i64 a1_0, .int .i64 a1_1, .int .i64 a1_2, .bool a1_3] 29 (0, 0))) ∧ Aside0 ((Kd.int .i64).R 2 wr b4 (fun k => mb < k) (.slice An n.length cn) n) ∧ Aside0 (placeGo (fun x => impl_Tree_domain.f k l0_0 l0_1 a1_2 x) (fun x => slices_Contains_int64_int64.f k l2 x) (fun x => impl_Tree_weight.f k l0_0 l0_1 x) S (n.drop kk.toNat) = some tot))
  case atStart => exact ⟨0, [], by omega, by omega, by omega, rfl, by simp, HB, HS, BK, BR, HN, H⟩
  case round =>
    clear HB HS BK BR HN H
    obtain ⟨kk, S, h0, hk, hg, rfl, hS, HB, HS, BK, BR, HN, H⟩ := hrel
    have ht0 := (blk_cell BK.out 0).trans rfl
    have ht1 := (blk_cell BK.out 1).trans rfl
    have hr2 := (blk_cell BR.out 2).trans rfl
    by_cases hlt : kk < (n.length : Int)
    case neg =>
      obtain rfl : kk = n.length := by omega
      have HF := Aside0.mk (show S = tot from by have := H.out; rw [Int.toNat_natCast, List.drop_length] at this; exact Option.some.inj this)
      have hlen := fun ty => OwnSet.len HS.out ty
      clear H
      go_wp2_with fail
      go_ret2
      exact ⟨by rw [← HF.out]; rfl, HB.out⟩
    obtain ⟨ad, rfl, hx0⟩ := Kd.at_int (Kd.R_reads' HN.out).2.2 kk h0 hlt
    have q0 := eq_true h0
    have q1 := eq_true hlt
    have HP := Aside0.mk (by have := placeGo_here (fun x => impl_Tree_domain.f k l0_0 l0_1 a1_2 x) (fun x => slices_Contains_int64_int64.f k l2 x) (fun x => impl_Tree_weight.f k l0_0 l0_1 x) S n kk h0 hlt; rw [H.out] at this; exact this.symm)
    clear H
    generalize rd n kk = x at hx0 HP
    obtain ⟨⟨d1, d2⟩, hdm, hp⟩ := Option.bind_eq_some_iff.1 HP.out
    have HD := Aside0.mk hdm
    replace HP := Aside0.mk hp
    clear hdm hp
    go_wp2_with fail
    refine (impl_Tree_domain.calls k A0_0 c0_0 l0_0 A0_1 c0_1 l0_1 a1_2 x d1 d2 _ (Kd.C_below HR0.out HB.out) HC0.out (Kd.C_below HR1.out HB.out) HC1.out HD.out).mono ?_
    rintro e w6 ⟨rfl, hb⟩
    clear ht0 ht1 hr2 hx0
    replace BK := Aside0.mk (blk_below BK.out hb)
    replace BR := Aside0.mk (blk_below BR.out hb)
    replace HB := Aside0.mk (below_step HB.out hb)
    replace HS := Aside0.mk (OwnSet.below HS.out hb)
    replace HN := Aside0.mk (Kd.R_below HN.out hb)
    have ht0 := (blk_cell BK.out 0).trans rfl
    have ht1 := (blk_cell BK.out 1).trans rfl
    have hr2 := (blk_cell BR.out 2).trans rfl
    clear hb
    cases d2 with
    | false =>
      replace HP := Aside0.mk (show placeGo (fun x => impl_Tree_domain.f k l0_0 l0_1 a1_2 x) (fun x => slices_Contains_int64_int64.f k l2 x) (fun x => impl_Tree_weight.f k l0_0 l0_1 x) S (n.drop (kk + 1).toNat) = some tot from by have := HP.out; rwa [if_neg (by decide)] at this)
      go_wp2_with fail
      go_roundg (gk - 1)
      case measure => omega
      case rel => exact ⟨kk + 1, S, by omega, by omega, by omega, by go_num, by omega, HB, HS, BK, BR, HN, HP⟩
    | true =>
    obtain ⟨c, hc, hp⟩ := Option.bind_eq_some_iff.1 (show (slices_Contains_int64_int64.f k l2 x).bind _ = some tot from by have := HP.out; rwa [if_pos rfl] at this)
    have HCc := Aside0.mk hc
    replace HP := Aside0.mk hp
    clear hc hp
    go_wp2_with fail
    refine (slices_Contains_int64_int64.calls k A2 c2 l2 x c _ (Kd.C_below HR2.out HB.out) HC2.out HCc.out).mono ?_
    rintro e w7 ⟨rfl, hd⟩
    have hb := hd.below
    clear ht0 ht1 hr2 hd
    replace BK := Aside0.mk (blk_below BK.out hb)
    replace BR := Aside0.mk (blk_below BR.out hb)
    replace HB := Aside0.mk (below_step HB.out hb)
    replace HS := Aside0.mk (OwnSet.below HS.out hb)
    replace HN := Aside0.mk (Kd.R_below HN.out hb)
    have ht0 := (blk_cell BK.out 0).trans rfl
    have ht1 := (blk_cell BK.out 1).trans rfl
    have hr2 := (blk_cell BR.out 2).trans rfl
    clear hb
    cases c with
    | true =>
      replace HP := Aside0.mk (show placeGo (fun x => impl_Tree_domain.f k l0_0 l0_1 a1_2 x) (fun x => slices_Contains_int64_int64.f k l2 x) (fun x => impl_Tree_weight.f k l0_0 l0_1 x) S (n.drop (kk + 1).toNat) = some tot from by have := HP.out; rwa [if_pos rfl] at this)
      go_wp2_with fail
      go_roundg (gk - 1)
      case measure => omega
      case rel => exact ⟨kk + 1, S, by omega, by omega, by omega, by go_num, by omega, HB, HS, BK, BR, HN, HP⟩
    | false =>
    obtain ⟨tw, hw, hp⟩ := Option.bind_eq_some_iff.1 (show (impl_Tree_weight.f k l0_0 l0_1 x).bind _ = some tot from by have := HP.out; rwa [if_neg (by decide)] at this)
    have HW := Aside0.mk hw
    replace HP := Aside0.mk hp
    clear hw hp
    go_wp2_with fail
    refine (impl_Tree_weight.calls k A0_0 c0_0 l0_0 A0_1 c0_1 l0_1 x tw _ (Kd.C_below HR0.out HB.out) HC0.out (Kd.C_below HR1.out HB.out) HC1.out HW.out).mono ?_
    rintro e w8 ⟨rfl, hb⟩
    clear ht0 ht1 hr2
    replace BK := Aside0.mk (blk_below BK.out hb)
    replace BR := Aside0.mk (blk_below BR.out hb)
    replace HB := Aside0.mk (below_step HB.out hb)
    replace HS := Aside0.mk (OwnSet.below HS.out hb)
    replace HN := Aside0.mk (Kd.R_below HN.out hb)
    have ht0 := (blk_cell BK.out 0).trans rfl
    have ht1 := (blk_cell BK.out 1).trans rfl
    have hr2 := (blk_cell BR.out 2).trans rfl
    clear hb
    by_cases ct : tw > 0
    case neg =>
      have cb := decide_eq_false ct
      replace HP := Aside0.mk (show placeGo (fun x => impl_Tree_domain.f k l0_0 l0_1 a1_2 x) (fun x => slices_Contains_int64_int64.f k l2 x) (fun x => impl_Tree_weight.f k l0_0 l0_1 x) S (n.drop (kk + 1).toNat) = some tot from by have := HP.out; rwa [if_neg ct] at this)
      clear ct
      go_wp2_with fail
      go_roundg (gk - 1)
      case measure => omega
      case rel => exact ⟨kk + 1, S, by omega, by omega, by omega, by go_num, by omega, HB, HS, BK, BR, HN, HP⟩
    have cb := decide_eq_true ct
    replace HP := Aside0.mk (by have := HP.out; rwa [if_pos ct] at this)
    clear ct
    by_cases hw : wfI d1 = true
    case neg => exact absurd HP.out (by rw [if_neg hw]; simp)
    replace HP := Aside0.mk (show placeGo (fun x => impl_Tree_domain.f k l0_0 l0_1 a1_2 x) (fun x => slices_Contains_int64_int64.f k l2 x) (fun x => impl_Tree_weight.f k l0_0 l0_1 x) (S ++ [d1]) (n.drop (kk + 1).toNat) = some tot from by have := HP.out; rwa [if_pos hw] at this)
    have HW2 := Aside0.mk hw
    clear hw
    have HSM := Aside0.mk (show n.length ≤ 1048576 from hsm)
    have HSN := Aside0.mk (show S.length < 9223372036854775807 from by omega)
    go_wp2_with (at_mapUpdate; refine OwnSet.put rfl rfl _ _ _ rfl _ _ _ rfl HS.out HSN.out _ rfl rfl HW2.out ?_; intro w9 hs9 hg9; have HS9 := Aside0.mk hs9; have HG9 := Aside0.mk hg9; clear hs9 hg9)
    go_roundg (gk - 1)
    case measure => omega
    case rel =>
      exact ⟨kk + 1, S ++ [d1], by omega, by omega, by omega, by go_num, by rw [List.length_append]; simp; omega, ⟨pw_below_grown HB.out (some mb) HB.out.size HG9.out (by intro k hk; cases hk; exact HMB.out)⟩,
        ⟨by have := HS9.out; rw [List.length_append]; exact this⟩, ⟨(HG9.out.block _ (blk_lt BK.out) (by simp; exact HNE.out.1)).trans BK.out⟩, ⟨(HG9.out.block _ (blk_lt BR.out) (by simp; exact HNE.out.2)).trans BR.out⟩, ⟨Kd.R_step HN.out (fun k_ ho hlt => HG9.out.block k_ hlt (fun he => by injection he with he; omega))⟩, HP⟩

end Go.Proofs.Ytohjpgcmhihdhaa.Q
