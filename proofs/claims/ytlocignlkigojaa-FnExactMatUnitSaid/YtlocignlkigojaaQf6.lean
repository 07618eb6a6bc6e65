/- Walks of the Go functions that the laws call: each returns what a plain Lean function says. Written by a program for these claims. -/
import Derived.Test.YtlocignlkigojaaQ0
import Derived.Test.YtlocignlkigojaaQf31
import Derived.Test.YtlocignlkigojaaQf32
import Derived.Test.YtlocignlkigojaaQf33
import Derived.Test.YtlocignlkigojaaQf34
import Derived.Test.YtlocignlkigojaaQf35
namespace Go.Proofs.Ytlocignlkigojaa.Q
open Go.RowKit Go.Proofs.YtlocignlkigojaaW.PrintWords Go.Proofs.YtlocignlkigojaaW.PrintLast Go.Proofs.YtlocignlkigojaaW.PrintMore
attribute [local go_sem] max2_int min2_int max_two min_two max_three min_three max_four min_four   -- for this text's walks alone
set_option linter.unusedVariables false
set_option linter.unusedSimpArgs false

/-! ### laws_FnExactMatUnit: function 6 -/
mutual
def laws_FnExactMatUnit.j0 : Nat → Int → Int → Bool → Int → Int → List Int → Int → Int → List Int → Option (Bool)
  | 0, _, _, _, _, _, _, _, _, _ => none
  | k + 1, x0, x4, x29, x257000, x257001, x257002, x264000, x264001, x264002 => if x29 = true then (some false) else ((laws_markMatrix.f k x264000 x264001 x264002 1).bind fun bt265 => ((laws_heldMatrix.f k x264000 x264001 bt265.2 1).bind fun t267 => (if t267 < 0 then (some false) else (if t267 = bt265.1 then ((impl_MatUnit.f x0).bind fun bt268 => ((laws_eqMatrix.f k bt268.1 bt268.2.1 bt268.2.2.1 x257000 x257001 x257002).bind fun t275 => (if t275 = true then (laws_FnExactMatUnit.j1 k bt265.1 (bt268.2.2.2 != x4) x264000 x264001 bt265.2) else (laws_FnExactMatUnit.j1 k bt265.1 true x264000 x264001 bt265.2)))) else (some false)))))
def laws_FnExactMatUnit.j1 : Nat → Int → Bool → Int → Int → List Int → Option (Bool)
  | 0, _, _, _, _, _ => none
  | k + 1, x7, x54, x264000, x264001, x264002 => if x54 = true then (some false) else ((laws_heldMatrix.f k x264000 x264001 x264002 1).bind fun t276 => (if t276 < 0 then (some false) else (if t276 = x7 then (some true) else (some false))))
end
def laws_FnExactMatUnit.f (k : Nat) (a0 : Int) : Option (Bool) := (spec_MatUnit.f k a0).bind fun bt250 => ((impl_MatUnit.f a0).bind fun bt257 => ((laws_eqMatrix.f k bt257.1 bt257.2.1 bt257.2.2.1 bt250.1 bt250.2.1 bt250.2.2.1).bind fun t264 => (if t264 = true then (laws_FnExactMatUnit.j0 k a0 bt250.2.2.2 (bt257.2.2.2 != bt250.2.2.2) bt250.1 bt250.2.1 bt250.2.2.1 bt257.1 bt257.2.1 bt257.2.2.1) else (laws_FnExactMatUnit.j0 k a0 bt250.2.2.2 true bt250.1 bt250.2.1 bt250.2.2.1 bt257.1 bt257.2.1 bt257.2.2.1))))
theorem laws_FnExactMatUnit.mono_l : ∀ k, (∀ y0 y1 y2 y3 y4 y5 y6 y7 y8, LeO (laws_FnExactMatUnit.j0 k y0 y1 y2 y3 y4 y5 y6 y7 y8) (laws_FnExactMatUnit.j0 (k + 1) y0 y1 y2 y3 y4 y5 y6 y7 y8)) ∧ (∀ y0 y1 y2 y3 y4, LeO (laws_FnExactMatUnit.j1 k y0 y1 y2 y3 y4) (laws_FnExactMatUnit.j1 (k + 1) y0 y1 y2 y3 y4))
  | 0 => ⟨fun _ _ _ _ _ _ _ _ _ r h => by simp [laws_FnExactMatUnit.j0] at h, fun _ _ _ _ _ r h => by simp [laws_FnExactMatUnit.j1] at h⟩
  | k + 1 => by
    obtain ⟨ih0, ih1⟩ := laws_FnExactMatUnit.mono_l k
    refine ⟨?_, ?_⟩
    · intro y0 y1 y2 y3 y4 y5 y6 y7 y8
      unfold laws_FnExactMatUnit.j0
      repeat' first
      | (with_reducible exact ih0 _ _ _ _ _ _ _ _ _)
      | (with_reducible exact ih1 _ _ _ _ _)
      | (with_reducible exact laws_eqMatrix.mono _ _ _ _ _ _ _)
      | (with_reducible exact laws_heldMatrix.mono _ _ _ _ _)
      | (with_reducible exact laws_markMatrix.mono _ _ _ _ _)
      | (with_reducible exact spec_MatUnit.mono _ _)
      | (with_reducible exact LeO.refl _)
      | (with_reducible exact LeO.none _)
      | (with_reducible refine LeO.ite ?_ ?_)
      | (with_reducible refine LeO.bind ?_ (fun _ => ?_))
      | exact ih0 _ _ _ _ _ _ _ _ _
      | exact ih1 _ _ _ _ _
      | exact laws_eqMatrix.mono _ _ _ _ _ _ _
      | exact laws_heldMatrix.mono _ _ _ _ _
      | exact laws_markMatrix.mono _ _ _ _ _
      | exact spec_MatUnit.mono _ _
      | exact LeO.none _
      | refine LeO.ite ?_ ?_
      | refine LeO.bind ?_ (fun _ => ?_)
    · intro y0 y1 y2 y3 y4
      unfold laws_FnExactMatUnit.j1
      repeat' first
      | (with_reducible exact ih0 _ _ _ _ _ _ _ _ _)
      | (with_reducible exact ih1 _ _ _ _ _)
      | (with_reducible exact laws_eqMatrix.mono _ _ _ _ _ _ _)
      | (with_reducible exact laws_heldMatrix.mono _ _ _ _ _)
      | (with_reducible exact laws_markMatrix.mono _ _ _ _ _)
      | (with_reducible exact spec_MatUnit.mono _ _)
      | (with_reducible exact LeO.refl _)
      | (with_reducible exact LeO.none _)
      | (with_reducible refine LeO.ite ?_ ?_)
      | (with_reducible refine LeO.bind ?_ (fun _ => ?_))
      | exact ih0 _ _ _ _ _ _ _ _ _
      | exact ih1 _ _ _ _ _
      | exact laws_eqMatrix.mono _ _ _ _ _ _ _
      | exact laws_heldMatrix.mono _ _ _ _ _
      | exact laws_markMatrix.mono _ _ _ _ _
      | exact spec_MatUnit.mono _ _
      | exact LeO.none _
      | refine LeO.ite ?_ ?_
      | refine LeO.bind ?_ (fun _ => ?_)
theorem laws_FnExactMatUnit.mono : ∀ a0 k, LeO (laws_FnExactMatUnit.f k a0) (laws_FnExactMatUnit.f (k + 1) a0) := by
  intro a0 k
  obtain ⟨ih0, ih1⟩ := laws_FnExactMatUnit.mono_l k
  unfold laws_FnExactMatUnit.f
  repeat' first
      | (with_reducible exact ih0 _ _ _ _ _ _ _ _ _)
      | (with_reducible exact ih1 _ _ _ _ _)
      | (with_reducible exact laws_eqMatrix.mono _ _ _ _ _ _ _)
      | (with_reducible exact laws_heldMatrix.mono _ _ _ _ _)
      | (with_reducible exact laws_markMatrix.mono _ _ _ _ _)
      | (with_reducible exact spec_MatUnit.mono _ _)
      | (with_reducible exact LeO.refl _)
      | (with_reducible exact LeO.none _)
      | (with_reducible refine LeO.ite ?_ ?_)
      | (with_reducible refine LeO.bind ?_ (fun _ => ?_))
      | exact ih0 _ _ _ _ _ _ _ _ _
      | exact ih1 _ _ _ _ _
      | exact laws_eqMatrix.mono _ _ _ _ _ _ _
      | exact laws_heldMatrix.mono _ _ _ _ _
      | exact laws_markMatrix.mono _ _ _ _ _
      | exact spec_MatUnit.mono _ _
      | exact LeO.none _
      | refine LeO.ite ?_ ?_
      | refine LeO.bind ?_ (fun _ => ?_)
set_option maxHeartbeats 8000000 in
set_option maxRecDepth 100000 in
theorem laws_FnExactMatUnit.calls (k : Nat) (a0 : Int) (r : Bool) (w : World) (h : laws_FnExactMatUnit.f k a0 = some r) :
    Calls Try.prog 6 #[.int .i64 a0] w fun e w' => e = .returned (.bool r) ∧ Below w.heap.size w w' := by
  have hu41 := Try.underlying41
  have HB := Aside0.mk (Below.refl w.heap.size w)
  have H : ((spec_MatUnit.f k a0).bind fun bt250 => ((impl_MatUnit.f a0).bind fun bt257 => ((laws_eqMatrix.f k bt257.1 bt257.2.1 bt257.2.2.1 bt250.1 bt250.2.1 bt250.2.2.1).bind fun t264 => (if t264 = true then (laws_FnExactMatUnit.j0 k a0 bt250.2.2.2 (bt257.2.2.2 != bt250.2.2.2) bt250.1 bt250.2.1 bt250.2.2.1 bt257.1 bt257.2.1 bt257.2.2.1) else (laws_FnExactMatUnit.j0 k a0 bt250.2.2.2 true bt250.1 bt250.2.1 bt250.2.2.1 bt257.1 bt257.2.1 bt257.2.2.1))))) = some r := h
  clear h
  replace H := Option.bind_eq_some_iff.mp H
  obtain ⟨⟨t250, t251, t252, t255⟩, A20, H⟩ := H
  replace H : ((impl_MatUnit.f a0).bind fun bt257 => ((laws_eqMatrix.f k bt257.1 bt257.2.1 bt257.2.2.1 t250 t251 t252).bind fun t264 => (if t264 = true then (laws_FnExactMatUnit.j0 k a0 t255 (bt257.2.2.2 != t255) t250 t251 t252 bt257.1 bt257.2.1 bt257.2.2.1) else (laws_FnExactMatUnit.j0 k a0 t255 true t250 t251 t252 bt257.1 bt257.2.1 bt257.2.2.1)))) = some r := H
  have A2 := Aside0.mk A20
  clear A20
  replace H := Option.bind_eq_some_iff.mp H
  obtain ⟨⟨t257, t258, t259, t262⟩, A30, H⟩ := H
  replace H : ((laws_eqMatrix.f k t257 t258 t259 t250 t251 t252).bind fun t264 => (if t264 = true then (laws_FnExactMatUnit.j0 k a0 t255 (t262 != t255) t250 t251 t252 t257 t258 t259) else (laws_FnExactMatUnit.j0 k a0 t255 true t250 t251 t252 t257 t258 t259))) = some r := H
  have A3 := Aside0.mk A30
  clear A30
  have HC4 := Aside0.mk H
  clear H
  go_enter Try.func6, Try.ntmps6
  go_upto_region 3 with (first | ((with_reducible refine gate_callee (f := 32) rfl ?_); refine goesL_ (some 13) rfl rfl Try.func32 (by kernel_rfl) rfl #[.int .i64 a0] rfl (by (try simp only [List.map_toArray, List.map_cons, List.map_nil]); first | done | rfl | (simp only [List.length_drop, List.length_take]; rfl)) ?_; (with_reducible refine (spec_MatUnit.calls k a0 t250 t251 t252 t255 _ A2.out).mono ?_); rintro e w5 ⟨v253, rfl, ho0, hb⟩; refine ⟨_, rfl, ?_⟩; have n0_ := Aside0.mk (Kd.R_lower ho0 (below_size (by repeat (first | (with_reducible first | exact HB.out | apply below_alloc | apply pw_below_drewN | apply below_drew1) | exact HB.out)))); have n1_ := Aside0.mk (below_step (by repeat (first | (with_reducible first | exact HB.out | apply below_alloc | apply pw_below_drewN | apply below_drew1) | exact HB.out)) hb); clear HB; have HO254 := n0_; have HB := n1_; clear n0_ n1_; (try clear hb); (try clear hb2); (try clear hk); (try clear hi); (try clear ho0)) | ((with_reducible refine gate_dst (N := 3) rfl ?_); refine box_event ?hg (N := 3) ?hd (cs := #[.int .i64 0, .int .i64 0, .slice none 0 0]) (t := 41) ?hr ?_; (case hd => rfl); (case hg => rfl); (case hr => first | (go_simp; done) | (go_simp; rfl)); intro gb256 hg w6 hbox hb; have n0_ := Aside0.mk (Kd.R_below (by (with_reducible repeat (first | apply Kd.R_alloc | apply Kd.R_drewN | apply Kd.R_drew)); exact HO254.out) hb); have n1_ := Aside0.mk (below_step (by repeat (first | (with_reducible first | exact HB.out | apply below_alloc | apply pw_below_drewN | apply below_drew1) | exact HB.out)) hb); have n2_ := Aside0.mk (hbox); have n3_ := Aside0.mk ((by rw [hg]; exact (below_size (by repeat (first | (with_reducible first | exact HB.out | apply below_alloc | apply pw_below_drewN | apply below_drew1) | exact HB.out))) : w.heap.size ≤ gb256)); have n4_ := Aside0.mk ((by rw [hg]; exact (below_size (by repeat (first | (with_reducible first | exact HB.out | apply below_alloc | apply pw_below_drewN | apply below_drew1) | exact HB.out))) : w.heap.size ≤ gb256)); clear HO254; clear HB; have HO254 := n0_; have HB := n1_; have BK256 := n2_; have GW256 := n3_; have GE256 := n4_; clear n0_ n1_ n2_ n3_ n4_; clear hb hbox hg; have hcz7_0 : w6.cell? ⟨gb256, 0, none⟩ = some (.int .i64 0) := (blk_cell BK256.out 0).trans rfl; have hcz7_1 : w6.cell? ⟨gb256, 1, none⟩ = some (.int .i64 0) := (blk_cell BK256.out 1).trans rfl; have hcz7_2 : w6.cell? ⟨gb256, 2, none⟩ = some (.slice none 0 0) := (blk_cell BK256.out 2).trans rfl; have hfz7_0 := blk_frozen BK256.out 0; have hfz7_1 := blk_frozen BK256.out 1; have hfz7_2 := blk_frozen BK256.out 2; obtain ⟨Ao8, co8, eo8⟩ := Kd.R_slice HO254.out; subst eo8) | ((with_reducible refine gate_callee (f := 33) rfl ?_); refine goesL_ (some 18) rfl rfl Try.func33 (by kernel_rfl) rfl #[.int .i64 a0] rfl (by (try simp only [List.map_toArray, List.map_cons, List.map_nil]); first | done | rfl | (simp only [List.length_drop, List.length_take]; rfl)) ?_; (with_reducible refine (impl_MatUnit.calls a0 t257 t258 t259 t262 _ A3.out).mono ?_); rintro e w9 ⟨v260, rfl, ho0, hb⟩; refine ⟨_, rfl, ?_⟩; have n0_ := Aside0.mk (Kd.R_elder' (by (with_reducible repeat (first | apply Kd.R_alloc | apply Kd.R_drewN | apply Kd.R_drew)); exact (Kd.R_mono (Kd.R_far (p := ⟨gb256, 2, none⟩) (Kd.R_far (p := ⟨gb256, 1, none⟩) (Kd.R_far (p := ⟨gb256, 0, none⟩) (Kd.R_types HO254.out BK256.out (by decide)) (fun _ hk => hk.2) (.int .i64 t250)) (fun _ hk => hk.2) (.int .i64 t251)) (fun _ hk => hk.2) (.slice Ao8 t252.length co8)) (fun _ h_ => h_.1))) (Kd.R_base ho0) hb); have n1_ := Aside0.mk (Kd.R_lower (Kd.R_new' ho0 (Kd.R_lt (by (with_reducible repeat (first | apply Kd.R_alloc | apply Kd.R_drewN | apply Kd.R_drew)); exact (Kd.R_mono (Kd.R_far (p := ⟨gb256, 2, none⟩) (Kd.R_far (p := ⟨gb256, 1, none⟩) (Kd.R_far (p := ⟨gb256, 0, none⟩) (Kd.R_types HO254.out BK256.out (by decide)) (fun _ hk => hk.2) (.int .i64 t250)) (fun _ hk => hk.2) (.int .i64 t251)) (fun _ hk => hk.2) (.slice Ao8 t252.length co8)) (fun _ h_ => h_.1))))) (below_size (by repeat (first | (with_reducible first | exact HB.out | apply below_alloc | apply pw_below_drewN | apply below_drew1 | refine below_set ?_ GE256.out) | exact HB.out)))); have n2_ := Aside0.mk (blk_below (g := gb256) (o := .cells #[.int .i64 t250, .int .i64 t251, .slice Ao8 t252.length co8] 41 (0, 0)) (by (with_reducible repeat (first | refine blk_drewN ?_ _ | refine blk_drew ?_ | refine blk_alloc ?_ _)); refine blk_put (cs := #[.int .i64 t250, .int .i64 t251, .slice none 0 0]) ?_ 2 _ rfl; (with_reducible repeat (first | refine blk_drewN ?_ _ | refine blk_drew ?_ | refine blk_alloc ?_ _)); refine blk_put (cs := #[.int .i64 t250, .int .i64 0, .slice none 0 0]) ?_ 1 _ rfl; (with_reducible repeat (first | refine blk_drewN ?_ _ | refine blk_drew ?_ | refine blk_alloc ?_ _)); refine blk_put (cs := #[.int .i64 0, .int .i64 0, .slice none 0 0]) ?_ 0 _ rfl; (with_reducible repeat (first | refine blk_drewN ?_ _ | refine blk_drew ?_ | refine blk_alloc ?_ _)); exact BK256.out) hb); have n3_ := Aside0.mk (below_step (by repeat (first | (with_reducible first | exact HB.out | apply below_alloc | apply pw_below_drewN | apply below_drew1 | refine below_set ?_ GE256.out) | exact HB.out)) hb); clear HO254; clear BK256; clear HB; have HO254 := n0_; have HO261 := n1_; have BK256 := n2_; have HB := n3_; clear n0_ n1_ n2_ n3_; (try clear hb); (try clear hb2); (try clear hk); (try clear hi); (try clear ho0)) | ((with_reducible refine gate_dst (N := 5) rfl ?_); refine box_event ?hg (N := 5) ?hd (cs := #[.int .i64 0, .int .i64 0, .slice none 0 0]) (t := 41) ?hr ?_; (case hd => rfl); (case hg => rfl); (case hr => first | (go_simp; done) | (go_simp; rfl)); intro gb263 hg w10 hbox hb; have n0_ := Aside0.mk (Kd.R_below (by (with_reducible repeat (first | apply Kd.R_alloc | apply Kd.R_drewN | apply Kd.R_drew)); exact HO254.out) hb); have n1_ := Aside0.mk (Kd.R_below (by (with_reducible repeat (first | apply Kd.R_alloc | apply Kd.R_drewN | apply Kd.R_drew)); exact HO261.out) hb); have n2_ := Aside0.mk (blk_below (g := gb256) (o := .cells #[.int .i64 t250, .int .i64 t251, .slice Ao8 t252.length co8] 41 (0, 0)) (by (with_reducible repeat (first | refine blk_drewN ?_ _ | refine blk_drew ?_ | refine blk_alloc ?_ _)); exact BK256.out) hb); have n3_ := Aside0.mk (below_step (by repeat (first | (with_reducible first | exact HB.out | apply below_alloc | apply pw_below_drewN | apply below_drew1 | refine below_set ?_ GE256.out) | exact HB.out)) hb); have n4_ := Aside0.mk (hbox); have n5_ := Aside0.mk ((by rw [hg]; exact (below_size (by repeat (first | (with_reducible first | exact HB.out | apply below_alloc | apply pw_below_drewN | apply below_drew1 | refine below_set ?_ GE256.out) | exact HB.out))) : w.heap.size ≤ gb263)); have n6_ := Aside0.mk ((by rw [hg]; exact (below_size (by repeat (first | (with_reducible first | exact HB.out | apply below_alloc | apply pw_below_drewN | apply below_drew1 | refine below_set ?_ GE256.out) | exact HB.out))) : w.heap.size ≤ gb263)); have n7_ := Aside0.mk ((by rw [hg]; exact Nat.ne_of_lt (blk_lt (g := gb256) (o := .cells #[.int .i64 t250, .int .i64 t251, .slice Ao8 t252.length co8] 41 (0, 0)) (by (with_reducible repeat (first | refine blk_drewN ?_ _ | refine blk_drew ?_ | refine blk_alloc ?_ _)); exact BK256.out)) : gb256 ≠ gb263)); have n8_ := Aside0.mk ((by rw [hg]; exact Nat.ne_of_gt (blk_lt (g := gb256) (o := .cells #[.int .i64 t250, .int .i64 t251, .slice Ao8 t252.length co8] 41 (0, 0)) (by (with_reducible repeat (first | refine blk_drewN ?_ _ | refine blk_drew ?_ | refine blk_alloc ?_ _)); exact BK256.out)) : gb263 ≠ gb256)); clear HO254; clear HO261; clear BK256; clear HB; have HO254 := n0_; have HO261 := n1_; have BK256 := n2_; have HB := n3_; have BK263 := n4_; have GW263 := n5_; have GE263 := n6_; have NB256_263 := n7_; have NB263_256 := n8_; clear n0_ n1_ n2_ n3_ n4_ n5_ n6_ n7_ n8_; clear hb hbox hg; have hnb11 := NB263_256.out; have hnc11 := NB256_263.out; have hcz12_0 : w10.cell? ⟨gb263, 0, none⟩ = some (.int .i64 0) := (blk_cell BK263.out 0).trans rfl; have hcz12_1 : w10.cell? ⟨gb263, 1, none⟩ = some (.int .i64 0) := (blk_cell BK263.out 1).trans rfl; have hcz12_2 : w10.cell? ⟨gb263, 2, none⟩ = some (.slice none 0 0) := (blk_cell BK263.out 2).trans rfl; have hfz12_0 := blk_frozen BK263.out 0; have hfz12_1 := blk_frozen BK263.out 1; have hfz12_2 := blk_frozen BK263.out 2; obtain ⟨Ao13, co13, eo13⟩ := Kd.R_slice HO261.out; subst eo13))
  (try simp only [Act.put, List.setIfInBounds_toArray, List.set_cons_zero, List.set_cons_succ])
  go_cut [29] (fun v29 wc => ∃ (kq : Nat) (x29_3 : Bool), v29 = .bool x29_3 ∧ Aside0 (laws_FnExactMatUnit.j0 kq a0 t255 x29_3 t250 t251 t252 t257 t258 t259 = some r) ∧ Aside0 (kq ≤ k) ∧ Aside0 (Kd.R (Kd.int .i64) 2 wc w.heap.size (fun k_ => some k_ ≠ ((.slice Ao13 t259.length co13) : Value).ownBlock) (.slice Ao8 t252.length co8) t252) ∧ Aside0 (Kd.R (Kd.int .i64) 2 wc w.heap.size (fun k_ => some k_ ≠ ((.slice Ao8 t252.length co8) : Value).ownBlock) (.slice Ao13 t259.length co13) t259) ∧ Aside0 (wc.heap[gb256]? = some (.cells #[.int .i64 t250, .int .i64 t251, (.slice Ao8 t252.length co8)] 41 (0, 0))) ∧ Aside0 (wc.heap[gb263]? = some (.cells #[.int .i64 t257, .int .i64 t258, (.slice Ao13 t259.length co13)] 41 (0, 0))) ∧ Aside0 (Below w.heap.size w wc))
  case first =>
    have H := HC4.out
    clear HC4
    replace H := Option.bind_eq_some_iff.mp H
    obtain ⟨t264, A140, H⟩ := H
    replace H : (if t264 = true then (laws_FnExactMatUnit.j0 k a0 t255 (t262 != t255) t250 t251 t252 t257 t258 t259) else (laws_FnExactMatUnit.j0 k a0 t255 true t250 t251 t252 t257 t258 t259)) = some r := H
    have A14 := Aside0.mk A140
    clear A140
    by_cases c15 : t264 = true
    · subst c15
      have H1 : (laws_FnExactMatUnit.j0 k a0 t255 (t262 != t255) t250 t251 t252 t257 t258 t259) = some r := by rw [if_pos rfl] at H; exact H
      clear H
      have H := H1
      clear H1
      have H' := Aside0.mk H
      clear H
      have hnb16 := NB263_256.out
      have hnc16 := NB256_263.out
      have hcz17_0 : w10.cell? ⟨gb263, 0, none⟩ = some (.int .i64 0) := (blk_cell BK263.out 0).trans rfl
      have hcz17_1 : w10.cell? ⟨gb263, 1, none⟩ = some (.int .i64 0) := (blk_cell BK263.out 1).trans rfl
      have hcz17_2 : w10.cell? ⟨gb263, 2, none⟩ = some (.slice none 0 0) := (blk_cell BK263.out 2).trans rfl
      have hfz17_0 := blk_frozen BK263.out 0
      have hfz17_1 := blk_frozen BK263.out 1
      have hfz17_2 := blk_frozen BK263.out 2
      have hcz18_0 : w10.cell? ⟨gb256, 0, none⟩ = some (.int .i64 t250) := (blk_cell BK256.out 0).trans rfl
      have hcz18_1 : w10.cell? ⟨gb256, 1, none⟩ = some (.int .i64 t251) := (blk_cell BK256.out 1).trans rfl
      have hcz18_2 : w10.cell? ⟨gb256, 2, none⟩ = some (.slice Ao8 t252.length co8) := (blk_cell BK256.out 2).trans rfl
      have hfz18_0 := blk_frozen BK256.out 0
      have hfz18_1 := blk_frozen BK256.out 1
      have hfz18_2 := blk_frozen BK256.out 2
      go_wp2_with (first | ((with_reducible refine gate_callee (f := 31) rfl ?_); refine goesL_ (some 23) rfl rfl Try.func31 (by kernel_rfl) rfl #[.agg #[.int .i64 t257, .int .i64 t258, .slice Ao13 t259.length co13], .agg #[.int .i64 t250, .int .i64 t251, .slice Ao8 t252.length co8]] rfl (by (try simp only [List.map_toArray, List.map_cons, List.map_nil]); first | done | rfl | (simp only [List.length_drop, List.length_take]; rfl)) ?_; (with_reducible refine (laws_eqMatrix.calls k t257 t258 _ _ t259 t250 t251 _ _ t252 true _ ?side1 ?side2 ?side3 ?side4 A14.out).mono ?_); (case side1 => refine (Kd.R_reads' (e := 2) (base := w.heap.size) (ok := fun k_ => (True ∧ some k_ ≠ (.slice Ao8 t252.length co8 : Value).ownBlock)) (n := t259.length) (c := co13) ?_).2.2; exact (by (with_reducible repeat (first | apply Kd.R_alloc | apply Kd.R_drewN | apply Kd.R_drew)); exact (Kd.R_mono (Kd.R_far (p := ⟨gb263, 2, none⟩) (Kd.R_far (p := ⟨gb263, 1, none⟩) (Kd.R_far (p := ⟨gb263, 0, none⟩) (Kd.R_types HO261.out BK263.out (by decide)) (fun _ hk => hk.2) (.int .i64 t257)) (fun _ hk => hk.2) (.int .i64 t258)) (fun _ hk => hk.2) (.slice Ao13 t259.length co13)) (fun _ h_ => h_.1)))); (case side2 => exact (Kd.R_reads' HO261.out).2.1); (case side3 => refine (Kd.R_reads' (e := 2) (base := w.heap.size) (ok := fun k_ => (True ∧ some k_ ≠ (.slice Ao13 t259.length co13 : Value).ownBlock)) (n := t252.length) (c := co8) ?_).2.2; exact (by (with_reducible repeat (first | apply Kd.R_alloc | apply Kd.R_drewN | apply Kd.R_drew)); exact (Kd.R_mono (Kd.R_far (p := ⟨gb263, 2, none⟩) (Kd.R_far (p := ⟨gb263, 1, none⟩) (Kd.R_far (p := ⟨gb263, 0, none⟩) (Kd.R_types HO254.out BK263.out (by decide)) (fun _ hk => hk.2) (.int .i64 t257)) (fun _ hk => hk.2) (.int .i64 t258)) (fun _ hk => hk.2) (.slice Ao13 t259.length co13)) (fun _ h_ => h_.1)))); (case side4 => exact (Kd.R_reads' HO254.out).2.1); rintro e w19 ⟨rfl, hb⟩; refine ⟨_, rfl, ?_⟩; have n0_ := Aside0.mk (Kd.R_below (by (with_reducible repeat (first | apply Kd.R_alloc | apply Kd.R_drewN | apply Kd.R_drew)); exact (Kd.R_mono (Kd.R_far (p := ⟨gb263, 2, none⟩) (Kd.R_far (p := ⟨gb263, 1, none⟩) (Kd.R_far (p := ⟨gb263, 0, none⟩) (Kd.R_types HO254.out BK263.out (by decide)) (fun _ hk => hk.2) (.int .i64 t257)) (fun _ hk => hk.2) (.int .i64 t258)) (fun _ hk => hk.2) (.slice Ao13 t259.length co13)) (fun _ h_ => h_.1))) hb); have n1_ := Aside0.mk (Kd.R_below (by (with_reducible repeat (first | apply Kd.R_alloc | apply Kd.R_drewN | apply Kd.R_drew)); exact (Kd.R_mono (Kd.R_far (p := ⟨gb263, 2, none⟩) (Kd.R_far (p := ⟨gb263, 1, none⟩) (Kd.R_far (p := ⟨gb263, 0, none⟩) (Kd.R_types HO261.out BK263.out (by decide)) (fun _ hk => hk.2) (.int .i64 t257)) (fun _ hk => hk.2) (.int .i64 t258)) (fun _ hk => hk.2) (.slice Ao13 t259.length co13)) (fun _ h_ => h_.1))) hb); have n2_ := Aside0.mk (blk_below (g := gb256) (o := .cells #[.int .i64 t250, .int .i64 t251, .slice Ao8 t252.length co8] 41 (0, 0)) (by (with_reducible repeat (first | refine blk_drewN ?_ _ | refine blk_drew ?_ | refine blk_alloc ?_ _)); refine blk_far ?_ NB256_263.out _; (with_reducible repeat (first | refine blk_drewN ?_ _ | refine blk_drew ?_ | refine blk_alloc ?_ _)); refine blk_far ?_ NB256_263.out _; (with_reducible repeat (first | refine blk_drewN ?_ _ | refine blk_drew ?_ | refine blk_alloc ?_ _)); refine blk_far ?_ NB256_263.out _; (with_reducible repeat (first | refine blk_drewN ?_ _ | refine blk_drew ?_ | refine blk_alloc ?_ _)); exact BK256.out) hb); have n3_ := Aside0.mk (blk_below (g := gb263) (o := .cells #[.int .i64 t257, .int .i64 t258, .slice Ao13 t259.length co13] 41 (0, 0)) (by (with_reducible repeat (first | refine blk_drewN ?_ _ | refine blk_drew ?_ | refine blk_alloc ?_ _)); refine blk_put (cs := #[.int .i64 t257, .int .i64 t258, .slice none 0 0]) ?_ 2 _ rfl; (with_reducible repeat (first | refine blk_drewN ?_ _ | refine blk_drew ?_ | refine blk_alloc ?_ _)); refine blk_put (cs := #[.int .i64 t257, .int .i64 0, .slice none 0 0]) ?_ 1 _ rfl; (with_reducible repeat (first | refine blk_drewN ?_ _ | refine blk_drew ?_ | refine blk_alloc ?_ _)); refine blk_put (cs := #[.int .i64 0, .int .i64 0, .slice none 0 0]) ?_ 0 _ rfl; (with_reducible repeat (first | refine blk_drewN ?_ _ | refine blk_drew ?_ | refine blk_alloc ?_ _)); exact BK263.out) hb); have n4_ := Aside0.mk (below_step (by repeat (first | (with_reducible first | exact HB.out | apply below_alloc | apply pw_below_drewN | apply below_drew1 | refine below_set ?_ GE256.out | refine below_set ?_ GE263.out) | exact HB.out)) hb); clear HO254; clear HO261; clear BK256; clear BK263; clear HB; have HO254 := n0_; have HO261 := n1_; have BK256 := n2_; have BK263 := n3_; have HB := n4_; clear n0_ n1_ n2_ n3_ n4_; (try clear hb); (try clear hb2); (try clear hk); (try clear hi)))
      go_meet
      case rel => exact ⟨_, ((t262 != t255)), (by first | rfl | (simp; done) | (simp [*]; done)), H', ⟨by first | omega | exact Nat.le_refl _⟩, ⟨by (with_reducible repeat (first | apply Kd.R_alloc | apply Kd.R_drewN | apply Kd.R_drew)); exact Kd.R_mono HO254.out (fun _ hk => hk.2)⟩, ⟨by (with_reducible repeat (first | apply Kd.R_alloc | apply Kd.R_drewN | apply Kd.R_drew)); exact Kd.R_mono HO261.out (fun _ hk => hk.2)⟩, ⟨by (with_reducible repeat (first | refine blk_drewN ?_ _ | refine blk_drew ?_ | refine blk_alloc ?_ _)); exact BK256.out⟩, ⟨by (with_reducible repeat (first | refine blk_drewN ?_ _ | refine blk_drew ?_ | refine blk_alloc ?_ _)); exact BK263.out⟩, ⟨by repeat (first | (with_reducible first | exact HB.out | apply below_alloc | apply pw_below_drewN | apply below_drew1 | refine below_set ?_ GE256.out | refine below_set ?_ GE263.out) | exact HB.out)⟩⟩
    · replace c15 := Bool.eq_false_iff.mpr c15
      subst c15
      have H1 : (laws_FnExactMatUnit.j0 k a0 t255 true t250 t251 t252 t257 t258 t259) = some r := by rw [if_neg (show ¬ (false = true) by decide)] at H; exact H
      clear H
      have H := H1
      clear H1
      have H' := Aside0.mk H
      clear H
      have hnb20 := NB263_256.out
      have hnc20 := NB256_263.out
      have hcz21_0 : w10.cell? ⟨gb263, 0, none⟩ = some (.int .i64 0) := (blk_cell BK263.out 0).trans rfl
      have hcz21_1 : w10.cell? ⟨gb263, 1, none⟩ = some (.int .i64 0) := (blk_cell BK263.out 1).trans rfl
      have hcz21_2 : w10.cell? ⟨gb263, 2, none⟩ = some (.slice none 0 0) := (blk_cell BK263.out 2).trans rfl
      have hfz21_0 := blk_frozen BK263.out 0
      have hfz21_1 := blk_frozen BK263.out 1
      have hfz21_2 := blk_frozen BK263.out 2
      have hcz22_0 : w10.cell? ⟨gb256, 0, none⟩ = some (.int .i64 t250) := (blk_cell BK256.out 0).trans rfl
      have hcz22_1 : w10.cell? ⟨gb256, 1, none⟩ = some (.int .i64 t251) := (blk_cell BK256.out 1).trans rfl
      have hcz22_2 : w10.cell? ⟨gb256, 2, none⟩ = some (.slice Ao8 t252.length co8) := (blk_cell BK256.out 2).trans rfl
      have hfz22_0 := blk_frozen BK256.out 0
      have hfz22_1 := blk_frozen BK256.out 1
      have hfz22_2 := blk_frozen BK256.out 2
      go_wp2_with (first | ((with_reducible refine gate_callee (f := 31) rfl ?_); refine goesL_ (some 23) rfl rfl Try.func31 (by kernel_rfl) rfl #[.agg #[.int .i64 t257, .int .i64 t258, .slice Ao13 t259.length co13], .agg #[.int .i64 t250, .int .i64 t251, .slice Ao8 t252.length co8]] rfl (by (try simp only [List.map_toArray, List.map_cons, List.map_nil]); first | done | rfl | (simp only [List.length_drop, List.length_take]; rfl)) ?_; (with_reducible refine (laws_eqMatrix.calls k t257 t258 _ _ t259 t250 t251 _ _ t252 false _ ?side1 ?side2 ?side3 ?side4 A14.out).mono ?_); (case side1 => refine (Kd.R_reads' (e := 2) (base := w.heap.size) (ok := fun k_ => (True ∧ some k_ ≠ (.slice Ao8 t252.length co8 : Value).ownBlock)) (n := t259.length) (c := co13) ?_).2.2; exact (by (with_reducible repeat (first | apply Kd.R_alloc | apply Kd.R_drewN | apply Kd.R_drew)); exact (Kd.R_mono (Kd.R_far (p := ⟨gb263, 2, none⟩) (Kd.R_far (p := ⟨gb263, 1, none⟩) (Kd.R_far (p := ⟨gb263, 0, none⟩) (Kd.R_types HO261.out BK263.out (by decide)) (fun _ hk => hk.2) (.int .i64 t257)) (fun _ hk => hk.2) (.int .i64 t258)) (fun _ hk => hk.2) (.slice Ao13 t259.length co13)) (fun _ h_ => h_.1)))); (case side2 => exact (Kd.R_reads' HO261.out).2.1); (case side3 => refine (Kd.R_reads' (e := 2) (base := w.heap.size) (ok := fun k_ => (True ∧ some k_ ≠ (.slice Ao13 t259.length co13 : Value).ownBlock)) (n := t252.length) (c := co8) ?_).2.2; exact (by (with_reducible repeat (first | apply Kd.R_alloc | apply Kd.R_drewN | apply Kd.R_drew)); exact (Kd.R_mono (Kd.R_far (p := ⟨gb263, 2, none⟩) (Kd.R_far (p := ⟨gb263, 1, none⟩) (Kd.R_far (p := ⟨gb263, 0, none⟩) (Kd.R_types HO254.out BK263.out (by decide)) (fun _ hk => hk.2) (.int .i64 t257)) (fun _ hk => hk.2) (.int .i64 t258)) (fun _ hk => hk.2) (.slice Ao13 t259.length co13)) (fun _ h_ => h_.1)))); (case side4 => exact (Kd.R_reads' HO254.out).2.1); rintro e w23 ⟨rfl, hb⟩; refine ⟨_, rfl, ?_⟩; have n0_ := Aside0.mk (Kd.R_below (by (with_reducible repeat (first | apply Kd.R_alloc | apply Kd.R_drewN | apply Kd.R_drew)); exact (Kd.R_mono (Kd.R_far (p := ⟨gb263, 2, none⟩) (Kd.R_far (p := ⟨gb263, 1, none⟩) (Kd.R_far (p := ⟨gb263, 0, none⟩) (Kd.R_types HO254.out BK263.out (by decide)) (fun _ hk => hk.2) (.int .i64 t257)) (fun _ hk => hk.2) (.int .i64 t258)) (fun _ hk => hk.2) (.slice Ao13 t259.length co13)) (fun _ h_ => h_.1))) hb); have n1_ := Aside0.mk (Kd.R_below (by (with_reducible repeat (first | apply Kd.R_alloc | apply Kd.R_drewN | apply Kd.R_drew)); exact (Kd.R_mono (Kd.R_far (p := ⟨gb263, 2, none⟩) (Kd.R_far (p := ⟨gb263, 1, none⟩) (Kd.R_far (p := ⟨gb263, 0, none⟩) (Kd.R_types HO261.out BK263.out (by decide)) (fun _ hk => hk.2) (.int .i64 t257)) (fun _ hk => hk.2) (.int .i64 t258)) (fun _ hk => hk.2) (.slice Ao13 t259.length co13)) (fun _ h_ => h_.1))) hb); have n2_ := Aside0.mk (blk_below (g := gb256) (o := .cells #[.int .i64 t250, .int .i64 t251, .slice Ao8 t252.length co8] 41 (0, 0)) (by (with_reducible repeat (first | refine blk_drewN ?_ _ | refine blk_drew ?_ | refine blk_alloc ?_ _)); refine blk_far ?_ NB256_263.out _; (with_reducible repeat (first | refine blk_drewN ?_ _ | refine blk_drew ?_ | refine blk_alloc ?_ _)); refine blk_far ?_ NB256_263.out _; (with_reducible repeat (first | refine blk_drewN ?_ _ | refine blk_drew ?_ | refine blk_alloc ?_ _)); refine blk_far ?_ NB256_263.out _; (with_reducible repeat (first | refine blk_drewN ?_ _ | refine blk_drew ?_ | refine blk_alloc ?_ _)); exact BK256.out) hb); have n3_ := Aside0.mk (blk_below (g := gb263) (o := .cells #[.int .i64 t257, .int .i64 t258, .slice Ao13 t259.length co13] 41 (0, 0)) (by (with_reducible repeat (first | refine blk_drewN ?_ _ | refine blk_drew ?_ | refine blk_alloc ?_ _)); refine blk_put (cs := #[.int .i64 t257, .int .i64 t258, .slice none 0 0]) ?_ 2 _ rfl; (with_reducible repeat (first | refine blk_drewN ?_ _ | refine blk_drew ?_ | refine blk_alloc ?_ _)); refine blk_put (cs := #[.int .i64 t257, .int .i64 0, .slice none 0 0]) ?_ 1 _ rfl; (with_reducible repeat (first | refine blk_drewN ?_ _ | refine blk_drew ?_ | refine blk_alloc ?_ _)); refine blk_put (cs := #[.int .i64 0, .int .i64 0, .slice none 0 0]) ?_ 0 _ rfl; (with_reducible repeat (first | refine blk_drewN ?_ _ | refine blk_drew ?_ | refine blk_alloc ?_ _)); exact BK263.out) hb); have n4_ := Aside0.mk (below_step (by repeat (first | (with_reducible first | exact HB.out | apply below_alloc | apply pw_below_drewN | apply below_drew1 | refine below_set ?_ GE256.out | refine below_set ?_ GE263.out) | exact HB.out)) hb); clear HO254; clear HO261; clear BK256; clear BK263; clear HB; have HO254 := n0_; have HO261 := n1_; have BK256 := n2_; have BK263 := n3_; have HB := n4_; clear n0_ n1_ n2_ n3_ n4_; (try clear hb); (try clear hb2); (try clear hk); (try clear hi)))
      go_meet
      case rel => exact ⟨_, (true), (by first | rfl | (simp; done) | (simp [*]; done)), H', ⟨by first | omega | exact Nat.le_refl _⟩, ⟨by (with_reducible repeat (first | apply Kd.R_alloc | apply Kd.R_drewN | apply Kd.R_drew)); exact Kd.R_mono HO254.out (fun _ hk => hk.2)⟩, ⟨by (with_reducible repeat (first | apply Kd.R_alloc | apply Kd.R_drewN | apply Kd.R_drew)); exact Kd.R_mono HO261.out (fun _ hk => hk.2)⟩, ⟨by (with_reducible repeat (first | refine blk_drewN ?_ _ | refine blk_drew ?_ | refine blk_alloc ?_ _)); exact BK256.out⟩, ⟨by (with_reducible repeat (first | refine blk_drewN ?_ _ | refine blk_drew ?_ | refine blk_alloc ?_ _)); exact BK263.out⟩, ⟨by repeat (first | (with_reducible first | exact HB.out | apply below_alloc | apply pw_below_drewN | apply below_drew1 | refine below_set ?_ GE256.out | refine below_set ?_ GE263.out) | exact HB.out)⟩⟩
  case rest =>
    clear HC4
    try clear c1
    try clear c2
    try clear p2
    try clear c3
    try clear c6
    try clear c11
    try clear c15
    try clear c16
    try clear c20
    try clear hcz12_0
    try clear hcz12_1
    try clear hcz12_2
    try clear hcz17_0
    try clear hcz17_1
    try clear hcz17_2
    try clear hcz18_0
    try clear hcz18_1
    try clear hcz18_2
    try clear hcz21_0
    try clear hcz21_1
    try clear hcz21_2
    try clear hcz22_0
    try clear hcz22_1
    try clear hcz22_2
    try clear hcz7_0
    try clear hcz7_1
    try clear hcz7_2
    try clear hfz12_0
    try clear hfz12_1
    try clear hfz12_2
    try clear hfz17_0
    try clear hfz17_1
    try clear hfz17_2
    try clear hfz18_0
    try clear hfz18_1
    try clear hfz18_2
    try clear hfz21_0
    try clear hfz21_1
    try clear hfz21_2
    try clear hfz22_0
    try clear hfz22_1
    try clear hfz22_2
    try clear hfz7_0
    try clear hfz7_1
    try clear hfz7_2
    obtain ⟨kq, x29_3, rfl, HA, HJ3, HO_257002, HO_264002, BK256, BK263, HB⟩ := hcut
    cases kq with
    | zero => exact absurd HA.out (by simp [laws_FnExactMatUnit.j0])
    | succ kj3 =>
      have H := HA.out
      clear HA
      simp only [laws_FnExactMatUnit.j0] at H
      by_cases c24 : x29_3 = true
      · subst c24
        have H1 : (some false) = some r := by rw [if_pos rfl] at H; exact H
        clear H
        have H := H1
        clear H1
        obtain rfl := Option.some.inj H
        go_wp2
        go_ret
        exact ⟨by first | rfl | (simp [errW_none, errW_some] <;> rfl) | (simp [*, errW_none, errW_some] <;> rfl), by repeat (first | (with_reducible first | exact HB.out | apply below_alloc | apply pw_below_drewN | apply below_drew1 | refine below_set ?_ GE256.out | refine below_set ?_ GE263.out) | exact HB.out)⟩
      · replace c24 := Bool.eq_false_iff.mpr c24
        subst c24
        have H1 : ((laws_markMatrix.f kj3 t257 t258 t259 1).bind fun bt265 => ((laws_heldMatrix.f kj3 t257 t258 bt265.2 1).bind fun t267 => (if t267 < 0 then (some false) else (if t267 = bt265.1 then ((impl_MatUnit.f a0).bind fun bt268 => ((laws_eqMatrix.f kj3 bt268.1 bt268.2.1 bt268.2.2.1 t250 t251 t252).bind fun t275 => (if t275 = true then (laws_FnExactMatUnit.j1 kj3 bt265.1 (bt268.2.2.2 != t255) t257 t258 bt265.2) else (laws_FnExactMatUnit.j1 kj3 bt265.1 true t257 t258 bt265.2)))) else (some false))))) = some r := by rw [if_neg (show ¬ (false = true) by decide)] at H; exact H
        clear H
        have H := H1
        clear H1
        replace H := Option.bind_eq_some_iff.mp H
        obtain ⟨⟨t265, t266⟩, A250, H⟩ := H
        replace H : ((laws_heldMatrix.f kj3 t257 t258 t266 1).bind fun t267 => (if t267 < 0 then (some false) else (if t267 = t265 then ((impl_MatUnit.f a0).bind fun bt268 => ((laws_eqMatrix.f kj3 bt268.1 bt268.2.1 bt268.2.2.1 t250 t251 t252).bind fun t275 => (if t275 = true then (laws_FnExactMatUnit.j1 kj3 t265 (bt268.2.2.2 != t255) t257 t258 t266) else (laws_FnExactMatUnit.j1 kj3 t265 true t257 t258 t266)))) else (some false)))) = some r := H
        have A25 := Aside0.mk A250
        clear A250
        replace H := Option.bind_eq_some_iff.mp H
        obtain ⟨t267, A260, H⟩ := H
        replace H : (if t267 < 0 then (some false) else (if t267 = t265 then ((impl_MatUnit.f a0).bind fun bt268 => ((laws_eqMatrix.f kj3 bt268.1 bt268.2.1 bt268.2.2.1 t250 t251 t252).bind fun t275 => (if t275 = true then (laws_FnExactMatUnit.j1 kj3 t265 (bt268.2.2.2 != t255) t257 t258 t266) else (laws_FnExactMatUnit.j1 kj3 t265 true t257 t258 t266)))) else (some false))) = some r := H
        have A26 := Aside0.mk A260
        clear A260
        by_cases c27 : t267 < 0
        · rw [if_pos c27] at H
          have c27b0 : decide (t267 < 0) = true := decide_eq_true c27
          clear c27
          obtain rfl := Option.some.inj H
          have hnb28 := NB263_256.out
          have hnc28 := NB256_263.out
          have hcz29_0 : wc.cell? ⟨gb263, 0, none⟩ = some (.int .i64 t257) := (blk_cell BK263.out 0).trans rfl
          have hcz29_1 : wc.cell? ⟨gb263, 1, none⟩ = some (.int .i64 t258) := (blk_cell BK263.out 1).trans rfl
          have hcz29_2 : wc.cell? ⟨gb263, 2, none⟩ = some (.slice Ao13 t259.length co13) := (blk_cell BK263.out 2).trans rfl
          have hfz29_0 := blk_frozen BK263.out 0
          have hfz29_1 := blk_frozen BK263.out 1
          have hfz29_2 := blk_frozen BK263.out 2
          go_wp2_with (first | ((with_reducible refine gate_callee (f := 34) rfl ?_); refine goesL_ (some 32) rfl rfl Try.func34 (by kernel_rfl) rfl #[.agg #[.int .i64 t257, .int .i64 t258, .slice Ao13 t259.length co13], .int .i64 1] rfl (by (try simp only [List.map_toArray, List.map_cons, List.map_nil]); first | done | rfl | (simp only [List.length_drop, List.length_take]; rfl)) ?_; (with_reducible refine (laws_markMatrix.calls kj3 t257 t258 (fun k_ => some k_ = (.slice Ao13 t259.length co13 : Value).ownBlock) (.slice Ao13 t259.length co13) t259 1 t265 t266 w _ ?side1 ?side2 A25.out).mono ?_); (case side1 => repeat (first | (with_reducible first | exact HB.out | apply below_alloc | apply pw_below_drewN | apply below_drew1 | refine below_set ?_ GE256.out | refine below_set ?_ GE263.out) | exact HB.out)); (case side2 => exact Kd.R_tight rfl HO_264002.out); rintro e w30 ⟨rfl, hy0, hb, hkp⟩; refine ⟨_, rfl, ?_⟩; have n0_ := Aside0.mk (Kd.R_mono (ok' := fun k_ => some k_ ≠ (.slice Ao13 t259.length co13 : Value).ownBlock) (Kd.R_keptB (HO_257002.out) hkp (fun k_ hk_ hs_ => (hk_) hs_)) (fun k_ hk_ => hk_.1)); have n1_ := Aside0.mk (Kd.R_reok rfl hy0 (fun k_ e_ => HO_264002.out.1 k_ e_)); have n2_ := Aside0.mk (blk_kept (by (with_reducible repeat (first | refine blk_drewN ?_ _ | refine blk_drew ?_ | refine blk_alloc ?_ _)); exact BK256.out) hkp (fun hs_ => (fun e_ => (Kd.R_ne HO_264002.out BK256.out (by decide)) e_) hs_)); have n3_ := Aside0.mk (blk_kept (by (with_reducible repeat (first | refine blk_drewN ?_ _ | refine blk_drew ?_ | refine blk_alloc ?_ _)); exact BK263.out) hkp (fun hs_ => (fun e_ => (Kd.R_ne HO_264002.out BK263.out (by decide)) e_) hs_)); have n4_ := Aside0.mk (hb); clear HO_257002; clear HO_264002; clear BK256; clear BK263; clear HB; have HO_257002 := n0_; have HO_264002 := n1_; have BK256 := n2_; have BK263 := n3_; have HB := n4_; clear n0_ n1_ n2_ n3_ n4_; (try clear hb); (try clear hkp); (try clear hy0); have hcz31_0 : w30.cell? ⟨gb263, 0, none⟩ = some (.int .i64 t257) := (blk_cell BK263.out 0).trans rfl; have hcz31_1 : w30.cell? ⟨gb263, 1, none⟩ = some (.int .i64 t258) := (blk_cell BK263.out 1).trans rfl; have hcz31_2 : w30.cell? ⟨gb263, 2, none⟩ = some (.slice Ao13 t259.length co13) := (blk_cell BK263.out 2).trans rfl; have hfz31_0 := blk_frozen BK263.out 0; have hfz31_1 := blk_frozen BK263.out 1; have hfz31_2 := blk_frozen BK263.out 2) | ((with_reducible refine gate_callee (f := 35) rfl ?_); refine goesL_ (some 35) rfl rfl Try.func35 (by kernel_rfl) rfl #[.agg #[.int .i64 t257, .int .i64 t258, .slice Ao13 t266.length co13], .int .i64 1] rfl (by (try simp only [List.map_toArray, List.map_cons, List.map_nil]); first | done | (rw [show t266.length = t259.length from (Kd.R_reads' HO_264002.out).1.symm] <;> rfl) | rfl | (simp only [List.length_drop, List.length_take]; rfl)) ?_; (with_reducible refine (laws_heldMatrix.calls kj3 t257 t258 _ _ t266 1 t267 _ ?side1 ?side2 A26.out).mono ?_); (case side1 => repeat (first | exact (Kd.R_reads' HO_264002.out).2.2 | (with_reducible refine Kd.C_alloc ?_ _) | (with_reducible refine Kd.C_drewN ?_ _) | (with_reducible refine Kd.C_drew ?_))); (case side2 => rw [show t266.length = t259.length from (Kd.R_reads' HO_264002.out).1.symm]; exact (Kd.R_reads' HO_264002.out).2.1); rintro e w32 ⟨rfl, hb⟩; refine ⟨_, rfl, ?_⟩; have n0_ := Aside0.mk (Kd.R_below (by (with_reducible repeat (first | apply Kd.R_alloc | apply Kd.R_drewN | apply Kd.R_drew)); exact HO_257002.out) hb); have n1_ := Aside0.mk (Kd.R_below (by (with_reducible repeat (first | apply Kd.R_alloc | apply Kd.R_drewN | apply Kd.R_drew)); exact HO_264002.out) hb); have n2_ := Aside0.mk (blk_below (g := gb256) (o := .cells #[.int .i64 t250, .int .i64 t251, .slice Ao8 t252.length co8] 41 (0, 0)) (by (with_reducible repeat (first | refine blk_drewN ?_ _ | refine blk_drew ?_ | refine blk_alloc ?_ _)); exact BK256.out) hb); have n3_ := Aside0.mk (blk_below (g := gb263) (o := .cells #[.int .i64 t257, .int .i64 t258, .slice Ao13 t259.length co13] 41 (0, 0)) (by (with_reducible repeat (first | refine blk_drewN ?_ _ | refine blk_drew ?_ | refine blk_alloc ?_ _)); exact BK263.out) hb); have n4_ := Aside0.mk (below_step (by repeat (first | (with_reducible first | exact HB.out | apply below_alloc | apply pw_below_drewN | apply below_drew1 | refine below_set ?_ GE256.out | refine below_set ?_ GE263.out) | exact HB.out)) hb); clear HO_257002; clear HO_264002; clear BK256; clear BK263; clear HB; have HO_257002 := n0_; have HO_264002 := n1_; have BK256 := n2_; have BK263 := n3_; have HB := n4_; clear n0_ n1_ n2_ n3_ n4_; (try clear hb); (try clear hb2); (try clear hk); (try clear hi)))
          go_ret
          exact ⟨by first | rfl | (simp [errW_none, errW_some] <;> rfl) | (simp [*, errW_none, errW_some] <;> rfl), by repeat (first | (with_reducible first | exact HB.out | apply below_alloc | apply pw_below_drewN | apply below_drew1 | refine below_set ?_ GE256.out | refine below_set ?_ GE263.out) | exact HB.out)⟩
        · rw [if_neg c27] at H
          have c27b0 : decide (t267 < 0) = false := decide_eq_false c27
          clear c27
          by_cases c33 : t267 = t265
          · rw [if_pos c33] at H
            have c33b0 : (t267 == t265) = true := beq_iff_eq.mpr c33
            have c33b1 : (t267 != t265) = false := bne_eq_false_iff_eq.mpr c33
            clear c33
            replace H := Option.bind_eq_some_iff.mp H
            obtain ⟨⟨t268, t269, t270, t273⟩, A340, H⟩ := H
            replace H : ((laws_eqMatrix.f kj3 t268 t269 t270 t250 t251 t252).bind fun t275 => (if t275 = true then (laws_FnExactMatUnit.j1 kj3 t265 (t273 != t255) t257 t258 t266) else (laws_FnExactMatUnit.j1 kj3 t265 true t257 t258 t266))) = some r := H
            have A34 := Aside0.mk A340
            clear A340
            have HC35 := Aside0.mk H
            clear H
            have hnb36 := NB263_256.out
            have hnc36 := NB256_263.out
            have hcz37_0 : wc.cell? ⟨gb263, 0, none⟩ = some (.int .i64 t257) := (blk_cell BK263.out 0).trans rfl
            have hcz37_1 : wc.cell? ⟨gb263, 1, none⟩ = some (.int .i64 t258) := (blk_cell BK263.out 1).trans rfl
            have hcz37_2 : wc.cell? ⟨gb263, 2, none⟩ = some (.slice Ao13 t259.length co13) := (blk_cell BK263.out 2).trans rfl
            have hfz37_0 := blk_frozen BK263.out 0
            have hfz37_1 := blk_frozen BK263.out 1
            have hfz37_2 := blk_frozen BK263.out 2
            go_upto_region 14 with (first | ((with_reducible refine gate_callee (f := 34) rfl ?_); refine goesL_ (some 32) rfl rfl Try.func34 (by kernel_rfl) rfl #[.agg #[.int .i64 t257, .int .i64 t258, .slice Ao13 t259.length co13], .int .i64 1] rfl (by (try simp only [List.map_toArray, List.map_cons, List.map_nil]); first | done | rfl | (simp only [List.length_drop, List.length_take]; rfl)) ?_; (with_reducible refine (laws_markMatrix.calls kj3 t257 t258 (fun k_ => some k_ = (.slice Ao13 t259.length co13 : Value).ownBlock) (.slice Ao13 t259.length co13) t259 1 t265 t266 w _ ?side1 ?side2 A25.out).mono ?_); (case side1 => repeat (first | (with_reducible first | exact HB.out | apply below_alloc | apply pw_below_drewN | apply below_drew1 | refine below_set ?_ GE256.out | refine below_set ?_ GE263.out) | exact HB.out)); (case side2 => exact Kd.R_tight rfl HO_264002.out); rintro e w38 ⟨rfl, hy0, hb, hkp⟩; refine ⟨_, rfl, ?_⟩; have n0_ := Aside0.mk (Kd.R_mono (ok' := fun k_ => some k_ ≠ (.slice Ao13 t259.length co13 : Value).ownBlock) (Kd.R_keptB (HO_257002.out) hkp (fun k_ hk_ hs_ => (hk_) hs_)) (fun k_ hk_ => hk_.1)); have n1_ := Aside0.mk (Kd.R_reok rfl hy0 (fun k_ e_ => HO_264002.out.1 k_ e_)); have n2_ := Aside0.mk (blk_kept (by (with_reducible repeat (first | refine blk_drewN ?_ _ | refine blk_drew ?_ | refine blk_alloc ?_ _)); exact BK256.out) hkp (fun hs_ => (fun e_ => (Kd.R_ne HO_264002.out BK256.out (by decide)) e_) hs_)); have n3_ := Aside0.mk (blk_kept (by (with_reducible repeat (first | refine blk_drewN ?_ _ | refine blk_drew ?_ | refine blk_alloc ?_ _)); exact BK263.out) hkp (fun hs_ => (fun e_ => (Kd.R_ne HO_264002.out BK263.out (by decide)) e_) hs_)); have n4_ := Aside0.mk (hb); clear HO_257002; clear HO_264002; clear BK256; clear BK263; clear HB; have HO_257002 := n0_; have HO_264002 := n1_; have BK256 := n2_; have BK263 := n3_; have HB := n4_; clear n0_ n1_ n2_ n3_ n4_; (try clear hb); (try clear hkp); (try clear hy0); have hcz39_0 : w38.cell? ⟨gb263, 0, none⟩ = some (.int .i64 t257) := (blk_cell BK263.out 0).trans rfl; have hcz39_1 : w38.cell? ⟨gb263, 1, none⟩ = some (.int .i64 t258) := (blk_cell BK263.out 1).trans rfl; have hcz39_2 : w38.cell? ⟨gb263, 2, none⟩ = some (.slice Ao13 t259.length co13) := (blk_cell BK263.out 2).trans rfl; have hfz39_0 := blk_frozen BK263.out 0; have hfz39_1 := blk_frozen BK263.out 1; have hfz39_2 := blk_frozen BK263.out 2) | ((with_reducible refine gate_callee (f := 35) rfl ?_); refine goesL_ (some 35) rfl rfl Try.func35 (by kernel_rfl) rfl #[.agg #[.int .i64 t257, .int .i64 t258, .slice Ao13 t266.length co13], .int .i64 1] rfl (by (try simp only [List.map_toArray, List.map_cons, List.map_nil]); first | done | (rw [show t266.length = t259.length from (Kd.R_reads' HO_264002.out).1.symm] <;> rfl) | rfl | (simp only [List.length_drop, List.length_take]; rfl)) ?_; (with_reducible refine (laws_heldMatrix.calls kj3 t257 t258 _ _ t266 1 t267 _ ?side1 ?side2 A26.out).mono ?_); (case side1 => repeat (first | exact (Kd.R_reads' HO_264002.out).2.2 | (with_reducible refine Kd.C_alloc ?_ _) | (with_reducible refine Kd.C_drewN ?_ _) | (with_reducible refine Kd.C_drew ?_))); (case side2 => rw [show t266.length = t259.length from (Kd.R_reads' HO_264002.out).1.symm]; exact (Kd.R_reads' HO_264002.out).2.1); rintro e w40 ⟨rfl, hb⟩; refine ⟨_, rfl, ?_⟩; have n0_ := Aside0.mk (Kd.R_below (by (with_reducible repeat (first | apply Kd.R_alloc | apply Kd.R_drewN | apply Kd.R_drew)); exact HO_257002.out) hb); have n1_ := Aside0.mk (Kd.R_below (by (with_reducible repeat (first | apply Kd.R_alloc | apply Kd.R_drewN | apply Kd.R_drew)); exact HO_264002.out) hb); have n2_ := Aside0.mk (blk_below (g := gb256) (o := .cells #[.int .i64 t250, .int .i64 t251, .slice Ao8 t252.length co8] 41 (0, 0)) (by (with_reducible repeat (first | refine blk_drewN ?_ _ | refine blk_drew ?_ | refine blk_alloc ?_ _)); exact BK256.out) hb); have n3_ := Aside0.mk (blk_below (g := gb263) (o := .cells #[.int .i64 t257, .int .i64 t258, .slice Ao13 t259.length co13] 41 (0, 0)) (by (with_reducible repeat (first | refine blk_drewN ?_ _ | refine blk_drew ?_ | refine blk_alloc ?_ _)); exact BK263.out) hb); have n4_ := Aside0.mk (below_step (by repeat (first | (with_reducible first | exact HB.out | apply below_alloc | apply pw_below_drewN | apply below_drew1 | refine below_set ?_ GE256.out | refine below_set ?_ GE263.out) | exact HB.out)) hb); clear HO_257002; clear HO_264002; clear BK256; clear BK263; clear HB; have HO_257002 := n0_; have HO_264002 := n1_; have BK256 := n2_; have BK263 := n3_; have HB := n4_; clear n0_ n1_ n2_ n3_ n4_; (try clear hb); (try clear hb2); (try clear hk); (try clear hi)) | ((with_reducible refine gate_callee (f := 33) rfl ?_); refine goesL_ (some 43) rfl rfl Try.func33 (by kernel_rfl) rfl #[.int .i64 a0] rfl (by (try simp only [List.map_toArray, List.map_cons, List.map_nil]); first | done | rfl | (simp only [List.length_drop, List.length_take]; rfl)) ?_; (with_reducible refine (impl_MatUnit.calls a0 t268 t269 t270 t273 _ A34.out).mono ?_); rintro e w41 ⟨v271, rfl, ho0, hb⟩; refine ⟨_, rfl, ?_⟩; have n0_ := Aside0.mk (Kd.R_elder' (by (with_reducible repeat (first | apply Kd.R_alloc | apply Kd.R_drewN | apply Kd.R_drew)); exact HO_257002.out) (Kd.R_base ho0) hb); have n1_ := Aside0.mk (Kd.R_elder' (by (with_reducible repeat (first | apply Kd.R_alloc | apply Kd.R_drewN | apply Kd.R_drew)); exact HO_264002.out) (Kd.R_base ho0) hb); have n2_ := Aside0.mk (Kd.R_lower (Kd.R_new' (Kd.R_new' ho0 (Kd.R_lt (by (with_reducible repeat (first | apply Kd.R_alloc | apply Kd.R_drewN | apply Kd.R_drew)); exact HO_257002.out))) (Kd.R_lt (by (with_reducible repeat (first | apply Kd.R_alloc | apply Kd.R_drewN | apply Kd.R_drew)); exact HO_264002.out))) (below_size (by repeat (first | (with_reducible first | exact HB.out | apply below_alloc | apply pw_below_drewN | apply below_drew1 | refine below_set ?_ GE256.out | refine below_set ?_ GE263.out) | exact HB.out)))); have n3_ := Aside0.mk (blk_below (g := gb256) (o := .cells #[.int .i64 t250, .int .i64 t251, .slice Ao8 t252.length co8] 41 (0, 0)) (by (with_reducible repeat (first | refine blk_drewN ?_ _ | refine blk_drew ?_ | refine blk_alloc ?_ _)); exact BK256.out) hb); have n4_ := Aside0.mk (blk_below (g := gb263) (o := .cells #[.int .i64 t257, .int .i64 t258, .slice Ao13 t259.length co13] 41 (0, 0)) (by (with_reducible repeat (first | refine blk_drewN ?_ _ | refine blk_drew ?_ | refine blk_alloc ?_ _)); exact BK263.out) hb); have n5_ := Aside0.mk (below_step (by repeat (first | (with_reducible first | exact HB.out | apply below_alloc | apply pw_below_drewN | apply below_drew1 | refine below_set ?_ GE256.out | refine below_set ?_ GE263.out) | exact HB.out)) hb); clear HO_257002; clear HO_264002; clear BK256; clear BK263; clear HB; have HO_257002 := n0_; have HO_264002 := n1_; have HO272 := n2_; have BK256 := n3_; have BK263 := n4_; have HB := n5_; clear n0_ n1_ n2_ n3_ n4_ n5_; (try clear hb); (try clear hb2); (try clear hk); (try clear hi); (try clear ho0)) | ((with_reducible refine gate_dst (N := 9) rfl ?_); refine box_event ?hg (N := 9) ?hd (cs := #[.int .i64 0, .int .i64 0, .slice none 0 0]) (t := 41) ?hr ?_; (case hd => rfl); (case hg => rfl); (case hr => first | (go_simp; done) | (go_simp; rfl)); intro gb274 hg w42 hbox hb; have n0_ := Aside0.mk (Kd.R_below (by (with_reducible repeat (first | apply Kd.R_alloc | apply Kd.R_drewN | apply Kd.R_drew)); exact HO_257002.out) hb); have n1_ := Aside0.mk (Kd.R_below (by (with_reducible repeat (first | apply Kd.R_alloc | apply Kd.R_drewN | apply Kd.R_drew)); exact HO_264002.out) hb); have n2_ := Aside0.mk (Kd.R_below (by (with_reducible repeat (first | apply Kd.R_alloc | apply Kd.R_drewN | apply Kd.R_drew)); exact HO272.out) hb); have n3_ := Aside0.mk (blk_below (g := gb256) (o := .cells #[.int .i64 t250, .int .i64 t251, .slice Ao8 t252.length co8] 41 (0, 0)) (by (with_reducible repeat (first | refine blk_drewN ?_ _ | refine blk_drew ?_ | refine blk_alloc ?_ _)); exact BK256.out) hb); have n4_ := Aside0.mk (blk_below (g := gb263) (o := .cells #[.int .i64 t257, .int .i64 t258, .slice Ao13 t259.length co13] 41 (0, 0)) (by (with_reducible repeat (first | refine blk_drewN ?_ _ | refine blk_drew ?_ | refine blk_alloc ?_ _)); exact BK263.out) hb); have n5_ := Aside0.mk (below_step (by repeat (first | (with_reducible first | exact HB.out | apply below_alloc | apply pw_below_drewN | apply below_drew1 | refine below_set ?_ GE256.out | refine below_set ?_ GE263.out) | exact HB.out)) hb); have n6_ := Aside0.mk (hbox); have n7_ := Aside0.mk ((by rw [hg]; exact (below_size (by repeat (first | (with_reducible first | exact HB.out | apply below_alloc | apply pw_below_drewN | apply below_drew1 | refine below_set ?_ GE256.out | refine below_set ?_ GE263.out) | exact HB.out))) : w.heap.size ≤ gb274)); have n8_ := Aside0.mk ((by rw [hg]; exact (below_size (by repeat (first | (with_reducible first | exact HB.out | apply below_alloc | apply pw_below_drewN | apply below_drew1 | refine below_set ?_ GE256.out | refine below_set ?_ GE263.out) | exact HB.out))) : w.heap.size ≤ gb274)); have n9_ := Aside0.mk ((by rw [hg]; exact Nat.ne_of_lt (blk_lt (g := gb256) (o := .cells #[.int .i64 t250, .int .i64 t251, .slice Ao8 t252.length co8] 41 (0, 0)) (by (with_reducible repeat (first | refine blk_drewN ?_ _ | refine blk_drew ?_ | refine blk_alloc ?_ _)); exact BK256.out)) : gb256 ≠ gb274)); have n10_ := Aside0.mk ((by rw [hg]; exact Nat.ne_of_gt (blk_lt (g := gb256) (o := .cells #[.int .i64 t250, .int .i64 t251, .slice Ao8 t252.length co8] 41 (0, 0)) (by (with_reducible repeat (first | refine blk_drewN ?_ _ | refine blk_drew ?_ | refine blk_alloc ?_ _)); exact BK256.out)) : gb274 ≠ gb256)); have n11_ := Aside0.mk ((by rw [hg]; exact Nat.ne_of_lt (blk_lt (g := gb263) (o := .cells #[.int .i64 t257, .int .i64 t258, .slice Ao13 t259.length co13] 41 (0, 0)) (by (with_reducible repeat (first | refine blk_drewN ?_ _ | refine blk_drew ?_ | refine blk_alloc ?_ _)); exact BK263.out)) : gb263 ≠ gb274)); have n12_ := Aside0.mk ((by rw [hg]; exact Nat.ne_of_gt (blk_lt (g := gb263) (o := .cells #[.int .i64 t257, .int .i64 t258, .slice Ao13 t259.length co13] 41 (0, 0)) (by (with_reducible repeat (first | refine blk_drewN ?_ _ | refine blk_drew ?_ | refine blk_alloc ?_ _)); exact BK263.out)) : gb274 ≠ gb263)); clear HO_257002; clear HO_264002; clear HO272; clear BK256; clear BK263; clear HB; have HO_257002 := n0_; have HO_264002 := n1_; have HO272 := n2_; have BK256 := n3_; have BK263 := n4_; have HB := n5_; have BK274 := n6_; have GW274 := n7_; have GE274 := n8_; have NB256_274 := n9_; have NB274_256 := n10_; have NB263_274 := n11_; have NB274_263 := n12_; clear n0_ n1_ n2_ n3_ n4_ n5_ n6_ n7_ n8_ n9_ n10_ n11_ n12_; clear hb hbox hg; have hnb43 := NB274_256.out; have hnc43 := NB256_274.out; have hnb44 := NB274_263.out; have hnc44 := NB263_274.out; have hcz45_0 : w42.cell? ⟨gb274, 0, none⟩ = some (.int .i64 0) := (blk_cell BK274.out 0).trans rfl; have hcz45_1 : w42.cell? ⟨gb274, 1, none⟩ = some (.int .i64 0) := (blk_cell BK274.out 1).trans rfl; have hcz45_2 : w42.cell? ⟨gb274, 2, none⟩ = some (.slice none 0 0) := (blk_cell BK274.out 2).trans rfl; have hfz45_0 := blk_frozen BK274.out 0; have hfz45_1 := blk_frozen BK274.out 1; have hfz45_2 := blk_frozen BK274.out 2; obtain ⟨Ao46, co46, eo46⟩ := Kd.R_slice HO272.out; subst eo46))
            (try simp only [Act.put, List.setIfInBounds_toArray, List.set_cons_zero, List.set_cons_succ])
            go_cut [54] (fun v54 wc => ∃ (kq : Nat) (x54_34 : Bool), v54 = .bool x54_34 ∧ Aside0 (laws_FnExactMatUnit.j1 kq t265 x54_34 t257 t258 t266 = some r) ∧ Aside0 (kq ≤ kj3) ∧ Aside0 (Kd.R (Kd.int .i64) 2 wc w.heap.size (fun k_ => some k_ ≠ ((.slice Ao13 t259.length co13) : Value).ownBlock ∧ some k_ ≠ ((.slice Ao46 t270.length co46) : Value).ownBlock) (.slice Ao8 t252.length co8) t252) ∧ Aside0 (Kd.R (Kd.int .i64) 2 wc w.heap.size (fun k_ => some k_ ≠ ((.slice Ao8 t252.length co8) : Value).ownBlock ∧ some k_ ≠ ((.slice Ao46 t270.length co46) : Value).ownBlock) (.slice Ao13 t259.length co13) t266) ∧ Aside0 (Kd.R (Kd.int .i64) 2 wc w.heap.size (fun k_ => some k_ ≠ ((.slice Ao8 t252.length co8) : Value).ownBlock ∧ some k_ ≠ ((.slice Ao13 t259.length co13) : Value).ownBlock) (.slice Ao46 t270.length co46) t270) ∧ Aside0 (wc.heap[gb256]? = some (.cells #[.int .i64 t250, .int .i64 t251, (.slice Ao8 t252.length co8)] 41 (0, 0))) ∧ Aside0 (wc.heap[gb263]? = some (.cells #[.int .i64 t257, .int .i64 t258, (.slice Ao13 t259.length co13)] 41 (0, 0))) ∧ Aside0 (wc.heap[gb274]? = some (.cells #[.int .i64 t268, .int .i64 t269, (.slice Ao46 t270.length co46)] 41 (0, 0))) ∧ Aside0 (Below w.heap.size w wc))
            case first =>
              have H := HC35.out
              clear HC35
              replace H := Option.bind_eq_some_iff.mp H
              obtain ⟨t275, A470, H⟩ := H
              replace H : (if t275 = true then (laws_FnExactMatUnit.j1 kj3 t265 (t273 != t255) t257 t258 t266) else (laws_FnExactMatUnit.j1 kj3 t265 true t257 t258 t266)) = some r := H
              have A47 := Aside0.mk A470
              clear A470
              by_cases c48 : t275 = true
              · subst c48
                have H1 : (laws_FnExactMatUnit.j1 kj3 t265 (t273 != t255) t257 t258 t266) = some r := by rw [if_pos rfl] at H; exact H
                clear H
                have H := H1
                clear H1
                have H' := Aside0.mk H
                clear H
                have hnb49 := NB274_256.out
                have hnc49 := NB256_274.out
                have hnb50 := NB274_263.out
                have hnc50 := NB263_274.out
                have hcz51_0 : w42.cell? ⟨gb274, 0, none⟩ = some (.int .i64 0) := (blk_cell BK274.out 0).trans rfl
                have hcz51_1 : w42.cell? ⟨gb274, 1, none⟩ = some (.int .i64 0) := (blk_cell BK274.out 1).trans rfl
                have hcz51_2 : w42.cell? ⟨gb274, 2, none⟩ = some (.slice none 0 0) := (blk_cell BK274.out 2).trans rfl
                have hfz51_0 := blk_frozen BK274.out 0
                have hfz51_1 := blk_frozen BK274.out 1
                have hfz51_2 := blk_frozen BK274.out 2
                have hnb52 := NB256_263.out
                have hnc52 := NB263_256.out
                have hcz53_0 : w42.cell? ⟨gb256, 0, none⟩ = some (.int .i64 t250) := (blk_cell BK256.out 0).trans rfl
                have hcz53_1 : w42.cell? ⟨gb256, 1, none⟩ = some (.int .i64 t251) := (blk_cell BK256.out 1).trans rfl
                have hcz53_2 : w42.cell? ⟨gb256, 2, none⟩ = some (.slice Ao8 t252.length co8) := (blk_cell BK256.out 2).trans rfl
                have hfz53_0 := blk_frozen BK256.out 0
                have hfz53_1 := blk_frozen BK256.out 1
                have hfz53_2 := blk_frozen BK256.out 2
                go_wp2_with (first | ((with_reducible refine gate_callee (f := 31) rfl ?_); refine goesL_ (some 48) rfl rfl Try.func31 (by kernel_rfl) rfl #[.agg #[.int .i64 t268, .int .i64 t269, .slice Ao46 t270.length co46], .agg #[.int .i64 t250, .int .i64 t251, .slice Ao8 t252.length co8]] rfl (by (try simp only [List.map_toArray, List.map_cons, List.map_nil]); first | done | rfl | (simp only [List.length_drop, List.length_take]; rfl)) ?_; (with_reducible refine (laws_eqMatrix.calls kj3 t268 t269 _ _ t270 t250 t251 _ _ t252 true _ ?side1 ?side2 ?side3 ?side4 A47.out).mono ?_); (case side1 => refine (Kd.R_reads' (e := 2) (base := w.heap.size) (ok := fun k_ => ((True ∧ some k_ ≠ (.slice Ao8 t252.length co8 : Value).ownBlock) ∧ some k_ ≠ (.slice Ao13 t259.length co13 : Value).ownBlock)) (n := t270.length) (c := co46) ?_).2.2; exact (by (with_reducible repeat (first | apply Kd.R_alloc | apply Kd.R_drewN | apply Kd.R_drew)); exact (Kd.R_mono (Kd.R_far (p := ⟨gb274, 2, none⟩) (Kd.R_far (p := ⟨gb274, 1, none⟩) (Kd.R_far (p := ⟨gb274, 0, none⟩) (Kd.R_types HO272.out BK274.out (by decide)) (fun _ hk => hk.2) (.int .i64 t268)) (fun _ hk => hk.2) (.int .i64 t269)) (fun _ hk => hk.2) (.slice Ao46 t270.length co46)) (fun _ h_ => h_.1)))); (case side2 => exact (Kd.R_reads' HO272.out).2.1); (case side3 => refine (Kd.R_reads' (e := 2) (base := w.heap.size) (ok := fun k_ => (some k_ ≠ (.slice Ao13 t259.length co13 : Value).ownBlock ∧ some k_ ≠ (.slice Ao46 t270.length co46 : Value).ownBlock)) (n := t252.length) (c := co8) ?_).2.2; exact (by (with_reducible repeat (first | apply Kd.R_alloc | apply Kd.R_drewN | apply Kd.R_drew)); exact (Kd.R_mono (Kd.R_far (p := ⟨gb274, 2, none⟩) (Kd.R_far (p := ⟨gb274, 1, none⟩) (Kd.R_far (p := ⟨gb274, 0, none⟩) (Kd.R_types HO_257002.out BK274.out (by decide)) (fun _ hk => hk.2) (.int .i64 t268)) (fun _ hk => hk.2) (.int .i64 t269)) (fun _ hk => hk.2) (.slice Ao46 t270.length co46)) (fun _ h_ => h_.1)))); (case side4 => exact (Kd.R_reads' HO_257002.out).2.1); rintro e w54 ⟨rfl, hb⟩; refine ⟨_, rfl, ?_⟩; have n0_ := Aside0.mk (Kd.R_below (by (with_reducible repeat (first | apply Kd.R_alloc | apply Kd.R_drewN | apply Kd.R_drew)); exact (Kd.R_mono (Kd.R_far (p := ⟨gb274, 2, none⟩) (Kd.R_far (p := ⟨gb274, 1, none⟩) (Kd.R_far (p := ⟨gb274, 0, none⟩) (Kd.R_types HO_257002.out BK274.out (by decide)) (fun _ hk => hk.2) (.int .i64 t268)) (fun _ hk => hk.2) (.int .i64 t269)) (fun _ hk => hk.2) (.slice Ao46 t270.length co46)) (fun _ h_ => h_.1))) hb); have n1_ := Aside0.mk (Kd.R_below (by (with_reducible repeat (first | apply Kd.R_alloc | apply Kd.R_drewN | apply Kd.R_drew)); exact (Kd.R_mono (Kd.R_far (p := ⟨gb274, 2, none⟩) (Kd.R_far (p := ⟨gb274, 1, none⟩) (Kd.R_far (p := ⟨gb274, 0, none⟩) (Kd.R_types HO_264002.out BK274.out (by decide)) (fun _ hk => hk.2) (.int .i64 t268)) (fun _ hk => hk.2) (.int .i64 t269)) (fun _ hk => hk.2) (.slice Ao46 t270.length co46)) (fun _ h_ => h_.1))) hb); have n2_ := Aside0.mk (Kd.R_below (by (with_reducible repeat (first | apply Kd.R_alloc | apply Kd.R_drewN | apply Kd.R_drew)); exact (Kd.R_mono (Kd.R_far (p := ⟨gb274, 2, none⟩) (Kd.R_far (p := ⟨gb274, 1, none⟩) (Kd.R_far (p := ⟨gb274, 0, none⟩) (Kd.R_types HO272.out BK274.out (by decide)) (fun _ hk => hk.2) (.int .i64 t268)) (fun _ hk => hk.2) (.int .i64 t269)) (fun _ hk => hk.2) (.slice Ao46 t270.length co46)) (fun _ h_ => h_.1))) hb); have n3_ := Aside0.mk (blk_below (g := gb256) (o := .cells #[.int .i64 t250, .int .i64 t251, .slice Ao8 t252.length co8] 41 (0, 0)) (by (with_reducible repeat (first | refine blk_drewN ?_ _ | refine blk_drew ?_ | refine blk_alloc ?_ _)); refine blk_far ?_ NB256_274.out _; (with_reducible repeat (first | refine blk_drewN ?_ _ | refine blk_drew ?_ | refine blk_alloc ?_ _)); refine blk_far ?_ NB256_274.out _; (with_reducible repeat (first | refine blk_drewN ?_ _ | refine blk_drew ?_ | refine blk_alloc ?_ _)); refine blk_far ?_ NB256_274.out _; (with_reducible repeat (first | refine blk_drewN ?_ _ | refine blk_drew ?_ | refine blk_alloc ?_ _)); exact BK256.out) hb); have n4_ := Aside0.mk (blk_below (g := gb263) (o := .cells #[.int .i64 t257, .int .i64 t258, .slice Ao13 t259.length co13] 41 (0, 0)) (by (with_reducible repeat (first | refine blk_drewN ?_ _ | refine blk_drew ?_ | refine blk_alloc ?_ _)); refine blk_far ?_ NB263_274.out _; (with_reducible repeat (first | refine blk_drewN ?_ _ | refine blk_drew ?_ | refine blk_alloc ?_ _)); refine blk_far ?_ NB263_274.out _; (with_reducible repeat (first | refine blk_drewN ?_ _ | refine blk_drew ?_ | refine blk_alloc ?_ _)); refine blk_far ?_ NB263_274.out _; (with_reducible repeat (first | refine blk_drewN ?_ _ | refine blk_drew ?_ | refine blk_alloc ?_ _)); exact BK263.out) hb); have n5_ := Aside0.mk (blk_below (g := gb274) (o := .cells #[.int .i64 t268, .int .i64 t269, .slice Ao46 t270.length co46] 41 (0, 0)) (by (with_reducible repeat (first | refine blk_drewN ?_ _ | refine blk_drew ?_ | refine blk_alloc ?_ _)); refine blk_put (cs := #[.int .i64 t268, .int .i64 t269, .slice none 0 0]) ?_ 2 _ rfl; (with_reducible repeat (first | refine blk_drewN ?_ _ | refine blk_drew ?_ | refine blk_alloc ?_ _)); refine blk_put (cs := #[.int .i64 t268, .int .i64 0, .slice none 0 0]) ?_ 1 _ rfl; (with_reducible repeat (first | refine blk_drewN ?_ _ | refine blk_drew ?_ | refine blk_alloc ?_ _)); refine blk_put (cs := #[.int .i64 0, .int .i64 0, .slice none 0 0]) ?_ 0 _ rfl; (with_reducible repeat (first | refine blk_drewN ?_ _ | refine blk_drew ?_ | refine blk_alloc ?_ _)); exact BK274.out) hb); have n6_ := Aside0.mk (below_step (by repeat (first | (with_reducible first | exact HB.out | apply below_alloc | apply pw_below_drewN | apply below_drew1 | refine below_set ?_ GE256.out | refine below_set ?_ GE263.out | refine below_set ?_ GE274.out) | exact HB.out)) hb); clear HO_257002; clear HO_264002; clear HO272; clear BK256; clear BK263; clear BK274; clear HB; have HO_257002 := n0_; have HO_264002 := n1_; have HO272 := n2_; have BK256 := n3_; have BK263 := n4_; have BK274 := n5_; have HB := n6_; clear n0_ n1_ n2_ n3_ n4_ n5_ n6_; (try clear hb); (try clear hb2); (try clear hk); (try clear hi)))
                go_meet
                case rel => exact ⟨_, ((t273 != t255)), (by first | rfl | (simp; done) | (simp [*]; done)), H', ⟨by have := HJ3.out; first | omega | exact Nat.le_refl _⟩, ⟨by (with_reducible repeat (first | apply Kd.R_alloc | apply Kd.R_drewN | apply Kd.R_drew)); exact HO_257002.out⟩, ⟨by (with_reducible repeat (first | apply Kd.R_alloc | apply Kd.R_drewN | apply Kd.R_drew)); exact HO_264002.out⟩, ⟨by (with_reducible repeat (first | apply Kd.R_alloc | apply Kd.R_drewN | apply Kd.R_drew)); exact Kd.R_mono HO272.out (fun _ hk => ⟨hk.1.2, hk.2⟩)⟩, ⟨by (with_reducible repeat (first | refine blk_drewN ?_ _ | refine blk_drew ?_ | refine blk_alloc ?_ _)); exact BK256.out⟩, ⟨by (with_reducible repeat (first | refine blk_drewN ?_ _ | refine blk_drew ?_ | refine blk_alloc ?_ _)); exact BK263.out⟩, ⟨by (with_reducible repeat (first | refine blk_drewN ?_ _ | refine blk_drew ?_ | refine blk_alloc ?_ _)); exact BK274.out⟩, ⟨by repeat (first | (with_reducible first | exact HB.out | apply below_alloc | apply pw_below_drewN | apply below_drew1 | refine below_set ?_ GE256.out | refine below_set ?_ GE263.out | refine below_set ?_ GE274.out) | exact HB.out)⟩⟩
              · replace c48 := Bool.eq_false_iff.mpr c48
                subst c48
                have H1 : (laws_FnExactMatUnit.j1 kj3 t265 true t257 t258 t266) = some r := by rw [if_neg (show ¬ (false = true) by decide)] at H; exact H
                clear H
                have H := H1
                clear H1
                have H' := Aside0.mk H
                clear H
                have hnb55 := NB274_256.out
                have hnc55 := NB256_274.out
                have hnb56 := NB274_263.out
                have hnc56 := NB263_274.out
                have hcz57_0 : w42.cell? ⟨gb274, 0, none⟩ = some (.int .i64 0) := (blk_cell BK274.out 0).trans rfl
                have hcz57_1 : w42.cell? ⟨gb274, 1, none⟩ = some (.int .i64 0) := (blk_cell BK274.out 1).trans rfl
                have hcz57_2 : w42.cell? ⟨gb274, 2, none⟩ = some (.slice none 0 0) := (blk_cell BK274.out 2).trans rfl
                have hfz57_0 := blk_frozen BK274.out 0
                have hfz57_1 := blk_frozen BK274.out 1
                have hfz57_2 := blk_frozen BK274.out 2
                have hnb58 := NB256_263.out
                have hnc58 := NB263_256.out
                have hcz59_0 : w42.cell? ⟨gb256, 0, none⟩ = some (.int .i64 t250) := (blk_cell BK256.out 0).trans rfl
                have hcz59_1 : w42.cell? ⟨gb256, 1, none⟩ = some (.int .i64 t251) := (blk_cell BK256.out 1).trans rfl
                have hcz59_2 : w42.cell? ⟨gb256, 2, none⟩ = some (.slice Ao8 t252.length co8) := (blk_cell BK256.out 2).trans rfl
                have hfz59_0 := blk_frozen BK256.out 0
                have hfz59_1 := blk_frozen BK256.out 1
                have hfz59_2 := blk_frozen BK256.out 2
                go_wp2_with (first | ((with_reducible refine gate_callee (f := 31) rfl ?_); refine goesL_ (some 48) rfl rfl Try.func31 (by kernel_rfl) rfl #[.agg #[.int .i64 t268, .int .i64 t269, .slice Ao46 t270.length co46], .agg #[.int .i64 t250, .int .i64 t251, .slice Ao8 t252.length co8]] rfl (by (try simp only [List.map_toArray, List.map_cons, List.map_nil]); first | done | rfl | (simp only [List.length_drop, List.length_take]; rfl)) ?_; (with_reducible refine (laws_eqMatrix.calls kj3 t268 t269 _ _ t270 t250 t251 _ _ t252 false _ ?side1 ?side2 ?side3 ?side4 A47.out).mono ?_); (case side1 => refine (Kd.R_reads' (e := 2) (base := w.heap.size) (ok := fun k_ => ((True ∧ some k_ ≠ (.slice Ao8 t252.length co8 : Value).ownBlock) ∧ some k_ ≠ (.slice Ao13 t259.length co13 : Value).ownBlock)) (n := t270.length) (c := co46) ?_).2.2; exact (by (with_reducible repeat (first | apply Kd.R_alloc | apply Kd.R_drewN | apply Kd.R_drew)); exact (Kd.R_mono (Kd.R_far (p := ⟨gb274, 2, none⟩) (Kd.R_far (p := ⟨gb274, 1, none⟩) (Kd.R_far (p := ⟨gb274, 0, none⟩) (Kd.R_types HO272.out BK274.out (by decide)) (fun _ hk => hk.2) (.int .i64 t268)) (fun _ hk => hk.2) (.int .i64 t269)) (fun _ hk => hk.2) (.slice Ao46 t270.length co46)) (fun _ h_ => h_.1)))); (case side2 => exact (Kd.R_reads' HO272.out).2.1); (case side3 => refine (Kd.R_reads' (e := 2) (base := w.heap.size) (ok := fun k_ => (some k_ ≠ (.slice Ao13 t259.length co13 : Value).ownBlock ∧ some k_ ≠ (.slice Ao46 t270.length co46 : Value).ownBlock)) (n := t252.length) (c := co8) ?_).2.2; exact (by (with_reducible repeat (first | apply Kd.R_alloc | apply Kd.R_drewN | apply Kd.R_drew)); exact (Kd.R_mono (Kd.R_far (p := ⟨gb274, 2, none⟩) (Kd.R_far (p := ⟨gb274, 1, none⟩) (Kd.R_far (p := ⟨gb274, 0, none⟩) (Kd.R_types HO_257002.out BK274.out (by decide)) (fun _ hk => hk.2) (.int .i64 t268)) (fun _ hk => hk.2) (.int .i64 t269)) (fun _ hk => hk.2) (.slice Ao46 t270.length co46)) (fun _ h_ => h_.1)))); (case side4 => exact (Kd.R_reads' HO_257002.out).2.1); rintro e w60 ⟨rfl, hb⟩; refine ⟨_, rfl, ?_⟩; have n0_ := Aside0.mk (Kd.R_below (by (with_reducible repeat (first | apply Kd.R_alloc | apply Kd.R_drewN | apply Kd.R_drew)); exact (Kd.R_mono (Kd.R_far (p := ⟨gb274, 2, none⟩) (Kd.R_far (p := ⟨gb274, 1, none⟩) (Kd.R_far (p := ⟨gb274, 0, none⟩) (Kd.R_types HO_257002.out BK274.out (by decide)) (fun _ hk => hk.2) (.int .i64 t268)) (fun _ hk => hk.2) (.int .i64 t269)) (fun _ hk => hk.2) (.slice Ao46 t270.length co46)) (fun _ h_ => h_.1))) hb); have n1_ := Aside0.mk (Kd.R_below (by (with_reducible repeat (first | apply Kd.R_alloc | apply Kd.R_drewN | apply Kd.R_drew)); exact (Kd.R_mono (Kd.R_far (p := ⟨gb274, 2, none⟩) (Kd.R_far (p := ⟨gb274, 1, none⟩) (Kd.R_far (p := ⟨gb274, 0, none⟩) (Kd.R_types HO_264002.out BK274.out (by decide)) (fun _ hk => hk.2) (.int .i64 t268)) (fun _ hk => hk.2) (.int .i64 t269)) (fun _ hk => hk.2) (.slice Ao46 t270.length co46)) (fun _ h_ => h_.1))) hb); have n2_ := Aside0.mk (Kd.R_below (by (with_reducible repeat (first | apply Kd.R_alloc | apply Kd.R_drewN | apply Kd.R_drew)); exact (Kd.R_mono (Kd.R_far (p := ⟨gb274, 2, none⟩) (Kd.R_far (p := ⟨gb274, 1, none⟩) (Kd.R_far (p := ⟨gb274, 0, none⟩) (Kd.R_types HO272.out BK274.out (by decide)) (fun _ hk => hk.2) (.int .i64 t268)) (fun _ hk => hk.2) (.int .i64 t269)) (fun _ hk => hk.2) (.slice Ao46 t270.length co46)) (fun _ h_ => h_.1))) hb); have n3_ := Aside0.mk (blk_below (g := gb256) (o := .cells #[.int .i64 t250, .int .i64 t251, .slice Ao8 t252.length co8] 41 (0, 0)) (by (with_reducible repeat (first | refine blk_drewN ?_ _ | refine blk_drew ?_ | refine blk_alloc ?_ _)); refine blk_far ?_ NB256_274.out _; (with_reducible repeat (first | refine blk_drewN ?_ _ | refine blk_drew ?_ | refine blk_alloc ?_ _)); refine blk_far ?_ NB256_274.out _; (with_reducible repeat (first | refine blk_drewN ?_ _ | refine blk_drew ?_ | refine blk_alloc ?_ _)); refine blk_far ?_ NB256_274.out _; (with_reducible repeat (first | refine blk_drewN ?_ _ | refine blk_drew ?_ | refine blk_alloc ?_ _)); exact BK256.out) hb); have n4_ := Aside0.mk (blk_below (g := gb263) (o := .cells #[.int .i64 t257, .int .i64 t258, .slice Ao13 t259.length co13] 41 (0, 0)) (by (with_reducible repeat (first | refine blk_drewN ?_ _ | refine blk_drew ?_ | refine blk_alloc ?_ _)); refine blk_far ?_ NB263_274.out _; (with_reducible repeat (first | refine blk_drewN ?_ _ | refine blk_drew ?_ | refine blk_alloc ?_ _)); refine blk_far ?_ NB263_274.out _; (with_reducible repeat (first | refine blk_drewN ?_ _ | refine blk_drew ?_ | refine blk_alloc ?_ _)); refine blk_far ?_ NB263_274.out _; (with_reducible repeat (first | refine blk_drewN ?_ _ | refine blk_drew ?_ | refine blk_alloc ?_ _)); exact BK263.out) hb); have n5_ := Aside0.mk (blk_below (g := gb274) (o := .cells #[.int .i64 t268, .int .i64 t269, .slice Ao46 t270.length co46] 41 (0, 0)) (by (with_reducible repeat (first | refine blk_drewN ?_ _ | refine blk_drew ?_ | refine blk_alloc ?_ _)); refine blk_put (cs := #[.int .i64 t268, .int .i64 t269, .slice none 0 0]) ?_ 2 _ rfl; (with_reducible repeat (first | refine blk_drewN ?_ _ | refine blk_drew ?_ | refine blk_alloc ?_ _)); refine blk_put (cs := #[.int .i64 t268, .int .i64 0, .slice none 0 0]) ?_ 1 _ rfl; (with_reducible repeat (first | refine blk_drewN ?_ _ | refine blk_drew ?_ | refine blk_alloc ?_ _)); refine blk_put (cs := #[.int .i64 0, .int .i64 0, .slice none 0 0]) ?_ 0 _ rfl; (with_reducible repeat (first | refine blk_drewN ?_ _ | refine blk_drew ?_ | refine blk_alloc ?_ _)); exact BK274.out) hb); have n6_ := Aside0.mk (below_step (by repeat (first | (with_reducible first | exact HB.out | apply below_alloc | apply pw_below_drewN | apply below_drew1 | refine below_set ?_ GE256.out | refine below_set ?_ GE263.out | refine below_set ?_ GE274.out) | exact HB.out)) hb); clear HO_257002; clear HO_264002; clear HO272; clear BK256; clear BK263; clear BK274; clear HB; have HO_257002 := n0_; have HO_264002 := n1_; have HO272 := n2_; have BK256 := n3_; have BK263 := n4_; have BK274 := n5_; have HB := n6_; clear n0_ n1_ n2_ n3_ n4_ n5_ n6_; (try clear hb); (try clear hb2); (try clear hk); (try clear hi)))
                go_meet
                case rel => exact ⟨_, (true), (by first | rfl | (simp; done) | (simp [*]; done)), H', ⟨by have := HJ3.out; first | omega | exact Nat.le_refl _⟩, ⟨by (with_reducible repeat (first | apply Kd.R_alloc | apply Kd.R_drewN | apply Kd.R_drew)); exact HO_257002.out⟩, ⟨by (with_reducible repeat (first | apply Kd.R_alloc | apply Kd.R_drewN | apply Kd.R_drew)); exact HO_264002.out⟩, ⟨by (with_reducible repeat (first | apply Kd.R_alloc | apply Kd.R_drewN | apply Kd.R_drew)); exact Kd.R_mono HO272.out (fun _ hk => ⟨hk.1.2, hk.2⟩)⟩, ⟨by (with_reducible repeat (first | refine blk_drewN ?_ _ | refine blk_drew ?_ | refine blk_alloc ?_ _)); exact BK256.out⟩, ⟨by (with_reducible repeat (first | refine blk_drewN ?_ _ | refine blk_drew ?_ | refine blk_alloc ?_ _)); exact BK263.out⟩, ⟨by (with_reducible repeat (first | refine blk_drewN ?_ _ | refine blk_drew ?_ | refine blk_alloc ?_ _)); exact BK274.out⟩, ⟨by repeat (first | (with_reducible first | exact HB.out | apply below_alloc | apply pw_below_drewN | apply below_drew1 | refine below_set ?_ GE256.out | refine below_set ?_ GE263.out | refine below_set ?_ GE274.out) | exact HB.out)⟩⟩
            case rest =>
              clear HC35
              try clear c1
              try clear c2
              try clear p2
              try clear c3
              try clear c4
              try clear c5
              try clear c6
              try clear c11
              try clear c15
              try clear c16
              try clear c20
              try clear c24
              try clear c27
              try clear c27b0
              try clear c28
              try clear c31
              try clear c32
              try clear c33
              try clear c33b0
              try clear c33b1
              try clear c34
              try clear c35
              try clear c36
              try clear c43
              try clear c44
              try clear c48
              try clear c49
              try clear c50
              try clear c52
              try clear c55
              try clear c56
              try clear c58
              try clear hcz12_0
              try clear hcz12_1
              try clear hcz12_2
              try clear hcz17_0
              try clear hcz17_1
              try clear hcz17_2
              try clear hcz18_0
              try clear hcz18_1
              try clear hcz18_2
              try clear hcz21_0
              try clear hcz21_1
              try clear hcz21_2
              try clear hcz22_0
              try clear hcz22_1
              try clear hcz22_2
              try clear hcz29_0
              try clear hcz29_1
              try clear hcz29_2
              try clear hcz31_0
              try clear hcz31_1
              try clear hcz31_2
              try clear hcz37_0
              try clear hcz37_1
              try clear hcz37_2
              try clear hcz39_0
              try clear hcz39_1
              try clear hcz39_2
              try clear hcz45_0
              try clear hcz45_1
              try clear hcz45_2
              try clear hcz51_0
              try clear hcz51_1
              try clear hcz51_2
              try clear hcz53_0
              try clear hcz53_1
              try clear hcz53_2
              try clear hcz57_0
              try clear hcz57_1
              try clear hcz57_2
              try clear hcz59_0
              try clear hcz59_1
              try clear hcz59_2
              try clear hcz7_0
              try clear hcz7_1
              try clear hcz7_2
              try clear hfz12_0
              try clear hfz12_1
              try clear hfz12_2
              try clear hfz17_0
              try clear hfz17_1
              try clear hfz17_2
              try clear hfz18_0
              try clear hfz18_1
              try clear hfz18_2
              try clear hfz21_0
              try clear hfz21_1
              try clear hfz21_2
              try clear hfz22_0
              try clear hfz22_1
              try clear hfz22_2
              try clear hfz29_0
              try clear hfz29_1
              try clear hfz29_2
              try clear hfz31_0
              try clear hfz31_1
              try clear hfz31_2
              try clear hfz37_0
              try clear hfz37_1
              try clear hfz37_2
              try clear hfz39_0
              try clear hfz39_1
              try clear hfz39_2
              try clear hfz45_0
              try clear hfz45_1
              try clear hfz45_2
              try clear hfz51_0
              try clear hfz51_1
              try clear hfz51_2
              try clear hfz53_0
              try clear hfz53_1
              try clear hfz53_2
              try clear hfz57_0
              try clear hfz57_1
              try clear hfz57_2
              try clear hfz59_0
              try clear hfz59_1
              try clear hfz59_2
              try clear hfz7_0
              try clear hfz7_1
              try clear hfz7_2
              try clear p2
              obtain ⟨kq, x54_34, rfl, HA, HJ34, HO_257002, HO_264002, HO_275002, BK256, BK263, BK274, HB⟩ := hcut
              have hl264002_34 := (Kd.R_reads' HO_264002.out).1
              rw [hl264002_34] at HO_264002
              (try simp only [hl264002_34])
              (try simp only [hl264002_34] at BK256)
              (try simp only [hl264002_34] at BK263)
              (try simp only [hl264002_34] at BK274)
              (try simp only [hl264002_34] at HO_257002)
              (try simp only [hl264002_34] at HO_275002)
              cases kq with
              | zero => exact absurd HA.out (by simp [laws_FnExactMatUnit.j1])
              | succ kj34 =>
                have H := HA.out
                clear HA
                simp only [laws_FnExactMatUnit.j1] at H
                by_cases c61 : x54_34 = true
                · subst c61
                  have H1 : (some false) = some r := by rw [if_pos rfl] at H; exact H
                  clear H
                  have H := H1
                  clear H1
                  obtain rfl := Option.some.inj H
                  go_wp2
                  go_ret
                  exact ⟨by first | rfl | (simp [errW_none, errW_some] <;> rfl) | (simp [*, errW_none, errW_some] <;> rfl), by repeat (first | (with_reducible first | exact HB.out | apply below_alloc | apply pw_below_drewN | apply below_drew1 | refine below_set ?_ GE256.out | refine below_set ?_ GE263.out | refine below_set ?_ GE274.out) | exact HB.out)⟩
                · replace c61 := Bool.eq_false_iff.mpr c61
                  subst c61
                  have H1 : ((laws_heldMatrix.f kj34 t257 t258 t266 1).bind fun t276 => (if t276 < 0 then (some false) else (if t276 = t265 then (some true) else (some false)))) = some r := by rw [if_neg (show ¬ (false = true) by decide)] at H; exact H
                  clear H
                  have H := H1
                  clear H1
                  replace H := Option.bind_eq_some_iff.mp H
                  obtain ⟨t276, A620, H⟩ := H
                  replace H : (if t276 < 0 then (some false) else (if t276 = t265 then (some true) else (some false))) = some r := H
                  have A62 := Aside0.mk A620
                  clear A620
                  by_cases c63 : t276 < 0
                  · rw [if_pos c63] at H
                    have c63b0 : decide (t276 < 0) = true := decide_eq_true c63
                    clear c63
                    obtain rfl := Option.some.inj H
                    have hnb64 := NB263_256.out
                    have hnc64 := NB256_263.out
                    have hnb65 := NB263_274.out
                    have hnc65 := NB274_263.out
                    have hcz66_0 : wc.cell? ⟨gb263, 0, none⟩ = some (.int .i64 t257) := (blk_cell BK263.out 0).trans rfl
                    have hcz66_1 : wc.cell? ⟨gb263, 1, none⟩ = some (.int .i64 t258) := (blk_cell BK263.out 1).trans rfl
                    have hcz66_2 : wc.cell? ⟨gb263, 2, none⟩ = some (.slice Ao13 t266.length co13) := (blk_cell BK263.out 2).trans rfl
                    have hfz66_0 := blk_frozen BK263.out 0
                    have hfz66_1 := blk_frozen BK263.out 1
                    have hfz66_2 := blk_frozen BK263.out 2
                    go_wp2_with (first | ((with_reducible refine gate_callee (f := 35) rfl ?_); refine goesL_ (some 57) rfl rfl Try.func35 (by kernel_rfl) rfl #[.agg #[.int .i64 t257, .int .i64 t258, .slice Ao13 t266.length co13], .int .i64 1] rfl (by (try simp only [List.map_toArray, List.map_cons, List.map_nil]); first | done | rfl | (simp only [List.length_drop, List.length_take]; rfl)) ?_; (with_reducible refine (laws_heldMatrix.calls kj34 t257 t258 _ _ t266 1 t276 _ ?side1 ?side2 A62.out).mono ?_); (case side1 => repeat (first | exact (Kd.R_reads' HO_264002.out).2.2 | (with_reducible refine Kd.C_alloc ?_ _) | (with_reducible refine Kd.C_drewN ?_ _) | (with_reducible refine Kd.C_drew ?_))); (case side2 => exact (Kd.R_reads' HO_264002.out).2.1); rintro e w67 ⟨rfl, hb⟩; refine ⟨_, rfl, ?_⟩; have n0_ := Aside0.mk (Kd.R_below (by (with_reducible repeat (first | apply Kd.R_alloc | apply Kd.R_drewN | apply Kd.R_drew)); exact HO_257002.out) hb); have n1_ := Aside0.mk (Kd.R_below (by (with_reducible repeat (first | apply Kd.R_alloc | apply Kd.R_drewN | apply Kd.R_drew)); exact HO_264002.out) hb); have n2_ := Aside0.mk (Kd.R_below (by (with_reducible repeat (first | apply Kd.R_alloc | apply Kd.R_drewN | apply Kd.R_drew)); exact HO_275002.out) hb); have n3_ := Aside0.mk (blk_below (g := gb256) (o := .cells #[.int .i64 t250, .int .i64 t251, .slice Ao8 t252.length co8] 41 (0, 0)) (by (with_reducible repeat (first | refine blk_drewN ?_ _ | refine blk_drew ?_ | refine blk_alloc ?_ _)); exact BK256.out) hb); have n4_ := Aside0.mk (blk_below (g := gb263) (o := .cells #[.int .i64 t257, .int .i64 t258, .slice Ao13 t266.length co13] 41 (0, 0)) (by (with_reducible repeat (first | refine blk_drewN ?_ _ | refine blk_drew ?_ | refine blk_alloc ?_ _)); exact BK263.out) hb); have n5_ := Aside0.mk (blk_below (g := gb274) (o := .cells #[.int .i64 t268, .int .i64 t269, .slice Ao46 t270.length co46] 41 (0, 0)) (by (with_reducible repeat (first | refine blk_drewN ?_ _ | refine blk_drew ?_ | refine blk_alloc ?_ _)); exact BK274.out) hb); have n6_ := Aside0.mk (below_step (by repeat (first | (with_reducible first | exact HB.out | apply below_alloc | apply pw_below_drewN | apply below_drew1 | refine below_set ?_ GE256.out | refine below_set ?_ GE263.out | refine below_set ?_ GE274.out) | exact HB.out)) hb); clear HO_257002; clear HO_264002; clear HO_275002; clear BK256; clear BK263; clear BK274; clear HB; have HO_257002 := n0_; have HO_264002 := n1_; have HO_275002 := n2_; have BK256 := n3_; have BK263 := n4_; have BK274 := n5_; have HB := n6_; clear n0_ n1_ n2_ n3_ n4_ n5_ n6_; (try clear hb); (try clear hb2); (try clear hk); (try clear hi)))
                    go_ret
                    exact ⟨by first | rfl | (simp [errW_none, errW_some] <;> rfl) | (simp [*, errW_none, errW_some] <;> rfl), by repeat (first | (with_reducible first | exact HB.out | apply below_alloc | apply pw_below_drewN | apply below_drew1 | refine below_set ?_ GE256.out | refine below_set ?_ GE263.out | refine below_set ?_ GE274.out) | exact HB.out)⟩
                  · rw [if_neg c63] at H
                    have c63b0 : decide (t276 < 0) = false := decide_eq_false c63
                    clear c63
                    by_cases c68 : t276 = t265
                    · rw [if_pos c68] at H
                      have c68b0 : (t276 == t265) = true := beq_iff_eq.mpr c68
                      have c68b1 : (t276 != t265) = false := bne_eq_false_iff_eq.mpr c68
                      clear c68
                      obtain rfl := Option.some.inj H
                      have hnb69 := NB263_256.out
                      have hnc69 := NB256_263.out
                      have hnb70 := NB263_274.out
                      have hnc70 := NB274_263.out
                      have hcz71_0 : wc.cell? ⟨gb263, 0, none⟩ = some (.int .i64 t257) := (blk_cell BK263.out 0).trans rfl
                      have hcz71_1 : wc.cell? ⟨gb263, 1, none⟩ = some (.int .i64 t258) := (blk_cell BK263.out 1).trans rfl
                      have hcz71_2 : wc.cell? ⟨gb263, 2, none⟩ = some (.slice Ao13 t266.length co13) := (blk_cell BK263.out 2).trans rfl
                      have hfz71_0 := blk_frozen BK263.out 0
                      have hfz71_1 := blk_frozen BK263.out 1
                      have hfz71_2 := blk_frozen BK263.out 2
                      go_wp2_with (first | ((with_reducible refine gate_callee (f := 35) rfl ?_); refine goesL_ (some 57) rfl rfl Try.func35 (by kernel_rfl) rfl #[.agg #[.int .i64 t257, .int .i64 t258, .slice Ao13 t266.length co13], .int .i64 1] rfl (by (try simp only [List.map_toArray, List.map_cons, List.map_nil]); first | done | rfl | (simp only [List.length_drop, List.length_take]; rfl)) ?_; (with_reducible refine (laws_heldMatrix.calls kj34 t257 t258 _ _ t266 1 t276 _ ?side1 ?side2 A62.out).mono ?_); (case side1 => repeat (first | exact (Kd.R_reads' HO_264002.out).2.2 | (with_reducible refine Kd.C_alloc ?_ _) | (with_reducible refine Kd.C_drewN ?_ _) | (with_reducible refine Kd.C_drew ?_))); (case side2 => exact (Kd.R_reads' HO_264002.out).2.1); rintro e w72 ⟨rfl, hb⟩; refine ⟨_, rfl, ?_⟩; have n0_ := Aside0.mk (Kd.R_below (by (with_reducible repeat (first | apply Kd.R_alloc | apply Kd.R_drewN | apply Kd.R_drew)); exact HO_257002.out) hb); have n1_ := Aside0.mk (Kd.R_below (by (with_reducible repeat (first | apply Kd.R_alloc | apply Kd.R_drewN | apply Kd.R_drew)); exact HO_264002.out) hb); have n2_ := Aside0.mk (Kd.R_below (by (with_reducible repeat (first | apply Kd.R_alloc | apply Kd.R_drewN | apply Kd.R_drew)); exact HO_275002.out) hb); have n3_ := Aside0.mk (blk_below (g := gb256) (o := .cells #[.int .i64 t250, .int .i64 t251, .slice Ao8 t252.length co8] 41 (0, 0)) (by (with_reducible repeat (first | refine blk_drewN ?_ _ | refine blk_drew ?_ | refine blk_alloc ?_ _)); exact BK256.out) hb); have n4_ := Aside0.mk (blk_below (g := gb263) (o := .cells #[.int .i64 t257, .int .i64 t258, .slice Ao13 t266.length co13] 41 (0, 0)) (by (with_reducible repeat (first | refine blk_drewN ?_ _ | refine blk_drew ?_ | refine blk_alloc ?_ _)); exact BK263.out) hb); have n5_ := Aside0.mk (blk_below (g := gb274) (o := .cells #[.int .i64 t268, .int .i64 t269, .slice Ao46 t270.length co46] 41 (0, 0)) (by (with_reducible repeat (first | refine blk_drewN ?_ _ | refine blk_drew ?_ | refine blk_alloc ?_ _)); exact BK274.out) hb); have n6_ := Aside0.mk (below_step (by repeat (first | (with_reducible first | exact HB.out | apply below_alloc | apply pw_below_drewN | apply below_drew1 | refine below_set ?_ GE256.out | refine below_set ?_ GE263.out | refine below_set ?_ GE274.out) | exact HB.out)) hb); clear HO_257002; clear HO_264002; clear HO_275002; clear BK256; clear BK263; clear BK274; clear HB; have HO_257002 := n0_; have HO_264002 := n1_; have HO_275002 := n2_; have BK256 := n3_; have BK263 := n4_; have BK274 := n5_; have HB := n6_; clear n0_ n1_ n2_ n3_ n4_ n5_ n6_; (try clear hb); (try clear hb2); (try clear hk); (try clear hi)))
                      go_ret
                      exact ⟨by first | rfl | (simp [errW_none, errW_some] <;> rfl) | (simp [*, errW_none, errW_some] <;> rfl), by repeat (first | (with_reducible first | exact HB.out | apply below_alloc | apply pw_below_drewN | apply below_drew1 | refine below_set ?_ GE256.out | refine below_set ?_ GE263.out | refine below_set ?_ GE274.out) | exact HB.out)⟩
                    · rw [if_neg c68] at H
                      have c68b0 : (t276 == t265) = false := beq_eq_false_iff_ne.mpr c68
                      have c68b1 : (t276 != t265) = true := bne_iff_ne.mpr c68
                      obtain rfl := Option.some.inj H
                      have hnb73 := NB263_256.out
                      have hnc73 := NB256_263.out
                      have hnb74 := NB263_274.out
                      have hnc74 := NB274_263.out
                      have hcz75_0 : wc.cell? ⟨gb263, 0, none⟩ = some (.int .i64 t257) := (blk_cell BK263.out 0).trans rfl
                      have hcz75_1 : wc.cell? ⟨gb263, 1, none⟩ = some (.int .i64 t258) := (blk_cell BK263.out 1).trans rfl
                      have hcz75_2 : wc.cell? ⟨gb263, 2, none⟩ = some (.slice Ao13 t266.length co13) := (blk_cell BK263.out 2).trans rfl
                      have hfz75_0 := blk_frozen BK263.out 0
                      have hfz75_1 := blk_frozen BK263.out 1
                      have hfz75_2 := blk_frozen BK263.out 2
                      go_wp2_with (first | ((with_reducible refine gate_callee (f := 35) rfl ?_); refine goesL_ (some 57) rfl rfl Try.func35 (by kernel_rfl) rfl #[.agg #[.int .i64 t257, .int .i64 t258, .slice Ao13 t266.length co13], .int .i64 1] rfl (by (try simp only [List.map_toArray, List.map_cons, List.map_nil]); first | done | rfl | (simp only [List.length_drop, List.length_take]; rfl)) ?_; (with_reducible refine (laws_heldMatrix.calls kj34 t257 t258 _ _ t266 1 t276 _ ?side1 ?side2 A62.out).mono ?_); (case side1 => repeat (first | exact (Kd.R_reads' HO_264002.out).2.2 | (with_reducible refine Kd.C_alloc ?_ _) | (with_reducible refine Kd.C_drewN ?_ _) | (with_reducible refine Kd.C_drew ?_))); (case side2 => exact (Kd.R_reads' HO_264002.out).2.1); rintro e w76 ⟨rfl, hb⟩; refine ⟨_, rfl, ?_⟩; have n0_ := Aside0.mk (Kd.R_below (by (with_reducible repeat (first | apply Kd.R_alloc | apply Kd.R_drewN | apply Kd.R_drew)); exact HO_257002.out) hb); have n1_ := Aside0.mk (Kd.R_below (by (with_reducible repeat (first | apply Kd.R_alloc | apply Kd.R_drewN | apply Kd.R_drew)); exact HO_264002.out) hb); have n2_ := Aside0.mk (Kd.R_below (by (with_reducible repeat (first | apply Kd.R_alloc | apply Kd.R_drewN | apply Kd.R_drew)); exact HO_275002.out) hb); have n3_ := Aside0.mk (blk_below (g := gb256) (o := .cells #[.int .i64 t250, .int .i64 t251, .slice Ao8 t252.length co8] 41 (0, 0)) (by (with_reducible repeat (first | refine blk_drewN ?_ _ | refine blk_drew ?_ | refine blk_alloc ?_ _)); exact BK256.out) hb); have n4_ := Aside0.mk (blk_below (g := gb263) (o := .cells #[.int .i64 t257, .int .i64 t258, .slice Ao13 t266.length co13] 41 (0, 0)) (by (with_reducible repeat (first | refine blk_drewN ?_ _ | refine blk_drew ?_ | refine blk_alloc ?_ _)); exact BK263.out) hb); have n5_ := Aside0.mk (blk_below (g := gb274) (o := .cells #[.int .i64 t268, .int .i64 t269, .slice Ao46 t270.length co46] 41 (0, 0)) (by (with_reducible repeat (first | refine blk_drewN ?_ _ | refine blk_drew ?_ | refine blk_alloc ?_ _)); exact BK274.out) hb); have n6_ := Aside0.mk (below_step (by repeat (first | (with_reducible first | exact HB.out | apply below_alloc | apply pw_below_drewN | apply below_drew1 | refine below_set ?_ GE256.out | refine below_set ?_ GE263.out | refine below_set ?_ GE274.out) | exact HB.out)) hb); clear HO_257002; clear HO_264002; clear HO_275002; clear BK256; clear BK263; clear BK274; clear HB; have HO_257002 := n0_; have HO_264002 := n1_; have HO_275002 := n2_; have BK256 := n3_; have BK263 := n4_; have BK274 := n5_; have HB := n6_; clear n0_ n1_ n2_ n3_ n4_ n5_ n6_; (try clear hb); (try clear hb2); (try clear hk); (try clear hi)))
                      go_ret
                      exact ⟨by first | rfl | (simp [errW_none, errW_some] <;> rfl) | (simp [*, errW_none, errW_some] <;> rfl), by repeat (first | (with_reducible first | exact HB.out | apply below_alloc | apply pw_below_drewN | apply below_drew1 | refine below_set ?_ GE256.out | refine below_set ?_ GE263.out | refine below_set ?_ GE274.out) | exact HB.out)⟩
          · rw [if_neg c33] at H
            have c33b0 : (t267 == t265) = false := beq_eq_false_iff_ne.mpr c33
            have c33b1 : (t267 != t265) = true := bne_iff_ne.mpr c33
            obtain rfl := Option.some.inj H
            have hnb77 := NB263_256.out
            have hnc77 := NB256_263.out
            have hcz78_0 : wc.cell? ⟨gb263, 0, none⟩ = some (.int .i64 t257) := (blk_cell BK263.out 0).trans rfl
            have hcz78_1 : wc.cell? ⟨gb263, 1, none⟩ = some (.int .i64 t258) := (blk_cell BK263.out 1).trans rfl
            have hcz78_2 : wc.cell? ⟨gb263, 2, none⟩ = some (.slice Ao13 t259.length co13) := (blk_cell BK263.out 2).trans rfl
            have hfz78_0 := blk_frozen BK263.out 0
            have hfz78_1 := blk_frozen BK263.out 1
            have hfz78_2 := blk_frozen BK263.out 2
            go_wp2_with (first | ((with_reducible refine gate_callee (f := 34) rfl ?_); refine goesL_ (some 32) rfl rfl Try.func34 (by kernel_rfl) rfl #[.agg #[.int .i64 t257, .int .i64 t258, .slice Ao13 t259.length co13], .int .i64 1] rfl (by (try simp only [List.map_toArray, List.map_cons, List.map_nil]); first | done | rfl | (simp only [List.length_drop, List.length_take]; rfl)) ?_; (with_reducible refine (laws_markMatrix.calls kj3 t257 t258 (fun k_ => some k_ = (.slice Ao13 t259.length co13 : Value).ownBlock) (.slice Ao13 t259.length co13) t259 1 t265 t266 w _ ?side1 ?side2 A25.out).mono ?_); (case side1 => repeat (first | (with_reducible first | exact HB.out | apply below_alloc | apply pw_below_drewN | apply below_drew1 | refine below_set ?_ GE256.out | refine below_set ?_ GE263.out) | exact HB.out)); (case side2 => exact Kd.R_tight rfl HO_264002.out); rintro e w79 ⟨rfl, hy0, hb, hkp⟩; refine ⟨_, rfl, ?_⟩; have n0_ := Aside0.mk (Kd.R_mono (ok' := fun k_ => some k_ ≠ (.slice Ao13 t259.length co13 : Value).ownBlock) (Kd.R_keptB (HO_257002.out) hkp (fun k_ hk_ hs_ => (hk_) hs_)) (fun k_ hk_ => hk_.1)); have n1_ := Aside0.mk (Kd.R_reok rfl hy0 (fun k_ e_ => HO_264002.out.1 k_ e_)); have n2_ := Aside0.mk (blk_kept (by (with_reducible repeat (first | refine blk_drewN ?_ _ | refine blk_drew ?_ | refine blk_alloc ?_ _)); exact BK256.out) hkp (fun hs_ => (fun e_ => (Kd.R_ne HO_264002.out BK256.out (by decide)) e_) hs_)); have n3_ := Aside0.mk (blk_kept (by (with_reducible repeat (first | refine blk_drewN ?_ _ | refine blk_drew ?_ | refine blk_alloc ?_ _)); exact BK263.out) hkp (fun hs_ => (fun e_ => (Kd.R_ne HO_264002.out BK263.out (by decide)) e_) hs_)); have n4_ := Aside0.mk (hb); clear HO_257002; clear HO_264002; clear BK256; clear BK263; clear HB; have HO_257002 := n0_; have HO_264002 := n1_; have BK256 := n2_; have BK263 := n3_; have HB := n4_; clear n0_ n1_ n2_ n3_ n4_; (try clear hb); (try clear hkp); (try clear hy0); have hcz80_0 : w79.cell? ⟨gb263, 0, none⟩ = some (.int .i64 t257) := (blk_cell BK263.out 0).trans rfl; have hcz80_1 : w79.cell? ⟨gb263, 1, none⟩ = some (.int .i64 t258) := (blk_cell BK263.out 1).trans rfl; have hcz80_2 : w79.cell? ⟨gb263, 2, none⟩ = some (.slice Ao13 t259.length co13) := (blk_cell BK263.out 2).trans rfl; have hfz80_0 := blk_frozen BK263.out 0; have hfz80_1 := blk_frozen BK263.out 1; have hfz80_2 := blk_frozen BK263.out 2) | ((with_reducible refine gate_callee (f := 35) rfl ?_); refine goesL_ (some 35) rfl rfl Try.func35 (by kernel_rfl) rfl #[.agg #[.int .i64 t257, .int .i64 t258, .slice Ao13 t266.length co13], .int .i64 1] rfl (by (try simp only [List.map_toArray, List.map_cons, List.map_nil]); first | done | (rw [show t266.length = t259.length from (Kd.R_reads' HO_264002.out).1.symm] <;> rfl) | rfl | (simp only [List.length_drop, List.length_take]; rfl)) ?_; (with_reducible refine (laws_heldMatrix.calls kj3 t257 t258 _ _ t266 1 t267 _ ?side1 ?side2 A26.out).mono ?_); (case side1 => repeat (first | exact (Kd.R_reads' HO_264002.out).2.2 | (with_reducible refine Kd.C_alloc ?_ _) | (with_reducible refine Kd.C_drewN ?_ _) | (with_reducible refine Kd.C_drew ?_))); (case side2 => rw [show t266.length = t259.length from (Kd.R_reads' HO_264002.out).1.symm]; exact (Kd.R_reads' HO_264002.out).2.1); rintro e w81 ⟨rfl, hb⟩; refine ⟨_, rfl, ?_⟩; have n0_ := Aside0.mk (Kd.R_below (by (with_reducible repeat (first | apply Kd.R_alloc | apply Kd.R_drewN | apply Kd.R_drew)); exact HO_257002.out) hb); have n1_ := Aside0.mk (Kd.R_below (by (with_reducible repeat (first | apply Kd.R_alloc | apply Kd.R_drewN | apply Kd.R_drew)); exact HO_264002.out) hb); have n2_ := Aside0.mk (blk_below (g := gb256) (o := .cells #[.int .i64 t250, .int .i64 t251, .slice Ao8 t252.length co8] 41 (0, 0)) (by (with_reducible repeat (first | refine blk_drewN ?_ _ | refine blk_drew ?_ | refine blk_alloc ?_ _)); exact BK256.out) hb); have n3_ := Aside0.mk (blk_below (g := gb263) (o := .cells #[.int .i64 t257, .int .i64 t258, .slice Ao13 t259.length co13] 41 (0, 0)) (by (with_reducible repeat (first | refine blk_drewN ?_ _ | refine blk_drew ?_ | refine blk_alloc ?_ _)); exact BK263.out) hb); have n4_ := Aside0.mk (below_step (by repeat (first | (with_reducible first | exact HB.out | apply below_alloc | apply pw_below_drewN | apply below_drew1 | refine below_set ?_ GE256.out | refine below_set ?_ GE263.out) | exact HB.out)) hb); clear HO_257002; clear HO_264002; clear BK256; clear BK263; clear HB; have HO_257002 := n0_; have HO_264002 := n1_; have BK256 := n2_; have BK263 := n3_; have HB := n4_; clear n0_ n1_ n2_ n3_ n4_; (try clear hb); (try clear hb2); (try clear hk); (try clear hi)))
            go_ret
            exact ⟨by first | rfl | (simp [errW_none, errW_some] <;> rfl) | (simp [*, errW_none, errW_some] <;> rfl), by repeat (first | (with_reducible first | exact HB.out | apply below_alloc | apply pw_below_drewN | apply below_drew1 | refine below_set ?_ GE256.out | refine below_set ?_ GE263.out) | exact HB.out)⟩

/-- THE ONE PURE STATEMENT of laws_FnExactMatUnit: yours. -/
def laws_FnExactMatUnit.Pure : Prop := ∀ (a0 : Int), (Lit.int .i64 a0).wf = true → ∃ k, laws_FnExactMatUnit.f k a0 = some true
theorem laws_FnExactMatUnit.walk (P : laws_FnExactMatUnit.Pure) (a0 : Int) (w : World) (w0 : (Lit.int .i64 a0).wf = true) :
    Calls Try.prog 6 #[.int .i64 a0] w fun e w' => e = .returned (.bool true) ∧ Below w.heap.size w w' := by
  obtain ⟨k, h⟩ := P a0 w0
  refine (laws_FnExactMatUnit.calls k a0 true w h).mono ?_
  rintro e w' ⟨rfl, hd⟩
  exact ⟨rfl, hd⟩

end Go.Proofs.Ytlocignlkigojaa.Q
