/- Walks and plain laws of one claim, several texts in one. -/
import Derived.Test.YtohjpgcmhihdhaaDoorQ0
import Derived.Test.YtohjpgcmhihdhaaDoorMFnTreeTextb
import Derived.Test.YtohjpgcmhihdhaaDoorMFnTreeTexta
import Derived.Test.YtohjpgcmhihdhaaDoorOLoop
import Derived.Lib.Builder
import Derived.Lib.AppendStr
import Derived.Test.YtohjpgcmhihdhaaDoorOwnWords
import Derived.Test.YtohjpgcmhihdhaaDoorWBMore
import Derived.Test.YtohjpgcmhihdhaaDoorShelf
import Derived.Lib.ItoaLen
import Derived.Lib.AppendIntMem
import Derived.Lib.ParseIntBTie
import Derived.RangeFuncNested
import Derived.RangeFuncBound
import Derived.RangeFuncCalls
import Derived.RangeFuncLeaves
import Derived.RangeFuncRecord
import Derived.WalkKit
import Derived.TacticsIn
import Derived.RegionIn
import Derived.OwnWalkIn
import Derived.TacticsInMore
import Derived.LoopNIn
import Derived.LoopIn
namespace Go.Proofs.YtohjpgcmhihdhaaDoor.Q
open Go.RowKit Go.Proofs.YtohjpgcmhihdhaaDoorW.PrintWords Go.Proofs.YtohjpgcmhihdhaaDoorW.PrintLast Go.Proofs.YtohjpgcmhihdhaaDoorW.PrintMore
attribute [local go_sem] max2_int min2_int max_two min_two max_three min_three max_four min_four   -- for this text's walks alone
set_option linter.unusedVariables false
set_option linter.unusedSimpArgs false
/-! ### spec_A8Tree: function 10 -/
def spec_A8Tree.f (k : Nat) (l0 : List Int) : Option ((List (S65)) × (List (S62))) := (spec_l00From.f l0).bind fun bt381 => ((spec_l06Draw.f k bt381.1 bt381.2.1 bt381.2.2).bind fun bt385 => (some (bt385.1, bt385.2.1)))
set_option maxHeartbeats 8000000 in
set_option maxRecDepth 100000 in
theorem spec_A8Tree.calls (k : Nat) (A0 : Option Addr) (c0 : Nat) (l0 : List Int) (r1 : List (S65)) (r2 : List (S62)) (w : World) (hr0 : Kd.C (Kd.int .u8) w A0 l0.length l0) (hc0 : l0.length ≤ c0) (h : spec_A8Tree.f k l0 = some (r1, r2)) :
    Calls Tryd.prog 10 #[.slice A0 l0.length c0] w fun e w' => ∃ v0_ v1_ : Value, e = .returned (.agg #[v0_, v1_]) ∧ Kd.R k65 65 w' w.heap.size (fun _ => True) v0_ r1 ∧ Kd.S k62 62 w' w.heap.size (fun _ => True) v1_ r2 ∧ Below w.heap.size w w' := by
  have hu32 := Tryd.underlying32
  have HR0 := Aside0.mk hr0
  have HC0 := Aside0.mk hc0
  clear hr0 hc0
  have HB := Aside0.mk (Below.refl w.heap.size w)
  have H : ((spec_l00From.f l0).bind fun bt381 => ((spec_l06Draw.f k bt381.1 bt381.2.1 bt381.2.2).bind fun bt385 => (some (bt385.1, bt385.2.1)))) = some (r1, r2) := h
  clear h
  replace H := Option.bind_eq_some_iff.mp H
  obtain ⟨⟨t381, t382, t383⟩, A20, H⟩ := H
  set_option simprocs false in try dsimp only at H
  have A2 := Aside0.mk A20
  clear A20
  replace H := Option.bind_eq_some_iff.mp H
  obtain ⟨⟨t385, t388, t391, t392⟩, A30, H⟩ := H
  set_option simprocs false in try dsimp only at H
  have A3 := Aside0.mk A30
  clear A30
  simp only [Option.some.injEq, Prod.mk.injEq] at H
  obtain ⟨rfl, rfl⟩ := H
  go_enter Tryd.func10, Tryd.ntmps10
  go_wp2_with (first | ((with_reducible refine gate_dst (N := 2) rfl ?_); refine box_event ?hg (N := 2) ?hd (cs := #[.slice none 0 0, .slice none 0 0]) (t := 32) ?hr ?_; (case hd => rfl); (case hg => rfl); (case hr => first | (go_simp; done) | (go_simp; rfl)); intro gb380 hg w4 hbox hb; have n0_ := Aside0.mk (below_step (by repeat first | exact HB.out | apply pw_below_drewN) hb); have n1_ := Aside0.mk (hbox); have n2_ := Aside0.mk ((by rw [hg]; exact (below_size (by repeat first | exact HB.out | apply pw_below_drewN)) : w.heap.size ≤ gb380)); have n3_ := Aside0.mk ((by rw [hg]; exact (below_size (by repeat first | exact HB.out | apply pw_below_drewN)) : w.heap.size ≤ gb380)); clear HB; have HB := n0_; have BK380 := n1_; have GW380 := n2_; have GE380 := n3_; clear n0_ n1_ n2_ n3_; clear hb hbox hg) | ((with_reducible refine gate_callee (f := 23) rfl ?_); refine goesL_ (some 5) rfl rfl Tryd.func23 (by kernel_rfl) rfl #[.slice A0 l0.length c0] rfl (by (try simp only [List.map_toArray, List.map_cons, List.map_nil]); first | done | rfl) ?_; (with_reducible refine (spec_l00From.calls _ _ l0 t381 t382 t383 w _ ?side1 ?side2 ?side3 A2.out).mono ?_); (case side1 => repeat (first | (with_reducible first | exact HB.out | apply below_alloc | apply pw_below_drewN | apply below_drew1 | refine below_set ?_ GE380.out) | exact HB.out)); (case side2 => exact HR0.out); (case side3 => exact HC0.out); rintro e w5 ⟨g384, rfl, hi, hb, hb2⟩; refine ⟨_, rfl, ?_⟩; have n0_ := Aside0.mk (blk_below (by exact BK380.out) hb2); have n1_ := Aside0.mk (hb); have n2_ := Aside0.mk (hi); have n3_ := Aside0.mk (IsS87.ne_blk hi (blk_below (by exact BK380.out) hb2) (by decide)); have n4_ := Aside0.mk (Ne.symm (IsS87.ne_blk hi (blk_below (by exact BK380.out) hb2) (by decide))); clear BK380; clear HB; have BK380 := n0_; have HB := n1_; have HI384 := n2_; have NB384_380 := n3_; have NB380_384 := n4_; clear n0_ n1_ n2_ n3_ n4_; (try clear hb); (try clear hb2); (try clear hk); (try clear hi)) | ((with_reducible refine gate_callee (f := 24) rfl ?_); refine goesL_ (some 7) rfl rfl Tryd.func24 (by kernel_rfl) rfl #[.pointer (some ⟨g384, 0, none⟩)] rfl (by (try simp only [List.map_toArray, List.map_cons, List.map_nil]); first | done | rfl) ?_; (with_reducible refine (spec_l06Draw.calls k g384 t381 t382 t383 t385 t388 t391 t392 w _ ?side1 ?side2 A3.out).mono ?_); (case side1 => repeat (first | (with_reducible first | exact HI384.out | apply IsS87.alloc | apply IsS87.drewN | apply IsS87.drew | apply IsS87.set_1 | apply IsS87.set_2 | refine IsS87.far ?_ NB384_380.out _) | exact HI384.out)); (case side2 => repeat (first | (with_reducible first | exact HB.out | apply below_alloc | apply pw_below_drewN | apply below_drew1 | refine below_set ?_ (IsS87.ge HI384.out) | refine below_set ?_ GE380.out) | exact HB.out)); rintro e w6 ⟨v386, v389, rfl, ho0, ho1, hi, hb, hk⟩; refine ⟨_, rfl, ?_⟩; have n0_ := Aside0.mk (KeepBut.blk hk (g' := gb380) (o := .cells #[.slice none 0 0, .slice none 0 0] 32 (0, 0)) (by exact BK380.out) NB380_384.out (by simp)); have n1_ := Aside0.mk (Kd.R_lower ho0 (below_size (by repeat (first | (with_reducible first | exact HB.out | apply below_alloc | apply pw_below_drewN | apply below_drew1 | refine below_set ?_ (IsS87.ge HI384.out) | refine below_set ?_ GE380.out) | exact HB.out)))); have n2_ := Aside0.mk (Kd.S_lower ho1 (below_size (by repeat (first | (with_reducible first | exact HB.out | apply below_alloc | apply pw_below_drewN | apply below_drew1 | refine below_set ?_ (IsS87.ge HI384.out) | refine below_set ?_ GE380.out) | exact HB.out)))); have n3_ := Aside0.mk (hb); have n4_ := Aside0.mk (hi); clear BK380; clear HB; clear HI384; have BK380 := n0_; have HO387 := n1_; have HO390 := n2_; have HB := n3_; have HI384 := n4_; clear n0_ n1_ n2_ n3_ n4_; (try clear hb); (try clear hb2); (try clear hk); (try clear hi); (try clear ho0); (try clear ho1); obtain ⟨Ao7, co7, eo7⟩ := Kd.R_slice HO387.out; subst eo7; have hnb8 := NB380_384.out; have hnc8 := NB384_380.out; have hcz9_0 := (blk_cell BK380.out 0).trans rfl; have hcz9_1 := (blk_cell BK380.out 1).trans rfl; have hfz9_0 := blk_frozen BK380.out 0; have hfz9_1 := blk_frozen BK380.out 1; obtain ⟨Ao10, co10, eo10⟩ := Kd.S_slice HO390.out; subst eo10))
  refine bodyPost_ret (results_cell_row rfl _ _ gb380 32 #[.slice Ao7 t385.length co7, .slice Ao10 t388.length co10] (0, 0) _ rfl (by (with_reducible repeat first | apply blk_drewN | apply blk_drew | apply blk_alloc); refine blk_put (cs := #[.slice Ao7 t385.length co7, .slice none 0 0]) ?_ 1 _ rfl; (with_reducible repeat first | apply blk_drewN | apply blk_drew | apply blk_alloc); refine blk_put (cs := #[.slice none 0 0, .slice none 0 0]) ?_ 0 _ rfl; (with_reducible repeat first | apply blk_drewN | apply blk_drew | apply blk_alloc); exact BK380.out) Tryd.underlying32 rfl (by kernel_rfl)) rfl ?_
  exact ⟨_, _, by first | rfl | (simp [*, errW_none, errW_some] <;> rfl), by (with_reducible repeat (first | apply Kd.R_alloc | apply Kd.R_drewN | apply Kd.R_drew)); exact Kd.R_mono (Kd.R_far (p := ⟨gb380, 1, none⟩) (Kd.R_far (p := ⟨gb380, 0, none⟩) (Kd.R_types HO387.out BK380.out (by decide)) (fun _ hk => hk.2) (.slice Ao7 t385.length co7)) (fun _ hk => hk.2) (.slice Ao10 t388.length co10)) (fun _ hk => trivial), by (with_reducible repeat (first | apply Kd.S_alloc | apply Kd.S_drewN | apply Kd.S_drew)); exact Kd.S_mono (Kd.S_far (p := ⟨gb380, 1, none⟩) (Kd.S_far (p := ⟨gb380, 0, none⟩) (Kd.S_types HO390.out BK380.out (by decide)) (fun _ hk => hk.2) (.slice Ao7 t385.length co7)) (fun _ hk => hk.2) (.slice Ao10 t388.length co10)) (fun _ hk => trivial), by repeat (first | (with_reducible first | exact HB.out | apply below_alloc | apply pw_below_drewN | apply below_drew1 | refine below_set ?_ (IsS87.ge HI384.out) | refine below_set ?_ GE380.out) | exact HB.out)⟩

end Go.Proofs.YtohjpgcmhihdhaaDoor.Q

namespace Go.Proofs.YtohjpgcmhihdhaaDoor.Pure
open Go.RowKit Go.Proofs.YtohjpgcmhihdhaaDoor.Q Go.Proofs.YtohjpgcmhihdhaaDoorW.PrintWords Go.Proofs.YtohjpgcmhihdhaaDoorW.PrintLast Go.Proofs.YtohjpgcmhihdhaaDoorW.PrintMore
set_option linter.unusedVariables false
set_option linter.unusedSimpArgs false
/-- devices with the Ids n, n + 1, .. and these weights -/
def dvs : Nat → List Int → List S65
  | _, [] => []
  | n, w :: ws => ⟨(n : Int), w⟩ :: dvs (n + 1) ws
/-- n, n + 1, .., n + c - 1 -/
def idsN : Nat → Nat → List Int
  | _, 0 => []
  | n, c + 1 => (n : Int) :: idsN (n + 1) c
/-- a, a - 1, .., a - c + 1 -/
def dn : Int → Nat → List Int
  | _, 0 => []
  | a, c + 1 => a :: dn (a - 1) c
/-- hosts with so many devices each -/
def hostsOf : Int → Nat → List Nat → List S62
  | _, _, [] => []
  | id, n, m :: ms => ⟨id, 1, idsN n m⟩ :: hostsOf (id - 1) (n + m) ms
/-- racks of two hosts each -/
def racksOf : Int → List Int → List S62
  | _, [] => []
  | id, [a] => [⟨id, 2, [a]⟩]
  | id, a :: b :: t => ⟨id, 2, [a, b]⟩ :: racksOf (id - 1) t
/-- the racks, if there are any, and the root -/
def topOf (b : Bool) (id : Int) (hs : List Int) : List S62 := if b = true then racksOf id hs ++ [⟨id - ((hs.length + 1) / 2 : Nat), 3, dn id ((hs.length + 1) / 2)⟩] else [⟨id, 3, hs⟩]
def shapeB (b : Bool) (ns : List Nat) : List S62 := hostsOf (-1) 0 ns ++ topOf b (-1 - (ns.length : Int)) (dn (-1) ns.length)
theorem dvs_length : ∀ (ws : List Int) (n : Nat), (dvs n ws).length = ws.length
  | [], n => rfl
  | w :: ws, n => by simp [dvs, dvs_length ws (n + 1)]
theorem dvs_app : ∀ (ws vs : List Int) (n : Nat), dvs n (ws ++ vs) = dvs n ws ++ dvs (n + ws.length) vs
  | [], vs, n => by simp [dvs]
  | w :: ws, vs, n => by
    simp only [List.cons_append, dvs, dvs_app ws vs (n + 1), List.length_cons]
    rw [show n + 1 + ws.length = n + (ws.length + 1) by omega]
theorem dn_length : ∀ (c : Nat) (a : Int), (dn a c).length = c
  | 0, a => rfl
  | c + 1, a => by simp [dn, dn_length c (a - 1)]

theorem own_some (l : List Int) (h : l.length < 17592186044416) : spec_l00Own.f l = some l := by
  unfold spec_l00Own.f
  rw [Option.bind_some, if_pos (by simpa using h)]
  rfl

/-! the loops of the draw -/
theorem racks_loop (l : List Int) (p sd : Int) (dv : List S65) : ∀ (rest pre top : List Int) (id : Int) (bk : List S62), pre.length + rest.length ≤ 5 → top.length + rest.length ≤ 10 → bk.length + rest.length ≤ 10 → -100 ≤ id - (rest.length : Int) → id ≤ 0 →
    Ev (fun k => spec_l06Draw.l2 k id (pre ++ rest) top (pre.length : Int) l p sd dv bk) (dv, bk ++ racksOf id rest ++ [⟨id - ((rest.length + 1) / 2 : Nat), 3, top ++ dn id ((rest.length + 1) / 2)⟩], p, sd)
  | [], pre, top, id, bk, h1, h2, h3, h4, h5 => by
    refine Ev.step (f := ?zf6) (fun k => ?_) ?_
    rotate_left
    · simp only [spec_l06Draw.l2, List.append_nil]
      simp only [List.length_nil] at h2 h3
      rw [if_neg (by omega), own_some top (by omega), Option.bind_some, if_pos (by omega)]
    · simp only [racksOf, List.append_nil, List.length_nil, dn, Nat.zero_add, Nat.reduceDiv, Int.ofNat_zero, Int.sub_zero]
      exact Ev.now _
  | [a], pre, top, id, bk, h1, h2, h3, h4, h5 => by
    simp only [List.length_cons, List.length_nil] at h1 h2 h3
    have el : ((pre ++ [a]).length : Int) = (pre.length : Int) + 1 := by simp
    refine Ev.step (f := ?zf7) (fun k => ?_) ?_
    rotate_left
    · simp only [spec_l06Draw.l2]
      rw [if_pos (by omega), show wrap64 ((pre.length : Int) + 2) = (pre.length : Int) + 2 from by unfold wrap64; omega, if_pos (by omega), if_pos (by omega), if_pos (by omega), if_pos (by omega), Int.toNat_natCast, Int.toNat_natCast, List.take_length, List.drop_left, own_some [a] (by simp), Option.bind_some, if_pos (by omega), if_pos (by omega), show wrap64 (id - 1) = id - 1 from by unfold wrap64; omega]
    · refine Ev.step (f := ?zf8) (fun k => ?_) ?_
      rotate_left
      · simp only [spec_l06Draw.l2]
        rw [if_neg (by omega), own_some _ (by simp; omega), Option.bind_some, if_pos (by simp; omega)]
      · simp only [racksOf, List.length_cons, List.length_nil, dn, List.append_assoc]
        exact Ev.now _
  | a :: b :: t, pre, top, id, bk, h1, h2, h3, h4, h5 => by
    simp only [List.length_cons] at h1 h2 h3
    have el : (pre ++ a :: b :: t).length = pre.length + t.length + 2 := by simp; omega
    have ih := racks_loop l p sd dv t (pre ++ [a, b]) (top ++ [id]) (id - 1) (bk ++ [⟨id, 2, [a, b]⟩]) (by simp; omega) (by simp; omega) (by simp; omega) (by simp only [List.length_cons] at h4; omega) (by omega)
    have ed : ((pre ++ a :: b :: t).take ((pre.length : Int) + 2).toNat).drop (pre.length : Int).toNat = [a, b] := by
      rw [show ((pre.length : Int) + 2).toNat = pre.length + 2 by omega, Int.toNat_natCast, List.take_append, List.take_of_length_le (by omega), show pre.length + 2 - pre.length = 2 by omega, List.drop_left]
      rfl
    refine Ev.step (f := ?zf9) (fun k => ?_) ?_
    rotate_left
    · simp only [spec_l06Draw.l2]
      rw [if_pos (by omega), show wrap64 ((pre.length : Int) + 2) = (pre.length : Int) + 2 from by unfold wrap64; omega, if_neg (by rw [el]; omega), if_pos (by omega), if_pos (by omega), if_pos (by rw [el]; omega), ed, own_some [a, b] (by simp), Option.bind_some, if_pos (by omega), if_pos (by omega), show wrap64 (id - 1) = id - 1 from by unfold wrap64; omega]
    · rw [show (pre.length : Int) + 2 = ((pre ++ [a, b]).length : Int) from by simp, show pre ++ a :: b :: t = (pre ++ [a, b]) ++ t from by simp]
      rw [show ((a :: b :: t).length + 1) / 2 = (t.length + 1) / 2 + 1 from by simp; omega]
      simp only [List.append_assoc, List.cons_append, List.nil_append, racksOf, dn] at ih ⊢
      rw [show id - (((t.length + 1) / 2 + 1 : Nat) : Int) = id - 1 - (((t.length + 1) / 2 : Nat) : Int) by omega]
      exact ih
section
variable (l : List Int) (hb : IsBytes l)
include hb
theorem devs_loop (x4 : Int) (x5 : List Int) (x6 b0 b1 : Int) (bk : List S62) (h5 : x5.length ≤ 10) (hk : bk.length ≤ 20) : ∀ (c : Nat) (dv : List S65) (it : List Int) (p sd : Int), dv.length + c < 16 → it.length + c ≤ 20 → 0 ≤ p → p + 4 * c ≤ 4611686018427380000 →
    ∃ ws p' sd', ws.length = c ∧ (∀ w ∈ ws, 0 ≤ w ∧ w ≤ 8) ∧ p ≤ p' ∧ p' ≤ p + 4 * c ∧ ∀ r, Ev (fun k => spec_l06Draw.l0 k (wrap64 (x4 - 1)) (x5 ++ [x4]) (wrap64 (x6 - 1)) l p' sd' (dv ++ dvs dv.length ws) (bk ++ [⟨b0, b1, it ++ idsN dv.length c⟩])) r → Ev (fun k => spec_l06Draw.l1 k x4 x5 x6 c l p sd dv bk b0 b1 it) r
  | 0, dv, it, p, sd, hd, hi, h0, h1 => by
    refine ⟨[], p, sd, rfl, by simp, by omega, by omega, fun r hr => ?_⟩
    refine Ev.step (f := ?zf1) (fun k => ?_) ?_
    rotate_left
    · simp only [spec_l06Draw.l1]
      rw [if_neg (by omega)]
    · refine Ev.step (f := ?zf2) (fun k => ?_) ?_
      rotate_left
      · simp only [spec_l06Draw.j2]
        rw [if_neg (by decide), if_pos (by omega), if_pos (by omega)]
      · simpa [dvs, idsN] using hr
  | c + 1, dv, it, p, sd, hd, hi, h0, h1 => by
    obtain ⟨v, p1, sd1, e1, a1, b1', v0, v1⟩ := pick_pos l hb p sd 9 h0 (by omega) (by omega)
    obtain ⟨i, p2, sd2, e2, a2, b2, i0, i1⟩ := among_is l hb p1 sd1 [1, 1, 2, 3, v] (by simp) (by omega) (by omega)
    have hw : 0 ≤ rd [1, 1, 2, 3, v] i ∧ rd [1, 1, 2, 3, v] i ≤ 8 := by
      have h : i = 0 ∨ i = 1 ∨ i = 2 ∨ i = 3 ∨ i = 4 := by simp at i1; omega
      rcases h with rfl | rfl | rfl | rfl | rfl <;> simp [rd] <;> omega
    generalize rd [1, 1, 2, 3, v] i = w at e2 hw
    obtain ⟨ws, p', sd', hl, hws, a3, b3, hr⟩ := devs_loop x4 x5 x6 b0 b1 bk h5 hk c (dv ++ [⟨(dv.length : Int), w⟩]) (it ++ [(dv.length : Int)]) p2 sd2 (by simp; omega) (by simp; omega) (by omega) (by omega)
    refine ⟨w :: ws, p', sd', by simp [hl], fun x hx => ?_, by omega, by omega, fun r h => ?_⟩
    · rcases List.mem_cons.1 hx with rfl | hx
      · exact hw
      · exact hws x hx
    · refine Ev.step (f := ?zf3) (fun k => ?_) ?_
      rotate_left
      · simp only [spec_l06Draw.l1]
        rw [if_pos (by omega), decide_eq_true (show (dv.length : Int) < 16 by omega)]
      · refine Ev.step (f := ?zf4) (fun k => ?_) ?_
        rotate_left
        · simp only [spec_l06Draw.j2, if_true, e1, e2, Option.bind_some]
          rw [if_pos (by omega), if_pos (by omega), show wrap64 (((c + 1 : Nat) : Int) - 1) = (c : Int) from by unfold wrap64; omega]
        · refine hr r ?_
          simp only [List.length_append, List.length_cons, List.length_nil, List.append_assoc, List.cons_append, List.nil_append] at h ⊢
          exact h
theorem hosts_loop : ∀ (c : Nat) (id : Int) (hs : List Int) (p sd : Int) (dv : List S65) (bk : List S62), dv.length + 3 * c < 16 → hs.length + c ≤ 5 → bk.length + c ≤ 10 → -100 ≤ id - c → id ≤ 0 → 0 ≤ p → p + 14 * c ≤ 4611686018427380000 →
    ∃ ns ws p' sd', ns.length = c ∧ (∀ n ∈ ns, 1 ≤ n ∧ n ≤ 3) ∧ ws.length = ns.sum ∧ (∀ w ∈ ws, 0 ≤ w ∧ w ≤ 8) ∧ p ≤ p' ∧ p' ≤ p + 14 * c ∧ ∀ r, Ev (fun k => spec_l06Draw.l0 k (id - c) (hs ++ dn id c) 0 l p' sd' (dv ++ dvs dv.length ws) (bk ++ hostsOf id dv.length ns)) r → Ev (fun k => spec_l06Draw.l0 k id hs c l p sd dv bk) r
  | 0, id, hs, p, sd, dv, bk, hd, hh, hk, hi, hi0, h0, h1 => by
    refine ⟨[], [], p, sd, rfl, by simp, rfl, by simp, by omega, by omega, fun r hr => ?_⟩
    simpa [dvs, dn, hostsOf] using hr
  | c + 1, id, hs, p, sd, dv, bk, hd, hh, hk, hi, hi0, h0, h1 => by
    obtain ⟨m, p1, sd1, e1, a1, b1, m0, m1⟩ := pick_pos l hb p sd 3 h0 (by omega) (by omega)
    obtain ⟨m, rfl⟩ := Int.eq_ofNat_of_zero_le m0
    obtain ⟨ws, p2, sd2, hl, hws, a2, b2, hr⟩ := devs_loop l hb id hs ((c + 1 : Nat) : Int) id 1 bk (by omega) (by omega) (m + 1) dv [] p1 sd1 (by omega) (by simp; omega) (by omega) (by omega)
    obtain ⟨ns, vs, p', sd', hn, hns, hvl, hvs, a3, b3, hq⟩ := hosts_loop c (id - 1) (hs ++ [id]) p2 sd2 (dv ++ dvs dv.length ws) (bk ++ [⟨id, 1, idsN dv.length (m + 1)⟩]) (by simp [dvs_length]; omega) (by simp; omega) (by simp; omega) (by omega) (by omega) (by omega) (by omega)
    refine ⟨(m + 1) :: ns, ws ++ vs, p', sd', by simp [hn], fun x hx => ?_, by simp [hl, hvl], fun x hx => ?_, by omega, by omega, fun r h => ?_⟩
    · rcases List.mem_cons.1 hx with rfl | hx
      · omega
      · exact hns x hx
    · rcases List.mem_append.1 hx with hx | hx
      · exact hws x hx
      · exact hvs x hx
    · refine Ev.step (f := ?zf5) (fun k => ?_) ?_
      rotate_left
      · simp only [spec_l06Draw.l0, e1, Option.bind_some]
        rw [if_pos (by omega), show wrap64 (1 + (m : Int)) = ((m + 1 : Nat) : Int) from by unfold wrap64; omega]
      · refine hr r ?_
        rw [show wrap64 (id - 1) = id - 1 from by unfold wrap64; omega, show wrap64 (((c + 1 : Nat) : Int) - 1) = (c : Int) from by unfold wrap64; omega, List.nil_append]
        refine hq r ?_
        have e : id - ((c + 1 : Nat) : Int) = id - 1 - (c : Int) := by omega
        rw [e] at h
        simp only [List.append_assoc, List.length_append, dvs_length, hl, dvs_app, dn, hostsOf, List.cons_append, List.nil_append] at h ⊢
        exact h
/-- the law's own topology, by its shape -/
theorem A8Tree_shape : ∃ ns ws b, 2 ≤ ns.length ∧ ns.length ≤ 5 ∧ (∀ n ∈ ns, 1 ≤ n ∧ n ≤ 3) ∧ ws.length = ns.sum ∧ (∀ w ∈ ws, 0 ≤ w ∧ w ≤ 8) ∧ Ev (fun k => spec_A8Tree.f k l) (dvs 0 ws, shapeB b ns) := by
  obtain ⟨c, p1, sd1, e1, a1, b1, c0, c1⟩ := pick_pos l hb 0 0 4 (by omega) (by omega) (by omega)
  obtain ⟨c, rfl⟩ := Int.eq_ofNat_of_zero_le c0
  obtain ⟨ns, ws, p2, sd2, hn, hns, hwl, hws, a2, b2, hr⟩ := hosts_loop l hb (c + 2) (-1) [] p1 sd1 [] [] (by simp; omega) (by simp; omega) (by simp; omega) (by omega) (by omega) (by omega) (by omega)
  obtain ⟨v, p3, sd3, e3, a3, b3, v0, v1⟩ := pick_pos l hb p2 sd2 2 (by omega) (by omega) (by omega)
  have hbl : ∀ (id : Int) (n : Nat) (ms : List Nat), (hostsOf id n ms).length = ms.length := fun id n ms => by
    induction ms generalizing id n with
    | nil => rfl
    | cons m ms ih => simp [hostsOf, ih]
  refine ⟨ns, ws, v == 0, by omega, by omega, hns, hwl, hws, ?_⟩
  have hfin : Ev (fun k => spec_l06Draw.f k l 0 0) (dvs 0 ws, shapeB (v == 0) ns, p3, sd3) := by
    unfold spec_l06Draw.f
    simp only [e1, Option.bind_some]
    rw [show wrap64 (2 + (c : Int)) = ((c + 2 : Nat) : Int) from by unfold wrap64; omega]
    refine hr _ ?_
    simp only [List.nil_append, List.length_nil]
    have hone : spec_l00Src_one.f l p2 sd2 2 = some (v == 0, p3, sd3) := by
      unfold spec_l00Src_one.f
      rw [e3, Option.bind_some]
    refine Ev.step (f := ?zf10) (fun k => ?_) ?_
    rotate_left
    · simp only [spec_l06Draw.l0]
      rw [if_neg (by omega), hone, Option.bind_some]
    · unfold shapeB topOf
      simp only [hn, dn_length]
      by_cases h : (v == 0) = true
      · simp only [if_pos h]
        have := racks_loop l p3 sd3 (dvs 0 ws) (dn (-1) (c + 2)) [] [] (-1 - ((c + 2 : Nat) : Int)) (hostsOf (-1) 0 ns) (by simp [dn_length]; omega) (by simp [dn_length]; omega) (by simp [dn_length, hbl]; omega) (by rw [dn_length]; omega) (by omega)
        simp only [List.nil_append, dn_length, List.length_nil, List.append_assoc] at this
        exact this
      · simp only [if_neg h, own_some (dn (-1) (c + 2)) (by rw [dn_length]; omega), Option.bind_some]
        rw [if_pos (by rw [hbl]; omega)]
        exact Ev.now _
  unfold spec_A8Tree.f spec_l00From.f
  simp only [Option.bind_some]
  exact Ev.bind hfin (Ev.now _)
end

/-! the shapes are valid -/
/-- the lists of c numbers 1 to 3 -/
def shapes : Nat → List (List Nat)
  | 0 => [[]]
  | c + 1 => (shapes c).flatMap fun t => [1 :: t, 2 :: t, 3 :: t]
theorem mem_shapes : ∀ (ns : List Nat), (∀ n ∈ ns, 1 ≤ n ∧ n ≤ 3) → ns ∈ shapes ns.length
  | [], _ => by simp [shapes]
  | n :: ns, h => by
    have h1 := mem_shapes ns (fun m hm => h m (by simp [hm]))
    have h2 := h n (by simp)
    simp only [shapes, List.length_cons, List.mem_flatMap]
    refine ⟨ns, h1, ?_⟩
    have : n = 1 ∨ n = 2 ∨ n = 3 := by omega
    rcases this with rfl | rfl | rfl <;> simp
def shapeOk (b : Bool) (ns : List Nat) : Bool := treeB (dvs 0 (List.replicate ns.sum 0)) (shapeB b ns) && (wfTree [] (shapeB b ns) && (decide ((shapeB b ns).length ≤ 12) && (decide (1 ≤ ns.sum) && (decide (ns.sum ≤ 15) && (decide (1 ≤ (shapeB b ns).length) && decide (kindAt (dvs 0 (List.replicate ns.sum 0)) (shapeB b ns) (rd_T62 (shapeB b ns) ((shapeB b ns).length - 1 : Nat)).f0 = 3))))))
theorem shapes_ok : ((shapes 2 ++ shapes 3 ++ shapes 4 ++ shapes 5).all fun ns => shapeOk true ns && shapeOk false ns) = true := by kernel_rfl
theorem shape_ok (b : Bool) (ns : List Nat) (h2 : 2 ≤ ns.length) (h5 : ns.length ≤ 5) (h : ∀ n ∈ ns, 1 ≤ n ∧ n ≤ 3) : shapeOk b ns = true := by
  have h1 := mem_shapes ns h
  have h3 : ns ∈ shapes 2 ++ shapes 3 ++ shapes 4 ++ shapes 5 := by
    have : ns.length = 2 ∨ ns.length = 3 ∨ ns.length = 4 ∨ ns.length = 5 := by omega
    simp only [List.mem_append]
    rcases this with e | e | e | e <;> rw [e] at h1 <;> simp [h1]
  have := List.all_eq_true.1 shapes_ok ns h3
  rw [Bool.and_eq_true] at this
  cases b
  · exact this.2
  · exact this.1
theorem idx_dvs (id : Int) : ∀ (ws vs : List Int) (n : Nat) (i : Int), ws.length = vs.length → idxFrom (fun x : S65 => x.f0 == id) (dvs n ws) i = idxFrom (fun x : S65 => x.f0 == id) (dvs n vs) i
  | [], [], n, i, _ => rfl
  | w :: ws, v :: vs, n, i, h => by
    simp only [dvs, idxFrom]
    rw [idx_dvs id ws vs (n + 1) (i + 1) (by simpa using h)]
  | [], v :: vs, n, i, h => by simp at h
  | w :: ws, [], n, i, h => by simp at h
theorem kind_dvs (B : List S62) (ws vs : List Int) (h : ws.length = vs.length) : kindAt (dvs 0 ws) B = kindAt (dvs 0 vs) B := by
  funext id
  unfold kindAt
  rw [idx_dvs id ws vs 0 0 h]
theorem items_dvs (B : List S62) (ws vs : List Int) (h : ws.length = vs.length) : itemsOkB (dvs 0 ws) B = itemsOkB (dvs 0 vs) B := by
  funext kd it
  unfold itemsOkB
  rw [kind_dvs B ws vs h]
theorem bktB_dvs (B : List S62) (ws vs : List Int) (h : ws.length = vs.length) : bktB (dvs 0 ws) B = bktB (dvs 0 vs) B := by
  funext i
  unfold bktB
  rw [items_dvs B ws vs h]
theorem tree_dvs (B : List S62) (ws vs : List Int) (h : ws.length = vs.length) : treeB (dvs 0 ws) B = treeB (dvs 0 vs) B := by
  have : ∀ d i u, treeGo (dvs 0 ws) B d i u = treeGo (dvs 0 vs) B d i u := fun d => by
    induction d with
    | zero => intro i u; rfl
    | succ d ih =>
      intro i u
      simp only [treeGo, bktB_dvs B ws vs h, ih]
  exact this _ _ _
theorem dvs_get : ∀ (ws : List Int) (n i : Nat) (h : i < (dvs n ws).length) (h' : i < ws.length), (dvs n ws)[i] = ⟨((n + i : Nat) : Int), ws[i]⟩
  | [], n, i, h, h' => by simp at h'
  | w :: ws, n, 0, h, h' => rfl
  | w :: ws, n, i + 1, h, h' => by
    simp only [dvs, List.getElem_cons_succ]
    rw [dvs_get ws (n + 1) i (by simpa [dvs] using h) (by simpa using h'), show n + 1 + i = n + (i + 1) by omega]
theorem devs_dvs (ws : List Int) (h : ∀ w ∈ ws, 0 ≤ w ∧ w ≤ 8) (hl : ws.length ≤ 15) : devsB (dvs 0 ws) = true := by
  have hlen := dvs_length ws 0
  unfold devsB
  rw [Bool.and_eq_true, List.all_eq_true]
  refine ⟨fun i hi => ?_, decide_eq_true (by omega)⟩
  have hi : i < (dvs 0 ws).length := by simpa using hi
  have hw := h ws[i] (List.getElem_mem (by omega))
  unfold devStep inB
  rw [rd_dev _ i hi, dvs_get ws 0 i hi (by omega)]
  simp only [Nat.zero_add]
  by_cases c : 0 < i
  · rw [show ((i : Int) - 1) = ((i - 1 : Nat) : Int) by omega, rd_dev _ (i - 1) (by omega), dvs_get ws 0 (i - 1) (by omega) (by omega)]
    simp
    omega
  · simp [c]
    omega
theorem wf_dvs : ∀ (ws : List Int) (n : Nat), (∀ w ∈ ws, 0 ≤ w ∧ w ≤ 8) → n + ws.length ≤ 100 → (dvs n ws).all (fun d => wfI d.f0 && wfI d.f1) = true
  | [], n, _, _ => rfl
  | w :: ws, n, h, hl => by
    have hw := h w (by simp)
    simp only [List.length_cons] at hl
    simp only [dvs, List.all_cons, wf_dvs ws (n + 1) (fun x hx => h x (by simp [hx])) (by omega), Bool.and_true]
    have e : ∀ x : Int, 0 ≤ x → x ≤ 100 → wfI x = true := fun x h0 h1 => by
      unfold wfI
      exact decide_eq_true (by omega)
    rw [e _ (by omega) (by omega), e w (by omega) (by omega)]
    rfl
/-- the law's own topology is valid; its last bucket is a root -/
theorem A8Tree_is (l : List Int) (hb : IsBytes l) : ∃ D B, Ev (fun k => spec_A8Tree.f k l) (D, B) ∧ treeOkB D B = true ∧ wfTree D B = true ∧ 1 ≤ D.length ∧ D.length ≤ 16 ∧ 1 ≤ B.length ∧ B.length ≤ 12 ∧ kindAt D B (rd_T62 B (B.length - 1 : Nat)).f0 = 3 := by
  obtain ⟨ns, ws, b, h2, h5, hns, hwl, hws, he⟩ := A8Tree_shape l hb
  have h := shape_ok b ns h2 h5 hns
  unfold shapeOk at h
  simp only [Bool.and_eq_true, decide_eq_true_eq] at h
  obtain ⟨ht, hw, h12, hs1, hs15, hB1, hk⟩ := h
  have hz : ws.length = (List.replicate ns.sum (0 : Int)).length := by simpa using hwl
  refine ⟨_, _, he, ?_, ?_, by rw [dvs_length]; omega, by rw [dvs_length]; omega, hB1, h12, ?_⟩
  · unfold treeOkB
    rw [devs_dvs ws hws (by omega), decide_eq_true h12, tree_dvs _ ws _ hz, ht]
    rfl
  · unfold wfTree at hw ⊢
    rw [wf_dvs ws 0 hws (by omega)]
    simpa using hw
  · rw [kind_dvs _ ws _ hz]
    exact hk

end Go.Proofs.YtohjpgcmhihdhaaDoor.Pure

namespace Go.Proofs.YtohjpgcmhihdhaaDoor.Q
open Go.RowKit Go.Proofs.YtohjpgcmhihdhaaDoorW.PrintWords Go.Proofs.YtohjpgcmhihdhaaDoorW.PrintLast Go.Proofs.YtohjpgcmhihdhaaDoorW.PrintMore
attribute [local go_sem] max2_int min2_int max_two min_two max_three min_three max_four min_four   -- for this text's walks alone
set_option linter.unusedVariables false
set_option linter.unusedSimpArgs false
theorem eqA65 (d : Nat) (w : World) (x0 y0 : Int) (x1 y1 : Int) :
    (Op.equalIn (d + 2) 65 (.agg #[.int .i64 x0, .int .i64 x1]) (.agg #[.int .i64 y0, .int .i64 y1])).run Tryd.prog w = .ok (x0 == y0 && (x1 == y1)) w := by
  refine eqA_of Tryd.underlying65 (by kernel_rfl) ?_
  refine eqf_cons (by rfl) (by go_simp; rfl) (by go_simp; rfl) (by go_simp) ?_
  exact eqf_last (by rfl) (by go_simp; rfl) (by go_simp; rfl) (by go_simp)

end Go.Proofs.YtohjpgcmhihdhaaDoor.Q

namespace Go.Proofs.YtohjpgcmhihdhaaDoor.Q
open Go.RowKit Go.Proofs.YtohjpgcmhihdhaaDoorW.PrintWords Go.Proofs.YtohjpgcmhihdhaaDoorW.PrintLast Go.Proofs.YtohjpgcmhihdhaaDoorW.PrintMore
attribute [local go_sem] max2_int min2_int max_two min_two max_three min_three max_four min_four   -- for this text's walks alone
set_option linter.unusedVariables false
set_option linter.unusedSimpArgs false

attribute [local go_sem high] eqA65
/-! ### impl_Device: function 55 -/
def impl_Device.l0 : Nat → List (S65) → List (S65) → Int → Int → Option (Bool)
  | 0, _, _, _, _ => none
  | k + 1, x0, x1, x12, x13 => if x13 < x12 then (if 0 ≤ x13 then (if x13 < (x0.length : Int) then (if x13 < (x1.length : Int) then (if (!(((rd_T65 x0 x13).f0) == ((rd_T65 x1 x13).f0)) || (!(((rd_T65 x0 x13).f1) == ((rd_T65 x1 x13).f1)))) = true then (some false) else (impl_Device.l0 k x0 x1 x12 (wrap64 (x13 + 1)))) else (none)) else (none)) else (none)) else (some true)
def impl_Device.f (k : Nat) (l0 : List (S65)) (l1 : List (S65)) : Option (Bool) := if (l0.length : Int) = (l1.length : Int) then (impl_Device.l0 k l0 l1 (l0.length : Int) 0) else (some false)
set_option maxHeartbeats 8000000 in
set_option maxRecDepth 100000 in
theorem impl_Device.calls (k : Nat) (A0 : Option Addr) (c0 : Nat) (l0 : List (S65)) (A1 : Option Addr) (c1 : Nat) (l1 : List (S65)) (r : Bool) (w : World) (hr0 : Kd.C k65 w A0 l0.length l0) (hc0 : l0.length ≤ c0) (hr1 : Kd.C k65 w A1 l1.length l1) (hc1 : l1.length ≤ c1) (h : impl_Device.f k l0 l1 = some r) :
    Calls Tryd.prog 55 #[.slice A0 l0.length c0, .slice A1 l1.length c1] w fun e w' => e = .returned (.bool r) ∧ Drawn0 w w' := by
  have hu65 := Tryd.underlying65
  have HR0 := Aside0.mk hr0
  have HC0 := Aside0.mk hc0
  clear hr0 hc0
  have HR1 := Aside0.mk hr1
  have HC1 := Aside0.mk hc1
  clear hr1 hc1
  have H : (if (l0.length : Int) = (l1.length : Int) then (impl_Device.l0 k l0 l1 (l0.length : Int) 0) else (some false)) = some r := h
  clear h
  by_cases c3 : (l0.length : Int) = (l1.length : Int)
  · rw [if_pos c3] at H
    have c3b0 : ((l0.length : Int) == (l1.length : Int)) = true := beq_iff_eq.mpr c3
    have c3b1 : ((l0.length : Int) != (l1.length : Int)) = false := bne_eq_false_iff_eq.mpr c3
    have c3b2 : (l0.length == l1.length) = true := by first | simpa using c3 | (simp at c3 ⊢; omega)
    clear c3
    have H' := Aside0.mk H
    clear H
    go_enter Tryd.func55, Tryd.ntmps55
    go_wp2
    repeat (go_quiet (fail); try go_wp2)
    go_loopg [13] k (fun kq v13 w' => ∃ (x13_1 : Int), v13 = .int .i64 x13_1 ∧ Aside0 (impl_Device.l0 kq l0 l1 (l0.length : Int) x13_1 = some r) ∧ Aside0 (kq ≤ k) ∧ Drawn0 w w')
    case atStart => exact ⟨(0), (by first | rfl | (simp; done) | (simp [*]; done)), H', ⟨Nat.le_refl _⟩, by repeat (first | exact Drawn0.refl _ | apply Drawn0.step)⟩
    case round =>
      clear H'
      try clear c1
      try clear p2
      try clear c3
      try clear c3b0
      try clear c3b1
      try clear c3b2
      obtain ⟨x13_1, rfl, HA, HK1, ⟨m1, rfl⟩⟩ := hrel
      cases gk with
      | zero => exact absurd HA.out (by simp [impl_Device.l0])
      | succ k1 =>
        have H := HA.out
        clear HA
        simp only [impl_Device.l0] at H
        by_cases c4 : x13_1 < (l0.length : Int)
        · rw [if_pos c4] at H
          have c4b0 : decide (x13_1 < (l0.length : Int)) = true := decide_eq_true c4
          clear c4
          by_cases c5 : 0 ≤ x13_1
          · rw [if_pos c5] at H
            have c5b0 : decide (0 ≤ x13_1) = true := decide_eq_true c5
            clear c5
            by_cases c6 : x13_1 < (l0.length : Int)
            · rw [if_pos c6] at H
              have c6b0 : decide (x13_1 < (l0.length : Int)) = true := decide_eq_true c6
              clear c6
              by_cases c7 : x13_1 < (l1.length : Int)
              · rw [if_pos c7] at H
                have c7b0 : decide (x13_1 < (l1.length : Int)) = true := decide_eq_true c7
                clear c7
                by_cases c8 : (!(((rd_T65 l0 x13_1).f0) == ((rd_T65 l1 x13_1).f0)) || (!(((rd_T65 l0 x13_1).f1) == ((rd_T65 l1 x13_1).f1)))) = true
                · rw [if_pos c8] at H
                  have c8b0 : (!(((rd_T65 l0 x13_1).f0) == ((rd_T65 l1 x13_1).f0)) || (!(((rd_T65 l0 x13_1).f1) == ((rd_T65 l1 x13_1).f1)))) = true := c8
                  clear c8
                  obtain rfl := Option.some.inj H
                  have p414 : 0 ≤ (x13_1 : Int) := of_decide_eq_true (by assumption)
                  have q414 : x13_1 < (l0.length : Int) := of_decide_eq_true (by assumption)
                  obtain ⟨ad414, e414, hx414_0, hx414_1⟩ := at_T65 HR0.out x13_1 p414 q414
                  cases e414
                  replace p414 := eq_true p414
                  replace q414 := eq_true q414
                  have p415 : 0 ≤ (x13_1 : Int) := of_decide_eq_true (by assumption)
                  have q415 : x13_1 < (l1.length : Int) := of_decide_eq_true (by assumption)
                  obtain ⟨ad415, e415, hx415_0, hx415_1⟩ := at_T65 HR1.out x13_1 p415 q415
                  cases e415
                  replace p415 := eq_true p415
                  replace q415 := eq_true q415
                  go_wp2
                  repeat (go_quiet (fail); try go_wp2)
                  go_ret
                  exact ⟨by first | rfl | (simp; done) | (simp [*]; done), by repeat (first | exact Drawn0.refl _ | apply Drawn0.step)⟩
                · rw [if_neg c8] at H
                  have c8b0 : (!(((rd_T65 l0 x13_1).f0) == ((rd_T65 l1 x13_1).f0)) || (!(((rd_T65 l0 x13_1).f1) == ((rd_T65 l1 x13_1).f1)))) = false := by simpa using c8
                  clear c8
                  have H' := Aside0.mk H
                  clear H
                  have p414 : 0 ≤ (x13_1 : Int) := of_decide_eq_true (by assumption)
                  have q414 : x13_1 < (l0.length : Int) := of_decide_eq_true (by assumption)
                  obtain ⟨ad414, e414, hx414_0, hx414_1⟩ := at_T65 HR0.out x13_1 p414 q414
                  cases e414
                  replace p414 := eq_true p414
                  replace q414 := eq_true q414
                  have p415 : 0 ≤ (x13_1 : Int) := of_decide_eq_true (by assumption)
                  have q415 : x13_1 < (l1.length : Int) := of_decide_eq_true (by assumption)
                  obtain ⟨ad415, e415, hx415_0, hx415_1⟩ := at_T65 HR1.out x13_1 p415 q415
                  cases e415
                  replace p415 := eq_true p415
                  replace q415 := eq_true q415
                  go_wp2
                  repeat (go_quiet (fail); try go_wp2)
                  go_roundg k1
                  case measure => have := HK1.out; omega
                  case rel => exact ⟨(wrap64 (x13_1 + 1)), (by first | rfl | (simp; done) | (simp [*]; done)), H', ⟨by have := HK1.out; omega⟩, by repeat (first | exact Drawn0.refl _ | apply Drawn0.step)⟩
              · rw [if_neg c7] at H
                exact absurd H (by simp)
            · rw [if_neg c6] at H
              exact absurd H (by simp)
          · rw [if_neg c5] at H
            exact absurd H (by simp)
        · rw [if_neg c4] at H
          have c4b0 : decide (x13_1 < (l0.length : Int)) = false := decide_eq_false c4
          clear c4
          obtain rfl := Option.some.inj H
          go_wp2
          repeat (go_quiet (fail); try go_wp2)
          go_ret
          exact ⟨by first | rfl | (simp; done) | (simp [*]; done), by repeat (first | exact Drawn0.refl _ | apply Drawn0.step)⟩
  · rw [if_neg c3] at H
    have c3b0 : ((l0.length : Int) == (l1.length : Int)) = false := beq_eq_false_iff_ne.mpr c3
    have c3b1 : ((l0.length : Int) != (l1.length : Int)) = true := bne_iff_ne.mpr c3
    have c3b2 : (l0.length == l1.length) = false := by first | simpa using c3 | (simp at c3 ⊢; omega)
    obtain rfl := Option.some.inj H
    go_enter Tryd.func55, Tryd.ntmps55
    go_wp2
    repeat (go_quiet (fail); try go_wp2)
    go_ret
    exact ⟨by first | rfl | (simp; done) | (simp [*]; done), by repeat (first | exact Drawn0.refl _ | apply Drawn0.step)⟩

end Go.Proofs.YtohjpgcmhihdhaaDoor.Q

namespace Go.Proofs.YtohjpgcmhihdhaaDoor.Q
open Go.RowKit Go.Proofs.YtohjpgcmhihdhaaDoorW.PrintWords Go.Proofs.YtohjpgcmhihdhaaDoorW.PrintLast Go.Proofs.YtohjpgcmhihdhaaDoorW.PrintMore
attribute [local go_sem] max2_int min2_int max_two min_two max_three min_three max_four min_four   -- for this text's walks alone
set_option linter.unusedVariables false
set_option linter.unusedSimpArgs false
/-! ### slices_Equal_int64_int64: function 73 -/
def slices_Equal_int64_int64.l0 : Nat → List Int → List Int → Int → Int → Option (Bool)
  | 0, _, _, _, _ => none
  | k + 1, x0, x1, x12, x13 => if x13 < x12 then (if 0 ≤ x13 then (if x13 < (x0.length : Int) then (if x13 < (x1.length : Int) then (if (rd x0 x13) = (rd x1 x13) then (slices_Equal_int64_int64.l0 k x0 x1 x12 (wrap64 (x13 + 1))) else (some false)) else (none)) else (none)) else (none)) else (some true)
def slices_Equal_int64_int64.f (k : Nat) (l0 : List Int) (l1 : List Int) : Option (Bool) := if (l0.length : Int) = (l1.length : Int) then (slices_Equal_int64_int64.l0 k l0 l1 (l0.length : Int) 0) else (some false)
set_option maxHeartbeats 8000000 in
set_option maxRecDepth 100000 in
theorem slices_Equal_int64_int64.calls (k : Nat) (A0 : Option Addr) (c0 : Nat) (l0 : List Int) (A1 : Option Addr) (c1 : Nat) (l1 : List Int) (r : Bool) (w : World) (hr0 : Kd.C (Kd.int .i64) w A0 l0.length l0) (hc0 : l0.length ≤ c0) (hr1 : Kd.C (Kd.int .i64) w A1 l1.length l1) (hc1 : l1.length ≤ c1) (h : slices_Equal_int64_int64.f k l0 l1 = some r) :
    Calls Tryd.prog 73 #[.slice A0 l0.length c0, .slice A1 l1.length c1] w fun e w' => e = .returned (.bool r) ∧ Drawn0 w w' := by
  have HR0 := Aside0.mk hr0
  have HC0 := Aside0.mk hc0
  clear hr0 hc0
  have HR1 := Aside0.mk hr1
  have HC1 := Aside0.mk hc1
  clear hr1 hc1
  have H : (if (l0.length : Int) = (l1.length : Int) then (slices_Equal_int64_int64.l0 k l0 l1 (l0.length : Int) 0) else (some false)) = some r := h
  clear h
  by_cases c3 : (l0.length : Int) = (l1.length : Int)
  · rw [if_pos c3] at H
    have c3b0 : ((l0.length : Int) == (l1.length : Int)) = true := beq_iff_eq.mpr c3
    have c3b1 : ((l0.length : Int) != (l1.length : Int)) = false := bne_eq_false_iff_eq.mpr c3
    have c3b2 : (l0.length == l1.length) = true := by first | simpa using c3 | (simp at c3 ⊢; omega)
    clear c3
    have H' := Aside0.mk H
    clear H
    go_enter Tryd.func73, Tryd.ntmps73
    go_wp2
    repeat (go_quiet (fail); try go_wp2)
    go_loopg [13] k (fun kq v13 w' => ∃ (x13_1 : Int), v13 = .int .i64 x13_1 ∧ Aside0 (slices_Equal_int64_int64.l0 kq l0 l1 (l0.length : Int) x13_1 = some r) ∧ Aside0 (kq ≤ k) ∧ Drawn0 w w')
    case atStart => exact ⟨(0), (by first | rfl | (simp; done) | (simp [*]; done)), H', ⟨Nat.le_refl _⟩, by repeat (first | exact Drawn0.refl _ | apply Drawn0.step)⟩
    case round =>
      clear H'
      try clear c1
      try clear p2
      try clear c3
      try clear c3b0
      try clear c3b1
      try clear c3b2
      obtain ⟨x13_1, rfl, HA, HK1, ⟨m1, rfl⟩⟩ := hrel
      cases gk with
      | zero => exact absurd HA.out (by simp [slices_Equal_int64_int64.l0])
      | succ k1 =>
        have H := HA.out
        clear HA
        simp only [slices_Equal_int64_int64.l0] at H
        by_cases c4 : x13_1 < (l0.length : Int)
        · rw [if_pos c4] at H
          have c4b0 : decide (x13_1 < (l0.length : Int)) = true := decide_eq_true c4
          clear c4
          by_cases c5 : 0 ≤ x13_1
          · rw [if_pos c5] at H
            have c5b0 : decide (0 ≤ x13_1) = true := decide_eq_true c5
            clear c5
            by_cases c6 : x13_1 < (l0.length : Int)
            · rw [if_pos c6] at H
              have c6b0 : decide (x13_1 < (l0.length : Int)) = true := decide_eq_true c6
              clear c6
              by_cases c7 : x13_1 < (l1.length : Int)
              · rw [if_pos c7] at H
                have c7b0 : decide (x13_1 < (l1.length : Int)) = true := decide_eq_true c7
                clear c7
                by_cases c8 : (rd l0 x13_1) = (rd l1 x13_1)
                · rw [if_pos c8] at H
                  have c8b0 : ((rd l0 x13_1) == (rd l1 x13_1)) = true := beq_iff_eq.mpr c8
                  have c8b1 : ((rd l0 x13_1) != (rd l1 x13_1)) = false := bne_eq_false_iff_eq.mpr c8
                  clear c8
                  have H' := Aside0.mk H
                  clear H
                  have p416 : 0 ≤ (x13_1 : Int) := of_decide_eq_true (by assumption)
                  have q416 : x13_1 < (l0.length : Int) := of_decide_eq_true (by assumption)
                  obtain ⟨ad416, e416, hx416_0⟩ := Kd.at_int HR0.out x13_1 p416 q416
                  cases e416
                  replace p416 := eq_true p416
                  replace q416 := eq_true q416
                  have p417 : 0 ≤ (x13_1 : Int) := of_decide_eq_true (by assumption)
                  have q417 : x13_1 < (l1.length : Int) := of_decide_eq_true (by assumption)
                  obtain ⟨ad417, e417, hx417_0⟩ := Kd.at_int HR1.out x13_1 p417 q417
                  cases e417
                  replace p417 := eq_true p417
                  replace q417 := eq_true q417
                  go_wp2
                  repeat (go_quiet (fail); try go_wp2)
                  go_roundg k1
                  case measure => have := HK1.out; omega
                  case rel => exact ⟨(wrap64 (x13_1 + 1)), (by first | rfl | (simp; done) | (simp [*]; done)), H', ⟨by have := HK1.out; omega⟩, by repeat (first | exact Drawn0.refl _ | apply Drawn0.step)⟩
                · rw [if_neg c8] at H
                  have c8b0 : ((rd l0 x13_1) == (rd l1 x13_1)) = false := beq_eq_false_iff_ne.mpr c8
                  have c8b1 : ((rd l0 x13_1) != (rd l1 x13_1)) = true := bne_iff_ne.mpr c8
                  obtain rfl := Option.some.inj H
                  have p416 : 0 ≤ (x13_1 : Int) := of_decide_eq_true (by assumption)
                  have q416 : x13_1 < (l0.length : Int) := of_decide_eq_true (by assumption)
                  obtain ⟨ad416, e416, hx416_0⟩ := Kd.at_int HR0.out x13_1 p416 q416
                  cases e416
                  replace p416 := eq_true p416
                  replace q416 := eq_true q416
                  have p417 : 0 ≤ (x13_1 : Int) := of_decide_eq_true (by assumption)
                  have q417 : x13_1 < (l1.length : Int) := of_decide_eq_true (by assumption)
                  obtain ⟨ad417, e417, hx417_0⟩ := Kd.at_int HR1.out x13_1 p417 q417
                  cases e417
                  replace p417 := eq_true p417
                  replace q417 := eq_true q417
                  go_wp2
                  repeat (go_quiet (fail); try go_wp2)
                  go_ret
                  exact ⟨by first | rfl | (simp; done) | (simp [*]; done), by repeat (first | exact Drawn0.refl _ | apply Drawn0.step)⟩
              · rw [if_neg c7] at H
                exact absurd H (by simp)
            · rw [if_neg c6] at H
              exact absurd H (by simp)
          · rw [if_neg c5] at H
            exact absurd H (by simp)
        · rw [if_neg c4] at H
          have c4b0 : decide (x13_1 < (l0.length : Int)) = false := decide_eq_false c4
          clear c4
          obtain rfl := Option.some.inj H
          go_wp2
          repeat (go_quiet (fail); try go_wp2)
          go_ret
          exact ⟨by first | rfl | (simp; done) | (simp [*]; done), by repeat (first | exact Drawn0.refl _ | apply Drawn0.step)⟩
  · rw [if_neg c3] at H
    have c3b0 : ((l0.length : Int) == (l1.length : Int)) = false := beq_eq_false_iff_ne.mpr c3
    have c3b1 : ((l0.length : Int) != (l1.length : Int)) = true := bne_iff_ne.mpr c3
    have c3b2 : (l0.length == l1.length) = false := by first | simpa using c3 | (simp at c3 ⊢; omega)
    obtain rfl := Option.some.inj H
    go_enter Tryd.func73, Tryd.ntmps73
    go_wp2
    repeat (go_quiet (fail); try go_wp2)
    go_ret
    exact ⟨by first | rfl | (simp; done) | (simp [*]; done), by repeat (first | exact Drawn0.refl _ | apply Drawn0.step)⟩

/-! ### impl_sameBucket: function 57 -/
def impl_sameBucket.f (k : Nat) (a0_0 : Int) (a0_1 : Int) (l0_2 : List Int) (a1_0 : Int) (a1_1 : Int) (l1_2 : List Int) : Option (Bool) := if a0_0 = a1_0 then (if a0_1 = a1_1 then ((slices_Equal_int64_int64.f k l0_2 l1_2).bind fun t420 => (some t420)) else (some false)) else (some false)
set_option maxHeartbeats 8000000 in
set_option maxRecDepth 100000 in
theorem impl_sameBucket.calls (k : Nat) (a0_0 : Int) (a0_1 : Int) (A0_2 : Option Addr) (c0_2 : Nat) (l0_2 : List Int) (a1_0 : Int) (a1_1 : Int) (A1_2 : Option Addr) (c1_2 : Nat) (l1_2 : List Int) (r : Bool) (w : World) (hr0_2 : Kd.C (Kd.int .i64) w A0_2 l0_2.length l0_2) (hc0_2 : l0_2.length ≤ c0_2) (hr1_2 : Kd.C (Kd.int .i64) w A1_2 l1_2.length l1_2) (hc1_2 : l1_2.length ≤ c1_2) (h : impl_sameBucket.f k a0_0 a0_1 l0_2 a1_0 a1_1 l1_2 = some r) :
    Calls Tryd.prog 57 #[.agg #[.int .i64 a0_0, .int .i64 a0_1, .slice A0_2 l0_2.length c0_2], .agg #[.int .i64 a1_0, .int .i64 a1_1, .slice A1_2 l1_2.length c1_2]] w fun e w' => e = .returned (.bool r) ∧ Below w.heap.size w w' := by
  have hu62 := Tryd.underlying62
  have HR0_2 := Aside0.mk hr0_2
  have HC0_2 := Aside0.mk hc0_2
  clear hr0_2 hc0_2
  have HR1_2 := Aside0.mk hr1_2
  have HC1_2 := Aside0.mk hc1_2
  clear hr1_2 hc1_2
  have HB := Aside0.mk (Below.refl w.heap.size w)
  have H : (if a0_0 = a1_0 then (if a0_1 = a1_1 then ((slices_Equal_int64_int64.f k l0_2 l1_2).bind fun t420 => (some t420)) else (some false)) else (some false)) = some r := h
  clear h
  by_cases c3 : a0_0 = a1_0
  · rw [if_pos c3] at H
    have c3b0 : (a0_0 == a1_0) = true := beq_iff_eq.mpr c3
    have c3b1 : (a0_0 != a1_0) = false := bne_eq_false_iff_eq.mpr c3
    clear c3
    by_cases c4 : a0_1 = a1_1
    · rw [if_pos c4] at H
      have c4b0 : (a0_1 == a1_1) = true := beq_iff_eq.mpr c4
      have c4b1 : (a0_1 != a1_1) = false := bne_eq_false_iff_eq.mpr c4
      clear c4
      replace H := Option.bind_eq_some_iff.mp H
      obtain ⟨t420, A50, H⟩ := H
      set_option simprocs false in try dsimp only at H
      have A5 := Aside0.mk A50
      clear A50
      obtain rfl := Option.some.inj H
      go_enter Tryd.func57, Tryd.ntmps57
      go_wp2_with (first | ((with_reducible refine gate_dst (N := 2) rfl ?_); refine box_event ?hg (N := 2) ?hd (cs := #[.int .i64 a0_0, .int .i64 a0_1, .slice A0_2 l0_2.length c0_2]) (t := 62) ?hr ?_; (case hd => rfl); (case hg => rfl); (case hr => first | (go_simp; done) | (go_simp; rfl)); intro gb418 hg w6 hbox hb; have n0_ := Aside0.mk (below_step (by repeat first | exact HB.out | apply pw_below_drewN) hb); have n1_ := Aside0.mk (hbox); clear HB; have HB := n0_; have BK418 := n1_; clear n0_ n1_; clear hb hbox hg) | ((with_reducible refine gate_dst (N := 3) rfl ?_); refine box_event ?hg (N := 3) ?hd (cs := #[.int .i64 a1_0, .int .i64 a1_1, .slice A1_2 l1_2.length c1_2]) (t := 62) ?hr ?_; (case hd => rfl); (case hg => rfl); (case hr => first | (go_simp; done) | (go_simp; rfl)); intro gb419 hg w7 hbox hb; have n0_ := Aside0.mk (blk_below (by exact BK418.out) hb); have n1_ := Aside0.mk (below_step (by repeat first | exact HB.out | apply pw_below_drewN) hb); have n2_ := Aside0.mk (hbox); clear BK418; clear HB; have BK418 := n0_; have HB := n1_; have BK419 := n2_; clear n0_ n1_ n2_; clear hb hbox hg; have hcz9_0 := (blk_cell BK418.out 0).trans rfl; have hcz9_1 := (blk_cell BK418.out 1).trans rfl; have hcz9_2 := (blk_cell BK418.out 2).trans rfl; have hcz10_0 := (blk_cell BK419.out 0).trans rfl; have hcz10_1 := (blk_cell BK419.out 1).trans rfl; have hcz10_2 := (blk_cell BK419.out 2).trans rfl) | (go_at_call 73; (with_reducible refine (slices_Equal_int64_int64.calls k _ _ l0_2 _ _ l1_2 t420 _ ?side1 ?side2 ?side3 ?side4 A5.out).mono ?_); (case side1 => exact (Kd.C_below HR0_2.out HB.out)); (case side2 => exact HC0_2.out); (case side3 => exact (Kd.C_below HR1_2.out HB.out)); (case side4 => exact HC1_2.out); rintro e w' ⟨rfl, ⟨nd, rfl⟩⟩))
      go_ret
      exact ⟨by first | rfl | (simp [*, errW_none, errW_some] <;> rfl), by repeat first | exact HB.out | apply pw_below_drewN⟩
    · rw [if_neg c4] at H
      have c4b0 : (a0_1 == a1_1) = false := beq_eq_false_iff_ne.mpr c4
      have c4b1 : (a0_1 != a1_1) = true := bne_iff_ne.mpr c4
      obtain rfl := Option.some.inj H
      go_enter Tryd.func57, Tryd.ntmps57
      go_wp2_with (first | ((with_reducible refine gate_dst (N := 2) rfl ?_); refine box_event ?hg (N := 2) ?hd (cs := #[.int .i64 a0_0, .int .i64 a0_1, .slice A0_2 l0_2.length c0_2]) (t := 62) ?hr ?_; (case hd => rfl); (case hg => rfl); (case hr => first | (go_simp; done) | (go_simp; rfl)); intro gb418 hg w11 hbox hb; have n0_ := Aside0.mk (below_step (by repeat first | exact HB.out | apply pw_below_drewN) hb); have n1_ := Aside0.mk (hbox); clear HB; have HB := n0_; have BK418 := n1_; clear n0_ n1_; clear hb hbox hg) | ((with_reducible refine gate_dst (N := 3) rfl ?_); refine box_event ?hg (N := 3) ?hd (cs := #[.int .i64 a1_0, .int .i64 a1_1, .slice A1_2 l1_2.length c1_2]) (t := 62) ?hr ?_; (case hd => rfl); (case hg => rfl); (case hr => first | (go_simp; done) | (go_simp; rfl)); intro gb419 hg w12 hbox hb; have n0_ := Aside0.mk (blk_below (by exact BK418.out) hb); have n1_ := Aside0.mk (below_step (by repeat first | exact HB.out | apply pw_below_drewN) hb); have n2_ := Aside0.mk (hbox); clear BK418; clear HB; have BK418 := n0_; have HB := n1_; have BK419 := n2_; clear n0_ n1_ n2_; clear hb hbox hg; have hcz14_0 := (blk_cell BK418.out 0).trans rfl; have hcz14_1 := (blk_cell BK418.out 1).trans rfl; have hcz14_2 := (blk_cell BK418.out 2).trans rfl; have hcz15_0 := (blk_cell BK419.out 0).trans rfl; have hcz15_1 := (blk_cell BK419.out 1).trans rfl; have hcz15_2 := (blk_cell BK419.out 2).trans rfl))
      go_ret
      exact ⟨by first | rfl | (simp [*, errW_none, errW_some] <;> rfl), by repeat first | exact HB.out | apply pw_below_drewN⟩
  · rw [if_neg c3] at H
    have c3b0 : (a0_0 == a1_0) = false := beq_eq_false_iff_ne.mpr c3
    have c3b1 : (a0_0 != a1_0) = true := bne_iff_ne.mpr c3
    obtain rfl := Option.some.inj H
    go_enter Tryd.func57, Tryd.ntmps57
    go_wp2_with (first | ((with_reducible refine gate_dst (N := 2) rfl ?_); refine box_event ?hg (N := 2) ?hd (cs := #[.int .i64 a0_0, .int .i64 a0_1, .slice A0_2 l0_2.length c0_2]) (t := 62) ?hr ?_; (case hd => rfl); (case hg => rfl); (case hr => first | (go_simp; done) | (go_simp; rfl)); intro gb418 hg w16 hbox hb; have n0_ := Aside0.mk (below_step (by repeat first | exact HB.out | apply pw_below_drewN) hb); have n1_ := Aside0.mk (hbox); clear HB; have HB := n0_; have BK418 := n1_; clear n0_ n1_; clear hb hbox hg) | ((with_reducible refine gate_dst (N := 3) rfl ?_); refine box_event ?hg (N := 3) ?hd (cs := #[.int .i64 a1_0, .int .i64 a1_1, .slice A1_2 l1_2.length c1_2]) (t := 62) ?hr ?_; (case hd => rfl); (case hg => rfl); (case hr => first | (go_simp; done) | (go_simp; rfl)); intro gb419 hg w17 hbox hb; have n0_ := Aside0.mk (blk_below (by exact BK418.out) hb); have n1_ := Aside0.mk (below_step (by repeat first | exact HB.out | apply pw_below_drewN) hb); have n2_ := Aside0.mk (hbox); clear BK418; clear HB; have BK418 := n0_; have HB := n1_; have BK419 := n2_; clear n0_ n1_ n2_; clear hb hbox hg; have hcz19_0 := (blk_cell BK418.out 0).trans rfl; have hcz19_1 := (blk_cell BK418.out 1).trans rfl; have hcz19_2 := (blk_cell BK418.out 2).trans rfl; have hcz20_0 := (blk_cell BK419.out 0).trans rfl; have hcz20_1 := (blk_cell BK419.out 1).trans rfl; have hcz20_2 := (blk_cell BK419.out 2).trans rfl))
    go_ret
    exact ⟨by first | rfl | (simp [*, errW_none, errW_some] <;> rfl), by repeat first | exact HB.out | apply pw_below_drewN⟩

/-! ### impl_sameTree: function 28 -/
/-- are the pairs of two lists alike, one behind the other, by a test that may not be told? -/
def pairGo {α : Type} (g : α → α → Option Bool) : List α → List α → Option Bool
  | [], [] => some true
  | x :: xs, y :: ys => (g x y).bind fun b => if b = true then pairGo g xs ys else some false
  | _, _ => none
theorem pairGo_here {α : Type} (g : α → α → Option Bool) (l m : List α) (i : Int) (h0 : 0 ≤ i) (h1 : i < (l.length : Int)) (h2 : i < (m.length : Int)) (z : α) : pairGo g (l.drop i.toNat) (m.drop i.toNat) = (g (l.getD i.toNat z) (m.getD i.toNat z)).bind fun b => if b = true then pairGo g (l.drop (i + 1).toNat) (m.drop (i + 1).toNat) else some false := by
  obtain ⟨n, rfl⟩ := Int.eq_ofNat_of_zero_le h0
  have hl : n < l.length := by omega
  have hm : n < m.length := by omega
  have e : ((n : Int) + 1).toNat = n + 1 := by omega
  rw [e, Int.toNat_natCast, List.drop_eq_getElem_cons hl, List.drop_eq_getElem_cons hm, List.getD_eq_getElem?_getD, List.getD_eq_getElem?_getD, List.getElem?_eq_getElem hl, List.getElem?_eq_getElem hm]
  rfl
theorem pairGo_mono {α : Type} (g g' : α → α → Option Bool) (h : ∀ x y, LeO (g x y) (g' x y)) : ∀ l m, LeO (pairGo g l m) (pairGo g' l m)
  | [], [] => LeO.refl _
  | x :: xs, y :: ys => by
    unfold pairGo
    exact LeO.bind (h x y) (fun _ => LeO.ite (pairGo_mono g g' h xs ys) (LeO.refl _))
  | [], _ :: _ => LeO.refl _
  | _ :: _, [] => LeO.refl _
def bktF (k : Nat) (x y : S62) : Option Bool := impl_sameBucket.f k x.f0 x.f1 x.f2 y.f0 y.f1 y.f2
set_option maxHeartbeats 4000000 in
set_option maxRecDepth 100000 in
theorem eqBuckets_ne.calls (A1 : Option Addr) (c1 : Nat) (l1 : List (S62)) (A2 : Option Addr) (c2 : Nat) (l2 : List (S62)) (v : Value) (w : World) (hn : ¬ l1.length = l2.length) :
    Calls Tryd.prog 56 #[.slice A1 l1.length c1, .slice A2 l2.length c2, v] w fun e w' => e = .returned (.bool false) ∧ Below w.heap.size w w' := by
  have c3 : ¬ (l1.length : Int) = (l2.length : Int) := by omega
  have c3b1 : ((l1.length : Int) != (l2.length : Int)) = true := by simpa using c3
  have c3b2 : (l1.length == l2.length) = false := by simpa using hn
  clear hn c3
  go_enter Tryd.func56, Tryd.ntmps56
  go_wp2_with fail
  repeat (go_quiet (fail); try go_wp2)
  go_ret
  exact ⟨rfl, Drawn0.below (by repeat (first | exact Drawn0.refl _ | apply Drawn0.step))⟩
set_option maxHeartbeats 4000000 in
set_option maxRecDepth 100000 in
theorem eqBuckets.calls (k : Nat) (A1 : Option Addr) (c1 : Nat) (l1 : List (S62)) (A2 : Option Addr) (c2 : Nat) (l2 : List (S62)) (r : Bool) (w : World) (hr1 : Kd.C k62 w A1 l1.length l1) (hr2 : Kd.C k62 w A2 l2.length l2) (hn : l1.length = l2.length) (h : pairGo (bktF k) l1 l2 = some r) :
    Calls Tryd.prog 56 #[.slice A1 l1.length c1, .slice A2 l2.length c2, .func (.func 57) #[] #[]] w fun e w' => e = .returned (.bool r) ∧ Below w.heap.size w w' := by
  have c3 : (l1.length : Int) = (l2.length : Int) := by omega
  have c3b1 : ((l1.length : Int) != (l2.length : Int)) = false := by simpa using c3
  have c3b2 : (l1.length == l2.length) = true := by simpa using hn
  have hm := Kd.C_max hr1
  have HR1 := Aside0.mk hr1
  have HR2 := Aside0.mk hr2
  have HN := Aside0.mk c3
  have H0 := Aside0.mk (show pairGo (bktF k) (l1.drop (0 : Int).toNat) (l2.drop (0 : Int).toNat) = some r from h)
  clear hn c3 hr1 hr2 h
  go_enter Tryd.func56, Tryd.ntmps56
  go_wp2_with fail
  repeat (go_quiet (fail); try go_wp2)
  go_loopg [17] l1.length (fun gg s17 wr => ∃ kk : Int, 0 ≤ kk ∧ kk ≤ l1.length ∧ (l1.length : Int) - kk ≤ gg ∧ s17 = .int .i64 kk ∧ Aside0 (Below w.heap.size w wr) ∧ Aside0 (pairGo (bktF k) (l1.drop kk.toNat) (l2.drop kk.toNat) = some r))
  case atStart => exact ⟨0, by omega, by omega, by omega, rfl, ⟨Drawn0.below (by repeat (first | exact Drawn0.refl _ | apply Drawn0.step))⟩, H0⟩
  case round =>
    clear H0 c3b1 c3b2
    obtain ⟨kk, h0, hkk, hg, rfl, BW, HA⟩ := hrel
    by_cases hlt : kk < (l1.length : Int)
    · have hlt2 : kk < (l2.length : Int) := by have := HN.out; omega
      obtain ⟨ad, A3, c3, rfl, hx0, hx1, hx2, hl3, hg3⟩ := at_T62 HR1.out kk h0 hlt
      obtain ⟨ae, A4, c4, rfl, hy0, hy1, hy2, hl4, hg4⟩ := at_T62 HR2.out kk h0 hlt2
      have HP := Aside0.mk (show (bktF k (rd_T62 l1 kk) (rd_T62 l2 kk)).bind (fun b => if b = true then pairGo (bktF k) (l1.drop (kk + 1).toNat) (l2.drop (kk + 1).toNat) else some false) = some r from by
        have := pairGo_here (bktF k) l1 l2 kk h0 hlt hlt2 z62
        rw [HA.out] at this
        exact this.symm)
      clear HA
      have HL3 := Aside0.mk hl3
      have HL4 := Aside0.mk hl4
      have HG3 := Aside0.mk hg3
      have HG4 := Aside0.mk hg4
      have q0 := eq_true h0
      have q1 := eq_true hlt
      have q2 := eq_true hlt2
      replace hx0 := (BW.out.cell (World.block_lt_of_cell? w _ hx0)).trans hx0
      replace hx1 := (BW.out.cell (World.block_lt_of_cell? w _ hx1)).trans hx1
      replace hx2 := (BW.out.cell (World.block_lt_of_cell? w _ hx2)).trans hx2
      replace hy0 := (BW.out.cell (World.block_lt_of_cell? w _ hy0)).trans hy0
      replace hy1 := (BW.out.cell (World.block_lt_of_cell? w _ hy1)).trans hy1
      replace hy2 := (BW.out.cell (World.block_lt_of_cell? w _ hy2)).trans hy2
      clear hl3 hg3 hl4 hg4
      replace hy0 : ∀ o, (wr.alloc o).cell? _ = _ := fun o => ((below_alloc (Below.refl wr.heap.size wr) o).cell (World.block_lt_of_cell? wr _ hy0)).trans hy0
      replace hy1 : ∀ o, (wr.alloc o).cell? _ = _ := fun o => ((below_alloc (Below.refl wr.heap.size wr) o).cell (World.block_lt_of_cell? wr _ hy1)).trans hy1
      replace hy2 : ∀ o, (wr.alloc o).cell? _ = _ := fun o => ((below_alloc (Below.refl wr.heap.size wr) o).cell (World.block_lt_of_cell? wr _ hy2)).trans hy2
      generalize rd_T62 l1 kk = x at HP HL3 HG3 hx0 hx1 hx2
      generalize rd_T62 l2 kk = y at HP HL4 HG4 hy0 hy1 hy2
      have hw1 : IntKind.i64.wrap (kk + 1) = kk + 1 := (i64_w _).trans (by unfold wrap64; omega)
      obtain ⟨b, hb, hnx⟩ := Option.bind_eq_some_iff.1 HP.out
      have HBK := Aside0.mk hb
      have HNX := Aside0.mk hnx
      clear hb hnx HP
      go_wp2_with fail
      have HB2 := Aside0.mk (below_alloc (below_alloc BW.out (.cells #[.int .i64 x.f0, .int .i64 x.f1, .slice A3 x.f2.length c3] 62)) (.cells #[.int .i64 y.f0, .int .i64 y.f1, .slice A4 y.f2.length c4] 62))
      refine (impl_sameBucket.calls k x.f0 x.f1 A3 c3 x.f2 y.f0 y.f1 A4 c4 y.f2 b _ (Kd.C_below HG3.out HB2.out) HL3.out (Kd.C_below HG4.out HB2.out) HL4.out HBK.out).mono ?_
      rintro e w2 ⟨rfl, hb⟩
      have HB3 := Aside0.mk (below_step HB2.out hb)
      clear hb HB2 BW
      cases b with
      | true =>
        have HN2 := Aside0.mk (show pairGo (bktF k) (l1.drop (kk + 1).toNat) (l2.drop (kk + 1).toNat) = some r from by have := HNX.out; rwa [if_pos rfl] at this)
        go_wp2_with fail
        go_roundg (gk - 1)
        case measure => omega
        case rel => exact ⟨kk + 1, by omega, by omega, by omega, by go_num, HB3, HN2⟩
      | false =>
        have HF := Aside0.mk (show r = false from by have := HNX.out; rw [if_neg (by decide)] at this; exact (Option.some.inj this).symm)
        go_wp2_with fail
        go_ret
        exact ⟨by rw [HF.out]; rfl, HB3.out⟩
    · obtain rfl : kk = l1.length := by omega
      have HE := Aside0.mk (show r = true from by
        have h1 := HA.out
        have h2 := HN.out
        rw [Int.toNat_natCast, List.drop_length, List.drop_of_length_le (by omega)] at h1
        exact (Option.some.inj h1).symm)
      clear HA
      go_wp2
      go_ret
      exact ⟨by rw [HE.out]; rfl, BW.out⟩
def impl_sameTree.f (k : Nat) (l0_0 : List (S65)) (l0_1 : List (S62)) (l1_0 : List (S65)) (l1_1 : List (S62)) : Option Bool :=
  (impl_Device.f k l0_0 l1_0).bind fun d => if d = true then (if l0_1.length = l1_1.length then pairGo (bktF k) l0_1 l1_1 else some false) else some false
set_option maxHeartbeats 4000000 in
set_option maxRecDepth 100000 in
theorem impl_sameTree.calls (k : Nat) (A0_0 : Option Addr) (c0_0 : Nat) (l0_0 : List (S65)) (A0_1 : Option Addr) (c0_1 : Nat) (l0_1 : List (S62)) (A1_0 : Option Addr) (c1_0 : Nat) (l1_0 : List (S65)) (A1_1 : Option Addr) (c1_1 : Nat) (l1_1 : List (S62)) (r : Bool) (w : World) (hr0_0 : Kd.C k65 w A0_0 l0_0.length l0_0) (hc0_0 : l0_0.length ≤ c0_0) (hr0_1 : Kd.C k62 w A0_1 l0_1.length l0_1) (hc0_1 : l0_1.length ≤ c0_1) (hr1_0 : Kd.C k65 w A1_0 l1_0.length l1_0) (hc1_0 : l1_0.length ≤ c1_0) (hr1_1 : Kd.C k62 w A1_1 l1_1.length l1_1) (hc1_1 : l1_1.length ≤ c1_1) (h : impl_sameTree.f k l0_0 l0_1 l1_0 l1_1 = some r) :
    Calls Tryd.prog 28 #[.agg #[.slice A0_0 l0_0.length c0_0, .slice A0_1 l0_1.length c0_1], .agg #[.slice A1_0 l1_0.length c1_0, .slice A1_1 l1_1.length c1_1]] w fun e w' => e = .returned (.bool r) ∧ Below w.heap.size w w' := by
  have HR0 := Aside0.mk hr0_0
  have HR1 := Aside0.mk hr1_0
  have HC0 := Aside0.mk hc0_0
  have HC1 := Aside0.mk hc1_0
  have HB0 := Aside0.mk hr0_1
  have HB1 := Aside0.mk hr1_1
  unfold impl_sameTree.f at h
  obtain ⟨dv, hdv, h2⟩ := Option.bind_eq_some_iff.1 h
  have HDV := Aside0.mk hdv
  have HR := Aside0.mk h2
  clear h hdv h2 hr0_0 hr0_1 hr1_0 hr1_1 hc0_0 hc0_1 hc1_0 hc1_1
  go_enter Tryd.func28, Tryd.ntmps28
  go_wp2_with fail
  have HA := Aside0.mk (blk_alloc (blk_new w (.cells #[.slice A0_0 l0_0.length c0_0, .slice A0_1 l0_1.length c0_1] 32)) (.cells #[.slice A1_0 l1_0.length c1_0, .slice A1_1 l1_1.length c1_1] 32))
  have HBB := Aside0.mk (blk_new (w.alloc (.cells #[.slice A0_0 l0_0.length c0_0, .slice A0_1 l0_1.length c0_1] 32)) (.cells #[.slice A1_0 l1_0.length c1_0, .slice A1_1 l1_1.length c1_1] 32))
  have HW := Aside0.mk (below_alloc (below_alloc (Below.refl w.heap.size w) (.cells #[.slice A0_0 l0_0.length c0_0, .slice A0_1 l0_1.length c0_1] 32)) (.cells #[.slice A1_0 l1_0.length c1_0, .slice A1_1 l1_1.length c1_1] 32))
  have hs : (w.alloc (.cells #[.slice A0_0 l0_0.length c0_0, .slice A0_1 l0_1.length c0_1] 32)).heap.size = w.heap.size + 1 := by unfold World.alloc; exact Array.size_push _
  rw [hs] at HBB
  clear hs
  generalize ((w.alloc (.cells #[.slice A0_0 l0_0.length c0_0, .slice A0_1 l0_1.length c0_1] 32)).alloc (.cells #[.slice A1_0 l1_0.length c1_0, .slice A1_1 l1_1.length c1_1] 32)) = W at HA HBB HW ⊢
  generalize hga : w.heap.size = ga at HA HBB ⊢
  have HGA := Aside0.mk hga
  generalize ga + 1 = gb at HBB ⊢
  clear hga
  have ha0 := (blk_cell HA.out 0).trans rfl
  have ha1 := (blk_cell HA.out 1).trans rfl
  have hb0 := (blk_cell HBB.out 0).trans rfl
  have hb1 := (blk_cell HBB.out 1).trans rfl
  refine (impl_Device.calls k A0_0 c0_0 l0_0 A1_0 c1_0 l1_0 dv _ (Kd.C_below HR0.out HW.out) HC0.out (Kd.C_below HR1.out HW.out) HC1.out HDV.out).mono ?_
  rintro e w3 ⟨rfl, hd⟩
  have hb := hd.below
  have HA3 := Aside0.mk (blk_below HA.out hb)
  have HBB3 := Aside0.mk (blk_below HBB.out hb)
  have HW3 := Aside0.mk (below_step HW.out hb)
  clear hd hb HA HBB HW ha0 ha1 hb0 hb1
  have ha1 := (blk_cell HA3.out 1).trans rfl
  have hb1 := (blk_cell HBB3.out 1).trans rfl
  cases dv with
  | false =>
    have HF := Aside0.mk (show r = false from by have := HR.out; rw [if_neg (by decide)] at this; exact (Option.some.inj this).symm)
    go_wp2_with fail
    go_ret
    exact ⟨by rw [HF.out]; rfl, HW3.out⟩
  | true =>
    have HCALL := Aside0.mk (show Calls Tryd.prog 56 #[.slice A0_1 l0_1.length c0_1, .slice A1_1 l1_1.length c1_1, .func (.func 57) #[] #[]] w3 fun e w' => e = .returned (.bool r) ∧ Below w3.heap.size w3 w' from by
      have hh := HR.out
      rw [if_pos rfl] at hh
      by_cases hn : l0_1.length = l1_1.length
      · rw [if_pos hn] at hh
        exact eqBuckets.calls k A0_1 c0_1 l0_1 A1_1 c1_1 l1_1 r w3 (Kd.C_below HB0.out HW3.out) (Kd.C_below HB1.out HW3.out) hn hh
      · rw [if_neg hn] at hh
        obtain rfl := Option.some.inj hh
        exact eqBuckets_ne.calls A0_1 c0_1 l0_1 A1_1 c1_1 l1_1 _ w3 hn)
    go_wp2_with fail
    refine HCALL.out.mono ?_
    rintro e w4 ⟨rfl, hb⟩
    have HW4 := Aside0.mk (below_step HW3.out hb)
    clear hb
    go_wp2_with fail
    go_ret
    exact ⟨by first | rfl | (simp; done), HW4.out⟩

end Go.Proofs.YtohjpgcmhihdhaaDoor.Q

namespace Go.Proofs.YtohjpgcmhihdhaaDoor.Pure
open Go.RowKit Go.Proofs.YtohjpgcmhihdhaaDoor.Q Go.Proofs.YtohjpgcmhihdhaaDoorW.PrintWords Go.Proofs.YtohjpgcmhihdhaaDoorW.PrintLast Go.Proofs.YtohjpgcmhihdhaaDoorW.PrintMore
set_option linter.unusedVariables false
set_option linter.unusedSimpArgs false
def dkey (x : S65) : Int × Int := (x.f0, x.f1)
def bkey (x : S62) : Int × Int × List Int := (x.f0, x.f1, x.f2)
theorem dev_ne {x y : S65} (e : ¬ dkey x = dkey y) : (!(x.f0 == y.f0) || !(x.f1 == y.f1)) = true := by
  simp only [dkey, Prod.mk.injEq] at e
  by_cases c : x.f0 = y.f0
  · simp [c, show ¬ x.f1 = y.f1 from fun e2 => e ⟨c, e2⟩]
  · simp [c]
/-- a loop over pairs, and what comes behind it -/
theorem same_then {α β : Type} [DecidableEq β] (key : α → β) (a b : List α) (hl : a.length = b.length) (L : Nat → Int → Option Bool) (r : Bool)
    (hs : ∀ (i : Nat) (h : i < a.length) (h' : i < b.length), (key a[i] = key b[i] → ∀ r, Ev (fun k => L k ((i + 1 : Nat) : Int)) r → Ev (fun k => L k (i : Int)) r) ∧ (¬ key a[i] = key b[i] → Ev (fun k => L k (i : Int)) false))
    (he : Ev (fun k => L k (a.length : Int)) r) : Ev (fun k => L k 0) (decide (a.map key = b.map key) && r) := by
  refine loop_is a.length (fun k (_ : Unit) i => L k i) (fun i _ => (a.take i).map key = (b.take i).map key) _ ?_ ?_ () (by simp)
  · intro i _ hi hI
    have hi' : i < b.length := by omega
    by_cases c : key a[i] = key b[i]
    · refine .inr ⟨(), ?_, (hs i hi hi').1 c⟩
      rw [List.take_succ_eq_append_getElem hi, List.take_succ_eq_append_getElem hi', List.map_append, List.map_append, hI]
      simp [c]
    · left
      have e : decide (a.map key = b.map key) = false := decide_eq_false (fun e => c (by
        have h1 : (a.map key)[i]? = (b.map key)[i]? := by rw [e]
        rw [List.getElem?_map, List.getElem?_map, List.getElem?_eq_getElem hi, List.getElem?_eq_getElem hi'] at h1
        simpa using h1))
      rw [e, Bool.false_and]
      exact (hs i hi hi').2 c
  · intro _ hI
    rw [List.take_length, hl, List.take_length] at hI
    rw [decide_eq_true hI, Bool.true_and]
    exact he
theorem equal64_ev (a b : List Int) (hl : a.length ≤ 9223372036854775807) : Ev (fun k => slices_Equal_int64_int64.f k a b) (decide (a = b)) := by
  unfold slices_Equal_int64_int64.f
  by_cases h : a.length = b.length
  · simp only [show (a.length : Int) = (b.length : Int) by omega, if_true]
    exact same_loop a b h (fun k i => slices_Equal_int64_int64.l0 k a b b.length i) (fun k i h1 h2 => by
      simp only [slices_Equal_int64_int64.l0]
      rw [if_pos (by omega), if_pos (by omega), if_pos (by omega), if_pos (by omega), rd_get a i h1, rd_get b i h2, up64 i a.length h1 hl]) (fun k => by simp only [slices_Equal_int64_int64.l0]; rw [if_neg (by omega)])
  · rw [decide_eq_false (fun e => h (by rw [e]))]
    simp only [show ¬ ((a.length : Int) = (b.length : Int)) by omega, if_false]
    exact Ev.now _
theorem devEq_ev (a b : List S65) (ha : a.length ≤ 1048576) : Ev (fun k => impl_Device.f k a b) (decide (a.map dkey = b.map dkey)) := by
  unfold impl_Device.f
  by_cases h : a.length = b.length
  · simp only [show (a.length : Int) = (b.length : Int) by omega, if_true]
    have := same_then dkey a b h (fun k i => impl_Device.l0 k a b b.length i) true (fun i h1 h2 => by
      have hu : ∀ k, impl_Device.l0 (k + 1) a b b.length i = if (!(a[i].f0 == b[i].f0) || !(a[i].f1 == b[i].f1)) = true then some false else impl_Device.l0 k a b b.length ((i + 1 : Nat) : Int) := fun k => by
        simp only [impl_Device.l0]
        rw [if_pos (by omega), if_pos (by omega), if_pos (by omega), if_pos (by omega), rd_dev a i h1, rd_dev b i h2, up64 i a.length h1 (by omega)]
      constructor
      · intro e
        simp only [dkey, Prod.mk.injEq] at e
        exact ev_next (fun k => by rw [hu k, if_neg (by simp [e.1, e.2])])
      · intro e
        exact ev_end (fun k => by rw [hu k, if_pos (dev_ne e)])) (ev_end (fun k => by simp only [impl_Device.l0]; rw [if_neg (by omega)]))
    rw [Bool.and_true] at this
    exact this
  · rw [decide_eq_false (fun e => h (by have := congrArg List.length e; simpa using this))]
    simp only [show ¬ ((a.length : Int) = (b.length : Int)) by omega, if_false]
    exact Ev.now _
theorem bktF_ev (x y : S62) (h : x.f2.length ≤ 1048576) : Ev (fun k => bktF k x y) (decide (bkey x = bkey y)) := by
  unfold bktF impl_sameBucket.f bkey
  by_cases c1 : x.f0 = y.f0
  · simp only [if_pos c1]
    by_cases c2 : x.f1 = y.f1
    · simp only [if_pos c2]
      have := ev_then1 (equal64_ev x.f2 y.f2 (by omega))
      have e : decide ((x.f0, x.f1, x.f2) = (y.f0, y.f1, y.f2)) = decide (x.f2 = y.f2) := by rw [c1, c2]; simp
      rw [e]
      exact this
    · simp only [if_neg c2]
      rw [decide_eq_false (fun e => c2 (by simp only [Prod.mk.injEq] at e; exact e.2.1))]
      exact Ev.now _
  · simp only [if_neg c1]
    rw [decide_eq_false (fun e => c1 (by simp only [Prod.mk.injEq] at e; exact e.1))]
    exact Ev.now _
theorem pairs_ev : ∀ (a b : List S62), a.length = b.length → (∀ x ∈ a, x.f2.length ≤ 1048576) → Ev (fun k => pairGo (bktF k) a b) (decide (a.map bkey = b.map bkey))
  | [], [], _, _ => Ev.now _
  | x :: xs, y :: ys, h, hb => by
    refine Ev.bind (bktF_ev x y (hb x (by simp))) ?_
    by_cases c : bkey x = bkey y
    · have e : decide ((x :: xs).map bkey = (y :: ys).map bkey) = decide (xs.map bkey = ys.map bkey) := by simp [c]
      rw [e]
      simp only [decide_eq_true c, if_true]
      exact pairs_ev xs ys (by simpa using h) (fun z hz => hb z (by simp [hz]))
    · rw [decide_eq_false c, decide_eq_false (fun e => c (by simp only [List.map_cons, List.cons.injEq] at e; exact e.1))]
      exact Ev.now _
  | [], _ :: _, h, _ => by simp at h
  | _ :: _, [], h, _ => by simp at h
/-- are two topologies alike, field by field? -/
def sameTr (D1 : List S65) (B1 : List S62) (D2 : List S65) (B2 : List S62) : Bool := decide (D1.map dkey = D2.map dkey) && decide (B1.map bkey = B2.map bkey)
theorem impl_same_ev (D1 : List S65) (B1 : List S62) (D2 : List S65) (B2 : List S62) (hD : D1.length ≤ 1048576) (hb : ∀ x ∈ B1, x.f2.length ≤ 1048576) : Ev (fun k => impl_sameTree.f k D1 B1 D2 B2) (sameTr D1 B1 D2 B2) := by
  unfold impl_sameTree.f sameTr
  refine Ev.bind (devEq_ev D1 D2 hD) ?_
  cases decide (D1.map dkey = D2.map dkey) with
  | false => exact Ev.now _
  | true =>
    simp only [if_true, Bool.true_and]
    by_cases h : B1.length = B2.length
    · simp only [if_pos h]
      exact pairs_ev B1 B2 h hb
    · simp only [if_neg h]
      rw [decide_eq_false (fun e => h (by have := congrArg List.length e; simpa using this))]
      exact Ev.now _

end Go.Proofs.YtohjpgcmhihdhaaDoor.Pure

namespace Go.Proofs.YtohjpgcmhihdhaaDoorW.PrintMore
open Go.RowKit Go.Proofs.YtohjpgcmhihdhaaDoorW.PrintWords Go.Proofs.YtohjpgcmhihdhaaDoorW.PrintLast
set_option linter.unusedVariables false
set_option linter.unusedSimpArgs false
set_option maxHeartbeats 1000000 in
set_option maxRecDepth 100000 in
theorem copyCheck_used (b : Nat) (w : World) (h0 : w.cell? ⟨b, 0, none⟩ = some (.pointer (some ⟨b, 0, none⟩))) :
    Calls Tryd.prog 65 #[.pointer (some ⟨b, 0, none⟩)] w fun e w' => e = .returned (.tuple #[]) ∧ w' = w := by
  obtain ⟨j, hj, _⟩ := Option.map_eq_some_iff.1 (show (Tryd.prog.info? 76).map (fun i => i.size) = some 2 by kernel_rfl)
  go_enter Tryd.func65, Tryd.ntmps65
  go_wp2
  rw [Lib.run_neq_ptr_same w _ Tryd.underlying74 hj]
  go_wp2
  go_end0
  exact ⟨rfl, rfl⟩
set_option maxHeartbeats 1000000 in
set_option maxRecDepth 100000 in
theorem copyCheck_fresh (b : Nat) (w : World) (h0 : w.cell? ⟨b, 0, none⟩ = some (.pointer none)) (hsh : w.shape? b = some (76, 2)) (hfz : w.frozen? ⟨b, 0, none⟩ = false) :
    Calls Tryd.prog 65 #[.pointer (some ⟨b, 0, none⟩)] w fun e w' => e = .returned (.tuple #[]) ∧ w' = w.setCell ⟨b, 0, none⟩ (.pointer (some ⟨b, 0, none⟩)) := by
  obtain ⟨j, hj, hjs⟩ := Option.map_eq_some_iff.1 (show (Tryd.prog.info? 76).map (fun i => i.size) = some 2 by kernel_rfl)
  go_enter Tryd.func65, Tryd.ntmps65
  go_wp2
  rw [Lib.run_to_unsafe w ⟨b, 0, none⟩ Tryd.underlying74 Tryd.underlying113 hj (by rw [hjs]; decide) hsh (Nat.zero_lt_succ 1)]
  simp only [Result.andThen]
  rw [Oper.upon_value]
  go_wp2
  rw [run_callFunc_extern Tryd.func78 (by kernel_rfl) (by kernel_rfl) (by kernel_rfl) (e := Extern.AbiNoEscape.same) (by kernel_rfl)]
  rw [Lib.run_noEscape]
  simp only [Result.andThen]
  rw [Oper.upon_value]
  go_wp2
  rw [Lib.run_from_unsafe w ⟨b, 0, none⟩ Tryd.underlying113 Tryd.underlying74 hj hsh (by kernel_rfl)]
  simp only [Result.andThen]
  rw [Oper.upon_value]
  go_wp2
  go_end0
  exact ⟨rfl, rfl⟩
/-- behind copyCheck the builder is used: its bytes are as they were -/
theorem copyCheck_at (B b : Nat) (bs : List Value) (w : World) (h : Lib.IsBuilder 76 5 B b bs w) :
    Calls Tryd.prog 65 #[.pointer (some ⟨b, 0, none⟩)] w fun e w' => e = .returned (.tuple #[]) ∧ Lib.BuilderAt 76 5 B b (.pointer (some ⟨b, 0, none⟩)) bs w' ∧ Below B w w' ∧ ∀ g, g ≠ b → w'.heap[g]? = w.heap[g]? := by
  rcases h with h | h
  · refine (copyCheck_fresh b w h.cell0 h.shape h.frozen0).mono ?_
    rintro e w' ⟨rfl, rfl⟩
    exact ⟨rfl, h.used _, (Below.refl B w).setCell (p := ⟨b, 0, none⟩) h.1 _, fun g hg => Below.heap_setCell w ⟨b, 0, none⟩ _ g hg⟩
  · refine (copyCheck_used b w h.cell0).mono ?_
    rintro e w' ⟨rfl, rfl⟩
    exact ⟨rfl, h, Below.refl B w', fun g _ => rfl⟩
set_option maxHeartbeats 2000000 in
set_option maxRecDepth 100000 in
/-- a text written into the builder -/
theorem writeString_at (B b : Nat) (bs : List Value) (s : ByteArray) (w : World) (h : Lib.IsBuilder 76 5 B b bs w) (hlen : bs.length + s.size ≤ 140737488355328) (hBw : B ≤ w.heap.size) :
    Calls Tryd.prog 40 #[.pointer (some ⟨b, 0, none⟩), .string s] w fun e w' => e = .returned (.tuple #[.int .i64 s.size, .nilIface]) ∧ Lib.BuilderAt 76 5 B b (.pointer (some ⟨b, 0, none⟩)) (bs ++ Lib.strCells s) w' ∧ Below B w w' ∧ ∀ (g : Nat) (cs : Array Value) (T : TypeId), w.heap[g]? = some (.cells cs T (0, 0)) → T ≠ 5 → g ≠ b → w'.heap[g]? = some (.cells cs T (0, 0)) := by
  obtain ⟨i0, hi, hz0, hz1, hz2⟩ := info_parts (show (Tryd.prog.info? 5).map (fun i => (i.zero, i.size, i.bytes)) = some (some (.int .u8 0), 1, 1) by kernel_rfl)
  go_enter Tryd.func40, Tryd.ntmps40
  go_wp2_with (go_at_call 65; refine (copyCheck_at B b bs _ h).mono ?_)
  rintro e w1 ⟨rfl, h1, hb1, hk1⟩
  obtain ⟨hB, v, hbk, hown, hne⟩ := h1
  have c0 : w1.cell? ⟨b, 0, none⟩ = some (.pointer (some ⟨b, 0, none⟩)) := by rw [Lib.cell_of_heap hbk]; rfl
  have c1 : w1.cell? ⟨b, 1, none⟩ = some v := by rw [Lib.cell_of_heap hbk]; rfl
  go_wp2_with (at_builtin; refine Lib.wpList_append_own_string _ rfl _ _ 36 9 rfl B 5 i0 Tryd.underlying36 Tryd.underlying9 hi hz0 hz1 hz2 _ _ _ rfl hown s rfl ?c3 ?c4 ?c5 ?_)
  case c3 => unfold maxLen; omega
  case c4 => omega
  case c5 => have := hb1.size; omega
  intro v' w2 hown' hgrow _
  have hlt : b < w1.heap.size := blk_lt hbk
  have hb2 : w2.heap[b]? = some (.cells #[.pointer (some ⟨b, 0, none⟩), v] 76 (0, 0)) := by
    rw [hgrow.block b hlt (fun e => hne e.symm)]
    exact hbk
  have d0 : w2.cell? ⟨b, 0, none⟩ = some (.pointer (some ⟨b, 0, none⟩)) := by rw [Lib.cell_of_heap hb2]; rfl
  have d1 : w2.cell? ⟨b, 1, none⟩ = some v := by rw [Lib.cell_of_heap hb2]; rfl
  have f1 : w2.frozen? ⟨b, 1, none⟩ = false := Lib.frozen_of_heap hb2 1
  obtain ⟨ao, n', cap, rfl⟩ : ∃ ao n' cap, v' = .slice ao n' cap := by
    rcases hown'.2 with ⟨hv, _⟩ | ⟨g, cap, cur, hv, _⟩
    · exact ⟨_, _, _, hv⟩
    · exact ⟨_, _, _, hv⟩
  go_wp2
  go_ret2
  refine ⟨rfl, ?_, ?_, fun g cs T hg hT hn => ?_⟩
  · exact Lib.BuilderAt.put (T := 76) (e := 5) hB hb2 (bs' := bs ++ Lib.strCells s) (by simpa [Lib.strCells_length] using hown') (by decide)
  · exact (hb1.grown hgrow (by have := hb1.size; omega) (fun k hk => (hown.lt k hk).1)).setCell (p := ⟨b, 1, none⟩) hB _
  · have hg1 : w1.heap[g]? = some (.cells cs T (0, 0)) := (hk1 g hn).trans hg
    have hg2 := (hgrow.block g (blk_lt hg1) (fun e => Lib.ownBlock_ne hown hg1 hT e.symm)).trans hg1
    exact (Below.heap_setCell w2 ⟨b, 1, none⟩ _ g hn).trans hg2

/-- a whole number's numeral -/
def decB (n : Int) : ByteArray := ⟨(Lib.itoa n).toArray⟩
theorem decB_size (n : Int) (h0 : -9223372036854775808 ≤ n) (h1 : n ≤ 9223372036854775807) : (decB n).size ≤ 21 := by
  have := Lib.itoa_length_le n h0 h1
  unfold decB
  simpa [ByteArray.size] using this
/-- the library's table, now and behind whatever leaves memory below a bound as it is -/
def TabW (w : World) : Prop := Lib.TabBelow Tryd.prog w.heap.size w "internal/strconv.uint64pow10" .u64 Lib.pow10Tab
theorem TabW.on {w W : World} (h : TabW w) (hb : Below w.heap.size w W) : TabW W := fun w' hb' => h w' (below_step hb hb')
set_option maxHeartbeats 1000000 in
theorem decimal_at (n : Int) (w : World) (h0 : -9223372036854775808 ≤ n) (h1 : n ≤ 9223372036854775807) (ht : TabW w) :
    Calls Tryd.prog 66 #[.int .i64 n] w fun e w' => e = .returned (.string (decB n)) ∧ Below w.heap.size w w' := by
  go_enter Tryd.func66, Tryd.ntmps66
  go_wp2_with fail
  refine (Tryd.strconv_FormatInt_10 n h0 h1 _ (Lib.TabBelow.here ht)).mono ?_
  rintro e w1 ⟨rfl, k, os, rfl⟩
  have hb := Lib.below_grow w.heap.size w (Nat.le_refl _) k os
  go_wp2_with fail
  go_ret
  exact ⟨rfl, hb⟩
/-- what a line holds ahead of its end -/
def lineB (s : ByteArray) (l : List Int) : ByteArray := l.foldl (fun s x => s ++ ((⟨#[32]⟩ : ByteArray) ++ decB x)) s
theorem lineB_cons (s : ByteArray) (x : Int) (l : List Int) : lineB s (x :: l) = lineB (s ++ ((⟨#[32]⟩ : ByteArray) ++ decB x)) l := rfl
theorem size_app (a b : ByteArray) : (a ++ b).size = a.size + b.size := ByteArray.size_append
set_option maxHeartbeats 2000000 in
set_option maxRecDepth 100000 in
theorem textLine_at (s : ByteArray) (A : Option Addr) (c : Nat) (l : List Int) (w : World) (hl : Kd.C (Kd.int .i64) w A l.length l) (hc : l.length ≤ c) (hw : ∀ x ∈ l, -9223372036854775808 ≤ x ∧ x ≤ 9223372036854775807) (hs : s.size + 22 * l.length + 1 ≤ 1000000000) (ht : TabW w) :
    Calls Tryd.prog 41 #[.string s, .slice A l.length c] w fun e w' => e = .returned (.string (lineB s l ++ (⟨#[10]⟩ : ByteArray))) ∧ Below w.heap.size w w' := by
  have HL := Aside0.mk hl
  have HC := Aside0.mk hc
  have HW := Aside0.mk hw
  have HT := Aside0.mk ht
  have HS := Aside0.mk hs
  have HM := Aside0.mk (show l.length ≤ 1000000000 by omega)
  have HB := Aside0.mk (Below.refl w.heap.size w)
  clear hl hc hw ht hs
  go_enter Tryd.func41, Tryd.ntmps41
  go_wp2_with fail
  go_loopg [0, 9] l.length (fun gg v0 v9 wr => ∃ (kk : Nat) (s2 : ByteArray), kk ≤ l.length ∧ (l.length : Int) - kk ≤ gg ∧ v9 = .int .i64 (kk : Int) ∧ v0 = .string s2 ∧ Aside0 (lineB s2 (l.drop kk) = lineB s l) ∧ Aside0 (s2.size + 22 * (l.length - kk) + 1 ≤ 1000000000) ∧ Aside0 (Below w.heap.size w wr))
  case atStart => exact ⟨0, s, by omega, by omega, rfl, rfl, ⟨rfl⟩, ⟨by have := HS.out; omega⟩, HB⟩
  case round =>
    clear HB HS
    obtain ⟨kk, s2, hk, hg, rfl, rfl, HE, HS, HB⟩ := hrel
    by_cases hlt : kk < l.length
    · have hlt' : (kk : Int) < (l.length : Int) := by omega
      obtain ⟨ae, rfl, hy0⟩ := Kd.at_int HL.out (kk : Int) (by omega) hlt'
      replace hy0 := (HB.out.cell (World.block_lt_of_cell? w _ hy0)).trans hy0
      rw [Int.toNat_natCast] at hy0
      have hrd : rd l (kk : Int) = l[kk] := by unfold rd; rw [Int.toNat_natCast, List.getD_eq_getElem?_getD, List.getElem?_eq_getElem hlt]; rfl
      have HX := Aside0.mk (show -9223372036854775808 ≤ rd l (kk : Int) ∧ rd l (kk : Int) ≤ 9223372036854775807 by rw [hrd]; exact HW.out _ (List.getElem_mem hlt))
      have HN := Aside0.mk (show lineB (s2 ++ ((⟨#[32]⟩ : ByteArray) ++ decB (rd l (kk : Int)))) (l.drop (kk + 1)) = lineB s l by rw [← HE.out, List.drop_eq_getElem_cons hlt, lineB_cons, hrd])
      clear HE hrd
      generalize rd l (kk : Int) = x at hy0 HX HN
      have q0 := eq_true (show (0 : Int) ≤ (kk : Int) by omega)
      have q1 := eq_true hlt'
      go_wp2_with fail
      refine (decimal_at x _ HX.out.1 HX.out.2 (HT.out.on HB.out)).mono ?_
      rintro e w2 ⟨rfl, hb2⟩
      have HB2 := Aside0.mk (below_step HB.out hb2)
      have hd := decB_size x HX.out.1 HX.out.2
      have z1 : ((⟨#[32]⟩ : ByteArray) ++ decB x).size = 1 + (decB x).size := size_app _ _
      have HS2 := Aside0.mk (show (s2 ++ ((⟨#[32]⟩ : ByteArray) ++ decB x)).size + 22 * (l.length - (kk + 1)) + 1 ≤ 1000000000 by rw [size_app, z1]; have := HS.out; omega)
      have c1 : 1 + (decB x).size ≤ 9223372036854775807 := by omega
      have c2 : s2.size + ((⟨#[32]⟩ : ByteArray) ++ decB x).size ≤ 9223372036854775807 := by rw [z1]; have := HS.out; omega
      clear hb2 HB hy0 HS
      go_wp2_with fail
      go_roundg (gk - 1)
      case measure => omega
      case rel => exact ⟨kk + 1, _, by omega, by omega, by rw [show wrap64 ((kk : Int) + 1) = ((kk + 1 : Nat) : Int) from by have := HM.out; unfold wrap64; omega], rfl, HN, HS2, HB2⟩
    · obtain rfl : kk = l.length := by omega
      have HE2 := Aside0.mk (show s2 = lineB s l from by have := HE.out; rwa [List.drop_length] at this)
      have c1 : s2.size + 1 ≤ 9223372036854775807 := by have := HS.out; omega
      go_wp2_with fail
      go_ret
      exact ⟨by rw [← HE2.out]; rfl, HB.out⟩

end Go.Proofs.YtohjpgcmhihdhaaDoorW.PrintMore

namespace Go.Proofs.YtohjpgcmhihdhaaDoorW.PrintMore
open Go.RowKit Go.Proofs.YtohjpgcmhihdhaaDoorW.PrintWords Go.Proofs.YtohjpgcmhihdhaaDoorW.PrintLast Go.Proofs.YtohjpgcmhihdhaaDoor.Q
set_option linter.unusedVariables false
set_option linter.unusedSimpArgs false
/-- what a variable holds, it holds still behind whatever leaves memory below a bound as it is -/
theorem var_below {P : Program} {w W : World} {name : String} {cs : Array Value} (h : w.var? P name = some cs) (hb : Below w.heap.size w W) : W.var? P name = some cs := by
  unfold World.var? at *
  cases hg : P.globalNamed name with
  | none => simp [hg] at h
  | some g =>
    simp only [hg, Option.bind_some] at h ⊢
    have hlt : g < w.heap.size := by
      rcases Nat.lt_or_ge g w.heap.size with h' | h'
      · exact h'
      · rw [Array.getElem?_eq_none h'] at h; simp at h
    rw [hb.block g hlt]
    exact h
/-- what the library's functions read of package-level variables -/
structure DoorW (w : World) : Prop where
  tab : TabW w
  len : ∃ m, w.cell? ⟨0, 0, none⟩ = some (.int .i64 m)
  syn : ∃ tp p, w.var? Tryd.prog "strconv.ErrSyntax" = some #[.iface tp p]
  rng : ∃ tp p, w.var? Tryd.prog "strconv.ErrRange" = some #[.iface tp p]
theorem DoorW.on {w W : World} (h : DoorW w) (hb : Below w.heap.size w W) : DoorW W := by
  obtain ⟨h1, ⟨m, h2⟩, ⟨t3, p3, h3⟩, ⟨t4, p4, h4⟩⟩ := h
  exact ⟨h1.on hb, ⟨m, (hb.cell (World.block_lt_of_cell? w _ h2)).trans h2⟩, ⟨t3, p3, var_below h3 hb⟩, ⟨t4, p4, var_below h4 hb⟩⟩
theorem str_ne {a b : ByteArray} (h : ¬ a = b) : (a.toList == b.toList) = false := beq_eq_false_iff_ne.2 fun e => h (ByteArray.ext (Array.toList_inj.1 (by rw [ByteArray.toList_eq, ByteArray.toList_eq] at e; exact e)))
theorem str_eq_iff {a b : ByteArray} : a.toList = b.toList ↔ a = b := ⟨fun e => ByteArray.ext (Array.toList_inj.1 (by rw [ByteArray.toList_eq, ByteArray.toList_eq] at e; exact e)), fun h => by rw [h]⟩
/-- a word read as a number: only the number's own numeral -/
def rdDec (s : ByteArray) : Option Int := match Lib.parseIntB 64 s.data.toList with
  | .ok v => if decB v = s then some v else none
  | _ => none
set_option maxHeartbeats 1000000 in
set_option maxRecDepth 100000 in
theorem readDecimal_at (s : ByteArray) (w : World) (hs : s.size ≤ 281474976710656) (hD : DoorW w) :
    Calls Tryd.prog 71 #[.string s] w fun e w' => (∃ n, e = .returned (.tuple #[.int .i64 n, .bool (rdDec s).isSome]) ∧ ∀ v, rdDec s = some v → n = v ∧ -9223372036854775808 ≤ v ∧ v ≤ 9223372036854775807) ∧ Below w.heap.size w w' := by
  rcases hp : Lib.parseIntB 64 s.data.toList with v | _ | _
  · have hv := Lib.parseIntB_bounds hp
    have e0 : rdDec s = if decB v = s then some v else none := by unfold rdDec; rw [hp]
    go_enter Tryd.func71, Tryd.ntmps71
    go_wp2_with fail
    refine (Tryd.strconv_ParseInt_10_at64_ok s (by omega) v hp w).mono ?_
    rintro e w1 ⟨rfl, hw1⟩
    have HB := Aside0.mk (show Below w.heap.size w w1 from by
      rcases hw1 with rfl | ⟨t, rfl⟩
      · exact Below.refl _ _
      · exact Lib.bytesWorld_below _ _ _)
    clear hw1
    go_wp2_with fail
    refine (decimal_at v _ (by omega) (by omega) (hD.tab.on HB.out)).mono ?_
    rintro e w2 ⟨rfl, hb2⟩
    have HB2 := Aside0.mk (below_step HB.out hb2)
    clear hb2 HB hp hD
    by_cases hd : decB v = s
    · rw [if_pos hd] at e0
      subst hd
      go_wp2_with fail
      go_ret2
      exact ⟨⟨v, by rw [e0]; rfl, fun v' h => by rw [e0] at h; injection h with h; subst h; omega⟩, HB2.out⟩
    · rw [if_neg hd] at e0
      have hd1 := str_ne hd
      go_wp2_with fail
      go_ret2
      exact ⟨⟨v, by rw [e0]; rfl, fun v' h => by rw [e0] at h; cases h⟩, HB2.out⟩
  · have e0 : rdDec s = none := by unfold rdDec; rw [hp]
    obtain ⟨tp, p, hvar⟩ := hD.syn
    go_enter Tryd.func71, Tryd.ntmps71
    go_wp2_with fail
    refine (Any.strconv_ParseInt_10_at64_syntax_var Tryd.laysC174 s hs hp tp p w hvar).mono ?_
    rintro e w1 ⟨N, rfl, -, -, hb⟩
    have HB := Aside0.mk hb
    clear hb hp hD hvar
    go_wp2_with fail
    go_ret2
    exact ⟨⟨0, by rw [e0]; rfl, fun v' h => by rw [e0] at h; cases h⟩, HB.out⟩
  · have e0 : rdDec s = none := by unfold rdDec; rw [hp]
    obtain ⟨tp, p, hvar⟩ := hD.rng
    go_enter Tryd.func71, Tryd.ntmps71
    go_wp2_with fail
    refine (Any.strconv_ParseInt_10_at64_range_var Tryd.laysC174 s hs hp tp p w hvar).mono ?_
    rintro e w1 ⟨N, rfl, -, -, hb⟩
    have HB := Aside0.mk hb
    clear hb hp hD hvar
    go_wp2_with fail
    go_ret2
    exact ⟨⟨_, by rw [e0]; rfl, fun v' h => by rw [e0] at h; cases h⟩, HB.out⟩
/-- the words of a line -/
def wordsB (s : ByteArray) : List ByteArray := Lib.splitB ⟨#[32]⟩ 0 (Lib.countB s ⟨#[32]⟩) s
/-- words read as numbers, as far as all are -/
def rdNums : List ByteArray → Option (List Int)
  | [] => some []
  | x :: r => (rdDec x).bind fun v => (rdNums r).map (v :: ·)
/-- a line read: its first word, the numbers behind it -/
def rdLine (s : ByteArray) : Option (ByteArray × List Int) := (rdNums (wordsB s).tail).map fun l => ((wordsB s).headD ⟨#[]⟩, l)
theorem wordsB_len (s : ByteArray) : (wordsB s).length = Lib.countB s ⟨#[32]⟩ + 1 := Lib.splitB_all ⟨#[32]⟩ (by decide) 0 _ s rfl
theorem count_le (s : ByteArray) : Lib.countB s ⟨#[32]⟩ ≤ s.size := by
  have := Lib.countB_le ⟨#[32]⟩ (by decide) s.size s (Nat.le_refl _)
  omega
theorem split_size (sep : ByteArray) : ∀ (k : Nat) (s : ByteArray), ∀ x ∈ Lib.splitB sep 0 k s, x.size ≤ s.size
  | 0, s, x, hx => by
    rw [Lib.splitB_zero, List.mem_singleton] at hx
    rw [hx]
    exact Nat.le_refl _
  | k + 1, s, x, hx => by
    unfold Lib.splitB at hx
    split at hx
    · rw [List.mem_singleton] at hx
      rw [hx]
      exact Nat.le_refl _
    · rcases List.mem_cons.1 hx with e | e
      · rw [e, ByteArray.size_extract]; omega
      · have := split_size sep k _ x e
        rw [ByteArray.size_extract] at this
        omega
theorem rdNums_here (acc : List Int) (x : ByteArray) (r : List ByteArray) : (rdNums (x :: r)).map (acc ++ ·) = (rdDec x).bind fun v => (rdNums r).map ((acc ++ [v]) ++ ·) := by
  show ((rdDec x).bind fun v => (rdNums r).map (v :: ·)).map (acc ++ ·) = _
  cases rdDec x with
  | none => rfl
  | some v =>
    simp only [Option.bind_some, Option.map_map]
    congr 1
    funext l
    simp
theorem string_mk (w : World) (base : Nat) (ok : Nat → Prop) (x : Int) : (Kd.int .i64).M w base ok x [.int .i64 x] := rfl
/-- what readLine hands back -/
def LineOut (s : ByteArray) (e : Ending) (w w' : World) : Prop := ∃ v, e = .returned (.tuple #[.string ((rdLine s).elim ⟨#[]⟩ Prod.fst), v, .bool (rdLine s).isSome]) ∧ (Kd.int .i64).R 2 w' w.heap.size (fun _ => True) v ((rdLine s).elim [] Prod.snd) ∧ Below w.heap.size w w'
set_option maxHeartbeats 4000000 in
set_option maxRecDepth 100000 in
theorem readLine_at (s : ByteArray) (w : World) (hs : s.size ≤ 1048576) (hD : DoorW w) :
    Calls Tryd.prog 52 #[.string s] w fun e w' => LineOut s e w w' := by
  have HD := Aside0.mk hD
  clear hD
  obtain ⟨m, hm⟩ := HD.out.len
  have hcl := count_le s
  have hn := wordsB_len s
  have hsz : ∀ x ∈ wordsB s, x.size ≤ s.size := split_size ⟨#[32]⟩ (Lib.countB s ⟨#[32]⟩) s
  go_enter Tryd.func52, Tryd.ntmps52
  go_wp2_with fail
  refine (Tryd.strings_Split s ⟨#[32]⟩ m w (by omega) hm (by decide)).mono ?_
  rintro e w1 ⟨rfl, hw1⟩
  have hrow : (wordsB s).map Value.string = ((Lib.splitB ⟨#[32]⟩ 0 (Lib.countB s ⟨#[32]⟩) s).map Value.string) := rfl
  rw [← hrow] at hw1
  clear hrow hm
  have HRL := Aside0.mk (show rdLine s = (rdNums (wordsB s).tail).map fun l => ((wordsB s).headD ⟨#[]⟩, l) from rfl)
  generalize wordsB s = W at hn hsz hw1 HRL
  obtain ⟨x0, tl, rfl⟩ : ∃ x0 tl, W = x0 :: tl := by cases W with | nil => simp at hn | cons a b => exact ⟨a, b, rfl⟩
  simp only [List.length_cons, Nat.add_right_cancel_iff] at hn
  rw [← hn] at hcl ⊢
  clear hn
  have BW := Aside0.mk (show w1.heap[w.heap.size]? = some (.cells ((x0 :: tl).map Value.string).toArray 9 (0, 0)) from by rw [hw1]; exact blk_new w _)
  have HB := Aside0.mk (show Below w.heap.size w w1 from by rw [hw1]; exact below_alloc (Below.refl _ _) _)
  clear hw1
  obtain ⟨gb, hgb⟩ : ∃ g, g = w.heap.size := ⟨_, rfl⟩
  rw [← hgb] at BW ⊢
  clear hgb
  have HSZ := Aside0.mk (show ∀ x ∈ tl, x.size ≤ s.size from fun x hx => hsz x (List.mem_cons_of_mem _ hx))
  have HS := Aside0.mk hs
  clear hsz hs
  have q1 : (1 : Int) ≤ ((tl.length + 1 : Nat) : Int) := by omega
  by_cases ht : tl.length = 0
  · obtain rfl : tl = [] := List.eq_nil_of_length_eq_zero ht
    have HE := Aside0.mk (show rdLine s = some (x0, []) from HRL.out)
    have hc0 := (blk_cell BW.out 0).trans rfl
    go_wp2_with fail
    go_loopg [6, 16] 0 (fun gg v6 v16 wr => v6 = .slice none 0 0 ∧ v16 = .int .i64 0 ∧ wr = w1)
    case atStart => exact ⟨rfl, rfl, rfl⟩
    case round =>
      obtain ⟨rfl, rfl, rfl⟩ := hrel
      go_wp2_with fail
      go_ret3
      exact ⟨.slice none 0 0, by rw [HE.out]; rfl, by rw [HE.out]; exact Kd.R_nil _ _ _ _ _, HB.out⟩
  · have htl : 0 < tl.length := Nat.pos_of_ne_zero ht
    have HT := Aside0.mk htl
    clear htl
    have e0 : (tl.length + 1 - 1) = tl.length := rfl
    go_wp2_with fail
    go_loopg [6, 16] tl.length (fun gg v6 v16 wr => ∃ (kk : Nat) (acc : List Int), kk ≤ tl.length ∧ (tl.length : Int) - kk ≤ gg ∧ v16 = .int .i64 (kk : Int) ∧ Aside0 (acc.length = kk) ∧ Aside0 ((rdNums (tl.drop kk)).map (acc ++ ·) = rdNums tl) ∧ Aside0 (Below w.heap.size w wr) ∧ Aside0 (wr.heap[gb]? = some (.cells ((x0 :: tl).map Value.string).toArray 9 (0, 0))) ∧ Aside0 ((Kd.int .i64).R 2 wr w.heap.size (fun _ => True) v6 acc))
    case atStart => exact ⟨0, [], by omega, by omega, rfl, ⟨rfl⟩, ⟨by simp⟩, HB, BW, ⟨Kd.R_nil _ _ _ _ _⟩⟩
    case round =>
      clear HB BW
      obtain ⟨kk, acc, hk, hg, rfl, HA, HE, HB, BW, HO⟩ := hrel
      have hc0 := (blk_cell BW.out 0).trans rfl
      by_cases hlt : kk < tl.length
      · have hlt' : (kk : Int) < (tl.length : Int) := by omega
        have hcx : wr.cell? ⟨gb, 1 + kk, none⟩ = some (.string tl[kk]) := (blk_cell BW.out (1 + kk)).trans (by rw [Nat.add_comm]; simp [hlt])
        have HX := Aside0.mk (show tl[kk].size ≤ 1048576 from Nat.le_trans (HSZ.out _ (List.getElem_mem hlt)) HS.out)
        have HN := Aside0.mk (show ((rdDec tl[kk]).bind fun v => (rdNums (tl.drop (kk + 1))).map ((acc ++ [v]) ++ ·)) = rdNums tl from by rw [← HE.out, List.drop_eq_getElem_cons hlt, rdNums_here])
        clear HE
        generalize tl[kk] = x at hcx HX HN
        have q0 := eq_true (show (0 : Int) ≤ (kk : Int) by omega)
        have q2 := eq_true hlt'
        go_wp2_with fail
        refine (readDecimal_at x _ (by have := HX.out; omega) (HD.out.on HB.out)).mono ?_
        rintro e w2 ⟨⟨nn, rfl, hnn⟩, hb⟩
        have HNN := Aside0.mk hnn
        have HB2 := Aside0.mk (below_step HB.out hb)
        have BW2 := Aside0.mk (blk_below BW.out hb)
        have HO2 := Aside0.mk (Kd.R_below HO.out hb)
        clear hnn hb HB BW HO hc0 hcx
        cases hd : rdDec x with
        | none =>
          rw [hd] at HN HNN
          have HF := Aside0.mk (show rdLine s = none from by rw [HRL.out]; show (rdNums tl).map _ = none; rw [← HN.out]; rfl)
          simp only [Option.isSome_none]
          go_wp2_with fail
          go_ret3
          exact ⟨.slice none 0 0, by rw [HF.out]; rfl, by rw [HF.out]; exact Kd.R_nil _ _ _ _ _, HB2.out⟩
        | some v =>
          rw [hd] at HN HNN
          obtain ⟨rfl, hv0, hv1⟩ := HNN.out v rfl
          have HN2 := Aside0.mk (show (rdNums (tl.drop (kk + 1))).map ((acc ++ [nn]) ++ ·) = rdNums tl from HN.out)
          clear HN HNN hd
          simp only [Option.isSome_some]
          go_wp2_with (first | ((with_reducible refine gate_builtin (b := .append) (xs := #[.tmp 27, .tmp 29]) rfl ?_); at_builtin; refine Kd.R_append (Kd.int .i64) (w0 := w) w.heap.size rfl (.tmp 27) (.tmp 29) 58 2 (.int .i64 0) 8 rfl Tryd.underlying58 info2 rfl (by decide) (by omega) _ acc nn [.int .i64 nn] (fun _ => True) (fun _ => False) rfl rfl ?aP (fun _ hk => hk.elim) ?aF ?aO ?aB ?aS ?aL ?_; (case aP => exact string_mk _ _ _ nn); (case aB => exact HB2.out); (case aF => exact (fun _ _ => trivial)); (case aO => exact HO2.out); (case aS => exact below_size HB2.out); (case aL => have := HA.out; have := HS.out; omega); intro v3 w3 ho3 hb3 hg3 hat3; have HO3 := Aside0.mk ho3; have HB3 := Aside0.mk hb3; have BW3 := Aside0.mk (hg3.block _ (blk_lt BW2.out) (Kd.R_ne HO2.out BW2.out (by decide)) |>.trans BW2.out); clear ho3 hb3 hg3 hat3))
          go_roundg (gk - 1)
          case measure => omega
          case rel => exact ⟨kk + 1, acc ++ [nn], by omega, by omega, by rw [show wrap64 ((kk : Int) + 1) = ((kk + 1 : Nat) : Int) from by have := HS.out; unfold wrap64; omega], ⟨by rw [List.length_append, HA.out]; rfl⟩, HN2, HB3, BW3, HO3⟩
      · obtain rfl : kk = tl.length := by omega
        have HF := Aside0.mk (show rdLine s = some (x0, acc) from by
          have h := HE.out
          rw [List.drop_length] at h
          rw [HRL.out]
          show (rdNums tl).map _ = _
          rw [← h]
          simp [rdNums])
        go_wp2_with fail
        go_ret3
        exact ⟨_, by rw [HF.out]; rfl, by rw [HF.out]; exact HO.out, HB.out⟩

end Go.Proofs.YtohjpgcmhihdhaaDoorW.PrintMore

namespace Go.Proofs.YtohjpgcmhihdhaaDoorW.PrintMore
open Go.RowKit Go.Proofs.YtohjpgcmhihdhaaDoorW.PrintWords Go.Proofs.YtohjpgcmhihdhaaDoorW.PrintLast Go.Proofs.YtohjpgcmhihdhaaDoor.Q
attribute [local go_sem] Oper.semAt_some
set_option linter.unusedVariables false
set_option linter.unusedSimpArgs false
theorem lines_len (s : ByteArray) : s.data.toList.length = s.size := Array.length_toList
/-- the first line of a text, its end with it, and what stands behind it -/
def cutL (r : ByteArray) : ByteArray × ByteArray := if 0 ≤ Lib.indexByte r.data.toList 10 then (r.extract 0 ((Lib.indexByte r.data.toList 10).toNat + 1), r.extract ((Lib.indexByte r.data.toList 10).toNat + 1) r.size) else (r, ⟨#[]⟩)
/-- how long the text in a box is -/
def boxLen (bs : Nat) (w : World) : Nat := match w.cell? ⟨bs, 0, none⟩ with
  | some (.string r) => r.size
  | _ => 0
theorem boxLen_eq {bs : Nat} {w : World} {r : ByteArray} (h : w.cell? ⟨bs, 0, none⟩ = some (.string r)) : boxLen bs w = r.size := by unfold boxLen; rw [h]
/-- how the iterator ends: the text is at its end, or a round has said 'no more' -/
def LinesOut (J : ByteArray → World → Prop) (Jx : World → Prop) (e : Ending) (W : World) : Prop := (∃ v, e = .returned v) ∧ ((∃ r, r.size = 0 ∧ J r W) ∨ Jx W)
set_option maxHeartbeats 2000000 in
set_option maxRecDepth 100000 in
theorem lines_calls (n l bs : Nat) (hn : 2 ≤ n) (J : ByteArray → World → Prop) (J2 : ByteArray → ByteArray → World → Prop) (Jx : World → Prop)
    (hbox : ∀ r W, J r W → W.cell? ⟨bs, 0, none⟩ = some (.string r) ∧ W.frozen? ⟨bs, 0, none⟩ = false ∧ r.size ≤ 1048576)
    (hcut : ∀ r W, J r W → 0 < r.size → J2 (cutL r).1 (cutL r).2 (W.setCell ⟨bs, 0, none⟩ (.string (cutL r).2)) ∧ J2 (cutL r).1 (cutL r).2 (W.setCell ⟨bs, 0, none⟩ (.string (cutL r).2)).drew)
    (hY : ∀ x r W, J2 x r W → YieldAt Fence.wide (n - 1) Tryd.prog l #[.string x] W fun e W' => (e = .returned (.bool true) ∧ J r W') ∨ (e = .returned (.bool false) ∧ Jx W'))
    (r : ByteArray) (W : World) (h0 : J r W) :
    CallsIn Fence.wide n Tryd.prog 50 #[.func (.yield l) #[] #[], .pointer (some ⟨bs, 0, none⟩)] W fun e W' => LinesOut J Jx e W' := by
  refine callsIn_of_wp Tryd.func50 rfl trivial ?_ rfl
  simp only [Tryd.ntmps50, List.size_toArray, List.length_cons, List.length_nil, Nat.reduceAdd, Nat.reduceSub, Array.replicate_succ, Array.replicate_zero, List.push_toArray, List.append_toArray, List.nil_append, List.cons_append]
  gi_wp2
  gi_loopw [] (fun wr => ∃ r, J r wr) (fun wr => boxLen bs wr)
  case atStart => exact ⟨r, h0⟩
  case round =>
    obtain ⟨r, hJ⟩ := hrel
    obtain ⟨hc, hf, hm⟩ := hbox r wr hJ
    by_cases hz : r.size = 0
    · have b0 : ¬ (0 : Int) < (r.size : Int) := by omega
      have b1 := eq_false (show ¬ 0 < r.size by omega)
      gi_wp2
      go_end0
      exact ⟨⟨_, rfl⟩, .inl ⟨r, hz, hJ⟩⟩
    · have b0 := eq_true (show (0 : Int) < (r.size : Int) by omega)
      have b1 := eq_true (show 0 < r.size by omega)
      have hC := Tryd.strings_IndexByte r 10 wr
      have h10 : (10 : Int).toNat.toUInt8 = 10 := rfl
      rw [h10] at hC
      have hcu := hcut r wr hJ (by omega)
      have hge := Lib.indexByte_ge r.data.toList 10
      have hlt : Lib.indexByte r.data.toList 10 < (r.size : Int) := by
        rcases Int.lt_or_le (Lib.indexByte r.data.toList 10) 0 with h | h
        · omega
        · obtain ⟨o, ho⟩ := Int.eq_ofNat_of_zero_le h
          have h2 := (List.getElem?_eq_some_iff.1 (Lib.indexByte_some ho).1).1
          have h3 := lines_len r
          omega
      unfold cutL at hcu
      generalize Lib.indexByte r.data.toList 10 = ix at hC hcu hge hlt
      by_cases hi : 0 ≤ ix
      · rw [if_pos hi] at hcu
        obtain ⟨o, rfl⟩ := Int.eq_ofNat_of_zero_le hi
        simp only [Int.toNat_natCast] at hcu
        obtain ⟨f1, t1, a1, b1', hy1, hR1⟩ := hY _ _ _ hcu.1
        obtain ⟨f2, t2, a2, b2', hy2, hR2⟩ := hY _ _ _ hcu.2
        have o1 : wrap64 ((o : Int) + 1) = (o : Int) + 1 := by unfold wrap64; omega
        have o2 := eq_true (show (0 : Int) ≤ (o : Int) by omega)
        have o3 : (0 : Int) ≤ (o : Int) + 1 := by omega
        have o4 : (o : Int) + 1 ≤ (r.size : Int) := by omega
        gi_wp2
        refine ⟨trivial, (fun h => by cases h), (callsIn_wide.2 hC).mono ?_⟩
        rintro e w' ⟨rfl, rfl⟩
        gi_wp2
        gi_region
        all_goals
          gi_wp2
          refine ⟨(fun h => by cases h), hR2.mono ?_⟩
          rintro e W3 (⟨rfl, hJ3⟩ | ⟨rfl, hJx3⟩)
          · gi_wp2
            go_roundw
            case rel => exact ⟨_, hJ3⟩
            case measure =>
              rw [boxLen_eq (hbox _ _ hJ3).1, boxLen_eq hc, ByteArray.size_extract]
              omega
          · gi_wp2
            refine bodyPost_ret (results_none rfl _ _ _) rfl ?_
            exact ⟨⟨_, rfl⟩, .inr hJx3⟩
      · rw [if_neg hi] at hcu
        obtain ⟨f1, t1, a1, b1', hy1, hR1⟩ := hY _ _ _ hcu.1
        have o2 := eq_false hi
        gi_wp2
        refine ⟨trivial, (fun h => by cases h), (callsIn_wide.2 hC).mono ?_⟩
        rintro e w' ⟨rfl, rfl⟩
        gi_wp2
        refine ⟨(fun h => by cases h), hR1.mono ?_⟩
        rintro e W3 (⟨rfl, hJ3⟩ | ⟨rfl, hJx3⟩)
        · gi_wp2
          go_roundw
          case rel => exact ⟨_, hJ3⟩
          case measure =>
            rw [boxLen_eq (hbox _ _ hJ3).1, boxLen_eq hc]
            have : (⟨#[]⟩ : ByteArray).size = 0 := rfl
            omega
        · gi_wp2
          refine bodyPost_ret (results_none rfl _ _ _) rfl ?_
          exact ⟨⟨_, rfl⟩, .inr hJx3⟩
/-- a block with a cell holds cells -/
theorem cells_of_cell {W : World} {a : Addr} {v : Value} (h : W.cell? a = some v) : ∃ o : Obj, W.heap[a.block]? = some o ∧ o.isCells = true := by
  unfold World.cell? at h
  cases ho : W.heap[a.block]? with
  | none => simp [ho] at h
  | some o => exact ⟨o, rfl, by cases o <;> simp_all [Obj.isCells]⟩
/-- how a round's body may be left -/
def linePost (I : ByteArray → World → Prop) (Ix : Code → World → Prop) (r : ByteArray) (W : World) : Exit → Act → World → Prop
  | .normal, _, W' => KeepsOthers W W' ∧ I r W'
  | .ret, _, W' => KeepsOthers W W' ∧ Ix .ret W'
  | .exit id, _, W' => KeepsOthers W W' ∧ Ix (.exit id) W'
  | .goto t, _, W' => KeepsOthers W W' ∧ Ix (.goto t) W'
  | .panic _, _, _ => False
  | .outgrown, _, _ => False
set_option maxHeartbeats 2000000 in
/-- a range over the lines of the text in a box -/
theorem range_lines {g : Operand} {p : Tmp} {assign body : Code} {Q : Exit → Act → World → Prop} {a : Act} {w : World} {n : Nat} (hn : 4 ≤ n) (bs : Nat)
    (hg : a.eval g = .func (.func 50) #[] #[.pointer (some ⟨bs, 0, none⟩)]) (eg : ∀ args w, (callFunc 50 args).run Tryd.prog w = .ok (.enter 50 args) w)
    (I : ByteArray → World → Prop) (I2 : ByteArray → ByteArray → World → Prop) (Ix : Code → World → Prop)
    (hIa : ∀ r W o, I r W → I r (W.alloc o))
    (hIp : ∀ r W k o o', w.heap.size ≤ k → I r W → W.heap[k]? = some o → o.isCells = false → I r (W.putObj k o'))
    (hI2p : ∀ x r W k o o', w.heap.size ≤ k → I2 x r W → W.heap[k]? = some o → o.isCells = false → I2 x r (W.putObj k o'))
    (hIxp : ∀ c W k o o', w.heap.size ≤ k → Ix c W → W.heap[k]? = some o → o.isCells = false → Ix c (W.putObj k o'))
    (hbox : ∀ r W, I r W → W.cell? ⟨bs, 0, none⟩ = some (.string r) ∧ W.frozen? ⟨bs, 0, none⟩ = false ∧ r.size ≤ 1048576)
    (hcut : ∀ r W, I r W → 0 < r.size → I2 (cutL r).1 (cutL r).2 (W.setCell ⟨bs, 0, none⟩ (.string (cutL r).2)) ∧ I2 (cutL r).1 (cutL r).2 (W.setCell ⟨bs, 0, none⟩ (.string (cutL r).2)).drew)
    (s : ByteArray) (h0 : I s w) (a₁ : ByteArray → Act)
    (hassign : ∀ (l : Nat) (x : ByteArray) (W : World) (K : Act → World → Prop), K (a₁ x) W →
      assign.wpIn (Fence.wide.inRound l) (n - 1 - 1) Tryd.prog (Exit.then K (fun _ _ _ => False)) { tmps := (#[p].zip #[Value.string x]).foldl (fun t (p, v) => t.setIfInBounds p v) a.tmps, defers := [] } W)
    (hbody : ∀ (l : Nat) (x r : ByteArray) (W : World), I2 x r W → body.wpIn (Fence.wide.inRound l) (n - 1 - 1) Tryd.prog (linePost I Ix r W) (a₁ x) W)
    (hdone : ∀ (D : Nat) (r : ByteArray) (W : World), w.heap.size ≤ D → r.size = 0 → I r W → W.heap[D]? = some (.deferred (some [])) → Q .normal { a with defers := { target := .collected D, args := #[] } :: a.defers } W)
    (hstop : ∀ (D : Nat) (c : Code) (W : World), w.heap.size ≤ D → Ix c W → W.heap[D]? = some (.deferred (some [])) → c.wpIn Fence.wide n Tryd.prog Q { a with defers := { target := .collected D, args := #[] } :: a.defers } W) :
    (Code.rangeFunc g #[p] assign body).wpIn Fence.wide n Tryd.prog Q a w := by
  refine wpIn_rangeFunc ?_
  intro fn hfn
  rw [show Fence.wide.round = none from rfl]
  obtain ⟨rec, hrec⟩ : ∃ rec : LoopState → Option Code → Loop, rec = fun st pe => { state := st, pending := pe, fn, tmps := a.tmps, params := #[p], assign, body, defers := w.heap.size } := ⟨_, rfl⟩
  obtain ⟨W1, hW1⟩ : ∃ W1, (w.alloc (.deferred (some []))).alloc (.loop (rec .ready none)) = W1 := ⟨_, rfl⟩
  have hL1 : W1.heap[w.heap.size + 1]? = some (.loop (rec .ready none)) := by
    rw [← hW1]; have := World.alloc_heap_new (w.alloc (.deferred (some []))) (.loop (rec .ready none)); rwa [World.size_alloc] at this
  have hK1 : W1.heap[w.heap.size]? = some (.deferred (some [])) := by
    rw [← hW1]; exact (Below.heap_alloc _ _ _ (by simp)).trans (World.alloc_heap_new w _)
  have hI1 : I s W1 := by rw [← hW1]; exact hIa _ _ _ (hIa _ _ _ h0)
  refine ⟨w.heap.size + 1, [{ target := .collected w.heap.size, args := #[] }], W1, { target := .fn (.func 50) #[.pointer (some ⟨bs, 0, none⟩)], args := #[.func (.yield (w.heap.size + 1)) #[] #[]] }, W1, 50,
    #[.func (.yield (w.heap.size + 1)) #[] #[]] ++ #[.pointer (some ⟨bs, 0, none⟩)], W1, ?_, ?_, ?_, ?_, fun _ => by omega, ?_⟩
  · rw [← hW1, hrec]; exact run_enterLoop_outer _ _ _ _ _
  · simp only [resolve, hg]
    simp [go_sem]
  · intro f' hf'; exact trivial
  · simp [invoke, go_sem, eg]
  · have other : ∀ (r : ByteArray) (W : World) (k : Nat) (o : Obj), I r W → W.heap[k]? = some o → o.isCells = false → ∀ v, (W.setCell ⟨bs, 0, none⟩ v).heap[k]? = some o := fun r W k o hi ho hc v => by
      obtain ⟨o2, h2, h3⟩ := cells_of_cell (hbox r W hi).1
      exact (Below.heap_setCell W ⟨bs, 0, none⟩ v k (fun e => by subst e; rw [ho] at h2; injection h2 with h2; subst h2; rw [hc] at h3; cases h3)).trans ho
    refine (lines_calls (n - 1) (w.heap.size + 1) bs (by omega)
      (fun r W => I r W ∧ W.heap[w.heap.size + 1]? = some (.loop (rec .ready none)) ∧ W.heap[w.heap.size]? = some (.deferred (some [])))
      (fun x r W => I2 x r W ∧ W.heap[w.heap.size + 1]? = some (.loop (rec .ready none)) ∧ W.heap[w.heap.size]? = some (.deferred (some [])))
      (fun W => ∃ c, Ix c W ∧ W.heap[w.heap.size + 1]? = some (.loop (rec .done (some c))) ∧ W.heap[w.heap.size]? = some (.deferred (some [])))
      (fun r W h => hbox r W h.1)
      (fun r W h hp => by
        obtain ⟨hi, hl, hk⟩ := h
        obtain ⟨h1, h2⟩ := hcut r W hi hp
        exact ⟨⟨h1, other r W _ _ hi hl rfl _, other r W _ _ hi hk rfl _⟩, ⟨h2, other r W _ _ hi hl rfl _, other r W _ _ hi hk rfl _⟩⟩)
      ?_ s W1 ⟨hI1, hL1, hK1⟩).mono ?_
    · rintro x r W ⟨hi, hl, hk⟩
      have hlt : w.heap.size + 1 < W.heap.size := (Array.getElem?_eq_some_iff.1 hl).1
      have hy := run_yield (P := Tryd.prog) (args := #[.string x]) hl (by rw [hrec]; rfl)
      rw [hrec] at hy
      refine ⟨fn, _, assign, body, hy, roundIn_of_wpIn hfn (hassign _ x W _ ⟨_, run_beginRound hl (by rw [hrec]), ?_⟩)⟩
      have hl2 : (W.putObj (w.heap.size + 1) (.loop { rec .ready none with state := .busy })).heap[w.heap.size + 1]? = some (.loop { rec .ready none with state := .busy }) := World.putObj_heap_same hlt
      have hk2 : (W.putObj (w.heap.size + 1) (.loop { rec .ready none with state := .busy })).heap[w.heap.size]? = some (.deferred (some [])) := (World.putObj_heap_other (by omega)).trans hk
      refine wpIn_mono (hbody _ x r _ (hI2p _ _ _ _ _ _ (Nat.le_succ _) hi hl rfl)) ?_
      have fin : ∀ (jump : Option Code) (W3 : World), KeepsOthers (W.putObj (w.heap.size + 1) (.loop { rec .ready none with state := .busy })) W3 →
          (Instr.endRound (w.heap.size + 1) jump).run Tryd.prog W3 = .ok (.bool jump.isNone) (W3.putObj (w.heap.size + 1) (.loop (rec (if jump.isNone then .ready else .done) jump))) ∧
          W3.heap[w.heap.size + 1]? = some (.loop { rec .ready none with state := .busy }) ∧
          (W3.putObj (w.heap.size + 1) (.loop (rec (if jump.isNone then .ready else .done) jump))).heap[w.heap.size + 1]? = some (.loop (rec (if jump.isNone then .ready else .done) jump)) ∧
          (W3.putObj (w.heap.size + 1) (.loop (rec (if jump.isNone then .ready else .done) jump))).heap[w.heap.size]? = some (.deferred (some [])) := fun jump W3 hk3 => by
        have hl3 := hk3.same _ _ hl2 rfl
        have := run_endRound (P := Tryd.prog) jump hl3
        rw [hrec] at this ⊢
        exact ⟨this, by rw [hrec] at hl3; exact hl3, World.putObj_heap_same (Array.getElem?_eq_some_iff.1 hl3).1, (World.putObj_heap_other (by omega)).trans (hk3.same _ _ hk2 rfl)⟩
      rintro e a3 W3 hp
      cases e with
      | normal =>
        obtain ⟨hk3, hi3⟩ := hp
        obtain ⟨hr, hl3, hl4, hk4⟩ := fin none W3 hk3
        exact ⟨_, _, hr, .inl ⟨rfl, hIp _ _ _ _ _ (Nat.le_succ _) hi3 hl3 rfl, hl4, hk4⟩⟩
      | ret =>
        obtain ⟨hk3, hi3⟩ := hp
        obtain ⟨hr, hl3, hl4, hk4⟩ := fin (some .ret) W3 hk3
        exact ⟨_, _, hr, .inr ⟨rfl, .ret, hIxp _ _ _ _ _ (Nat.le_succ _) hi3 hl3 rfl, hl4, hk4⟩⟩
      | exit id =>
        obtain ⟨hk3, hi3⟩ := hp
        obtain ⟨hr, hl3, hl4, hk4⟩ := fin (some (.exit id)) W3 hk3
        exact ⟨_, _, hr, .inr ⟨rfl, .exit id, hIxp _ _ _ _ _ (Nat.le_succ _) hi3 hl3 rfl, hl4, hk4⟩⟩
      | goto t =>
        obtain ⟨hk3, hi3⟩ := hp
        obtain ⟨hr, hl3, hl4, hk4⟩ := fin (some (.goto t)) W3 hk3
        exact ⟨_, _, hr, .inr ⟨rfl, .goto t, hIxp _ _ _ _ _ (Nat.le_succ _) hi3 hl3 rfl, hl4, hk4⟩⟩
      | panic ch => exact hp.elim
      | outgrown => exact hp.elim
    · rintro e W2 ⟨⟨v, rfl⟩, (⟨r, hr, hi, hl, hk⟩ | ⟨c, hi, hl, hk⟩)⟩
      · exact ⟨none, _, by have := run_endLoop (P := Tryd.prog) hl (by rw [hrec]; simp); rw [hrec] at this; exact this, hdone _ r _ (Nat.le_refl _) hr (hIp _ _ _ _ _ (Nat.le_succ _) hi hl rfl) ((World.putObj_heap_other (by omega)).trans hk)⟩
      · exact ⟨some c, _, by have := run_endLoop (P := Tryd.prog) hl (by rw [hrec]; simp); rw [hrec] at this; exact this, hstop _ c _ (Nat.le_refl _) (hIxp _ _ _ _ _ (Nat.le_succ _) hi hl rfl) ((World.putObj_heap_other (by omega)).trans hk)⟩

end Go.Proofs.YtohjpgcmhihdhaaDoorW.PrintMore

namespace Go.Proofs.YtohjpgcmhihdhaaDoorW.PrintMore
open Go.RowKit Go.Proofs.YtohjpgcmhihdhaaDoorW.PrintWords Go.Proofs.YtohjpgcmhihdhaaDoorW.PrintLast Go.Proofs.YtohjpgcmhihdhaaDoor.Q
set_option linter.unusedVariables false
set_option linter.unusedSimpArgs false
/-- a slice in a row of the call's own, wherever it begins; of its spare nothing is said -/
def qslice {α : Type} (e : Nat) (d : Kd α) : Kd (List α) where
  sz := 1
  E := e :: d.E
  K := (Kd.slice e d).K
  M := fun w base ok xs cs => ∃ A c c', cs = [.slice A xs.length c'] ∧ xs.length ≤ c' ∧ d.Q e w base ok (.slice A xs.length c) xs
  K_len := (Kd.slice e d).K_len
  K_one := (Kd.slice e d).K_one
  K_below := (Kd.slice e d).K_below
  K_of_M := by
    rintro w base ok x cs ⟨A, c, c', rfl, hl, h⟩
    exact ⟨A, c', rfl, hl, (Kd.Q_reads' h).2.2⟩
  M_mono := by
    rintro w base ok ok' x cs hok ⟨A, c, c', rfl, hl, h⟩
    exact ⟨A, c, c', rfl, hl, Kd.Q_mono h hok⟩
  M_bound := by
    rintro w base ok x cs ⟨A, c, c', rfl, hl, h⟩
    exact ⟨A, c, c', rfl, hl, Kd.Q_bound h⟩
  M_move := by
    rintro w w1 base ok x cs hm ⟨A, c, c', rfl, hl, h⟩
    exact ⟨A, c, c', rfl, hl, Kd.Q_move h hm⟩
  M_lower := by
    rintro w base base' ok x cs hb ⟨A, c, c', rfl, hl, h⟩
    exact ⟨A, c, c', rfl, hl, Kd.Q_lower h hb⟩
def kqB : Kd S62 := Kd.iso (Kd.pair (Kd.int .i64) (Kd.pair (Kd.int .i64) (qslice 2 (Kd.int .i64)))) (fun x : S62 => (x.f0, x.f1, x.f2))
theorem kqB_openM {w : World} {base : Nat} {ok : Nat → Prop} {x : S62} {cs : List Value} (h : kqB.M w base ok x cs) : ∃ A c c', cs = [.int .i64 x.f0, .int .i64 x.f1, .slice A x.f2.length c'] ∧ x.f2.length ≤ c' ∧ (Kd.int .i64).Q 2 w base ok (.slice A x.f2.length c) x.f2 := by
  obtain ⟨_, _, rfl, rfl, ⟨_, _, rfl, rfl, ⟨A, c, c', rfl, hl, h⟩⟩⟩ := h
  exact ⟨A, c, c', rfl, hl, h⟩
theorem kqB_mkM (w : World) (base : Nat) (ok : Nat → Prop) (x : S62) {A : Option Addr} {c c' : Nat} (hl : x.f2.length ≤ c') (h : (Kd.int .i64).Q 2 w base ok (.slice A x.f2.length c) x.f2) : kqB.M w base ok x [.int .i64 x.f0, .int .i64 x.f1, .slice A x.f2.length c'] :=
  ⟨[.int .i64 x.f0], [.int .i64 x.f1, .slice A x.f2.length c'], rfl, rfl, ⟨[.int .i64 x.f1], [.slice A x.f2.length c'], rfl, rfl, ⟨A, c, c', rfl, hl, h⟩⟩⟩
theorem kqB_C {w : World} {A : Option Addr} {n : Nat} {xs : List S62} (h : Kd.C kqB w A n xs) : Kd.C k62 w A n xs := h
/-- what stands behind a row's first element -/
theorem tail_Q {w : World} {base g c : Nat} {ok : Nat → Prop} {x : Int} {xs : List Int} {n : Nat} (h : (Kd.int .i64).R 2 w base ok (.slice (some ⟨g, 0, none⟩) n c) (x :: xs)) :
    ∃ c2, (Kd.int .i64).Q 2 w base ok (.slice (if xs.length = 0 then some ⟨g, 0, none⟩ else some ⟨g, 1, none⟩) xs.length c2) xs := by
  have hn := Kd.R_reads' h
  obtain ⟨h1, h2, -⟩ := hn
  have hq := Kd.Q_of_R h
  by_cases h0 : xs.length = 0
  · obtain rfl : xs = [] := List.eq_nil_of_length_eq_zero h0
    exact ⟨c, Kd.Q_take hq (m := 0) (Nat.zero_le _)⟩
  · have hd := Kd.Q_drop hq (k := 1) (by simp)
    rw [List.length_cons] at h1
    rw [if_neg (show ¬ c = 1 by omega)] at hd
    rw [if_neg h0]
    exact ⟨c - 1, by
      have e : n - 1 = xs.length := by omega
      rw [e] at hd
      exact hd⟩

end Go.Proofs.YtohjpgcmhihdhaaDoorW.PrintMore

namespace Go.Proofs.YtohjpgcmhihdhaaDoor.Q
open Go.RowKit Go.Proofs.YtohjpgcmhihdhaaDoorW.PrintWords Go.Proofs.YtohjpgcmhihdhaaDoorW.PrintLast Go.Proofs.YtohjpgcmhihdhaaDoorW.PrintMore
attribute [local go_sem] max2_int min2_int max_two min_two max_three min_three max_four min_four   -- for this text's walks alone
set_option linter.unusedVariables false
set_option linter.unusedSimpArgs false
/-! ### slices_Index_string_string: function 53 -/
def slices_Index_string_string.l0 : Nat → List ByteArray → ByteArray → Int → Int → Option (Int)
  | 0, _, _, _, _ => none
  | k + 1, x0, x1, x7, x8 => if x8 < x7 then (if 0 ≤ x8 then (if x8 < (x0.length : Int) then (if x1.toList = (rdOf ByteArray.empty x0 x8).toList then (some x8) else (slices_Index_string_string.l0 k x0 x1 x7 (wrap64 (x8 + 1)))) else (none)) else (none)) else (some (-1))
def slices_Index_string_string.f (k : Nat) (l0 : List ByteArray) (a1 : ByteArray) : Option (Int) := slices_Index_string_string.l0 k l0 a1 (l0.length : Int) 0
set_option maxHeartbeats 8000000 in
set_option maxRecDepth 100000 in
theorem slices_Index_string_string.calls (k : Nat) (A0 : Option Addr) (c0 : Nat) (l0 : List ByteArray) (a1 : ByteArray) (r : Int) (w : World) (hr0 : Kd.C Kd.string w A0 l0.length l0) (hc0 : l0.length ≤ c0) (h : slices_Index_string_string.f k l0 a1 = some r) :
    Calls Tryd.prog 53 #[.slice A0 l0.length c0, .string a1] w fun e w' => e = .returned (.int .i64 r) ∧ Drawn0 w w' := by
  have HR0 := Aside0.mk hr0
  have HC0 := Aside0.mk hc0
  clear hr0 hc0
  have H : (slices_Index_string_string.l0 k l0 a1 (l0.length : Int) 0) = some r := h
  clear h
  have H' := Aside0.mk H
  clear H
  go_enter Tryd.func53, Tryd.ntmps53
  go_wp2
  go_loopg [8] k (fun kq v8 w' => ∃ (x8_1 : Int), v8 = .int .i64 x8_1 ∧ Aside0 (slices_Index_string_string.l0 kq l0 a1 (l0.length : Int) x8_1 = some r) ∧ Aside0 (kq ≤ k) ∧ Drawn0 w w')
  case atStart => exact ⟨(0), (by first | rfl | (simp; done) | (simp [*]; done)), H', ⟨Nat.le_refl _⟩, by repeat (first | exact Drawn0.refl _ | apply Drawn0.step)⟩
  case round =>
    clear H'
    try clear p2
    obtain ⟨x8_1, rfl, HA, HK1, ⟨m1, rfl⟩⟩ := hrel
    cases gk with
    | zero => exact absurd HA.out (by simp [slices_Index_string_string.l0])
    | succ k1 =>
      have H := HA.out
      clear HA
      simp only [slices_Index_string_string.l0] at H
      by_cases c3 : x8_1 < (l0.length : Int)
      · rw [if_pos c3] at H
        have c3b0 : decide (x8_1 < (l0.length : Int)) = true := decide_eq_true c3
        clear c3
        by_cases c4 : 0 ≤ x8_1
        · rw [if_pos c4] at H
          have c4b0 : decide (0 ≤ x8_1) = true := decide_eq_true c4
          clear c4
          by_cases c5 : x8_1 < (l0.length : Int)
          · rw [if_pos c5] at H
            have c5b0 : decide (x8_1 < (l0.length : Int)) = true := decide_eq_true c5
            clear c5
            by_cases c6 : a1.toList = (rdOf ByteArray.empty l0 x8_1).toList
            · rw [if_pos c6] at H
              have c6b0 : (a1.toList == (rdOf ByteArray.empty l0 x8_1).toList) = true := beq_iff_eq.mpr c6
              have c6b1 : (a1.toList != (rdOf ByteArray.empty l0 x8_1).toList) = false := bne_eq_false_iff_eq.mpr c6
              clear c6
              obtain rfl := Option.some.inj H
              have p410 : 0 ≤ (x8_1 : Int) := of_decide_eq_true (by assumption)
              have q410 : x8_1 < (l0.length : Int) := of_decide_eq_true (by assumption)
              obtain ⟨ad410, e410, hx410_0⟩ := Kd.at_string HR0.out x8_1 p410 q410
              cases e410
              replace p410 := eq_true p410
              replace q410 := eq_true q410
              go_wp2
              go_ret
              exact ⟨by first | rfl | (simp; done) | (simp [*]; done), by repeat (first | exact Drawn0.refl _ | apply Drawn0.step)⟩
            · rw [if_neg c6] at H
              have c6b0 : (a1.toList == (rdOf ByteArray.empty l0 x8_1).toList) = false := beq_eq_false_iff_ne.mpr c6
              have c6b1 : (a1.toList != (rdOf ByteArray.empty l0 x8_1).toList) = true := bne_iff_ne.mpr c6
              have H' := Aside0.mk H
              clear H
              have p410 : 0 ≤ (x8_1 : Int) := of_decide_eq_true (by assumption)
              have q410 : x8_1 < (l0.length : Int) := of_decide_eq_true (by assumption)
              obtain ⟨ad410, e410, hx410_0⟩ := Kd.at_string HR0.out x8_1 p410 q410
              cases e410
              replace p410 := eq_true p410
              replace q410 := eq_true q410
              go_wp2
              go_roundg k1
              case measure => have := HK1.out; omega
              case rel => exact ⟨(wrap64 (x8_1 + 1)), (by first | rfl | (simp; done) | (simp [*]; done)), H', ⟨by have := HK1.out; omega⟩, by repeat (first | exact Drawn0.refl _ | apply Drawn0.step)⟩
          · rw [if_neg c5] at H
            exact absurd H (by simp)
        · rw [if_neg c4] at H
          exact absurd H (by simp)
      · rw [if_neg c3] at H
        have c3b0 : decide (x8_1 < (l0.length : Int)) = false := decide_eq_false c3
        clear c3
        obtain rfl := Option.some.inj H
        go_wp2
        go_ret
        exact ⟨by first | rfl | (simp; done) | (simp [*]; done), by repeat (first | exact Drawn0.refl _ | apply Drawn0.step)⟩

end Go.Proofs.YtohjpgcmhihdhaaDoor.Q

namespace Go.Proofs.YtohjpgcmhihdhaaDoorW.PrintMore
open Go.RowKit Go.Proofs.YtohjpgcmhihdhaaDoorW.PrintWords Go.Proofs.YtohjpgcmhihdhaaDoorW.PrintLast Go.Proofs.YtohjpgcmhihdhaaDoor.Q
set_option linter.unusedVariables false
set_option linter.unusedSimpArgs false
def kws : List ByteArray := [⟨#[110, 111, 100, 101]⟩, ⟨#[104, 111, 115, 116]⟩, ⟨#[114, 97, 99, 107]⟩, ⟨#[114, 111, 111, 116]⟩]
/-- the kind of a word; -1 of none -/
def kdW (s : ByteArray) : Int := if s = ⟨#[110, 111, 100, 101]⟩ then 0 else if s = ⟨#[104, 111, 115, 116]⟩ then 1 else if s = ⟨#[114, 97, 99, 107]⟩ then 2 else if s = ⟨#[114, 111, 111, 116]⟩ then 3 else -1
theorem index_kd (s : ByteArray) : slices_Index_string_string.f 6 kws s = some (kdW s) := by
  have st : ∀ (k i : Nat) (h : i < 4), slices_Index_string_string.l0 (k + 1) kws s 4 i = if s = kws[i]'h then some (i : Int) else slices_Index_string_string.l0 k kws s 4 ((i + 1 : Nat) : Int) := fun k i h => by
    have er : rdOf ByteArray.empty kws (i : Int) = kws[i]'h := by
      unfold rdOf
      rw [Int.toNat_natCast, List.getD_eq_getElem?_getD, List.getElem?_eq_getElem (show i < kws.length from h)]
      rfl
    simp only [slices_Index_string_string.l0]
    rw [if_pos (by omega), if_pos (by omega), if_pos (show (i : Int) < (kws.length : Int) from by have : kws.length = 4 := rfl; omega), er, show wrap64 ((i : Int) + 1) = ((i + 1 : Nat) : Int) from by unfold wrap64; omega]
    simp only [str_eq_iff]
  have e4 : slices_Index_string_string.l0 2 kws s 4 ((4 : Nat) : Int) = some (-1) := by
    simp only [slices_Index_string_string.l0]
    rw [if_neg (by omega)]
  show slices_Index_string_string.l0 6 kws s 4 ((0 : Nat) : Int) = _
  rw [st 5 0 (by omega), st 4 1 (by omega), st 3 2 (by omega), st 2 3 (by omega), e4]
  unfold kdW
  rw [apply_ite some, apply_ite some, apply_ite some, apply_ite some]
  rfl
/-- a line added to what was read so far -/
def addM (D : List S65) (B : List S62) (s : ByteArray) : Option (List S65 × List S62) :=
  (rdLine s).bind fun x => match x.2 with
    | [] => none
    | a :: r => if kdW x.1 < 0 then none else if kdW x.1 = 0 then (match r with | [b] => some (D ++ [⟨a, b⟩], B) | _ => none) else some (D, B ++ [⟨a, kdW x.1, r⟩])
/-- a topology that is being read, in its box -/
structure TreeAt (base : Nat) (w : World) (gt : Nat) (v0 v1 : Value) (D : List S65) (B : List S62) : Prop where
  box : w.heap[gt]? = some (.cells #[v0, v1] 32 (0, 0))
  d : Kd.R k65 65 w base (fun _ => True) v0 D
  b : Kd.S kqB 62 w base (fun _ => True) v1 B
theorem TreeAt.below {base gt : Nat} {w w' : World} {v0 v1 : Value} {D : List S65} {B : List S62} (h : TreeAt base w gt v0 v1 D B) (hb : Below w.heap.size w w') : TreeAt base w' gt v0 v1 D B :=
  ⟨blk_below h.box hb, Kd.R_below h.d hb, Kd.S_below h.b hb⟩
/-- what a line's adding may write -/
def AddS (gt : Nat) (v0 v1 : Value) (k : Nat) : Prop := k = gt ∨ v0.ownBlock = some k ∨ v1.ownBlock = some k
def AddOut (base gt : Nat) (v0 v1 : Value) (D : List S65) (B : List S62) (s : ByteArray) (e : Ending) (w w' : World) : Prop :=
  e = .returned (.bool (addM D B s).isSome) ∧ (∀ D' B', addM D B s = some (D', B') → ∃ v0' v1', TreeAt base w' gt v0' v1' D' B') ∧ Below base w w' ∧ Kept w w' (AddS gt v0 v1)
set_option maxHeartbeats 8000000 in
set_option maxRecDepth 100000 in
theorem addLine_at (base gt : Nat) (s : ByteArray) (v0 v1 : Value) (D : List S65) (B : List S62) (w : World) (hs : s.size ≤ 1048576) (hD : DoorW w) (hT : TreeAt base w gt v0 v1 D B) (hg : base ≤ gt) (hd : D.length ≤ 2097152) (hb : B.length ≤ 2097152) :
    Calls Tryd.prog 26 #[.pointer (some ⟨gt, 0, none⟩), .string s] w fun e w' => AddOut base gt v0 v1 D B s e w w' := by
  have HT := Aside0.mk hT
  have HG := Aside0.mk hg
  have HDL := Aside0.mk hd
  have HBL := Aside0.mk hb
  have HM := Aside0.mk (show addM D B s = (rdLine s).bind fun x => match x.2 with
    | [] => none
    | a :: r => if kdW x.1 < 0 then none else if kdW x.1 = 0 then (match r with | [b] => some (D ++ [⟨a, b⟩], B) | _ => none) else some (D, B ++ [⟨a, kdW x.1, r⟩]) from rfl)
  clear hT hg hd hb
  go_enter Tryd.func26, Tryd.ntmps26
  go_wp2_with fail
  refine (readLine_at s w hs hD).mono ?_
  rintro e w1 ⟨vn, rfl, hn, hb⟩
  have HB := Aside0.mk hb
  have HN := Aside0.mk hn
  clear hb hn hs hD
  cases hL : rdLine s with
  | none =>
    rw [hL] at HM HN
    have HF := Aside0.mk (show addM D B s = none from HM.out)
    obtain ⟨A, c, e⟩ := Kd.R_slice HN.out
    subst e
    simp only [Option.isSome_none, Option.elim_none]
    go_wp2_with fail
    go_ret
    exact ⟨by rw [HF.out]; rfl, (fun D' B' h => by rw [HF.out] at h; cases h), HB.out.mono (by have := blk_lt HT.out.box; have := HG.out; omega), Kept.of_below HB.out _⟩
  | some x =>
    obtain ⟨word, n⟩ := x
    rw [hL] at HM HN
    obtain ⟨A, c, e⟩ := Kd.R_slice HN.out
    subst e
    simp only [Option.isSome_some, Option.elim_some]
    cases n with
    | nil =>
      have HF := Aside0.mk (show addM D B s = none from HM.out)
      simp only [List.length_nil]
      go_wp2_with fail
      go_ret
      exact ⟨by rw [HF.out]; rfl, (fun D' B' h => by rw [HF.out] at h; cases h), HB.out.mono (by have := blk_lt HT.out.box; have := HG.out; omega), Kept.of_below HB.out _⟩
    | cons a r =>
      have HN1 := Aside0.mk (show (Kd.int .i64).R 2 w1 w.heap.size (fun _ => True) (.slice A (a :: r).length c) (a :: r) from HN.out)
      have HM1 := Aside0.mk (show addM D B s = if kdW word < 0 then none else if kdW word = 0 then (match r with | [b] => some (D ++ [⟨a, b⟩], B) | _ => none) else some (D, B ++ [⟨a, kdW word, r⟩]) from HM.out)
      clear HN HM
      have HN := HN1
      have HM := HM1
      clear HN1 HM1
      obtain ⟨L, hLn⟩ : ∃ L, (a :: r).length = L := ⟨_, rfl⟩
      rw [hLn] at HN ⊢
      have z0 : ((L : Int) == 0) = false := by rw [← hLn]; simp; omega
      have HLN := Aside0.mk hLn
      clear hLn
      go_wp2_with (first | ((with_reducible refine gate_dst (N := 22) rfl ?_); refine Kd.R_lit Kd.string _ 9 ?hg (N := 22) ?hd (xs := kws) (inner := [.string ⟨#[110, 111, 100, 101]⟩, .string ⟨#[104, 111, 115, 116]⟩, .string ⟨#[114, 97, 99, 107]⟩, .string ⟨#[114, 111, 111, 116]⟩]) (ok := fun _ => True) (okp := fun _ => True) ?hr ?hp (fun _ hk => hk) trivial (Below.refl _ _) (Nat.le_refl _) (by decide) ?_; (case hd => rfl); (case hg => rfl); (case hr => first | (go_simp; done) | (go_simp; rfl)); (case hp => exact (Reps.one (show Kd.M Kd.string _ _ _ _ [.string _] from rfl) (Reps.one (show Kd.M Kd.string _ _ _ _ [.string _] from rfl) (Reps.one (show Kd.M Kd.string _ _ _ _ [.string _] from rfl) (Reps.one (show Kd.M Kd.string _ _ _ _ [.string _] from rfl) (Reps.none _ _)))))); intro v22 w2 ho2 hb2 hg_ hnew_; clear hg_ hnew_))
      obtain ⟨As, cs, rfl⟩ := Kd.R_slice ho2
      obtain ⟨-, hls, hCs⟩ := Kd.R_reads' ho2
      clear ho2
      refine (slices_Index_string_string.calls 6 As cs kws word (kdW word) w2 hCs hls (index_kd word)).mono ?_
      rintro e w3 ⟨rfl, hb3⟩
      have HB3 := Aside0.mk (below_step (below_step HB.out hb2) hb3.below)
      have HN3 := Aside0.mk (Kd.R_below (Kd.R_below HN.out hb2) hb3.below)
      clear hb2 hb3 hCs hls HB HN z0
      by_cases k0 : kdW word < 0
      · have HF := Aside0.mk (show addM D B s = none from by rw [HM.out, if_pos k0])
        have k0b := decide_eq_true k0
        clear k0 HM
        generalize kdW word = kd at k0b ⊢
        go_wp2_with fail
        go_ret
        exact ⟨by rw [HF.out]; rfl, (fun D' B' h => by rw [HF.out] at h; cases h), HB3.out.mono (by have := blk_lt HT.out.box; have := HG.out; omega), Kept.of_below HB3.out _⟩
      have HT3 := Aside0.mk (HT.out.below HB3.out)
      have hT3 := HT3.out
      have HP := Aside0.mk (Kept.of_below HB3.out (AddS gt v0 v1))
      have HW := Aside0.mk (HB3.out.mono (show base ≤ w.heap.size by have := blk_lt HT.out.box; have := HG.out; omega))
      have HSZ := Aside0.mk (show base ≤ w.heap.size by have := blk_lt HT.out.box; have := HG.out; omega)
      have HVO := Aside0.mk (show (∀ k, v0.ownBlock = some k → k < w.heap.size) ∧ ∀ k, v1.ownBlock = some k → k < w.heap.size from ⟨Kd.R_lt HT.out.d, Kd.S_lt HT.out.b⟩)
      by_cases k1 : kdW word = 0
      · rw [k1]
        replace HM := Aside0.mk (HM.out.trans (by rw [if_neg (show ¬ kdW word < 0 by omega), if_pos k1]))
        clear k0 k1
        by_cases l2 : L = 2
        · obtain ⟨b, rfl⟩ : ∃ b, r = [b] := by
            have := HLN.out
            rw [l2] at this
            match r, this with
            | [b], _ => exact ⟨b, rfl⟩
          have HF := Aside0.mk (show addM D B s = some (D ++ [⟨a, b⟩], B) from HM.out)
          subst l2
          obtain ⟨gn, cn, en, hgn⟩ := Kd.R_form HN3.out (by simp)
          injection en with en1 en2 en3
          subst en1
          have HN0 := Aside0.mk (show w3.drew.cell? ⟨gn, 0, none⟩ = some (.int .i64 a) from (Kd.R_cell (0 : Int) HN3.out 0 (by omega) (by simp)).1)
          have HN1 := Aside0.mk (show w3.drew.cell? ⟨gn, 1, none⟩ = some (.int .i64 b) from (Kd.R_cell (0 : Int) HN3.out 1 (by omega) (by simp)).1)
          have HT4 := Aside0.mk (show TreeAt base w3.drew gt v0 v1 D B from HT3.out.below (below_drew1 (Below.refl _ _)))
          have HP4 := Aside0.mk (show Kept w w3.drew (AddS gt v0 v1) from HP.out.drew)
          have HW4 := Aside0.mk (show Below base w w3.drew from below_drew1 HW.out)
          have HS4 := Aside0.mk (show base ≤ w3.drew.heap.size from Nat.le_trans HSZ.out (below_size (below_drew1 HB3.out)))
          clear hgn en2 hT3
          go_wp2_with fail
          clear HT3 HP HW
          refine start_ (n := 17) (S := fun w' => w'.cell? ⟨gt, 0, none⟩ = some v0 ∧ w'.cell? ⟨gn, 0, none⟩ = some (.int .i64 a) ∧ w'.cell? ⟨gn, 1, none⟩ = some (.int .i64 b)) (ds := [13, 16]) #[false, false, false, false, false, false, false, false, false, false, false, false, false, false, false, false, false] (by kernel_rfl) rfl rfl ⟨(blk_cell HT4.out.box 0).trans rfl, HN0.out, HN1.out⟩ (fun hHeld => ?_)
          refine pure_ (i := 0) (N := some 60) (v := ?_) (a' := ?_) #[true, false, false, false, false, false, false, false, false, false, false, false, false, false, false, false, false] rfl rfl (by kernel_rfl) (fun _ _ _ h => h) (Or.inl ⟨by rfl, ?_⟩) ?_ ?_
          rotate_left
          · intro w'
            go_simp
            with_reducible rfl
          rotate_left
          · simp only [Act.put, List.setIfInBounds_toArray, List.set_cons_zero, List.set_cons_succ, i64_w, i32_w]
            rfl
          refine pure_ (i := 1) (N := some 61) (v := ?_) (a' := ?_) #[true, true, false, false, false, false, false, false, false, false, false, false, false, false, false, false, false] rfl rfl (by kernel_rfl) (fun _ _ _ h => h) (Or.inl ⟨by rfl, ?_⟩) ?_ ?_
          rotate_left
          · intro w'
            go_simp
            with_reducible rfl
          rotate_left
          · simp only [Act.put, List.setIfInBounds_toArray, List.set_cons_zero, List.set_cons_succ, i64_w, i32_w]
            rfl
          refine pure_ (i := 2) (N := some 62) (v := ?_) (a' := ?_) #[true, true, true, false, false, false, false, false, false, false, false, false, false, false, false, false, false] rfl rfl (by kernel_rfl) (fun _ _ _ h => h) (Or.inl ⟨by rfl, ?_⟩) ?_ ?_
          rotate_left
          · intro w'
            go_simp
            with_reducible rfl
          rotate_left
          · simp only [Act.put, List.setIfInBounds_toArray, List.set_cons_zero, List.set_cons_succ, i64_w, i32_w]
            rfl
          refine pure_ (i := 3) (N := some 63) (v := ?_) (a' := ?_) #[true, true, true, true, false, false, false, false, false, false, false, false, false, false, false, false, false] rfl rfl (by kernel_rfl) (fun _ _ _ h => h) (Or.inl ⟨by rfl, ?_⟩) ?_ ?_
          rotate_left
          · intro w'
            go_simp
            with_reducible rfl
          rotate_left
          · simp only [Act.put, List.setIfInBounds_toArray, List.set_cons_zero, List.set_cons_succ, i64_w, i32_w]
            rfl
          refine pure_ (i := 5) (N := some 65) (v := ?_) (a' := ?_) #[true, true, true, true, false, true, false, false, false, false, false, false, false, false, false, false, false] rfl rfl (by kernel_rfl) (fun _ _ _ h => h) (Or.inl ⟨by rfl, ?_⟩) ?_ ?_
          rotate_left
          · intro w'
            go_simp
            with_reducible rfl
          rotate_left
          · simp only [Act.put, List.setIfInBounds_toArray, List.set_cons_zero, List.set_cons_succ, i64_w, i32_w]
            rfl
          refine pure_ (i := 6) (N := some 66) (v := ?_) (a' := ?_) #[true, true, true, true, false, true, true, false, false, false, false, false, false, false, false, false, false] rfl rfl (by kernel_rfl) (fun _ _ _ h => h) (Or.inl ⟨by rfl, ?_⟩) ?_ ?_
          rotate_left
          · intro w'
            go_simp
            with_reducible rfl
          rotate_left
          · simp only [Act.put, List.setIfInBounds_toArray, List.set_cons_zero, List.set_cons_succ, i64_w, i32_w]
            rfl
          refine pure_ (i := 8) (N := some 68) (v := ?_) (a' := ?_) #[true, true, true, true, false, true, true, false, true, false, false, false, false, false, false, false, false] rfl rfl (by kernel_rfl) (fun _ _ _ h => h) (Or.inl ⟨by rfl, ?_⟩) ?_ ?_
          rotate_left
          · intro w'
            go_simp
            with_reducible rfl
          rotate_left
          · simp only [Act.put, List.setIfInBounds_toArray, List.set_cons_zero, List.set_cons_succ, i64_w, i32_w]
            rfl
          refine pure_ (i := 9) (N := some 69) (v := ?_) (a' := ?_) #[true, true, true, true, false, true, true, false, true, true, false, false, false, false, false, false, false] rfl rfl (by kernel_rfl) (fun _ _ _ h => h) (Or.inl ⟨by rfl, ?_⟩) ?_ ?_
          rotate_left
          · intro w'
            go_simp
            with_reducible rfl
          rotate_left
          · simp only [Act.put, List.setIfInBounds_toArray, List.set_cons_zero, List.set_cons_succ, i64_w, i32_w]
            rfl
          refine take_ (i := 4) (N := some 64) (v := ?_) (a' := ?_) #[true, true, true, true, true, true, true, false, true, true, false, false, false, false, false, false, false] rfl rfl (by kernel_rfl) (fun _ _ _ h => h) (Or.inl ⟨by rfl, ?_⟩) hHeld ?_ ?_
          rotate_left
          · rintro w' ⟨s0, s1, s2⟩
            go_simp
            with_reducible rfl
          rotate_left
          · simp only [Act.put, List.setIfInBounds_toArray, List.set_cons_zero, List.set_cons_succ, i64_w, i32_w]
            rfl
          refine take_ (i := 7) (N := some 67) (v := ?_) (a' := ?_) #[true, true, true, true, true, true, true, true, true, true, false, false, false, false, false, false, false] rfl rfl (by kernel_rfl) (fun _ _ _ h => h) (Or.inl ⟨by rfl, ?_⟩) hHeld ?_ ?_
          rotate_left
          · rintro w' ⟨s0, s1, s2⟩
            go_simp
            with_reducible rfl
          rotate_left
          · simp only [Act.put, List.setIfInBounds_toArray, List.set_cons_zero, List.set_cons_succ, i64_w, i32_w]
            rfl
          refine take_ (i := 10) (N := some 70) (v := ?_) (a' := ?_) #[true, true, true, true, true, true, true, true, true, true, true, false, false, false, false, false, false] rfl rfl (by kernel_rfl) (fun _ _ _ h => h) (Or.inl ⟨by rfl, ?_⟩) hHeld ?_ ?_
          rotate_left
          · rintro w' ⟨s0, s1, s2⟩
            go_simp
            with_reducible rfl
          rotate_left
          · simp only [Act.put, List.setIfInBounds_toArray, List.set_cons_zero, List.set_cons_succ, i64_w, i32_w]
            rfl
          refine pure_ (i := 11) (N := some 71) (v := ?_) (a' := ?_) #[true, true, true, true, true, true, true, true, true, true, true, true, false, false, false, false, false] rfl rfl (by kernel_rfl) (fun _ _ _ h => h) (Or.inl ⟨by rfl, ?_⟩) ?_ ?_
          rotate_left
          · intro w'
            go_simp
            with_reducible rfl
          rotate_left
          · simp only [Act.put, List.setIfInBounds_toArray, List.set_cons_zero, List.set_cons_succ, i64_w, i32_w]
            rfl
          refine one_ (i := 12) (N := some 72) #[true, true, true, true, true, true, true, true, true, true, true, true, true, false, false, false, false] rfl rfl (by kernel_rfl) (by decide) (fun K hK => ?_)
          generalize w3.drew = wd at HT4 HN0 HN1 HP4 HW4 HS4 hHeld ⊢
          refine value_ (w1 := ?_) (v := ?_) (by rfl) rfl ?_ ?_
          rotate_left 2
          · go_simp
            constructor
            · rfl
            · rfl
          refine hK.out _ _ ⟨(blk_cell (blk_alloc HT4.out.box _) 0).trans rfl, ((below_alloc (Below.refl wd.heap.size wd) _).cell (World.block_lt_of_cell? wd _ HN0.out)).trans HN0.out, ((below_alloc (Below.refl wd.heap.size wd) _).cell (World.block_lt_of_cell? wd _ HN1.out)).trans HN1.out⟩ (fun hHeld => ?_)
          clear hK K
          refine norm_ (a' := ?_) ?_ ?_
          rotate_left
          · show Act.put _ (some 72) _ = _
            simp only [Act.put, List.setIfInBounds_toArray, List.set_cons_zero, List.set_cons_succ, i64_w, i32_w]
            rfl
          refine last_ (i := 13) (N := some 73) #[true, true, true, true, true, true, true, true, true, true, true, true, true, true, false, false, false] rfl rfl (by kernel_rfl) (by decide) (fun K hK => ?_)
          refine Kd.R_append_step k65 (w0 := wd) base (by rfl) (.tmp 64) (.tmp 72) 29 65 (.agg #[(.int .i64 0), (.int .i64 0)]) 16 rfl Tryd.underlying29 info65 rfl (by decide) (by omega) v0 D (⟨a, b⟩ : S65) [.int .i64 a, .int .i64 b] (fun _ => True) (fun _ => False) rfl rfl ?aP (fun _ hk => hk.elim) ?aF ?aO ?aB ?aS ?aL ?_
          (case aP => exact k65_mkM _ _ _ (⟨a, b⟩ : S65))
          (case aF => exact (fun _ _ => trivial))
          (case aO => exact HT4.out.d)
          (case aB => exact Below.refl _ _)
          (case aS => exact HS4.out)
          (case aL => have := HDL.out; omega)
          intro v6 w6 ho hb hg6 hat
          have n1 := Aside0.mk (blk_grown HT4.out.box hg6 (Kd.R_ne HT4.out.d HT4.out.box (by decide)))
          have n2 := Aside0.mk (Kd.S_over' HT4.out.b (Kd.R_typed HT4.out.d) (by decide) hg6)
          have n3 := Aside0.mk ho
          have n4 := Aside0.mk (HW4.out.trans hb)
          have n5 := Aside0.mk (Kept.of_grown hg6 HP4.out (fun k e => .inl (.inr (.inl e))))
          clear ho hb hg6 hat
          obtain ⟨Ao, co, eo⟩ := Kd.R_slice n3.out
          rw [List.length_append, List.length_singleton] at eo
          subst eo
          refine hK.out _ _ ?_
          clear hK K
          refine norm_ (a' := ?_) ?_ ?_
          rotate_left
          · show Act.put _ (some 73) _ = _
            simp only [Act.put, List.setIfInBounds_toArray, List.set_cons_zero, List.set_cons_succ, i64_w, i32_w]
            rfl
          refine pure_ (i := 14) (N := some 74) (v := ?_) (a' := ?_) #[true, true, true, true, true, true, true, true, true, true, true, true, true, true, true, false, false] rfl rfl (by kernel_rfl) (fun _ _ _ h => h) (Or.inl ⟨by rfl, ?_⟩) ?_ ?_
          rotate_left
          · intro w'
            go_simp
            with_reducible rfl
          rotate_left
          · simp only [Act.put, List.setIfInBounds_toArray, List.set_cons_zero, List.set_cons_succ, i64_w, i32_w]
            rfl
          refine pure_ (i := 15) (N := some 75) (v := ?_) (a' := ?_) #[true, true, true, true, true, true, true, true, true, true, true, true, true, true, true, true, false] rfl rfl (by kernel_rfl) (fun _ _ _ h => h) (Or.inl ⟨by rfl, ?_⟩) ?_ ?_
          rotate_left
          · intro w'
            go_simp
            with_reducible rfl
          rotate_left
          · simp only [Act.put, List.setIfInBounds_toArray, List.set_cons_zero, List.set_cons_succ, i64_w, i32_w]
            rfl
          refine last_ (i := 16) (N := none) #[true, true, true, true, true, true, true, true, true, true, true, true, true, true, true, true, true] rfl rfl (by kernel_rfl) (by decide) (fun K hK => ?_)
          have hs7 := (blk_cell n1.out 0).trans rfl
          have hf7 := blk_frozen n1.out 0
          refine skip_ (w1 := ?_) (by rfl) rfl ?_ ?_
          rotate_left
          · go_simp
            rfl
          refine hK.out _ _ ?_
          clear hK K
          refine done_ (by kernel_rfl) ?_
          go_wp2_with fail
          go_ret
          refine ⟨by rw [HF.out]; rfl, fun D' B' h => ?_, n4.out.setCell HG.out _, Kept.setCell n5.out (.inl (.inl rfl)) _⟩
          rw [HF.out] at h
          injection h with h
          injection h with h1 h2
          subst h1
          subst h2
          exact ⟨_, _, blk_put n1.out 0 _ rfl, Kd.R_set n3.out n1.out (by decide) 0 _, Kd.S_set n2.out n1.out (by decide) 0 _⟩
        · have HF := Aside0.mk (show addM D B s = none from by
            rw [HM.out]
            match r, HLN.out with
            | [], _ => rfl
            | [b], h => exact absurd h.symm l2
            | b :: c :: r', _ => rfl)
          have l2a : ((L : Int) != 2) = true := by simp; omega
          have l2b : ((L : Int) == 2) = false := by simp; omega
          clear HM l2
          go_wp2_with fail
          go_ret
          exact ⟨by rw [HF.out]; rfl, (fun D' B' h => by rw [HF.out] at h; cases h), HW.out, HP.out⟩
      · have HF := Aside0.mk (show addM D B s = some (D, B ++ [⟨a, kdW word, r⟩]) from by rw [HM.out, if_neg k0, if_neg k1])
        have k0b := decide_eq_false k0
        have k1b : (kdW word == 0) = false := by simpa using k1
        clear HM k0 k1
        generalize kdW word = kd at HF k0b k1b ⊢
        obtain ⟨gn, cn, en, hgn⟩ := Kd.R_form HN3.out (by simp)
        injection en with en1 en2 en3
        subst en1
        subst en3
        subst en2
        have HN0 := Aside0.mk (show w3.drew.cell? ⟨gn, 0, none⟩ = some (.int .i64 a) from (Kd.R_cell (0 : Int) HN3.out 0 (by omega) (by simp)).1)
        obtain ⟨c2, hq⟩ := tail_Q HN3.out
        have hbd := (Kd.R_reads' HN3.out).2.1
        have hlow := HN3.out
        have HT4 := Aside0.mk (show TreeAt base w3.drew gt v0 v1 D B from HT3.out.below (below_drew1 (Below.refl _ _)))
        have HP4 := Aside0.mk (show Kept w w3.drew (AddS gt v0 v1) from HP.out.drew)
        have HW4 := Aside0.mk (show Below base w w3.drew from below_drew1 HW.out)
        have HS4 := Aside0.mk (show base ≤ w3.drew.heap.size from Nat.le_trans HSZ.out (below_size (below_drew1 HB3.out)))
        have HOK := Aside0.mk (show ∀ k, k = gn → True ∧ some k ≠ v1.ownBlock from fun k hk => ⟨trivial, fun he => by
          have h1 := HVO.out.2 k he.symm
          have h2 := hgn.1
          omega⟩)
        have HB0 := Aside0.mk (show Kd.S kqB 62 w3.drew base (fun k => True ∧ ¬ k = gn) v1 B from by
          have h1 := Kd.S_bound HT.out.b
          have h2 := Kd.S_mono (Kd.S_below h1 HB3.out) (ok' := fun k => True ∧ ¬ k = gn) (fun k hk => ⟨trivial, fun he => by have := hk.2.2.1; have := hgn.1; omega⟩)
          exact Kd.S_drew h2)
        by_cases hr : r.length = 0
        · obtain rfl : r = [] := List.eq_nil_of_length_eq_zero hr
          have HQ := Aside0.mk (show (Kd.int .i64).Q 2 w3.drew base (fun k => k = gn) (.slice (some ⟨gn, 0, none⟩) 0 c2) [] from Kd.Q_drew (Kd.Q_mono (Kd.Q_tight rfl (Kd.Q_lower hq HSZ.out)) (fun k hk => by simpa [Value.ownBlock] using hk)))
          have hb2 : (1 : Int) ≤ (c : Int) := by simp only [List.length_cons, List.length_nil] at hbd; omega
          clear hq hgn hT3 hbd hlow hr
          simp only [List.length_cons, List.length_nil]
          go_wp2_with fail
          clear HT HT3 HP HW
          refine start_ (n := 21) (S := fun w' => w'.cell? ⟨gt, 1, none⟩ = some v1 ∧ w'.cell? ⟨gn, 0, none⟩ = some (.int .i64 a)) (ds := [17, 20]) #[false, false, false, false, false, false, false, false, false, false, false, false, false, false, false, false, false, false, false, false, false] (by kernel_rfl) rfl rfl ⟨(blk_cell HT4.out.box 1).trans rfl, HN0.out⟩ (fun hHeld => ?_)
          refine pure_ (i := 0) (N := some 25) (v := ?_) (a' := ?_) #[true, false, false, false, false, false, false, false, false, false, false, false, false, false, false, false, false, false, false, false, false] rfl rfl (by kernel_rfl) (fun _ _ _ h => h) (Or.inl ⟨by rfl, ?_⟩) ?_ ?_
          rotate_left
          · intro w'
            go_simp
            with_reducible rfl
          rotate_left
          · simp only [Act.put, List.setIfInBounds_toArray, List.set_cons_zero, List.set_cons_succ, i64_w, i32_w]
            rfl
          refine pure_ (i := 1) (N := some 26) (v := ?_) (a' := ?_) #[true, true, false, false, false, false, false, false, false, false, false, false, false, false, false, false, false, false, false, false, false] rfl rfl (by kernel_rfl) (fun _ _ _ h => h) (Or.inl ⟨by rfl, ?_⟩) ?_ ?_
          rotate_left
          · intro w'
            go_simp
            with_reducible rfl
          rotate_left
          · simp only [Act.put, List.setIfInBounds_toArray, List.set_cons_zero, List.set_cons_succ, i64_w, i32_w]
            rfl
          refine pure_ (i := 2) (N := some 27) (v := ?_) (a' := ?_) #[true, true, true, false, false, false, false, false, false, false, false, false, false, false, false, false, false, false, false, false, false] rfl rfl (by kernel_rfl) (fun _ _ _ h => h) (Or.inl ⟨by rfl, ?_⟩) ?_ ?_
          rotate_left
          · intro w'
            go_simp
            with_reducible rfl
          rotate_left
          · simp only [Act.put, List.setIfInBounds_toArray, List.set_cons_zero, List.set_cons_succ, i64_w, i32_w]
            rfl
          refine pure_ (i := 3) (N := some 28) (v := ?_) (a' := ?_) #[true, true, true, true, false, false, false, false, false, false, false, false, false, false, false, false, false, false, false, false, false] rfl rfl (by kernel_rfl) (fun _ _ _ h => h) (Or.inl ⟨by rfl, ?_⟩) ?_ ?_
          rotate_left
          · intro w'
            go_simp
            with_reducible rfl
          rotate_left
          · simp only [Act.put, List.setIfInBounds_toArray, List.set_cons_zero, List.set_cons_succ, i64_w, i32_w]
            rfl
          refine pure_ (i := 5) (N := some 30) (v := ?_) (a' := ?_) #[true, true, true, true, false, true, false, false, false, false, false, false, false, false, false, false, false, false, false, false, false] rfl rfl (by kernel_rfl) (fun _ _ _ h => h) (Or.inl ⟨by rfl, ?_⟩) ?_ ?_
          rotate_left
          · intro w'
            go_simp
            with_reducible rfl
          rotate_left
          · simp only [Act.put, List.setIfInBounds_toArray, List.set_cons_zero, List.set_cons_succ, i64_w, i32_w]
            rfl
          refine pure_ (i := 6) (N := some 31) (v := ?_) (a' := ?_) #[true, true, true, true, false, true, true, false, false, false, false, false, false, false, false, false, false, false, false, false, false] rfl rfl (by kernel_rfl) (fun _ _ _ h => h) (Or.inl ⟨by rfl, ?_⟩) ?_ ?_
          rotate_left
          · intro w'
            go_simp
            with_reducible rfl
          rotate_left
          · simp only [Act.put, List.setIfInBounds_toArray, List.set_cons_zero, List.set_cons_succ, i64_w, i32_w]
            rfl
          refine pure_ (i := 8) (N := some 33) (v := ?_) (a' := ?_) #[true, true, true, true, false, true, true, false, true, false, false, false, false, false, false, false, false, false, false, false, false] rfl rfl (by kernel_rfl) (fun _ _ _ h => h) (Or.inl ⟨by rfl, ?_⟩) ?_ ?_
          rotate_left
          · intro w'
            go_simp
            with_reducible rfl
          rotate_left
          · simp only [Act.put, List.setIfInBounds_toArray, List.set_cons_zero, List.set_cons_succ, i64_w, i32_w]
            rfl
          refine pure_ (i := 9) (N := some 34) (v := ?_) (a' := ?_) #[true, true, true, true, false, true, true, false, true, true, false, false, false, false, false, false, false, false, false, false, false] rfl rfl (by kernel_rfl) (fun _ _ _ h => h) (Or.inl ⟨by rfl, ?_⟩) ?_ ?_
          rotate_left
          · intro w'
            go_simp
            with_reducible rfl
          rotate_left
          · simp only [Act.put, List.setIfInBounds_toArray, List.set_cons_zero, List.set_cons_succ, i64_w, i32_w]
            rfl
          refine pure_ (i := 10) (N := some 35) (v := ?_) (a' := ?_) #[true, true, true, true, false, true, true, false, true, true, true, false, false, false, false, false, false, false, false, false, false] rfl rfl (by kernel_rfl) (fun _ _ _ h => h) (Or.inl ⟨by rfl, ?_⟩) ?_ ?_
          rotate_left
          · intro w'
            go_simp
            with_reducible rfl
          rotate_left
          · simp only [Act.put, List.setIfInBounds_toArray, List.set_cons_zero, List.set_cons_succ, i64_w, i32_w]
            rfl
          refine pure_ (i := 11) (N := some 36) (v := ?_) (a' := ?_) #[true, true, true, true, false, true, true, false, true, true, true, true, false, false, false, false, false, false, false, false, false] rfl rfl (by kernel_rfl) (fun _ _ _ h => h) (Or.inl ⟨by rfl, ?_⟩) ?_ ?_
          rotate_left
          · intro w'
            go_simp
            with_reducible rfl
          rotate_left
          · simp only [Act.put, List.setIfInBounds_toArray, List.set_cons_zero, List.set_cons_succ, i64_w, i32_w]
            rfl
          refine pure_ (i := 12) (N := some 37) (v := ?_) (a' := ?_) #[true, true, true, true, false, true, true, false, true, true, true, true, true, false, false, false, false, false, false, false, false] rfl rfl (by kernel_rfl) (fun _ _ _ h => h) (Or.inl ⟨by rfl, ?_⟩) ?_ ?_
          rotate_left
          · intro w'
            go_simp
            with_reducible rfl
          rotate_left
          · simp only [Act.put, List.setIfInBounds_toArray, List.set_cons_zero, List.set_cons_succ, i64_w, i32_w]
            rfl
          refine pure_ (i := 13) (N := some 38) (v := ?_) (a' := ?_) #[true, true, true, true, false, true, true, false, true, true, true, true, true, true, false, false, false, false, false, false, false] rfl rfl (by kernel_rfl) (fun _ _ _ h => h) (Or.inl ⟨by rfl, ?_⟩) ?_ ?_
          rotate_left
          · intro w'
            go_simp
            with_reducible rfl
          rotate_left
          · simp only [Act.put, List.setIfInBounds_toArray, List.set_cons_zero, List.set_cons_succ, i64_w, i32_w]
            rfl
          refine pure_ (i := 14) (N := some 39) (v := ?_) (a' := ?_) #[true, true, true, true, false, true, true, false, true, true, true, true, true, true, true, false, false, false, false, false, false] rfl rfl (by kernel_rfl) (fun _ _ _ h => h) (Or.inl ⟨by rfl, ?_⟩) ?_ ?_
          rotate_left
          · intro w'
            go_simp
            with_reducible rfl
          rotate_left
          · simp only [Act.put, List.setIfInBounds_toArray, List.set_cons_zero, List.set_cons_succ, i64_w, i32_w]
            rfl
          refine take_ (i := 4) (N := some 29) (v := ?_) (a' := ?_) #[true, true, true, true, true, true, true, false, true, true, true, true, true, true, true, false, false, false, false, false, false] rfl rfl (by kernel_rfl) (fun _ _ _ h => h) (Or.inl ⟨by rfl, ?_⟩) hHeld ?_ ?_
          rotate_left
          · rintro w' ⟨s0, s1⟩
            go_simp
            with_reducible rfl
          rotate_left
          · simp only [Act.put, List.setIfInBounds_toArray, List.set_cons_zero, List.set_cons_succ, i64_w, i32_w]
            rfl
          refine take_ (i := 7) (N := some 32) (v := ?_) (a' := ?_) #[true, true, true, true, true, true, true, true, true, true, true, true, true, true, true, false, false, false, false, false, false] rfl rfl (by kernel_rfl) (fun _ _ _ h => h) (Or.inl ⟨by rfl, ?_⟩) hHeld ?_ ?_
          rotate_left
          · rintro w' ⟨s0, s1⟩
            go_simp
            with_reducible rfl
          rotate_left
          · simp only [Act.put, List.setIfInBounds_toArray, List.set_cons_zero, List.set_cons_succ, i64_w, i32_w]
            rfl
          refine pure_ (i := 15) (N := some 40) (v := ?_) (a' := ?_) #[true, true, true, true, true, true, true, true, true, true, true, true, true, true, true, true, false, false, false, false, false] rfl rfl (by kernel_rfl) (fun _ _ _ h => h) (Or.inl ⟨by rfl, ?_⟩) ?_ ?_
          rotate_left
          · intro w'
            go_simp
            with_reducible rfl
          rotate_left
          · simp only [Act.put, List.setIfInBounds_toArray, List.set_cons_zero, List.set_cons_succ, i64_w, i32_w]
            rfl
          refine one_ (i := 16) (N := some 41) #[true, true, true, true, true, true, true, true, true, true, true, true, true, true, true, true, true, false, false, false, false] rfl rfl (by kernel_rfl) (by decide) (fun K hK => ?_)
          generalize w3.drew = wd at HT4 HN0 HP4 HW4 HS4 HB0 HQ hHeld ⊢
          refine value_ (w1 := ?_) (v := ?_) (by rfl) rfl ?_ ?_
          rotate_left 2
          · go_simp
            constructor
            · rfl
            · rfl
          refine hK.out _ _ ⟨(blk_cell (blk_alloc HT4.out.box _) 1).trans rfl, ((below_alloc (Below.refl wd.heap.size wd) _).cell (World.block_lt_of_cell? wd _ HN0.out)).trans HN0.out⟩ (fun hHeld => ?_)
          clear hK K
          refine norm_ (a' := ?_) ?_ ?_
          rotate_left
          · show Act.put _ (some 41) _ = _
            simp only [Act.put, List.setIfInBounds_toArray, List.set_cons_zero, List.set_cons_succ, i64_w, i32_w]
            rfl
          refine last_ (i := 17) (N := some 42) #[true, true, true, true, true, true, true, true, true, true, true, true, true, true, true, true, true, true, false, false, false] rfl rfl (by kernel_rfl) (by decide) (fun K hK => ?_)
          refine Kd.S_append_step kqB (w0 := wd) base (by rfl) (.tmp 29) (.tmp 41) 30 62 (.agg #[(.int .i64 0), (.int .i64 0), (.slice none 0 0)]) 40 rfl Tryd.underlying30 info62 rfl (by decide) (by omega) v1 B (⟨a, kd, []⟩ : S62) [.int .i64 a, .int .i64 kd, .slice (some ⟨gn, 0, none⟩) 0 0] (fun _ => True) (fun k => k = gn) rfl rfl ?aP HOK.out ?aF ?aO ?aB ?aS ?aL ?_
          (case aP => exact kqB_mkM _ _ _ (⟨a, kd, []⟩ : S62) (Nat.le_refl _) HQ.out)
          (case aF => exact (fun _ _ => trivial))
          (case aO => exact HB0.out)
          (case aB => exact Below.refl _ _)
          (case aS => exact HS4.out)
          (case aL => have := HBL.out; omega)
          intro v6 w6 ho hb hg6 hat
          have n1 := Aside0.mk (blk_grown HT4.out.box hg6 (Kd.R_ne (Kd.S_R HT4.out.b) HT4.out.box (by decide)))
          have n2 := Aside0.mk (Kd.R_over' HT4.out.d (Kd.S_typed HT4.out.b) (by decide) hg6)
          have n3 := Aside0.mk ho
          have n4 := Aside0.mk (HW4.out.trans hb)
          have n5 := Aside0.mk (Kept.of_grown hg6 HP4.out (fun k e => .inl (.inr (.inr e))))
          clear ho hb hg6 hat
          obtain ⟨Ao, co, eo⟩ := Kd.S_slice n3.out
          rw [List.length_append, List.length_singleton] at eo
          subst eo
          refine hK.out _ _ ?_
          clear hK K
          refine norm_ (a' := ?_) ?_ ?_
          rotate_left
          · show Act.put _ (some 42) _ = _
            simp only [Act.put, List.setIfInBounds_toArray, List.set_cons_zero, List.set_cons_succ, i64_w, i32_w]
            rfl
          refine pure_ (i := 18) (N := some 43) (v := ?_) (a' := ?_) #[true, true, true, true, true, true, true, true, true, true, true, true, true, true, true, true, true, true, true, false, false] rfl rfl (by kernel_rfl) (fun _ _ _ h => h) (Or.inl ⟨by rfl, ?_⟩) ?_ ?_
          rotate_left
          · intro w'
            go_simp
            with_reducible rfl
          rotate_left
          · simp only [Act.put, List.setIfInBounds_toArray, List.set_cons_zero, List.set_cons_succ, i64_w, i32_w]
            rfl
          refine pure_ (i := 19) (N := some 44) (v := ?_) (a' := ?_) #[true, true, true, true, true, true, true, true, true, true, true, true, true, true, true, true, true, true, true, true, false] rfl rfl (by kernel_rfl) (fun _ _ _ h => h) (Or.inl ⟨by rfl, ?_⟩) ?_ ?_
          rotate_left
          · intro w'
            go_simp
            with_reducible rfl
          rotate_left
          · simp only [Act.put, List.setIfInBounds_toArray, List.set_cons_zero, List.set_cons_succ, i64_w, i32_w]
            rfl
          refine last_ (i := 20) (N := none) #[true, true, true, true, true, true, true, true, true, true, true, true, true, true, true, true, true, true, true, true, true] rfl rfl (by kernel_rfl) (by decide) (fun K hK => ?_)
          have hs7 := (blk_cell n1.out 1).trans rfl
          have hf7 := blk_frozen n1.out 1
          refine skip_ (w1 := ?_) (by rfl) rfl ?_ ?_
          rotate_left
          · go_simp
            rfl
          refine hK.out _ _ ?_
          clear hK K
          refine done_ (by kernel_rfl) ?_
          go_wp2_with fail
          go_ret
          refine ⟨by rw [HF.out]; rfl, fun D' B' h => ?_, n4.out.setCell HG.out _, Kept.setCell n5.out (.inl (.inl rfl)) _⟩
          rw [HF.out] at h
          injection h with h
          injection h with h1 h2
          subst h1
          subst h2
          exact ⟨_, _, blk_put n1.out 1 _ rfl, Kd.R_set n2.out n1.out (by decide) 1 _, Kd.S_set n3.out n1.out (by decide) 1 _⟩
        · rw [if_neg hr] at hq
          have HQ := Aside0.mk (show (Kd.int .i64).Q 2 w3.drew base (fun k => k = gn) (.slice (some ⟨gn, 1, none⟩) r.length c2) r from Kd.Q_drew (Kd.Q_mono (Kd.Q_tight rfl (Kd.Q_lower hq HSZ.out)) (fun k hk => by simpa [Value.ownBlock] using hk)))
          have hr0 : ¬ (r.length : Int) = 0 := by omega
          have hb0 : (0 : Int) ≤ (r.length : Int) + 1 := by omega
          have hb1 : (1 : Int) ≤ (r.length : Int) + 1 := by omega
          have hb2 : (r.length : Int) + 1 ≤ (c : Int) := by simp only [List.length_cons] at hbd; omega
          clear hq hgn hT3 hbd hlow
          simp only [List.length_cons]
          go_wp2_with fail
          clear HT HT3 HP HW
          refine start_ (n := 21) (S := fun w' => w'.cell? ⟨gt, 1, none⟩ = some v1 ∧ w'.cell? ⟨gn, 0, none⟩ = some (.int .i64 a)) (ds := [17, 20]) #[false, false, false, false, false, false, false, false, false, false, false, false, false, false, false, false, false, false, false, false, false] (by kernel_rfl) rfl rfl ⟨(blk_cell HT4.out.box 1).trans rfl, HN0.out⟩ (fun hHeld => ?_)
          refine pure_ (i := 0) (N := some 25) (v := ?_) (a' := ?_) #[true, false, false, false, false, false, false, false, false, false, false, false, false, false, false, false, false, false, false, false, false] rfl rfl (by kernel_rfl) (fun _ _ _ h => h) (Or.inl ⟨by rfl, ?_⟩) ?_ ?_
          rotate_left
          · intro w'
            go_simp
            with_reducible rfl
          rotate_left
          · simp only [Act.put, List.setIfInBounds_toArray, List.set_cons_zero, List.set_cons_succ, i64_w, i32_w]
            rfl
          refine pure_ (i := 1) (N := some 26) (v := ?_) (a' := ?_) #[true, true, false, false, false, false, false, false, false, false, false, false, false, false, false, false, false, false, false, false, false] rfl rfl (by kernel_rfl) (fun _ _ _ h => h) (Or.inl ⟨by rfl, ?_⟩) ?_ ?_
          rotate_left
          · intro w'
            go_simp
            with_reducible rfl
          rotate_left
          · simp only [Act.put, List.setIfInBounds_toArray, List.set_cons_zero, List.set_cons_succ, i64_w, i32_w]
            rfl
          refine pure_ (i := 2) (N := some 27) (v := ?_) (a' := ?_) #[true, true, true, false, false, false, false, false, false, false, false, false, false, false, false, false, false, false, false, false, false] rfl rfl (by kernel_rfl) (fun _ _ _ h => h) (Or.inl ⟨by rfl, ?_⟩) ?_ ?_
          rotate_left
          · intro w'
            go_simp
            with_reducible rfl
          rotate_left
          · simp only [Act.put, List.setIfInBounds_toArray, List.set_cons_zero, List.set_cons_succ, i64_w, i32_w]
            rfl
          refine pure_ (i := 3) (N := some 28) (v := ?_) (a' := ?_) #[true, true, true, true, false, false, false, false, false, false, false, false, false, false, false, false, false, false, false, false, false] rfl rfl (by kernel_rfl) (fun _ _ _ h => h) (Or.inl ⟨by rfl, ?_⟩) ?_ ?_
          rotate_left
          · intro w'
            go_simp
            with_reducible rfl
          rotate_left
          · simp only [Act.put, List.setIfInBounds_toArray, List.set_cons_zero, List.set_cons_succ, i64_w, i32_w]
            rfl
          refine pure_ (i := 5) (N := some 30) (v := ?_) (a' := ?_) #[true, true, true, true, false, true, false, false, false, false, false, false, false, false, false, false, false, false, false, false, false] rfl rfl (by kernel_rfl) (fun _ _ _ h => h) (Or.inl ⟨by rfl, ?_⟩) ?_ ?_
          rotate_left
          · intro w'
            go_simp
            with_reducible rfl
          rotate_left
          · simp only [Act.put, List.setIfInBounds_toArray, List.set_cons_zero, List.set_cons_succ, i64_w, i32_w]
            rfl
          refine pure_ (i := 6) (N := some 31) (v := ?_) (a' := ?_) #[true, true, true, true, false, true, true, false, false, false, false, false, false, false, false, false, false, false, false, false, false] rfl rfl (by kernel_rfl) (fun _ _ _ h => h) (Or.inl ⟨by rfl, ?_⟩) ?_ ?_
          rotate_left
          · intro w'
            go_simp
            with_reducible rfl
          rotate_left
          · simp only [Act.put, List.setIfInBounds_toArray, List.set_cons_zero, List.set_cons_succ, i64_w, i32_w]
            rfl
          refine pure_ (i := 8) (N := some 33) (v := ?_) (a' := ?_) #[true, true, true, true, false, true, true, false, true, false, false, false, false, false, false, false, false, false, false, false, false] rfl rfl (by kernel_rfl) (fun _ _ _ h => h) (Or.inl ⟨by rfl, ?_⟩) ?_ ?_
          rotate_left
          · intro w'
            go_simp
            with_reducible rfl
          rotate_left
          · simp only [Act.put, List.setIfInBounds_toArray, List.set_cons_zero, List.set_cons_succ, i64_w, i32_w]
            rfl
          refine pure_ (i := 9) (N := some 34) (v := ?_) (a' := ?_) #[true, true, true, true, false, true, true, false, true, true, false, false, false, false, false, false, false, false, false, false, false] rfl rfl (by kernel_rfl) (fun _ _ _ h => h) (Or.inl ⟨by rfl, ?_⟩) ?_ ?_
          rotate_left
          · intro w'
            go_simp
            with_reducible rfl
          rotate_left
          · simp only [Act.put, List.setIfInBounds_toArray, List.set_cons_zero, List.set_cons_succ, i64_w, i32_w]
            rfl
          refine pure_ (i := 10) (N := some 35) (v := ?_) (a' := ?_) #[true, true, true, true, false, true, true, false, true, true, true, false, false, false, false, false, false, false, false, false, false] rfl rfl (by kernel_rfl) (fun _ _ _ h => h) (Or.inl ⟨by rfl, ?_⟩) ?_ ?_
          rotate_left
          · intro w'
            go_simp
            with_reducible rfl
          rotate_left
          · simp only [Act.put, List.setIfInBounds_toArray, List.set_cons_zero, List.set_cons_succ, i64_w, i32_w]
            rfl
          refine pure_ (i := 11) (N := some 36) (v := ?_) (a' := ?_) #[true, true, true, true, false, true, true, false, true, true, true, true, false, false, false, false, false, false, false, false, false] rfl rfl (by kernel_rfl) (fun _ _ _ h => h) (Or.inl ⟨by rfl, ?_⟩) ?_ ?_
          rotate_left
          · intro w'
            go_simp
            with_reducible rfl
          rotate_left
          · simp only [Act.put, List.setIfInBounds_toArray, List.set_cons_zero, List.set_cons_succ, i64_w, i32_w]
            rfl
          refine pure_ (i := 12) (N := some 37) (v := ?_) (a' := ?_) #[true, true, true, true, false, true, true, false, true, true, true, true, true, false, false, false, false, false, false, false, false] rfl rfl (by kernel_rfl) (fun _ _ _ h => h) (Or.inl ⟨by rfl, ?_⟩) ?_ ?_
          rotate_left
          · intro w'
            go_simp
            with_reducible rfl
          rotate_left
          · simp only [Act.put, List.setIfInBounds_toArray, List.set_cons_zero, List.set_cons_succ, i64_w, i32_w]
            rfl
          refine pure_ (i := 13) (N := some 38) (v := ?_) (a' := ?_) #[true, true, true, true, false, true, true, false, true, true, true, true, true, true, false, false, false, false, false, false, false] rfl rfl (by kernel_rfl) (fun _ _ _ h => h) (Or.inl ⟨by rfl, ?_⟩) ?_ ?_
          rotate_left
          · intro w'
            go_simp
            with_reducible rfl
          rotate_left
          · simp only [Act.put, List.setIfInBounds_toArray, List.set_cons_zero, List.set_cons_succ, i64_w, i32_w]
            rfl
          refine pure_ (i := 14) (N := some 39) (v := ?_) (a' := ?_) #[true, true, true, true, false, true, true, false, true, true, true, true, true, true, true, false, false, false, false, false, false] rfl rfl (by kernel_rfl) (fun _ _ _ h => h) (Or.inl ⟨by rfl, ?_⟩) ?_ ?_
          rotate_left
          · intro w'
            go_simp
            with_reducible rfl
          rotate_left
          · simp only [Act.put, List.setIfInBounds_toArray, List.set_cons_zero, List.set_cons_succ, i64_w, i32_w]
            rfl
          refine take_ (i := 4) (N := some 29) (v := ?_) (a' := ?_) #[true, true, true, true, true, true, true, false, true, true, true, true, true, true, true, false, false, false, false, false, false] rfl rfl (by kernel_rfl) (fun _ _ _ h => h) (Or.inl ⟨by rfl, ?_⟩) hHeld ?_ ?_
          rotate_left
          · rintro w' ⟨s0, s1⟩
            go_simp
            with_reducible rfl
          rotate_left
          · simp only [Act.put, List.setIfInBounds_toArray, List.set_cons_zero, List.set_cons_succ, i64_w, i32_w]
            rfl
          refine take_ (i := 7) (N := some 32) (v := ?_) (a' := ?_) #[true, true, true, true, true, true, true, true, true, true, true, true, true, true, true, false, false, false, false, false, false] rfl rfl (by kernel_rfl) (fun _ _ _ h => h) (Or.inl ⟨by rfl, ?_⟩) hHeld ?_ ?_
          rotate_left
          · rintro w' ⟨s0, s1⟩
            go_simp
            with_reducible rfl
          rotate_left
          · simp only [Act.put, List.setIfInBounds_toArray, List.set_cons_zero, List.set_cons_succ, i64_w, i32_w]
            rfl
          refine pure_ (i := 15) (N := some 40) (v := ?_) (a' := ?_) #[true, true, true, true, true, true, true, true, true, true, true, true, true, true, true, true, false, false, false, false, false] rfl rfl (by kernel_rfl) (fun _ _ _ h => h) (Or.inl ⟨by rfl, ?_⟩) ?_ ?_
          rotate_left
          · intro w'
            go_simp
            with_reducible rfl
          rotate_left
          · simp only [Act.put, List.setIfInBounds_toArray, List.set_cons_zero, List.set_cons_succ, i64_w, i32_w]
            rfl
          refine one_ (i := 16) (N := some 41) #[true, true, true, true, true, true, true, true, true, true, true, true, true, true, true, true, true, false, false, false, false] rfl rfl (by kernel_rfl) (by decide) (fun K hK => ?_)
          generalize w3.drew = wd at HT4 HN0 HP4 HW4 HS4 HB0 HQ hHeld ⊢
          refine value_ (w1 := ?_) (v := ?_) (by rfl) rfl ?_ ?_
          rotate_left 2
          · go_simp
            constructor
            · rfl
            · rfl
          refine hK.out _ _ ⟨(blk_cell (blk_alloc HT4.out.box _) 1).trans rfl, ((below_alloc (Below.refl wd.heap.size wd) _).cell (World.block_lt_of_cell? wd _ HN0.out)).trans HN0.out⟩ (fun hHeld => ?_)
          clear hK K
          refine norm_ (a' := ?_) ?_ ?_
          rotate_left
          · show Act.put _ (some 41) _ = _
            simp only [Act.put, List.setIfInBounds_toArray, List.set_cons_zero, List.set_cons_succ, i64_w, i32_w]
            rfl
          refine last_ (i := 17) (N := some 42) #[true, true, true, true, true, true, true, true, true, true, true, true, true, true, true, true, true, true, false, false, false] rfl rfl (by kernel_rfl) (by decide) (fun K hK => ?_)
          refine Kd.S_append_step kqB (w0 := wd) base (by rfl) (.tmp 29) (.tmp 41) 30 62 (.agg #[(.int .i64 0), (.int .i64 0), (.slice none 0 0)]) 40 rfl Tryd.underlying30 info62 rfl (by decide) (by omega) v1 B (⟨a, kd, r⟩ : S62) [.int .i64 a, .int .i64 kd, .slice (some ⟨gn, 1, none⟩) r.length r.length] (fun _ => True) (fun k => k = gn) rfl rfl ?aP HOK.out ?aF ?aO ?aB ?aS ?aL ?_
          (case aP => exact kqB_mkM _ _ _ (⟨a, kd, r⟩ : S62) (Nat.le_refl _) HQ.out)
          (case aF => exact (fun _ _ => trivial))
          (case aO => exact HB0.out)
          (case aB => exact Below.refl _ _)
          (case aS => exact HS4.out)
          (case aL => have := HBL.out; omega)
          intro v6 w6 ho hb hg6 hat
          have n1 := Aside0.mk (blk_grown HT4.out.box hg6 (Kd.R_ne (Kd.S_R HT4.out.b) HT4.out.box (by decide)))
          have n2 := Aside0.mk (Kd.R_over' HT4.out.d (Kd.S_typed HT4.out.b) (by decide) hg6)
          have n3 := Aside0.mk ho
          have n4 := Aside0.mk (HW4.out.trans hb)
          have n5 := Aside0.mk (Kept.of_grown hg6 HP4.out (fun k e => .inl (.inr (.inr e))))
          clear ho hb hg6 hat
          obtain ⟨Ao, co, eo⟩ := Kd.S_slice n3.out
          rw [List.length_append, List.length_singleton] at eo
          subst eo
          refine hK.out _ _ ?_
          clear hK K
          refine norm_ (a' := ?_) ?_ ?_
          rotate_left
          · show Act.put _ (some 42) _ = _
            simp only [Act.put, List.setIfInBounds_toArray, List.set_cons_zero, List.set_cons_succ, i64_w, i32_w]
            rfl
          refine pure_ (i := 18) (N := some 43) (v := ?_) (a' := ?_) #[true, true, true, true, true, true, true, true, true, true, true, true, true, true, true, true, true, true, true, false, false] rfl rfl (by kernel_rfl) (fun _ _ _ h => h) (Or.inl ⟨by rfl, ?_⟩) ?_ ?_
          rotate_left
          · intro w'
            go_simp
            with_reducible rfl
          rotate_left
          · simp only [Act.put, List.setIfInBounds_toArray, List.set_cons_zero, List.set_cons_succ, i64_w, i32_w]
            rfl
          refine pure_ (i := 19) (N := some 44) (v := ?_) (a' := ?_) #[true, true, true, true, true, true, true, true, true, true, true, true, true, true, true, true, true, true, true, true, false] rfl rfl (by kernel_rfl) (fun _ _ _ h => h) (Or.inl ⟨by rfl, ?_⟩) ?_ ?_
          rotate_left
          · intro w'
            go_simp
            with_reducible rfl
          rotate_left
          · simp only [Act.put, List.setIfInBounds_toArray, List.set_cons_zero, List.set_cons_succ, i64_w, i32_w]
            rfl
          refine last_ (i := 20) (N := none) #[true, true, true, true, true, true, true, true, true, true, true, true, true, true, true, true, true, true, true, true, true] rfl rfl (by kernel_rfl) (by decide) (fun K hK => ?_)
          have hs7 := (blk_cell n1.out 1).trans rfl
          have hf7 := blk_frozen n1.out 1
          refine skip_ (w1 := ?_) (by rfl) rfl ?_ ?_
          rotate_left
          · go_simp
            rfl
          refine hK.out _ _ ?_
          clear hK K
          refine done_ (by kernel_rfl) ?_
          go_wp2_with fail
          go_ret
          refine ⟨by rw [HF.out]; rfl, fun D' B' h => ?_, n4.out.setCell HG.out _, Kept.setCell n5.out (.inl (.inl rfl)) _⟩
          rw [HF.out] at h
          injection h with h
          injection h with h1 h2
          subst h1
          subst h2
          exact ⟨_, _, blk_put n1.out 1 _ rfl, Kd.R_set n2.out n1.out (by decide) 1 _, Kd.S_set n3.out n1.out (by decide) 1 _⟩

end Go.Proofs.YtohjpgcmhihdhaaDoorW.PrintMore
