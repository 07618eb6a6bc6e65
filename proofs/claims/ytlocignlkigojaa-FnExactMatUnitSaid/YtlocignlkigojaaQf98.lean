/- Walks of the Go functions that the laws call: each returns what a plain Lean function says. Written by a program for these claims. -/
import Derived.Test.YtlocignlkigojaaQ0
namespace Go.Proofs.Ytlocignlkigojaa.Q
open Go.RowKit Go.Proofs.YtlocignlkigojaaW.PrintWords Go.Proofs.YtlocignlkigojaaW.PrintLast Go.Proofs.YtlocignlkigojaaW.PrintMore
attribute [local go_sem] max2_int min2_int max_two min_two max_three min_three max_four min_four   -- for this text's walks alone
set_option linter.unusedVariables false
set_option linter.unusedSimpArgs false

/-! ### impl_unit: function 98 -/
/-- the unit matrix, the first places of the diagonal set -/
def unitGo (n : Nat) : Nat → List Int
  | 0 => List.replicate (n * n) 0
  | i + 1 => (unitGo n i).set (i * n + i) 1
theorem unitGo_length (n : Nat) : ∀ i, (unitGo n i).length = n * n
  | 0 => by simp [unitGo]
  | i + 1 => by simp [unitGo, unitGo_length n i]
def impl_unit.f (a0 : Int) : Option (Int × Int × List Int) := if 1 ≤ a0 ∧ a0 ≤ 8 then some (a0, a0, unitGo a0.toNat a0.toNat) else none
theorem matRow.calls (g cap : Nat) (n i p : Int) (w : World) (hn : 1 ≤ n) (hn8 : n ≤ 8) (hi0 : 0 ≤ i) (hi : i < n) (hp : i * n = p) (hp0 : 0 ≤ p) (hpn : p + n ≤ n * n) (hc : n * n ≤ cap) (L : Nat) :
    Calls Try.prog 145 #[.agg #[.int .i64 n, .int .i64 n, .slice (some ⟨g, 0, none⟩) L cap], .int .i64 i] w fun e w' => e = .returned (.slice (some ⟨g, p.toNat, none⟩) n.toNat (cap - p.toNat)) ∧ Below w.heap.size w w' := by
  have h64 : n * n ≤ 64 := by
    have := Int.mul_le_mul hn8 hn8 (by omega) (by omega : (0 : Int) ≤ 8)
    omega
  have w1 : IntKind.i64.wrap (i * n) = p := (i64_w _).trans (by rw [hp]; unfold wrap64; omega)
  have w2 : IntKind.i64.wrap (i + 1) = i + 1 := (i64_w _).trans (by unfold wrap64; omega)
  have e3 : (i + 1) * n = p + n := by rw [Int.add_mul, hp, Int.one_mul]
  have w3 : IntKind.i64.wrap ((i + 1) * n) = p + n := (i64_w _).trans (by rw [e3]; unfold wrap64; omega)
  have c1 := eq_true hp0
  have c2 := eq_true (show p ≤ p + n by omega)
  have c3 := eq_true (show p + n ≤ (cap : Int) by omega)
  have c4 := eq_true (show 0 ≤ p + n by omega)
  have e4 : (p + n).toNat - p.toNat = n.toNat := by omega
  have c5 : (cap = p.toNat) = False := eq_false (by omega)
  clear hn hn8 hi0 hi hp hp0 hpn hc h64 e3
  go_enter Try.func145, Try.ntmps145
  go_wp2_with fail
  go_ret
  exact ⟨rfl, below_alloc (Below.refl _ _) _⟩
set_option maxHeartbeats 4000000 in
set_option maxRecDepth 100000 in
theorem impl_unit.calls (a0 : Int) (r1 : Int) (r2 : Int) (r3 : List Int) (w : World) (h : impl_unit.f a0 = some (r1, r2, r3)) :
    Calls Try.prog 98 #[.int .i64 a0] w fun e w' => ∃ v2_ : Value, e = .returned (.agg #[.int .i64 r1, .int .i64 r2, v2_]) ∧ Kd.R (Kd.int .i64) 2 w' w.heap.size (fun _ => True) v2_ r3 ∧ Below w.heap.size w w' := by
  unfold impl_unit.f at h
  by_cases hn : 1 ≤ a0 ∧ a0 ≤ 8
  case neg => rw [if_neg hn] at h; cases h
  rw [if_pos hn] at h
  simp only [Option.some.injEq, Prod.mk.injEq] at h
  obtain ⟨rfl, rfl, rfl⟩ := h
  obtain ⟨hn1, hn8⟩ := hn
  have hsq : a0 * a0 ≤ 64 := by
    have := Int.mul_le_mul hn8 hn8 (by omega) (by omega : (0 : Int) ≤ 8)
    omega
  have hsq0 : 0 ≤ a0 * a0 := Int.mul_nonneg (by omega) (by omega)
  have hww : IntKind.i64.wrap (a0 * a0) = a0 * a0 := (i64_w _).trans (by unfold wrap64; omega)
  have hrep : List.replicate (a0 * a0).toNat (0 : Int) = unitGo a0.toNat 0 := by
    unfold unitGo
    congr 1
    obtain ⟨n, rfl⟩ := Int.eq_ofNat_of_zero_le (show 0 ≤ a0 by omega)
    rw [Int.toNat_natCast, ← Int.natCast_mul, Int.toNat_natCast]
  have hq0 := eq_true hsq0
  have HPOS := Aside0.mk (show 0 < (unitGo a0.toNat 0).length from by rw [unitGo_length]; exact Nat.mul_pos (by omega) (by omega))
  have HB := Aside0.mk (Below.refl w.heap.size w)
  have HSQ := Aside0.mk hsq
  have HREP := Aside0.mk hrep
  clear hsq hrep
  go_enter Try.func98, Try.ntmps98
  go_wp2_with (first | ((with_reducible refine gate_dst (N := 2) rfl ?_); refine box_event ?hg (N := 2) ?hd (cs := #[.int .i64 0, .int .i64 0, .slice none 0 0]) (t := 41) ?hr ?_; (case hd => rfl); (case hg => rfl); (case hr => first | (go_simp; done) | (go_simp; rfl)); intro gr hgr w2 hboxr hb2; have HB2 := Aside0.mk hb2; have GR := Aside0.mk (hgr ▸ Nat.le_refl _ : w.heap.size ≤ gr); have BR := Aside0.mk hboxr; clear hb2 hboxr hgr) | ((with_reducible refine gate_dst (N := 10) rfl ?_); refine Kd.R_make (Kd.int .i64) w.heap.size 2 rfl (N := 10) rfl 36 _ _ rfl (a0 * a0) rfl rfl Try.underlying36 (.int .i64 0) 8 info2 rfl (by decide) (by omega) 0 (ok := fun _ => True) (okp := fun _ => True) rfl (fun _ hk => hk) trivial hsq0 (by have := HSQ.out; omega) HB2.out (below_size HB2.out) ?_; intro v5 w4 ho5 hb hg_ hnew_; rw [HREP.out] at ho5; obtain ⟨g, cp, rfl, hgb, hgl, cells, hgc⟩ := Kd.R_form ho5 HPOS.out; obtain ⟨-, hcp, -⟩ := Kd.R_reads' ho5; have HCP := Aside0.mk hcp; have HGB := Aside0.mk hgb; have HGC := Aside0.mk hgc; have HNW := Aside0.mk hnew_; clear hgb hgl hgc hcp; generalize hL : (unitGo a0.toNat 0).length = L at HCP ho5 HNW ⊢; have HL := Aside0.mk hL; clear hL; have HO := Aside0.mk ho5; have HB4 := Aside0.mk hb; have BR4 := Aside0.mk (hg_.block); clear hg_ hnew_ ho5 hb))
  have HR5 := Aside0.mk (blk_alloc ((BR4.out gr (blk_lt BR.out) (by simp)).trans BR.out) (.cells #[.int .i64 a0, .int .i64 a0, .slice (some ⟨g, 0, none⟩) L cp] 41))
  have HM5 := Aside0.mk (blk_new w4 (.cells #[.int .i64 a0, .int .i64 a0, .slice (some ⟨g, 0, none⟩) L cp] 41))
  have HG5 := Aside0.mk (blk_alloc HGC.out (.cells #[.int .i64 a0, .int .i64 a0, .slice (some ⟨g, 0, none⟩) L cp] 41))
  have HB5 := Aside0.mk (below_alloc HB4.out (.cells #[.int .i64 a0, .int .i64 a0, .slice (some ⟨g, 0, none⟩) L cp] 41))
  have HO5 := Aside0.mk (Kd.R_alloc HO.out (.cells #[.int .i64 a0, .int .i64 a0, .slice (some ⟨g, 0, none⟩) L cp] 41))
  have HGM := Aside0.mk (below_size HB4.out)
  generalize (w4.alloc (.cells #[.int .i64 a0, .int .i64 a0, .slice (some ⟨g, 0, none⟩) L cp] 41)) = w5 at HR5 HM5 HG5 HB5 HO5 ⊢
  generalize w4.heap.size = gm at HM5 HGM ⊢
  have HN1 := Aside0.mk (show gr ≠ g from by
    rintro rfl
    have := HR5.out.symm.trans HG5.out
    simp at this)
  have HN2 := Aside0.mk (show gm ≠ g from by
    rintro rfl
    have := HM5.out.symm.trans HG5.out
    simp at this)
  clear HB HB2 BR HGC HNW HO HB4 BR4 HREP HPOS
  clear hww hq0
  have HL2 := Aside0.mk (show (L : Int) = a0 * a0 from by
    rw [← HL.out, unitGo_length]
    obtain ⟨n, rfl⟩ := Int.eq_ofNat_of_zero_le (show 0 ≤ a0 by omega)
    rw [Int.toNat_natCast, Int.natCast_mul])
  clear hsq0
  go_loopg [13] a0.toNat (fun gg s13 wr => ∃ kk : Int, 0 ≤ kk ∧ kk ≤ a0 ∧ a0 - kk ≤ gg ∧ s13 = .int .i64 kk ∧ Aside0 (Below w.heap.size w wr) ∧ Aside0 (wr.heap[gr]? = some (.cells #[.int .i64 0, .int .i64 0, .slice none 0 0] 41 (0, 0))) ∧ Aside0 (wr.heap[gm]? = some (.cells #[.int .i64 a0, .int .i64 a0, .slice (some ⟨g, 0, none⟩) L cp] 41 (0, 0))) ∧ Aside0 (Kd.R (Kd.int .i64) 2 wr w.heap.size (fun _ => True) (.slice (some ⟨g, 0, none⟩) L cp) (unitGo a0.toNat kk.toNat)))
  case atStart => exact ⟨0, by omega, by omega, by omega, rfl, HB5, HR5, HM5, HO5⟩
  case round =>
    clear HB5 HR5 HM5 HO5 HG5
    obtain ⟨kk, h0, hk, hg, rfl, HB, HR, HM, HO⟩ := hrel
    by_cases hlt : kk < a0
    · have q0 := eq_true h0
      have q1 := eq_true hlt
      have hm0 := (blk_cell HM.out 0).trans rfl
      have hm1 := (blk_cell HM.out 1).trans rfl
      have hm2 := (blk_cell HM.out 2).trans rfl
      obtain ⟨p, hp⟩ : ∃ p : Int, kk * a0 = p := ⟨_, rfl⟩
      have hp0 : 0 ≤ p := by rw [← hp]; exact Int.mul_nonneg h0 (by omega)
      have hpn : p + a0 ≤ a0 * a0 := by
        have h1 : (kk + 1) * a0 ≤ a0 * a0 := Int.mul_le_mul_of_nonneg_right (by omega) (by omega)
        rw [Int.add_mul, hp, Int.one_mul] at h1
        exact h1
      have hcap : a0 * a0 ≤ (cp : Int) := by have h1 := HL2.out; have h2 := HCP.out; omega
      have HROW := Aside0.mk (fun W => matRow.calls g cp a0 kk p W hn1 hn8 h0 hlt hp hp0 hpn hcap L)
      have q2 := eq_true (show kk < (a0.toNat : Int) by omega)
      have HP := Aside0.mk (show 0 ≤ p ∧ p + kk < L from ⟨hp0, by have := HL2.out; omega⟩)
      have HPK := Aside0.mk (show unitGo a0.toNat (kk + 1).toNat = (unitGo a0.toNat kk.toNat).set (p + kk).toNat 1 from by
        have e1 : (kk + 1).toNat = kk.toNat + 1 := by omega
        have e2 : kk.toNat * a0.toNat + kk.toNat = (p + kk).toNat := by
          obtain ⟨n, rfl⟩ := Int.eq_ofNat_of_zero_le (show 0 ≤ a0 by omega)
          obtain ⟨m, rfl⟩ := Int.eq_ofNat_of_zero_le h0
          rw [← hp, Int.toNat_natCast, Int.toNat_natCast, ← Int.natCast_mul, ← Int.natCast_add, Int.toNat_natCast]
        rw [e1]
        show (unitGo a0.toNat kk.toNat).set (kk.toNat * a0.toNat + kk.toNat) 1 = _
        rw [e2])
      have hpt : (p + kk).toNat = p.toNat + kk.toNat := by omega
      have hw1 : IntKind.i64.wrap (kk + 1) = kk + 1 := (i64_w _).trans (by unfold wrap64; omega)
      clear hp hp0 hpn hcap
      go_wp2_with (first | ((with_reducible refine gate_callee (f := 145) rfl ?_); refine goesL_ (some 18) rfl rfl Try.func145 (by kernel_rfl) rfl #[.agg #[.int .i64 a0, .int .i64 a0, .slice (some ⟨g, 0, none⟩) L cp], .int .i64 kk] rfl (by (try simp only [List.map_toArray, List.map_cons, List.map_nil]); first | done | rfl) ?_; (with_reducible refine (HROW.out _).mono ?_); rintro e w11 ⟨rfl, hb⟩; refine ⟨_, rfl, ?_⟩; have HB' := Aside0.mk (below_step HB.out hb); have HR' := Aside0.mk (blk_below HR.out hb); have HM' := Aside0.mk (blk_below HM.out hb); have HO' := Aside0.mk (Kd.R_below HO.out hb); clear HB HR HM HO hm0 hm1 hm2 hb; obtain ⟨hx, hf⟩ := Kd.R_celln 0 HO'.out (p + kk) (by have := HP.out; omega) (by have := HP.out; omega); rw [hpt] at hx hf))
      go_roundg (gk - 1)
      case measure => omega
      case rel => exact ⟨kk + 1, by omega, by omega, by omega, by go_num, ⟨below_set HB'.out HGB.out⟩, ⟨(Below.heap_setCell _ _ _ _ HN1.out).trans HR'.out⟩, ⟨(Below.heap_setCell _ _ _ _ HN2.out).trans HM'.out⟩, ⟨by have := Kd.R_putn HO'.out (p + kk) 1; rw [hpt] at this; rw [HPK.out, hpt]; exact this⟩⟩
    · obtain rfl : kk = a0 := by omega
      have q1 := eq_false hlt
      have hm0 := (blk_cell HM.out 0).trans rfl
      have hm1 := (blk_cell HM.out 1).trans rfl
      have hm2 := (blk_cell HM.out 2).trans rfl
      have hr0 := (blk_cell HR.out 0).trans rfl
      have hr1 := (blk_cell HR.out 1).trans rfl
      have hr2 := (blk_cell HR.out 2).trans rfl
      have hf0 := blk_frozen HR.out 0
      have hf1 := blk_frozen HR.out 1
      have hf2 := blk_frozen HR.out 2
      go_wp2_with fail
      refine bodyPost_ret (results_cell_row rfl _ _ gr 41 #[.int .i64 kk, .int .i64 kk, .slice (some ⟨g, 0, none⟩) L cp] (0, 0) _ rfl (by refine blk_put (cs := #[.int .i64 kk, .int .i64 kk, .slice none 0 0]) ?_ 2 _ rfl; refine blk_put (cs := #[.int .i64 kk, .int .i64 0, .slice none 0 0]) ?_ 1 _ rfl; refine blk_put (cs := #[.int .i64 0, .int .i64 0, .slice none 0 0]) ?_ 0 _ rfl; exact HR.out) Try.underlying41 rfl (by kernel_rfl)) rfl ?_
      refine ⟨_, rfl, ?_, below_set (below_set (below_set HB.out GR.out) GR.out) GR.out⟩
      have h1 := Kd.R_types HO.out HR.out (by decide)
      exact Kd.R_mono (Kd.R_far (Kd.R_far (Kd.R_far h1 (fun k hk => hk.2) _) (fun k hk => hk.2) _) (fun k hk => hk.2) _) (fun _ _ => trivial)

end Go.Proofs.Ytlocignlkigojaa.Q
