/- Walks of the Go functions that the laws call: each returns what a plain Lean function says. Written by a program for these claims. -/
import Derived.Test.YtgpakhlnjgehhaaQ0
import Derived.Test.YtgpakhlnjgehhaaQf18
import Derived.Test.YtgpakhlnjgehhaaQf19
import Derived.Test.YtgpakhlnjgehhaaQf20
namespace Go.Proofs.Ytgpakhlnjgehhaa.Q
open Go.RowKit Go.Proofs.YtgpakhlnjgehhaaW.PrintWords Go.Proofs.YtgpakhlnjgehhaaW.PrintLast Go.Proofs.YtgpakhlnjgehhaaW.PrintMore
attribute [local go_sem] max2_int min2_int max_two min_two max_three min_three max_four min_four   -- for this text's walks alone
set_option linter.unusedVariables false
set_option linter.unusedSimpArgs false

/-! ### impl_MatRows: function 8 -/
theorem matRowG.calls (ad : Addr) (a b i p : Int) (L cap : Nat) (w : World) (hb : 1 ≤ b) (hb8 : b ≤ 8) (hi0 : 0 ≤ i) (hi : i < 8) (hp : i * b = p) (hp0 : 0 ≤ p) (hc : p + b ≤ cap) :
    Calls Try.prog 28 #[.agg #[.int .i64 a, .int .i64 b, .slice (some ad) L cap], .int .i64 i] w fun e w' => e = .returned (.slice (some (ad.add p.toNat)) b.toNat (cap - p.toNat)) ∧ Below w.heap.size w w' := by
  have h64 : p ≤ 56 := by
    have := Int.mul_le_mul (show i ≤ 7 by omega) hb8 (by omega) (by omega : (0 : Int) ≤ 7)
    omega
  have w1 : IntKind.i64.wrap (i * b) = p := (i64_w _).trans (by rw [hp]; unfold wrap64; omega)
  have w2 : IntKind.i64.wrap (i + 1) = i + 1 := (i64_w _).trans (by unfold wrap64; omega)
  have e3 : (i + 1) * b = p + b := by rw [Int.add_mul, hp, Int.one_mul]
  have w3 : IntKind.i64.wrap ((i + 1) * b) = p + b := (i64_w _).trans (by rw [e3]; unfold wrap64; omega)
  have c1 := eq_true hp0
  have c2 := eq_true (show p ≤ p + b by omega)
  have c3 := eq_true (show p + b ≤ (cap : Int) by omega)
  have c4 := eq_true (show 0 ≤ p + b by omega)
  have e4 : (p + b).toNat - p.toNat = b.toNat := by omega
  have c5 : (cap = p.toNat) = False := eq_false (by omega)
  clear hb hb8 hi0 hi hp hp0 hc h64 e3
  go_enter Try.func28, Try.ntmps28
  go_wp2_with fail
  go_ret
  exact ⟨by first | rfl | simp, below_alloc (Below.refl _ _) _⟩
/-- one row of a matrix -/
def rowCut (b : Int) (l : List Int) (i : Int) : List Int := (l.take (i * b + b).toNat).drop (i * b).toNat
/-- some rows, one behind the other -/
def rowsN (b : Int) (l : List Int) (l1 : List Int) : Nat → List Int
  | 0 => []
  | j + 1 => rowsN b l l1 j ++ rowCut b l (rd l1 j)
def rowsOkB (b : Int) (l l1 : List Int) : Bool := inB b 1 8 && decide (l1.length ≤ 8) && l1.all fun i => inB i 0 7 && decide (i * b + b ≤ (l.length : Int))
def impl_Matrix_rows.f (a0_0 : Int) (a0_1 : Int) (l0_2 : List Int) (l1 : List Int) : Option (Int × Int × List Int) := if rowsOkB a0_1 l0_2 l1 = true then some ((l1.length : Int), a0_1, rowsN a0_1 l0_2 l1 l1.length) else none
theorem rowsOk_at {b : Int} {l l1 : List Int} (h : rowsOkB b l l1 = true) (j : Int) (h0 : 0 ≤ j) (h1 : j < (l1.length : Int)) : 0 ≤ rd l1 j ∧ rd l1 j < 8 ∧ rd l1 j * b + b ≤ (l.length : Int) := by
  unfold rowsOkB at h
  rw [Bool.and_eq_true, List.all_eq_true] at h
  obtain ⟨n, rfl⟩ := Int.eq_ofNat_of_zero_le h0
  have hn : n < l1.length := by omega
  have e : rd l1 (n : Int) = l1[n] := by unfold rd; rw [Int.toNat_natCast, List.getD_eq_getElem?_getD, List.getElem?_eq_getElem hn]; rfl
  have := h.2 l1[n] (List.getElem_mem hn)
  rw [e]
  unfold inB at this
  simp only [Bool.and_eq_true, decide_eq_true_eq] at this
  omega
theorem rowCut_length {b i : Int} {l : List Int} (h0 : 0 ≤ i * b) (hb : 0 ≤ b) (h : i * b + b ≤ (l.length : Int)) : (rowCut b l i).length = b.toNat := by
  unfold rowCut
  rw [List.length_drop, List.length_take]
  omega
theorem rowsN_length {b : Int} {l l1 : List Int} (h : rowsOkB b l l1 = true) (hb0 : 0 ≤ b) : ∀ j, j ≤ l1.length → (rowsN b l l1 j).length = j * b.toNat
  | 0, _ => by simp [rowsN]
  | j + 1, hj => by
    obtain ⟨g0, _, g2⟩ := rowsOk_at h (j : Int) (by omega) (by omega)
    have := rowsN_length h hb0 j (by omega)
    simp only [rowsN, List.length_append, this, rowCut_length (Int.mul_nonneg g0 hb0) hb0 g2, Nat.add_mul, Nat.one_mul]
set_option maxHeartbeats 4000000 in
set_option maxRecDepth 100000 in
theorem impl_Matrix_rows.calls (a0_0 : Int) (a0_1 : Int) (A0_2 : Option Addr) (c0_2 : Nat) (l0_2 : List Int) (A1 : Option Addr) (c1 : Nat) (l1 : List Int) (r1 : Int) (r2 : Int) (r3 : List Int) (w : World) (hr0_2 : Kd.C (Kd.int .i64) w A0_2 l0_2.length l0_2) (hc0_2 : l0_2.length ≤ c0_2) (hr1 : Kd.C (Kd.int .i64) w A1 l1.length l1) (hc1 : l1.length ≤ c1) (h : impl_Matrix_rows.f a0_0 a0_1 l0_2 l1 = some (r1, r2, r3)) :
    Calls Try.prog 22 #[.agg #[.int .i64 a0_0, .int .i64 a0_1, .slice A0_2 l0_2.length c0_2], .slice A1 l1.length c1] w fun e w' => ∃ v2_ : Value, e = .returned (.agg #[.int .i64 r1, .int .i64 r2, v2_]) ∧ Kd.R (Kd.int .i64) 2 w' w.heap.size (fun _ => True) v2_ r3 ∧ Below w.heap.size w w' := by
  unfold impl_Matrix_rows.f at h
  by_cases hok : rowsOkB a0_1 l0_2 l1 = true
  case neg => rw [if_neg hok] at h; cases h
  rw [if_pos hok] at h
  simp only [Option.some.injEq, Prod.mk.injEq] at h
  obtain ⟨rfl, rfl, rfl⟩ := h
  have hb18 : 1 ≤ a0_1 ∧ a0_1 ≤ 8 ∧ l1.length ≤ 8 := by
    have := hok
    unfold rowsOkB inB at this
    simp only [Bool.and_eq_true, decide_eq_true_eq] at this
    exact ⟨this.1.1.1, this.1.1.2, this.1.2⟩
  obtain ⟨hb1, hb8, hl8⟩ := hb18
  have hm1 := Kd.C_max hr1
  have HR0 := Aside0.mk hr0_2
  have HC0 := Aside0.mk hc0_2
  have HR1 := Aside0.mk hr1
  have HOK := Aside0.mk hok
  have HB := Aside0.mk (Below.refl w.heap.size w)
  clear hr0_2 hc0_2 hr1 hc1 hok
  go_enter Try.func22, Try.ntmps22
  go_wp2_with (first | ((with_reducible refine gate_dst (N := 2) rfl ?_); refine box_event ?hg (N := 2) ?hd (cs := #[.int .i64 a0_0, .int .i64 a0_1, .slice A0_2 l0_2.length c0_2]) (t := 26) ?hr ?_; (case hd => rfl); (case hg => rfl); (case hr => first | (go_simp; done) | (go_simp; rfl)); intro gb hgb w2 hbox hb2; have HB2 := Aside0.mk hb2; have BB2 := Aside0.mk hbox; have GBB := Aside0.mk (hgb ▸ Nat.le_refl _ : w.heap.size ≤ gb); have HLT := Aside0.mk (blk_lt hbox); clear hb2 hbox hgb) | ((with_reducible refine gate_dst (N := 4) rfl ?_); refine box_event ?hg (N := 4) ?hd (cs := #[.int .i64 0, .int .i64 0, .slice none 0 0]) (t := 26) ?hr ?_; (case hd => rfl); (case hg => rfl); (case hr => first | (go_simp; done) | (go_simp; rfl)); intro gr hgr w3 hbox hb3; have HB3 := Aside0.mk (below_step HB2.out hb3); have BB3 := Aside0.mk (blk_below BB2.out hb3); have BR3 := Aside0.mk hbox; have GBR := Aside0.mk (hgr ▸ below_size HB2.out : w.heap.size ≤ gr); have NBR := Aside0.mk (show gb ≠ gr from by have := HLT.out; omega); have hq0 := (blk_cell BB3.out 0).trans rfl; have hq1 := (blk_cell BB3.out 1).trans rfl; have hq2 := (blk_cell BB3.out 2).trans rfl; have hqr := blk_lt BR3.out; have hqb := blk_lt BB3.out; clear hb3 hbox hgr HB2 BB2 HB))
  have HB4 := Aside0.mk (below_alloc HB3.out (.cells #[.int .i64 (l1.length : Int), .int .i64 a0_1, .slice none 0 0] 26))
  have BB4 := Aside0.mk (blk_alloc BB3.out (.cells #[.int .i64 (l1.length : Int), .int .i64 a0_1, .slice none 0 0] 26))
  have BR4 := Aside0.mk (blk_alloc BR3.out (.cells #[.int .i64 (l1.length : Int), .int .i64 a0_1, .slice none 0 0] 26))
  have BM4 := Aside0.mk (blk_new w3 (.cells #[.int .i64 (l1.length : Int), .int .i64 a0_1, .slice none 0 0] 26))
  have GBM := Aside0.mk (below_size HB3.out)
  have NBM := Aside0.mk (show gb ≠ w3.heap.size from by omega)
  have NRM := Aside0.mk (show gr ≠ w3.heap.size from by omega)
  generalize (w3.alloc (.cells #[.int .i64 (l1.length : Int), .int .i64 a0_1, .slice none 0 0] 26)) = w4 at HB4 BB4 BR4 BM4 ⊢
  generalize w3.heap.size = gm at BM4 GBM NBM NRM ⊢
  clear HB3 BB3 BR3 hq0 hq1 hq2 hqr hqb
  go_loopg [15] l1.length (fun gg s15 wr => ∃ (kk : Int) (u : Value), 0 ≤ kk ∧ kk ≤ l1.length ∧ (l1.length : Int) - kk ≤ gg ∧ s15 = .int .i64 kk ∧ Aside0 (Below w.heap.size w wr) ∧ Aside0 (wr.heap[gb]? = some (.cells #[.int .i64 a0_0, .int .i64 a0_1, .slice A0_2 l0_2.length c0_2] 26 (0, 0))) ∧ Aside0 (wr.heap[gr]? = some (.cells #[.int .i64 0, .int .i64 0, .slice none 0 0] 26 (0, 0))) ∧ Aside0 (wr.heap[gm]? = some (.cells #[.int .i64 (l1.length : Int), .int .i64 a0_1, u] 26 (0, 0))) ∧ Aside0 (Kd.R (Kd.int .i64) 2 wr w.heap.size (fun _ => True) u (rowsN a0_1 l0_2 l1 kk.toNat)))
  case atStart => exact ⟨0, .slice none 0 0, by omega, by omega, by omega, rfl, HB4, BB4, BR4, BM4, ⟨Kd.R_nil _ _ _ _ _⟩⟩
  case round =>
    clear HB4 BB4 BR4 BM4
    obtain ⟨kk, u, h0, hk, hg, rfl, HB, BB, BR, BM, HO⟩ := hrel
    by_cases hlt : kk < (l1.length : Int)
    · obtain ⟨ad1, rfl, hx1⟩ := Kd.at_int HR1.out kk h0 hlt
      replace hx1 := (HB.out.cell (World.block_lt_of_cell? w _ hx1)).trans hx1
      have q0 := eq_true h0
      have q1 := eq_true hlt
      obtain ⟨gi0, gi8, gil⟩ := rowsOk_at HOK.out kk h0 hlt
      have HLEN := Aside0.mk (show (rowsN a0_1 l0_2 l1 kk.toNat).length ≤ 64 from by
        rw [rowsN_length HOK.out (by omega) kk.toNat (by omega)]
        exact Nat.mul_le_mul (show kk.toNat ≤ 8 by omega) (show a0_1.toNat ≤ 8 by omega))
      have HNX := Aside0.mk (show rowsN a0_1 l0_2 l1 (kk + 1).toNat = rowsN a0_1 l0_2 l1 kk.toNat ++ rowCut a0_1 l0_2 (rd l1 kk) from by
        have e1 : (kk + 1).toNat = kk.toNat + 1 := by omega
        have e2 : ((kk.toNat : Nat) : Int) = kk := by omega
        rw [e1]
        show rowsN a0_1 l0_2 l1 kk.toNat ++ rowCut a0_1 l0_2 (rd l1 ((kk.toNat : Nat) : Int)) = _
        rw [e2])
      generalize rd l1 kk = xi at gi0 gi8 gil hx1 HNX
      obtain ⟨p, hp⟩ : ∃ p : Int, xi * a0_1 = p := ⟨_, rfl⟩
      have hp0 : 0 ≤ p := by rw [← hp]; exact Int.mul_nonneg gi0 (by omega)
      rw [hp] at gil
      obtain ⟨ad0, rfl, -⟩ := Kd.at_int HR0.out 0 (by omega) (by omega)
      have HPC := Aside0.mk (show p + a0_1 ≤ (c0_2 : Int) from by have := HC0.out; omega)
      have HCUT := Aside0.mk (show Kd.C (Kd.int .i64) w (some (ad0.add p.toNat)) a0_1.toNat (rowCut a0_1 l0_2 xi) from by
        have ht : (l0_2.take (p + a0_1).toNat).length = (p + a0_1).toNat := by rw [List.length_take]; omega
        have h1 := Kd.C_drop (c := c0_2) (m := p.toNat) (Kd.C_take HR0.out (m := (p + a0_1).toNat) (by omega)) (by omega) (by have := HPC.out; omega)
        rw [if_neg (by have := HPC.out; omega)] at h1
        have e : ((l0_2.take (p + a0_1).toNat).drop p.toNat).length = a0_1.toNat := by rw [List.length_drop, ht]; omega
        rw [e] at h1
        unfold rowCut
        rw [hp]
        simp only [Option.map_some, show p.toNat * (Kd.int .i64).sz = p.toNat from Nat.mul_one _] at h1
        exact h1)
      have hw1 : IntKind.i64.wrap (kk + 1) = kk + 1 := (i64_w _).trans (by unfold wrap64; omega)
      clear gil
      go_wp2_with fail
      have n1 := Aside0.mk (below_drew1 HB.out)
      have n2 := Aside0.mk (blk_drew BB.out)
      have n3 := Aside0.mk (blk_drew BR.out)
      have n4 := Aside0.mk (blk_drew BM.out)
      have n5 := Aside0.mk (Kd.R_drew HO.out)
      clear HB BB BR BM HO
      have HB := n1
      have BB := n2
      have BR := n3
      have BM := n4
      have HO := n5
      clear n1 n2 n3 n4 n5
      refine start_ (n := 8) (S := fun w' => w'.cell? ⟨gm, 2, none⟩ = some u ∧ w'.cell? ⟨gb, 0, none⟩ = some (.int .i64 a0_0) ∧ w'.cell? ⟨gb, 1, none⟩ = some (.int .i64 a0_1) ∧ w'.cell? ⟨gb, 2, none⟩ = some (.slice (some ad0) l0_2.length c0_2)) (ds := [7]) #[false, false, false, false, false, false, false, false] (by kernel_rfl) rfl rfl ⟨(blk_cell BM.out 2).trans rfl, (blk_cell BB.out 0).trans rfl, (blk_cell BB.out 1).trans rfl, (blk_cell BB.out 2).trans rfl⟩ (fun hHeld => ?_)
      refine pure_ (i := 0) (N := some 19) (v := ?_) (a' := ?_) #[true, false, false, false, false, false, false, false] rfl rfl (by kernel_rfl) (fun _ _ _ h => h) (Or.inl ⟨by rfl, ?_⟩) ?_ ?_
      rotate_left
      · intro w'
        go_simp
        with_reducible rfl
      rotate_left
      · simp only [Act.put, List.setIfInBounds_toArray, List.set_cons_zero, List.set_cons_succ, i64_w, i32_w]
        rfl
      refine pure_ (i := 3) (N := some 22) (v := ?_) (a' := ?_) #[true, false, false, true, false, false, false, false] rfl rfl (by kernel_rfl) (fun _ _ _ h => h) (Or.inl ⟨by rfl, ?_⟩) ?_ ?_
      rotate_left
      · intro w'
        go_simp
        with_reducible rfl
      rotate_left
      · simp only [Act.put, List.setIfInBounds_toArray, List.set_cons_zero, List.set_cons_succ, i64_w, i32_w]
        rfl
      refine take_ (i := 1) (N := some 20) (v := ?_) (a' := ?_) #[true, true, false, true, false, false, false, false] rfl rfl (by kernel_rfl) (fun _ _ _ h => h) (Or.inl ⟨by rfl, ?_⟩) hHeld ?_ ?_
      rotate_left
      · rintro w' ⟨s0, s1, s2, s3⟩
        go_simp
        with_reducible rfl
      rotate_left
      · simp only [Act.put, List.setIfInBounds_toArray, List.set_cons_zero, List.set_cons_succ, i64_w, i32_w]
        rfl
      refine take_ (i := 2) (N := some 21) (v := ?_) (a' := ?_) #[true, true, true, true, false, false, false, false] rfl rfl (by kernel_rfl) (fun _ _ _ h => h) (Or.inl ⟨by rfl, ?_⟩) hHeld ?_ ?_
      rotate_left
      · rintro w' ⟨s0, s1, s2, s3⟩
        go_simp
        with_reducible rfl
      rotate_left
      · simp only [Act.put, List.setIfInBounds_toArray, List.set_cons_zero, List.set_cons_succ, i64_w, i32_w]
        rfl
      refine one_ (i := 4) (N := some 23) #[true, true, true, true, true, false, false, false] rfl rfl (by kernel_rfl) (by decide) (fun K hK => ?_)
      generalize wr.drew = wd at HB BB BR BM HO hHeld ⊢
      refine goes_ Try.func28 (by kernel_rfl) rfl #[.agg #[.int .i64 a0_0, .int .i64 a0_1, .slice (some ad0) l0_2.length c0_2], .int .i64 xi] (by rfl) rfl rfl (by simp only [List.map_toArray, List.map_cons, List.map_nil]; rfl) ?_
      with_reducible refine (matRowG.calls ad0 a0_0 a0_1 xi p l0_2.length c0_2 _ hb1 hb8 gi0 gi8 hp hp0 HPC.out).mono ?_
      rintro e w5 ⟨rfl, hb⟩
      refine ⟨_, rfl, ?_⟩
      have n1 := Aside0.mk (below_step HB.out hb)
      have n2 := Aside0.mk (blk_below BB.out hb)
      have n3 := Aside0.mk (blk_below BR.out hb)
      have n4 := Aside0.mk (blk_below BM.out hb)
      have n5 := Aside0.mk (Kd.R_below HO.out hb)
      clear HB BB BR BM HO hb
      have HB := n1
      have BB := n2
      have BR := n3
      have BM := n4
      have HO := n5
      clear n1 n2 n3 n4 n5
      refine hK.out _ _ ⟨(blk_cell BM.out 2).trans rfl, (blk_cell BB.out 0).trans rfl, (blk_cell BB.out 1).trans rfl, (blk_cell BB.out 2).trans rfl⟩ (fun hHeld => ?_)
      clear hK K
      refine norm_ (a' := ?_) ?_ ?_
      rotate_left
      · show Act.put _ (some 23) _ = _
        simp only [Act.put, List.setIfInBounds_toArray, List.set_cons_zero, List.set_cons_succ, i64_w, i32_w]
        rfl
      refine one_ (i := 5) (N := some 24) #[true, true, true, true, true, true, false, false] rfl rfl (by kernel_rfl) (by decide) (fun K hK => ?_)
      refine Kd.R_append_rows_step (Kd.int .i64) (w0 := w) w.heap.size (by rfl) (.tmp 20) (.tmp 23) 22 2 (.int .i64 0) 8 rfl Try.underlying22 info2 rfl (by decide) (by omega) u (rowsN a0_1 l0_2 l1 kk.toNat) (rowCut a0_1 l0_2 xi) _ _ _ (fun _ => True) (fun _ => False) rfl rfl ?aO ?aR (fun _ _ h => h) (fun _ h => h.elim) ?aF ?aB ?aS ?aL ?_
      (case aR => exact Kd.C_below HCUT.out HB.out)
      (case aB => exact HB.out)
      (case aF => exact (fun _ _ => trivial))
      (case aO => exact HO.out)
      (case aS => exact below_size HB.out)
      (case aL => have := HLEN.out; omega)
      intro v6 w6 ho hb hg6 hat
      rw [← HNX.out] at ho
      have n1 := Aside0.mk hb
      have n2 := Aside0.mk (blk_grown BB.out hg6 (Kd.R_ne HO.out BB.out (by decide)))
      have n3 := Aside0.mk (blk_grown BR.out hg6 (Kd.R_ne HO.out BR.out (by decide)))
      have n4 := Aside0.mk (blk_grown BM.out hg6 (Kd.R_ne HO.out BM.out (by decide)))
      have n5 := Aside0.mk ho
      clear HB BB BR BM HO hb ho hg6 hat
      have HB := n1
      have BB := n2
      have BR := n3
      have BM := n4
      have HO := n5
      clear n1 n2 n3 n4 n5
      obtain ⟨Ao, co, eo⟩ := Kd.R_slice HO.out
      subst eo
      refine hK.out _ _ ⟨(blk_cell BM.out 2).trans rfl, (blk_cell BB.out 0).trans rfl, (blk_cell BB.out 1).trans rfl, (blk_cell BB.out 2).trans rfl⟩ (fun hHeld => ?_)
      clear hK K
      refine norm_ (a' := ?_) ?_ ?_
      rotate_left
      · show Act.put _ (some 24) _ = _
        simp only [Act.put, List.setIfInBounds_toArray, List.set_cons_zero, List.set_cons_succ, i64_w, i32_w]
        rfl
      refine pure_ (i := 6) (N := some 25) (v := ?_) (a' := ?_) #[true, true, true, true, true, true, true, false] rfl rfl (by kernel_rfl) (fun _ _ _ h => h) (Or.inl ⟨by rfl, ?_⟩) ?_ ?_
      rotate_left
      · intro w'
        go_simp
        with_reducible rfl
      rotate_left
      · simp only [Act.put, List.setIfInBounds_toArray, List.set_cons_zero, List.set_cons_succ, i64_w, i32_w]
        rfl
      refine last_ (i := 7) (N := none) #[true, true, true, true, true, true, true, true] rfl rfl (by kernel_rfl) (by decide) (fun K hK => ?_)
      have hs7 := (blk_cell BM.out 2).trans rfl
      have hf7 := blk_frozen BM.out 2
      refine skip_ (w1 := ?_) (by rfl) rfl ?_ ?_
      rotate_left
      · go_simp
        rfl
      refine hK.out _ _ ?_
      clear hK K
      refine done_ (by kernel_rfl) ?_
      go_wp2_with fail
      go_roundg (gk - 1)
      case measure => omega
      case rel => exact ⟨kk + 1, _, by omega, by omega, by omega, by go_num, ⟨below_set HB.out GBM.out⟩, ⟨blk_far BB.out NBM.out _⟩, ⟨blk_far BR.out NRM.out _⟩, ⟨blk_put BM.out 2 _ rfl⟩, ⟨Kd.R_mono (Kd.R_far (p := ⟨gm, 2, none⟩) (Kd.R_types HO.out BM.out (by decide)) (fun _ hk => hk.2) _) (fun _ _ => trivial)⟩⟩
    · obtain rfl : kk = l1.length := by omega
      have q1 := eq_false hlt
      rw [Int.toNat_natCast] at HO
      obtain ⟨Ao, co, eo⟩ := Kd.R_slice HO.out
      subst eo
      have hm0 := (blk_cell BM.out 0).trans rfl
      have hm1' := (blk_cell BM.out 1).trans rfl
      have hm2 := (blk_cell BM.out 2).trans rfl
      have hr0 := (blk_cell BR.out 0).trans rfl
      have hr1 := (blk_cell BR.out 1).trans rfl
      have hr2 := (blk_cell BR.out 2).trans rfl
      have hf0 := blk_frozen BR.out 0
      have hf1 := blk_frozen BR.out 1
      have hf2 := blk_frozen BR.out 2
      go_wp2_with fail
      refine bodyPost_ret (results_cell_row rfl _ _ gr 26 #[.int .i64 (l1.length : Int), .int .i64 a0_1, .slice Ao (rowsN a0_1 l0_2 l1 l1.length).length co] (0, 0) _ rfl (by refine blk_put (cs := #[.int .i64 (l1.length : Int), .int .i64 a0_1, .slice none 0 0]) ?_ 2 _ rfl; refine blk_put (cs := #[.int .i64 (l1.length : Int), .int .i64 0, .slice none 0 0]) ?_ 1 _ rfl; refine blk_put (cs := #[.int .i64 0, .int .i64 0, .slice none 0 0]) ?_ 0 _ rfl; exact BR.out) Try.underlying26 rfl (by kernel_rfl)) rfl ?_
      refine ⟨_, rfl, ?_, below_set (below_set (below_set HB.out GBR.out) GBR.out) GBR.out⟩
      have h1 := Kd.R_types HO.out BR.out (by decide)
      exact Kd.R_mono (Kd.R_far (Kd.R_far (Kd.R_far h1 (fun k hk => hk.2) _) (fun k hk => hk.2) _) (fun k hk => hk.2) _) (fun _ _ => trivial)

def matRowsAns (a b : Int) (l l1 : List Int) : Int × Int × List Int × Int := if matOkB a b l = true then (if inB (l1.length : Int) 1 8 = true then (if (l1.any fun x => !(inB x 0 (wrap64 (a - 1)))) = true then (0, 0, [], 2) else ((l1.length : Int), b, rowsN b l l1 l1.length, 0)) else (0, 0, [], 4)) else (0, 0, [], 1)
def impl_MatRows.f (a0_0 : Int) (a0_1 : Int) (l0_2 : List Int) (l1 : List Int) : Option (Int × Int × List Int × Int) := some (matRowsAns a0_0 a0_1 l0_2 l1)
theorem rowsOk_of {a b : Int} {l l1 : List Int} (h1 : matOkB a b l = true) (h2 : inB (l1.length : Int) 1 8 = true) (h3 : (l1.any fun x => !(inB x 0 (wrap64 (a - 1)))) = false) : rowsOkB b l l1 = true := by
  unfold matOkB inB at h1
  unfold inB at h2
  simp only [Bool.and_eq_true, decide_eq_true_eq] at h1 h2
  obtain ⟨⟨⟨⟨ha1, ha8⟩, hb1, hb8⟩, hl⟩, -⟩ := h1
  have hab : a * b ≤ 64 := by
    have := Int.mul_le_mul ha8 hb8 (by omega) (by omega : (0 : Int) ≤ 8)
    omega
  have hab0 : 0 ≤ a * b := Int.mul_nonneg (by omega) (by omega)
  have hw : wrap64 (a * b) = a * b := by
    generalize a * b = m at hab hab0
    unfold wrap64; omega
  have hw2 : wrap64 (a - 1) = a - 1 := by unfold wrap64; omega
  rw [hw] at hl
  unfold rowsOkB inB
  simp only [Bool.and_eq_true, decide_eq_true_eq, List.all_eq_true]
  refine ⟨⟨⟨hb1, hb8⟩, by omega⟩, fun x hx => ?_⟩
  rw [List.any_eq_false] at h3
  have := h3 x hx
  unfold inB at this
  rw [hw2] at this
  simp only [Bool.not_eq_true', Bool.not_eq_false, Bool.and_eq_true, decide_eq_true_eq] at this
  refine ⟨⟨this.1, by omega⟩, ?_⟩
  have h5 : (x + 1) * b ≤ a * b := Int.mul_le_mul_of_nonneg_right (by omega) (by omega)
  rw [Int.add_mul, Int.one_mul] at h5
  omega
theorem rowsClosure.calls (x a0_0 a0_1 q : Int) (v : Value) (b : Nat) (W : World) (hq : wrap64 (a0_0 - 1) = q) (hb : W.heap[b]? = some (.cells #[.int .i64 a0_0, .int .i64 a0_1, v] 26 (0, 0))) :
    Calls Try.prog 21 #[.int .i64 x, .pointer (some ⟨b, 0, none⟩)] W fun e w' => e = .returned (.bool (!(inB x 0 q))) ∧ Below W.heap.size W w' := by
  have h0 := (blk_cell hb 0).trans rfl
  have hw : IntKind.i64.wrap (a0_0 - 1) = q := (i64_w _).trans hq
  clear hb hq
  go_enter Try.func21, Try.ntmps21
  go_wp2_with fail
  refine (impl_between.calls _ _ _ _ _ (between_inB x 0 q)).mono ?_
  rintro e w' ⟨rfl, hd⟩
  obtain ⟨n, rfl⟩ := hd.out
  go_wp2_with fail
  go_ret
  exact ⟨rfl, pw_below_drewN (Below.refl _ _) n⟩
set_option maxHeartbeats 4000000 in
set_option maxRecDepth 100000 in
theorem impl_MatRows.calls (a0_0 : Int) (a0_1 : Int) (A0_2 : Option Addr) (c0_2 : Nat) (l0_2 : List Int) (A1 : Option Addr) (c1 : Nat) (l1 : List Int) (r1 : Int) (r2 : Int) (r3 : List Int) (r4 : Int) (w : World) (hr0_2 : Kd.C (Kd.int .i64) w A0_2 l0_2.length l0_2) (hc0_2 : l0_2.length ≤ c0_2) (hr1 : Kd.C (Kd.int .i64) w A1 l1.length l1) (hc1 : l1.length ≤ c1) (h : impl_MatRows.f a0_0 a0_1 l0_2 l1 = some (r1, r2, r3, r4)) :
    Calls Try.prog 8 #[.agg #[.int .i64 a0_0, .int .i64 a0_1, .slice A0_2 l0_2.length c0_2], .slice A1 l1.length c1] w fun e w' => ∃ v2_ : Value, e = .returned (.tuple #[.agg #[.int .i64 r1, .int .i64 r2, v2_], .int .i64 r4]) ∧ Kd.R (Kd.int .i64) 2 w' w.heap.size (fun _ => True) v2_ r3 ∧ Below w.heap.size w w' := by
  have hm1 := Kd.C_max hr1
  have HR0 := Aside0.mk hr0_2
  have HC0 := Aside0.mk hc0_2
  have HR1 := Aside0.mk hr1
  have HC1 := Aside0.mk hc1
  have HB := Aside0.mk (Below.refl w.heap.size w)
  have HD := Aside0.mk (show (r1, r2, r3, r4) = (if matOkB a0_0 a0_1 l0_2 = true then (if inB (l1.length : Int) 1 8 = true then (if (l1.any fun x => !(inB x 0 (wrap64 (a0_0 - 1)))) = true then ((0 : Int), (0 : Int), ([] : List Int), (2 : Int)) else ((l1.length : Int), a0_1, rowsN a0_1 l0_2 l1 l1.length, (0 : Int))) else ((0 : Int), (0 : Int), ([] : List Int), (4 : Int))) else ((0 : Int), (0 : Int), ([] : List Int), (1 : Int))) from (Option.some.inj h).symm)
  clear hr0_2 hc0_2 hr1 hc1 h
  go_enter Try.func8, Try.ntmps8
  go_wp2_with (first | ((with_reducible refine gate_dst (N := 2) rfl ?_); refine box_event ?hg (N := 2) ?hd (cs := #[.int .i64 a0_0, .int .i64 a0_1, .slice A0_2 l0_2.length c0_2]) (t := 26) ?hr ?_; (case hd => rfl); (case hg => rfl); (case hr => first | (go_simp; done) | (go_simp; rfl)); intro gb hgb w2 hbox hb2; have HB2 := Aside0.mk hb2; have BB2 := Aside0.mk hbox; clear hb2 hbox hgb) | ((with_reducible refine gate_dst (N := 4) rfl ?_); refine box_event ?hg (N := 4) ?hd (cs := #[.int .i64 0, .int .i64 0, .slice none 0 0]) (t := 26) ?hr ?_; (case hd => rfl); (case hg => rfl); (case hr => first | (go_simp; done) | (go_simp; rfl)); intro gr hgr w3 hbox hb3; have n1 := Aside0.mk (below_step HB2.out hb3); have n2 := Aside0.mk (blk_below BB2.out hb3); have n3 := Aside0.mk hbox; have GBR := Aside0.mk (hgr ▸ below_size HB2.out : w.heap.size ≤ gr); clear hb3 hbox hgr HB2 BB2 HB; have HB := n1; have BB := n2; have BR := n3; clear n1 n2 n3; have hq0 := (blk_cell BB.out 0).trans rfl; have hq1 := (blk_cell BB.out 1).trans rfl; have hq2 := (blk_cell BB.out 2).trans rfl))
  refine (impl_MatrixOk.calls a0_0 a0_1 A0_2 c0_2 l0_2 (matOkB a0_0 a0_1 l0_2) _ (Kd.C_below HR0.out HB.out) HC0.out rfl).mono ?_
  rintro e w4 ⟨rfl, hb⟩
  clear hq0 hq1 hq2
  have n1 := Aside0.mk (below_step HB.out hb)
  have n2 := Aside0.mk (blk_below BB.out hb)
  have n3 := Aside0.mk (blk_below BR.out hb)
  clear HB BB BR hb
  have HB := n1
  have BB := n2
  have BR := n3
  clear n1 n2 n3
  cases e1 : matOkB a0_0 a0_1 l0_2 with
  | false =>
    have HF := Aside0.mk (show (r1, r2, r3, r4) = ((0 : Int), (0 : Int), ([] : List Int), (1 : Int)) from by rw [HD.out]; simp [e1])
    have hz0 := (blk_cell BR.out 0).trans rfl
    have hz1 := (blk_cell BR.out 1).trans rfl
    have hz2 := (blk_cell BR.out 2).trans rfl
    have hf0 := blk_frozen BR.out 0
    have hf1 := blk_frozen BR.out 1
    have hf2 := blk_frozen BR.out 2
    go_wp2_with fail
    obtain ⟨rfl, rfl, rfl, rfl⟩ := (show r1 = 0 ∧ r2 = 0 ∧ r3 = [] ∧ r4 = 1 from by have := HF.out; simpa using this)
    refine bodyPost_ret (results_ct rfl _ _ gr 26 #[.int .i64 0, .int .i64 0, .slice none 0 0] (0, 0) _ rfl (by refine blk_put (cs := #[.int .i64 0, .int .i64 0, .slice none 0 0]) ?_ 2 _ rfl; refine blk_put (cs := #[.int .i64 0, .int .i64 0, .slice none 0 0]) ?_ 1 _ rfl; refine blk_put (cs := #[.int .i64 0, .int .i64 0, .slice none 0 0]) ?_ 0 _ rfl; exact BR.out) Try.underlying26 rfl (by kernel_rfl)) rfl ?_
    exact ⟨_, rfl, Kd.R_nil _ _ _ _ _, below_set (below_set (below_set HB.out GBR.out) GBR.out) GBR.out⟩
  | true =>
    go_wp2_with fail
    refine (impl_between.calls _ _ _ _ _ (between_inB (l1.length : Int) 1 8)).mono ?_
    rintro e w5 ⟨rfl, hd⟩
    have hb := hd.below
    clear hd
    have n1 := Aside0.mk (below_step HB.out hb)
    have n2 := Aside0.mk (blk_below BB.out hb)
    have n3 := Aside0.mk (blk_below BR.out hb)
    clear HB BB BR hb
    have HB := n1
    have BB := n2
    have BR := n3
    clear n1 n2 n3
    cases e2 : inB (l1.length : Int) 1 8 with
    | false =>
      have HF := Aside0.mk (show (r1, r2, r3, r4) = ((0 : Int), (0 : Int), ([] : List Int), (4 : Int)) from by rw [HD.out]; simp [e1, e2])
      have hz0 := (blk_cell BR.out 0).trans rfl
      have hz1 := (blk_cell BR.out 1).trans rfl
      have hz2 := (blk_cell BR.out 2).trans rfl
      have hf0 := blk_frozen BR.out 0
      have hf1 := blk_frozen BR.out 1
      have hf2 := blk_frozen BR.out 2
      go_wp2_with fail
      obtain ⟨rfl, rfl, rfl, rfl⟩ := (show r1 = 0 ∧ r2 = 0 ∧ r3 = [] ∧ r4 = 4 from by have := HF.out; simpa using this)
      refine bodyPost_ret (results_ct rfl _ _ gr 26 #[.int .i64 0, .int .i64 0, .slice none 0 0] (0, 0) _ rfl (by refine blk_put (cs := #[.int .i64 0, .int .i64 0, .slice none 0 0]) ?_ 2 _ rfl; refine blk_put (cs := #[.int .i64 0, .int .i64 0, .slice none 0 0]) ?_ 1 _ rfl; refine blk_put (cs := #[.int .i64 0, .int .i64 0, .slice none 0 0]) ?_ 0 _ rfl; exact BR.out) Try.underlying26 rfl (by kernel_rfl)) rfl ?_
      exact ⟨_, rfl, Kd.R_nil _ _ _ _ _, below_set (below_set (below_set HB.out GBR.out) GBR.out) GBR.out⟩
    | true =>
      go_wp2_with fail
      have HRW := Aside0.mk (Kd.C_below HR1.out HB.out)
      refine (containsInt64.calls A1 c1 l1 21 #[.pointer (some ⟨gb, 0, none⟩)] (fun x => !(inB x 0 (wrap64 (a0_0 - 1)))) _ @Try.call21 HRW.out (by
        intro W2 y cs hB hK
        obtain rfl := hK
        exact (rowsClosure.calls y a0_0 a0_1 _ _ gb W2 rfl ((hB.block _ (blk_lt BB.out)).trans BB.out)).mono fun r w' ⟨he, hb'⟩ => ⟨he, hB.trans (hb'.mono hB.size)⟩)).mono ?_
      rintro e w6 ⟨rfl, hb⟩
      clear HRW
      have n1 := Aside0.mk (below_step HB.out hb)
      have n2 := Aside0.mk (blk_below BB.out hb)
      have n3 := Aside0.mk (blk_below BR.out hb)
      clear HB BB BR hb
      have HB := n1
      have BB := n2
      have BR := n3
      clear n1 n2 n3
      cases e3 : (l1.any fun x => !(inB x 0 (wrap64 (a0_0 - 1)))) with
      | true =>
        have HF := Aside0.mk (show (r1, r2, r3, r4) = ((0 : Int), (0 : Int), ([] : List Int), (2 : Int)) from by rw [HD.out]; simp [e1, e2, e3])
        have hz0 := (blk_cell BR.out 0).trans rfl
        have hz1 := (blk_cell BR.out 1).trans rfl
        have hz2 := (blk_cell BR.out 2).trans rfl
        have hf0 := blk_frozen BR.out 0
        have hf1 := blk_frozen BR.out 1
        have hf2 := blk_frozen BR.out 2
        go_wp2_with fail
        obtain ⟨rfl, rfl, rfl, rfl⟩ := (show r1 = 0 ∧ r2 = 0 ∧ r3 = [] ∧ r4 = 2 from by have := HF.out; simpa using this)
        refine bodyPost_ret (results_ct rfl _ _ gr 26 #[.int .i64 0, .int .i64 0, .slice none 0 0] (0, 0) _ rfl (by refine blk_put (cs := #[.int .i64 0, .int .i64 0, .slice none 0 0]) ?_ 2 _ rfl; refine blk_put (cs := #[.int .i64 0, .int .i64 0, .slice none 0 0]) ?_ 1 _ rfl; refine blk_put (cs := #[.int .i64 0, .int .i64 0, .slice none 0 0]) ?_ 0 _ rfl; exact BR.out) Try.underlying26 rfl (by kernel_rfl)) rfl ?_
        exact ⟨_, rfl, Kd.R_nil _ _ _ _ _, below_set (below_set (below_set HB.out GBR.out) GBR.out) GBR.out⟩
      | false =>
        have HOK := Aside0.mk (rowsOk_of e1 e2 e3)
        have HF := Aside0.mk (show (r1, r2, r3, r4) = ((l1.length : Int), a0_1, rowsN a0_1 l0_2 l1 l1.length, (0 : Int)) from by rw [HD.out]; simp [e1, e2, e3])
        have hq0 := (blk_cell BB.out 0).trans rfl
        have hq1 := (blk_cell BB.out 1).trans rfl
        have hq2 := (blk_cell BB.out 2).trans rfl
        go_wp2_with fail
        refine (impl_Matrix_rows.calls a0_0 a0_1 A0_2 c0_2 l0_2 A1 c1 l1 (l1.length : Int) a0_1 (rowsN a0_1 l0_2 l1 l1.length) _ (Kd.C_below HR0.out HB.out) HC0.out (Kd.C_below HR1.out HB.out) HC1.out (by unfold impl_Matrix_rows.f; rw [if_pos HOK.out])).mono ?_
        rintro e w7 ⟨v2, rfl, ho, hb⟩
        obtain ⟨Ao, co, eo⟩ := Kd.R_slice ho
        subst eo
        have HO := Aside0.mk (Kd.R_lower ho (below_size HB.out))
        clear ho hq0 hq1 hq2
        have n1 := Aside0.mk (below_step HB.out hb)
        have n2 := Aside0.mk (blk_below BB.out hb)
        have n3 := Aside0.mk (blk_below BR.out hb)
        clear HB BB BR hb
        have HB := n1
        have BB := n2
        have BR := n3
        clear n1 n2 n3
        have hz0 := (blk_cell BR.out 0).trans rfl
        have hz1 := (blk_cell BR.out 1).trans rfl
        have hz2 := (blk_cell BR.out 2).trans rfl
        have hf0 := blk_frozen BR.out 0
        have hf1 := blk_frozen BR.out 1
        have hf2 := blk_frozen BR.out 2
        go_wp2_with fail
        obtain ⟨rfl, rfl, rfl, rfl⟩ := (show r1 = (l1.length : Int) ∧ r2 = a0_1 ∧ r3 = rowsN a0_1 l0_2 l1 l1.length ∧ r4 = 0 from by have := HF.out; simpa using this)
        refine bodyPost_ret (results_ct rfl _ _ gr 26 #[.int .i64 (l1.length : Int), .int .i64 r2, .slice Ao (rowsN r2 l0_2 l1 l1.length).length co] (0, 0) _ rfl (by refine blk_put (cs := #[.int .i64 (l1.length : Int), .int .i64 r2, .slice none 0 0]) ?_ 2 _ rfl; refine blk_put (cs := #[.int .i64 (l1.length : Int), .int .i64 0, .slice none 0 0]) ?_ 1 _ rfl; refine blk_put (cs := #[.int .i64 0, .int .i64 0, .slice none 0 0]) ?_ 0 _ rfl; exact BR.out) Try.underlying26 rfl (by kernel_rfl)) rfl ?_
        refine ⟨_, rfl, ?_, below_set (below_set (below_set HB.out GBR.out) GBR.out) GBR.out⟩
        have h1 := Kd.R_types HO.out BR.out (by decide)
        exact Kd.R_mono (Kd.R_far (Kd.R_far (Kd.R_far h1 (fun k hk => hk.2) _) (fun k hk => hk.2) _) (fun k hk => hk.2) _) (fun _ _ => trivial)

end Go.Proofs.Ytgpakhlnjgehhaa.Q
