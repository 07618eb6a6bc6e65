/- Walks and plain laws of one claim, several texts in one. -/
import Derived.Test.YtohjpgcmhihdhaaQ0
import Derived.Test.YtohjpgcmhihdhaaQf25
import Derived.Test.YtohjpgcmhihdhaaQf30
import Derived.Test.YtohjpgcmhihdhaaQf33
import Derived.Test.YtohjpgcmhihdhaaQf55
import Derived.Test.YtohjpgcmhihdhaaQf32
import Derived.Test.YtohjpgcmhihdhaaQf21
import Derived.Test.YtohjpgcmhihdhaaQf36
import Derived.Test.YtohjpgcmhihdhaaQf37
namespace Go.Proofs.Ytohjpgcmhihdhaa.Q
open Go.RowKit Go.Proofs.YtohjpgcmhihdhaaW.PrintWords Go.Proofs.YtohjpgcmhihdhaaW.PrintLast Go.Proofs.YtohjpgcmhihdhaaW.PrintMore
attribute [local go_sem] max2_int min2_int max_two min_two max_three min_three max_four min_four   -- for this text's walks alone
set_option linter.unusedVariables false
set_option linter.unusedSimpArgs false
/-! ### impl_Apart: function 17 -/
/-- are things apart: each has a domain, no two the same? (what is -1 does not count) -/
def apartGo (g : Int → Option (Int × Bool)) : List Int → List Int → Option Bool
  | _, [] => some true
  | u, x :: xs => if x = -1 then apartGo g u xs else (g x).bind fun d => if d.2 = true then (if wfI d.1 = true then (if (u.any fun y => y == d.1) = true then some false else apartGo g (u ++ [d.1]) xs) else none) else some false
theorem apartGo_here (g : Int → Option (Int × Bool)) (u l : List Int) (i : Int) (h0 : 0 ≤ i) (h1 : i < (l.length : Int)) : apartGo g u (l.drop i.toNat) = if rd l i = -1 then apartGo g u (l.drop (i + 1).toNat) else (g (rd l i)).bind fun d => if d.2 = true then (if wfI d.1 = true then (if (u.any fun y => y == d.1) = true then some false else apartGo g (u ++ [d.1]) (l.drop (i + 1).toNat)) else none) else some false := by
  obtain ⟨n, rfl⟩ := Int.eq_ofNat_of_zero_le h0
  have hl : n < l.length := by omega
  have e : ((n : Int) + 1).toNat = n + 1 := by omega
  have er : rd l (n : Int) = l[n] := by unfold rd; rw [Int.toNat_natCast, List.getD_eq_getElem?_getD, List.getElem?_eq_getElem hl]; rfl
  rw [e, Int.toNat_natCast, List.drop_eq_getElem_cons hl, er]
  rfl
def impl_Apart.f (k : Nat) (l0_0 : List (S34)) (l0_1 : List (S70)) (a1 : Int) (l2 : List Int) : Option Bool :=
  (impl_TreeOk.f k l0_0 l0_1).bind fun t => if t = true then (if inB a1 0 2 = true then (if l2.length ≤ 7 then apartGo (fun x => impl_Tree_domain.f k l0_0 l0_1 a1 x) [] l2 else some false) else some false) else some false
set_option maxHeartbeats 4000000 in
set_option maxRecDepth 100000 in
theorem impl_Apart.calls (k : Nat) (A0_0 : Option Addr) (c0_0 : Nat) (l0_0 : List (S34)) (A0_1 : Option Addr) (c0_1 : Nat) (l0_1 : List (S70)) (a1 : Int) (A2 : Option Addr) (c2 : Nat) (l2 : List Int) (r : Bool) (w : World) (hr0_0 : Kd.C k34 w A0_0 l0_0.length l0_0) (hc0_0 : l0_0.length ≤ c0_0) (hr0_1 : Kd.C k70 w A0_1 l0_1.length l0_1) (hc0_1 : l0_1.length ≤ c0_1) (hr2 : Kd.C (Kd.int .i64) w A2 l2.length l2) (hc2 : l2.length ≤ c2) (h : impl_Apart.f k l0_0 l0_1 a1 l2 = some r) :
    Calls Try.prog 17 #[.agg #[.slice A0_0 l0_0.length c0_0, .slice A0_1 l0_1.length c0_1], .int .i64 a1, .slice A2 l2.length c2] w fun e w' => e = .returned (.bool r) ∧ Below w.heap.size w w' := by
  have HR0 := Aside0.mk hr0_0
  have HR1 := Aside0.mk hr0_1
  have HR2 := Aside0.mk hr2
  have HC0 := Aside0.mk hc0_0
  have HC1 := Aside0.mk hc0_1
  clear hr0_0 hr0_1 hr2 hc0_0 hc0_1 hc2
  unfold impl_Apart.f at h
  obtain ⟨t, ht, h2⟩ := Option.bind_eq_some_iff.1 h
  have HT := Aside0.mk ht
  have H := Aside0.mk h2
  clear h ht h2
  have hmm := @run_makeMap Try.prog
  go_enter Try.func17, Try.ntmps17
  go_wp2_with fail
  have BK := Aside0.mk (blk_new w (.cells #[.slice A0_0 l0_0.length c0_0, .slice A0_1 l0_1.length c0_1] 26))
  have HB := Aside0.mk (below_alloc (Below.refl w.heap.size w) (.cells #[.slice A0_0 l0_0.length c0_0, .slice A0_1 l0_1.length c0_1] 26))
  refine (impl_TreeOk.calls k A0_0 c0_0 l0_0 A0_1 c0_1 l0_1 t _ (Kd.C_below HR0.out HB.out) HC0.out (Kd.C_below HR1.out HB.out) HC1.out HT.out).mono ?_
  rintro e w1 ⟨rfl, hb⟩
  replace BK := Aside0.mk (blk_below BK.out hb)
  replace HB := Aside0.mk (below_step HB.out hb)
  clear hb
  have HLT := Aside0.mk (blk_lt BK.out)
  have h0 := (blk_cell BK.out 0).trans rfl
  have h1 := (blk_cell BK.out 1).trans rfl
  cases t with
  | false =>
    have HF := Aside0.mk (show r = false from by have := H.out; rw [if_neg (by decide)] at this; exact (Option.some.inj this).symm)
    go_wp2_with fail
    go_ret
    exact ⟨by rw [HF.out]; rfl, HB.out⟩
  | true =>
  replace H := Aside0.mk (by have := H.out; rwa [if_pos rfl] at this)
  go_wp2_with fail
  refine (impl_between.calls _ _ _ _ _ (between_inB a1 0 2)).mono ?_
  rintro e w2 ⟨rfl, hd⟩
  have hb := hd.below
  replace BK := Aside0.mk (blk_below BK.out hb)
  replace HB := Aside0.mk (below_step HB.out hb)
  clear hb hd h0 h1 HLT
  have HLT := Aside0.mk (blk_lt BK.out)
  have h0 := (blk_cell BK.out 0).trans rfl
  have h1 := (blk_cell BK.out 1).trans rfl
  cases e2 : inB a1 0 2 with
  | false =>
    have HF := Aside0.mk (show r = false from by have := H.out; rw [if_neg (by rw [e2]; decide)] at this; exact (Option.some.inj this).symm)
    go_wp2_with fail
    go_ret
    exact ⟨by rw [HF.out]; rfl, HB.out⟩
  | true =>
  replace H := Aside0.mk (by have := H.out; rwa [if_pos e2] at this)
  clear e2
  by_cases c : l2.length ≤ 7
  case neg =>
    have HF := Aside0.mk (show r = false from by have := H.out; rw [if_neg c] at this; exact (Option.some.inj this).symm)
    have cb := decide_eq_true (show 7 < (l2.length : Int) by omega)
    have cn := decide_eq_true (show 7 < l2.length by omega)
    clear c
    go_wp2_with fail
    go_ret
    exact ⟨by rw [HF.out]; rfl, HB.out⟩
  replace H := Aside0.mk (show apartGo (fun x => impl_Tree_domain.f k l0_0 l0_1 a1 x) [] (l2.drop (0 : Int).toNat) = some r from by have := H.out; rwa [if_pos c] at this)
  have cb := decide_eq_false (show ¬ 7 < (l2.length : Int) by omega)
  have cn := decide_eq_false (show ¬ 7 < l2.length by omega)
  go_wp2_with fail
  have HS := Aside0.mk (OwnSet.made w2)
  have HMB := Aside0.mk (show w.heap.size ≤ w2.heap.size from HB.out.size)
  have HNE := Aside0.mk (show ¬ w.heap.size = w2.heap.size from by have := HLT.out; omega)
  replace BK := Aside0.mk (blk_alloc BK.out (.map #[] 0))
  replace HB := Aside0.mk (below_alloc HB.out (.map #[] 0))
  generalize (w2.alloc (.map #[] 0)) = w3 at HS BK HB ⊢
  generalize w2.heap.size = mb at HS HMB HNE ⊢
  obtain ⟨gt, hgt⟩ : ∃ g, g = w.heap.size := ⟨_, rfl⟩
  rw [← hgt] at BK HNE ⊢
  clear hgt h0 h1 HLT
  go_loopg [28] l2.length (fun gg s28 wr => ∃ (kk : Int) (S : List Int), 0 ≤ kk ∧ kk ≤ l2.length ∧ (l2.length : Int) - kk ≤ gg ∧ s28 = .int .i64 kk ∧ (S.length : Int) ≤ kk ∧ Aside0 (Below w.heap.size w wr) ∧ Aside0 (OwnSet wr mb S.length S) ∧ Aside0 (wr.heap[gt]? = some (.cells #[.slice A0_0 l0_0.length c0_0, .slice A0_1 l0_1.length c0_1] 26 (0, 0))) ∧ Aside0 (apartGo (fun x => impl_Tree_domain.f k l0_0 l0_1 a1 x) S (l2.drop kk.toNat) = some r))
  case atStart => exact ⟨0, [], by omega, by omega, by omega, rfl, by simp, HB, HS, BK, H⟩
  case round =>
    clear HB HS BK H
    obtain ⟨kk, S, h0, hk, hg, rfl, hS, HB, HS, BK, H⟩ := hrel
    have ht0 := (blk_cell BK.out 0).trans rfl
    have ht1 := (blk_cell BK.out 1).trans rfl
    by_cases hlt : kk < (l2.length : Int)
    case neg =>
      obtain rfl : kk = l2.length := by omega
      have HF := Aside0.mk (show r = true from by have := H.out; rw [Int.toNat_natCast, List.drop_length] at this; exact (Option.some.inj this).symm)
      clear H
      go_wp2_with fail
      go_ret
      exact ⟨by rw [HF.out]; rfl, HB.out⟩
    obtain ⟨ad, rfl, hx0⟩ := Kd.at_int HR2.out kk h0 hlt
    replace hx0 := (HB.out.cell (World.block_lt_of_cell? w _ hx0)).trans hx0
    have q0 := eq_true h0
    have q1 := eq_true hlt
    have HN := Aside0.mk (by have := apartGo_here (fun x => impl_Tree_domain.f k l0_0 l0_1 a1 x) S l2 kk h0 hlt; rw [H.out] at this; exact this.symm)
    clear H
    generalize rd l2 kk = x at hx0 HN
    by_cases ex : x = -1
    · subst ex
      replace HN := Aside0.mk (by have := HN.out; rwa [if_pos rfl] at this)
      go_wp2_with fail
      go_roundg (gk - 1)
      case measure => omega
      case rel => exact ⟨kk + 1, S, by omega, by omega, by omega, by go_num, by omega, HB, HS, BK, HN⟩
    replace HN := Aside0.mk (by have := HN.out; rwa [if_neg ex] at this)
    have exb : (x == -1) = false := by simpa using ex
    clear ex
    obtain ⟨⟨d1, d2⟩, hdm, hn⟩ := Option.bind_eq_some_iff.1 HN.out
    have HD := Aside0.mk hdm
    replace HN := Aside0.mk hn
    clear hdm hn
    go_wp2_with fail
    refine (impl_Tree_domain.calls k A0_0 c0_0 l0_0 A0_1 c0_1 l0_1 a1 x d1 d2 _ (Kd.C_below HR0.out HB.out) HC0.out (Kd.C_below HR1.out HB.out) HC1.out HD.out).mono ?_
    rintro e w4 ⟨rfl, hb⟩
    have HB4 := Aside0.mk (below_step HB.out hb)
    have BK4 := Aside0.mk (blk_below BK.out hb)
    have HS4 := Aside0.mk (OwnSet.below HS.out hb)
    clear hb HB BK HS ht0 ht1 hx0
    cases d2 with
    | false =>
      have HF := Aside0.mk (show r = false from by have := HN.out; rw [if_neg (by decide)] at this; exact (Option.some.inj this).symm)
      go_wp2_with fail
      go_ret
      exact ⟨by rw [HF.out]; rfl, HB4.out⟩
    | true =>
    replace HN := Aside0.mk (by have := HN.out; rwa [if_pos rfl] at this)
    by_cases hw : wfI d1 = true
    case neg => exact absurd HN.out (by rw [if_neg hw]; simp)
    replace HN := Aside0.mk (by have := HN.out; rwa [if_pos hw] at this)
    have hlook := OwnSet.look HS4.out d1 hw
    have HW2 := Aside0.mk hw
    clear hw
    cases hq : S.any (fun y => y == d1) with
    | true =>
      rw [hq] at hlook
      have HF := Aside0.mk (show r = false from by have := HN.out; simp only [hq, if_true] at this; exact (Option.some.inj this).symm)
      clear hq
      go_wp2_with fail
      go_ret
      exact ⟨by rw [HF.out]; rfl, HB4.out⟩
    | false =>
      rw [hq] at hlook
      replace HN := Aside0.mk (show apartGo (fun x => impl_Tree_domain.f k l0_0 l0_1 a1 x) (S ++ [d1]) (l2.drop (kk + 1).toNat) = some r from by have := HN.out; simpa only [hq, Bool.false_eq_true, if_false] using this)
      have HSN := Aside0.mk (show S.length < 9223372036854775807 from by omega)
      clear hq
      go_wp2_with (at_mapUpdate; refine OwnSet.put rfl rfl _ _ _ rfl _ _ _ rfl HS4.out HSN.out _ rfl rfl HW2.out ?_; intro w5 hs5 hg5; have HS5 := Aside0.mk hs5; have HG5 := Aside0.mk hg5; clear hs5 hg5)
      go_roundg (gk - 1)
      case measure => omega
      case rel =>
        exact ⟨kk + 1, S ++ [d1], by omega, by omega, by omega, by go_num, by rw [List.length_append]; simp; omega, ⟨pw_below_grown HB4.out (some mb) HB4.out.size HG5.out (by intro k hk; cases hk; exact HMB.out)⟩,
          ⟨by have := HS5.out; rw [List.length_append]; exact this⟩, ⟨(HG5.out.block _ (blk_lt BK4.out) (by simp; exact HNE.out)).trans BK4.out⟩, HN⟩

/-! ### impl_treeCode: function 35 -/
def impl_treeCode.f (k : Nat) (l0_0 : List (S34)) (l0_1 : List (S70)) (a1 : Int) : Option (Int) := (impl_TreeOk.f k l0_0 l0_1).bind fun t470 => (if t470 = true then ((impl_Tree_kindOf.f l0_0 l0_1 a1).bind fun t471 => (if t471 < 0 then (some 3) else (some 0))) else (some 1))
set_option maxHeartbeats 8000000 in
set_option maxRecDepth 100000 in
theorem impl_treeCode.calls (k : Nat) (A0_0 : Option Addr) (c0_0 : Nat) (l0_0 : List (S34)) (A0_1 : Option Addr) (c0_1 : Nat) (l0_1 : List (S70)) (a1 : Int) (r : Int) (w : World) (hr0_0 : Kd.C k34 w A0_0 l0_0.length l0_0) (hc0_0 : l0_0.length ≤ c0_0) (hr0_1 : Kd.C k70 w A0_1 l0_1.length l0_1) (hc0_1 : l0_1.length ≤ c0_1) (h : impl_treeCode.f k l0_0 l0_1 a1 = some r) :
    Calls Try.prog 35 #[.agg #[.slice A0_0 l0_0.length c0_0, .slice A0_1 l0_1.length c0_1], .int .i64 a1] w fun e w' => e = .returned (.int .i64 r) ∧ Below w.heap.size w w' := by
  have hu26 := Try.underlying26
  have HR0_0 := Aside0.mk hr0_0
  have HC0_0 := Aside0.mk hc0_0
  clear hr0_0 hc0_0
  have HR0_1 := Aside0.mk hr0_1
  have HC0_1 := Aside0.mk hc0_1
  clear hr0_1 hc0_1
  have HB := Aside0.mk (Below.refl w.heap.size w)
  have H : ((impl_TreeOk.f k l0_0 l0_1).bind fun t470 => (if t470 = true then ((impl_Tree_kindOf.f l0_0 l0_1 a1).bind fun t471 => (if t471 < 0 then (some 3) else (some 0))) else (some 1))) = some r := h
  clear h
  replace H := Option.bind_eq_some_iff.mp H
  obtain ⟨t470, A30, H⟩ := H
  set_option simprocs false in try dsimp only at H
  have A3 := Aside0.mk A30
  clear A30
  by_cases c4 : t470 = true
  · subst c4
    rw [if_pos rfl] at H
    replace H := Option.bind_eq_some_iff.mp H
    obtain ⟨t471, A50, H⟩ := H
    set_option simprocs false in try dsimp only at H
    have A5 := Aside0.mk A50
    clear A50
    by_cases c6 : t471 < 0
    · rw [if_pos c6] at H
      have c6b0 : decide (t471 < 0) = true := decide_eq_true c6
      clear c6
      obtain rfl := Option.some.inj H
      go_enter Try.func35, Try.ntmps35
      go_wp2_with (first | ((with_reducible refine gate_dst (N := 2) rfl ?_); refine box_event ?hg (N := 2) ?hd (cs := #[.slice A0_0 l0_0.length c0_0, .slice A0_1 l0_1.length c0_1]) (t := 26) ?hr ?_; (case hd => rfl); (case hg => rfl); (case hr => first | (go_simp; done) | (go_simp; rfl)); intro gb469 hg w7 hbox hb; have n0_ := Aside0.mk (below_step (by repeat first | exact HB.out | apply pw_below_drewN) hb); have n1_ := Aside0.mk (hbox); clear HB; have HB := n0_; have BK469 := n1_; clear n0_ n1_; clear hb hbox hg; have hcz8_0 := (blk_cell BK469.out 0).trans rfl; have hcz8_1 := (blk_cell BK469.out 1).trans rfl) | ((with_reducible refine gate_callee (f := 33) rfl ?_); refine goesL_ (some 7) rfl rfl Try.func33 (by kernel_rfl) rfl #[.agg #[.slice A0_0 l0_0.length c0_0, .slice A0_1 l0_1.length c0_1]] rfl (by (try simp only [List.map_toArray, List.map_cons, List.map_nil]); first | done | rfl) ?_; (with_reducible refine (impl_TreeOk.calls k _ _ l0_0 _ _ l0_1 true _ ?side1 ?side2 ?side3 ?side4 A3.out).mono ?_); (case side1 => exact (Kd.C_below HR0_0.out HB.out)); (case side2 => exact HC0_0.out); (case side3 => exact (Kd.C_below HR0_1.out HB.out)); (case side4 => exact HC0_1.out); rintro e w9 ⟨rfl, hb⟩; refine ⟨_, rfl, ?_⟩; have n0_ := Aside0.mk (blk_below (by exact BK469.out) hb); have n1_ := Aside0.mk (below_step (by repeat first | exact HB.out | apply pw_below_drewN) hb); clear BK469; clear HB; have BK469 := n0_; have HB := n1_; clear n0_ n1_; (try clear hb); (try clear hb2); (try clear hk); (try clear hi); have hcz10_0 := (blk_cell BK469.out 0).trans rfl; have hcz10_1 := (blk_cell BK469.out 1).trans rfl) | ((with_reducible refine gate_callee (f := 55) rfl ?_); refine goesL_ (some 12) rfl rfl Try.func55 (by kernel_rfl) rfl #[.agg #[.slice A0_0 l0_0.length c0_0, .slice A0_1 l0_1.length c0_1], .int .i64 a1] rfl (by (try simp only [List.map_toArray, List.map_cons, List.map_nil]); first | done | rfl) ?_; (with_reducible refine (impl_Tree_kindOf.calls _ _ l0_0 _ _ l0_1 a1 t471 _ ?side1 ?side2 ?side3 ?side4 A5.out).mono ?_); (case side1 => exact (Kd.C_below HR0_0.out HB.out)); (case side2 => exact HC0_0.out); (case side3 => exact (Kd.C_below HR0_1.out HB.out)); (case side4 => exact HC0_1.out); rintro e w11 ⟨rfl, hb⟩; refine ⟨_, rfl, ?_⟩; have n0_ := Aside0.mk (blk_below (by exact BK469.out) hb); have n1_ := Aside0.mk (below_step (by repeat first | exact HB.out | apply pw_below_drewN) hb); clear BK469; clear HB; have BK469 := n0_; have HB := n1_; clear n0_ n1_; (try clear hb); (try clear hb2); (try clear hk); (try clear hi)))
      go_ret
      exact ⟨by first | rfl | (simp [*, errW_none, errW_some] <;> rfl), by repeat first | exact HB.out | apply pw_below_drewN⟩
    · rw [if_neg c6] at H
      have c6b0 : decide (t471 < 0) = false := decide_eq_false c6
      clear c6
      obtain rfl := Option.some.inj H
      go_enter Try.func35, Try.ntmps35
      go_wp2_with (first | ((with_reducible refine gate_dst (N := 2) rfl ?_); refine box_event ?hg (N := 2) ?hd (cs := #[.slice A0_0 l0_0.length c0_0, .slice A0_1 l0_1.length c0_1]) (t := 26) ?hr ?_; (case hd => rfl); (case hg => rfl); (case hr => first | (go_simp; done) | (go_simp; rfl)); intro gb469 hg w12 hbox hb; have n0_ := Aside0.mk (below_step (by repeat first | exact HB.out | apply pw_below_drewN) hb); have n1_ := Aside0.mk (hbox); clear HB; have HB := n0_; have BK469 := n1_; clear n0_ n1_; clear hb hbox hg; have hcz13_0 := (blk_cell BK469.out 0).trans rfl; have hcz13_1 := (blk_cell BK469.out 1).trans rfl) | ((with_reducible refine gate_callee (f := 33) rfl ?_); refine goesL_ (some 7) rfl rfl Try.func33 (by kernel_rfl) rfl #[.agg #[.slice A0_0 l0_0.length c0_0, .slice A0_1 l0_1.length c0_1]] rfl (by (try simp only [List.map_toArray, List.map_cons, List.map_nil]); first | done | rfl) ?_; (with_reducible refine (impl_TreeOk.calls k _ _ l0_0 _ _ l0_1 true _ ?side1 ?side2 ?side3 ?side4 A3.out).mono ?_); (case side1 => exact (Kd.C_below HR0_0.out HB.out)); (case side2 => exact HC0_0.out); (case side3 => exact (Kd.C_below HR0_1.out HB.out)); (case side4 => exact HC0_1.out); rintro e w14 ⟨rfl, hb⟩; refine ⟨_, rfl, ?_⟩; have n0_ := Aside0.mk (blk_below (by exact BK469.out) hb); have n1_ := Aside0.mk (below_step (by repeat first | exact HB.out | apply pw_below_drewN) hb); clear BK469; clear HB; have BK469 := n0_; have HB := n1_; clear n0_ n1_; (try clear hb); (try clear hb2); (try clear hk); (try clear hi); have hcz15_0 := (blk_cell BK469.out 0).trans rfl; have hcz15_1 := (blk_cell BK469.out 1).trans rfl) | ((with_reducible refine gate_callee (f := 55) rfl ?_); refine goesL_ (some 12) rfl rfl Try.func55 (by kernel_rfl) rfl #[.agg #[.slice A0_0 l0_0.length c0_0, .slice A0_1 l0_1.length c0_1], .int .i64 a1] rfl (by (try simp only [List.map_toArray, List.map_cons, List.map_nil]); first | done | rfl) ?_; (with_reducible refine (impl_Tree_kindOf.calls _ _ l0_0 _ _ l0_1 a1 t471 _ ?side1 ?side2 ?side3 ?side4 A5.out).mono ?_); (case side1 => exact (Kd.C_below HR0_0.out HB.out)); (case side2 => exact HC0_0.out); (case side3 => exact (Kd.C_below HR0_1.out HB.out)); (case side4 => exact HC0_1.out); rintro e w16 ⟨rfl, hb⟩; refine ⟨_, rfl, ?_⟩; have n0_ := Aside0.mk (blk_below (by exact BK469.out) hb); have n1_ := Aside0.mk (below_step (by repeat first | exact HB.out | apply pw_below_drewN) hb); clear BK469; clear HB; have BK469 := n0_; have HB := n1_; clear n0_ n1_; (try clear hb); (try clear hb2); (try clear hk); (try clear hi)))
      go_ret
      exact ⟨by first | rfl | (simp [*, errW_none, errW_some] <;> rfl), by repeat first | exact HB.out | apply pw_below_drewN⟩
  · replace c4 := Bool.eq_false_iff.mpr c4
    subst c4
    rw [if_neg (show ¬ (false = true) by decide)] at H
    obtain rfl := Option.some.inj H
    go_enter Try.func35, Try.ntmps35
    go_wp2_with (first | ((with_reducible refine gate_dst (N := 2) rfl ?_); refine box_event ?hg (N := 2) ?hd (cs := #[.slice A0_0 l0_0.length c0_0, .slice A0_1 l0_1.length c0_1]) (t := 26) ?hr ?_; (case hd => rfl); (case hg => rfl); (case hr => first | (go_simp; done) | (go_simp; rfl)); intro gb469 hg w17 hbox hb; have n0_ := Aside0.mk (below_step (by repeat first | exact HB.out | apply pw_below_drewN) hb); have n1_ := Aside0.mk (hbox); clear HB; have HB := n0_; have BK469 := n1_; clear n0_ n1_; clear hb hbox hg; have hcz18_0 := (blk_cell BK469.out 0).trans rfl; have hcz18_1 := (blk_cell BK469.out 1).trans rfl) | ((with_reducible refine gate_callee (f := 33) rfl ?_); refine goesL_ (some 7) rfl rfl Try.func33 (by kernel_rfl) rfl #[.agg #[.slice A0_0 l0_0.length c0_0, .slice A0_1 l0_1.length c0_1]] rfl (by (try simp only [List.map_toArray, List.map_cons, List.map_nil]); first | done | rfl) ?_; (with_reducible refine (impl_TreeOk.calls k _ _ l0_0 _ _ l0_1 false _ ?side1 ?side2 ?side3 ?side4 A3.out).mono ?_); (case side1 => exact (Kd.C_below HR0_0.out HB.out)); (case side2 => exact HC0_0.out); (case side3 => exact (Kd.C_below HR0_1.out HB.out)); (case side4 => exact HC0_1.out); rintro e w19 ⟨rfl, hb⟩; refine ⟨_, rfl, ?_⟩; have n0_ := Aside0.mk (blk_below (by exact BK469.out) hb); have n1_ := Aside0.mk (below_step (by repeat first | exact HB.out | apply pw_below_drewN) hb); clear BK469; clear HB; have BK469 := n0_; have HB := n1_; clear n0_ n1_; (try clear hb); (try clear hb2); (try clear hk); (try clear hi)))
    go_ret
    exact ⟨by first | rfl | (simp [*, errW_none, errW_some] <;> rfl), by repeat first | exact HB.out | apply pw_below_drewN⟩

/-! ### impl_WeightOf: function 19 -/
def impl_WeightOf.f (k : Nat) (l0_0 : List (S34)) (l0_1 : List (S70)) (a1 : Int) : Option (Int × Int) := (impl_treeCode.f k l0_0 l0_1 a1).bind fun t473 => (if t473 = 0 then ((impl_Tree_weight.f k l0_0 l0_1 a1).bind fun t474 => (some (t474, 0))) else (some (0, t473)))
set_option maxHeartbeats 8000000 in
set_option maxRecDepth 100000 in
theorem impl_WeightOf.calls (k : Nat) (A0_0 : Option Addr) (c0_0 : Nat) (l0_0 : List (S34)) (A0_1 : Option Addr) (c0_1 : Nat) (l0_1 : List (S70)) (a1 : Int) (r1 : Int) (r2 : Int) (w : World) (hr0_0 : Kd.C k34 w A0_0 l0_0.length l0_0) (hc0_0 : l0_0.length ≤ c0_0) (hr0_1 : Kd.C k70 w A0_1 l0_1.length l0_1) (hc0_1 : l0_1.length ≤ c0_1) (h : impl_WeightOf.f k l0_0 l0_1 a1 = some (r1, r2)) :
    Calls Try.prog 19 #[.agg #[.slice A0_0 l0_0.length c0_0, .slice A0_1 l0_1.length c0_1], .int .i64 a1] w fun e w' => e = .returned (.tuple #[.int .i64 r1, .int .i64 r2]) ∧ Below w.heap.size w w' := by
  have hu26 := Try.underlying26
  have HR0_0 := Aside0.mk hr0_0
  have HC0_0 := Aside0.mk hc0_0
  clear hr0_0 hc0_0
  have HR0_1 := Aside0.mk hr0_1
  have HC0_1 := Aside0.mk hc0_1
  clear hr0_1 hc0_1
  have HB := Aside0.mk (Below.refl w.heap.size w)
  have H : ((impl_treeCode.f k l0_0 l0_1 a1).bind fun t473 => (if t473 = 0 then ((impl_Tree_weight.f k l0_0 l0_1 a1).bind fun t474 => (some (t474, 0))) else (some (0, t473)))) = some (r1, r2) := h
  clear h
  replace H := Option.bind_eq_some_iff.mp H
  obtain ⟨t473, A30, H⟩ := H
  set_option simprocs false in try dsimp only at H
  have A3 := Aside0.mk A30
  clear A30
  by_cases c4 : t473 = 0
  · rw [if_pos c4] at H
    have c4b0 : (t473 == 0) = true := beq_iff_eq.mpr c4
    have c4b1 : (t473 != 0) = false := bne_eq_false_iff_eq.mpr c4
    clear c4
    replace H := Option.bind_eq_some_iff.mp H
    obtain ⟨t474, A50, H⟩ := H
    set_option simprocs false in try dsimp only at H
    have A5 := Aside0.mk A50
    clear A50
    simp only [Option.some.injEq, Prod.mk.injEq] at H
    obtain ⟨rfl, rfl⟩ := H
    go_enter Try.func19, Try.ntmps19
    go_wp2_with (first | ((with_reducible refine gate_dst (N := 2) rfl ?_); refine box_event ?hg (N := 2) ?hd (cs := #[.slice A0_0 l0_0.length c0_0, .slice A0_1 l0_1.length c0_1]) (t := 26) ?hr ?_; (case hd => rfl); (case hg => rfl); (case hr => first | (go_simp; done) | (go_simp; rfl)); intro gb472 hg w6 hbox hb; have n0_ := Aside0.mk (below_step (by repeat first | exact HB.out | apply pw_below_drewN) hb); have n1_ := Aside0.mk (hbox); clear HB; have HB := n0_; have BK472 := n1_; clear n0_ n1_; clear hb hbox hg; have hcz7_0 := (blk_cell BK472.out 0).trans rfl; have hcz7_1 := (blk_cell BK472.out 1).trans rfl) | ((with_reducible refine gate_callee (f := 35) rfl ?_); refine goesL_ (some 9) rfl rfl Try.func35 (by kernel_rfl) rfl #[.agg #[.slice A0_0 l0_0.length c0_0, .slice A0_1 l0_1.length c0_1], .int .i64 a1] rfl (by (try simp only [List.map_toArray, List.map_cons, List.map_nil]); first | done | rfl) ?_; (with_reducible refine (impl_treeCode.calls k _ _ l0_0 _ _ l0_1 a1 t473 _ ?side1 ?side2 ?side3 ?side4 A3.out).mono ?_); (case side1 => exact (Kd.C_below HR0_0.out HB.out)); (case side2 => exact HC0_0.out); (case side3 => exact (Kd.C_below HR0_1.out HB.out)); (case side4 => exact HC0_1.out); rintro e w8 ⟨rfl, hb⟩; refine ⟨_, rfl, ?_⟩; have n0_ := Aside0.mk (blk_below (by exact BK472.out) hb); have n1_ := Aside0.mk (below_step (by repeat first | exact HB.out | apply pw_below_drewN) hb); clear BK472; clear HB; have BK472 := n0_; have HB := n1_; clear n0_ n1_; (try clear hb); (try clear hb2); (try clear hk); (try clear hi); have hcz9_0 := (blk_cell BK472.out 0).trans rfl; have hcz9_1 := (blk_cell BK472.out 1).trans rfl) | ((with_reducible refine gate_callee (f := 32) rfl ?_); refine goesL_ (some 15) rfl rfl Try.func32 (by kernel_rfl) rfl #[.agg #[.slice A0_0 l0_0.length c0_0, .slice A0_1 l0_1.length c0_1], .int .i64 a1] rfl (by (try simp only [List.map_toArray, List.map_cons, List.map_nil]); first | done | rfl) ?_; (with_reducible refine (impl_Tree_weight.calls k _ _ l0_0 _ _ l0_1 a1 t474 _ ?side1 ?side2 ?side3 ?side4 A5.out).mono ?_); (case side1 => exact (Kd.C_below HR0_0.out HB.out)); (case side2 => exact HC0_0.out); (case side3 => exact (Kd.C_below HR0_1.out HB.out)); (case side4 => exact HC0_1.out); rintro e w10 ⟨rfl, hb⟩; refine ⟨_, rfl, ?_⟩; have n0_ := Aside0.mk (blk_below (by exact BK472.out) hb); have n1_ := Aside0.mk (below_step (by repeat first | exact HB.out | apply pw_below_drewN) hb); clear BK472; clear HB; have BK472 := n0_; have HB := n1_; clear n0_ n1_; (try clear hb); (try clear hb2); (try clear hk); (try clear hi)))
    go_ret2
    exact ⟨by first | rfl | (simp [*, errW_none, errW_some] <;> rfl), by repeat first | exact HB.out | apply pw_below_drewN⟩
  · rw [if_neg c4] at H
    have c4b0 : (t473 == 0) = false := beq_eq_false_iff_ne.mpr c4
    have c4b1 : (t473 != 0) = true := bne_iff_ne.mpr c4
    simp only [Option.some.injEq, Prod.mk.injEq] at H
    obtain ⟨rfl, rfl⟩ := H
    go_enter Try.func19, Try.ntmps19
    go_wp2_with (first | ((with_reducible refine gate_dst (N := 2) rfl ?_); refine box_event ?hg (N := 2) ?hd (cs := #[.slice A0_0 l0_0.length c0_0, .slice A0_1 l0_1.length c0_1]) (t := 26) ?hr ?_; (case hd => rfl); (case hg => rfl); (case hr => first | (go_simp; done) | (go_simp; rfl)); intro gb472 hg w11 hbox hb; have n0_ := Aside0.mk (below_step (by repeat first | exact HB.out | apply pw_below_drewN) hb); have n1_ := Aside0.mk (hbox); clear HB; have HB := n0_; have BK472 := n1_; clear n0_ n1_; clear hb hbox hg; have hcz12_0 := (blk_cell BK472.out 0).trans rfl; have hcz12_1 := (blk_cell BK472.out 1).trans rfl) | ((with_reducible refine gate_callee (f := 35) rfl ?_); refine goesL_ (some 9) rfl rfl Try.func35 (by kernel_rfl) rfl #[.agg #[.slice A0_0 l0_0.length c0_0, .slice A0_1 l0_1.length c0_1], .int .i64 a1] rfl (by (try simp only [List.map_toArray, List.map_cons, List.map_nil]); first | done | rfl) ?_; (with_reducible refine (impl_treeCode.calls k _ _ l0_0 _ _ l0_1 a1 t473 _ ?side1 ?side2 ?side3 ?side4 A3.out).mono ?_); (case side1 => exact (Kd.C_below HR0_0.out HB.out)); (case side2 => exact HC0_0.out); (case side3 => exact (Kd.C_below HR0_1.out HB.out)); (case side4 => exact HC0_1.out); rintro e w13 ⟨rfl, hb⟩; refine ⟨_, rfl, ?_⟩; have n0_ := Aside0.mk (blk_below (by exact BK472.out) hb); have n1_ := Aside0.mk (below_step (by repeat first | exact HB.out | apply pw_below_drewN) hb); clear BK472; clear HB; have BK472 := n0_; have HB := n1_; clear n0_ n1_; (try clear hb); (try clear hb2); (try clear hk); (try clear hi)))
    go_ret2
    exact ⟨by first | rfl | (simp [*, errW_none, errW_some] <;> rfl), by repeat first | exact HB.out | apply pw_below_drewN⟩

/-! ### impl_DomainOf: function 20 -/
def impl_DomainOf.f (k : Nat) (l0_0 : List (S34)) (l0_1 : List (S70)) (a1 : Int) (a2 : Int) : Option (Int × Int) := (impl_TreeOk.f k l0_0 l0_1).bind fun t476 => (if t476 = true then ((impl_between.f a1 0 2).bind fun t477 => (if t477 = true then ((impl_Tree_domain.f k l0_0 l0_1 a1 a2).bind fun bt478 => (if bt478.2 = true then (some (bt478.1, 0)) else (some (0, 3)))) else (some (0, 2)))) else (some (0, 1)))
set_option maxHeartbeats 8000000 in
set_option maxRecDepth 100000 in
theorem impl_DomainOf.calls (k : Nat) (A0_0 : Option Addr) (c0_0 : Nat) (l0_0 : List (S34)) (A0_1 : Option Addr) (c0_1 : Nat) (l0_1 : List (S70)) (a1 : Int) (a2 : Int) (r1 : Int) (r2 : Int) (w : World) (hr0_0 : Kd.C k34 w A0_0 l0_0.length l0_0) (hc0_0 : l0_0.length ≤ c0_0) (hr0_1 : Kd.C k70 w A0_1 l0_1.length l0_1) (hc0_1 : l0_1.length ≤ c0_1) (h : impl_DomainOf.f k l0_0 l0_1 a1 a2 = some (r1, r2)) :
    Calls Try.prog 20 #[.agg #[.slice A0_0 l0_0.length c0_0, .slice A0_1 l0_1.length c0_1], .int .i64 a1, .int .i64 a2] w fun e w' => e = .returned (.tuple #[.int .i64 r1, .int .i64 r2]) ∧ Below w.heap.size w w' := by
  have hu26 := Try.underlying26
  have HR0_0 := Aside0.mk hr0_0
  have HC0_0 := Aside0.mk hc0_0
  clear hr0_0 hc0_0
  have HR0_1 := Aside0.mk hr0_1
  have HC0_1 := Aside0.mk hc0_1
  clear hr0_1 hc0_1
  have HB := Aside0.mk (Below.refl w.heap.size w)
  have H : ((impl_TreeOk.f k l0_0 l0_1).bind fun t476 => (if t476 = true then ((impl_between.f a1 0 2).bind fun t477 => (if t477 = true then ((impl_Tree_domain.f k l0_0 l0_1 a1 a2).bind fun bt478 => (if bt478.2 = true then (some (bt478.1, 0)) else (some (0, 3)))) else (some (0, 2)))) else (some (0, 1)))) = some (r1, r2) := h
  clear h
  replace H := Option.bind_eq_some_iff.mp H
  obtain ⟨t476, A40, H⟩ := H
  set_option simprocs false in try dsimp only at H
  have A4 := Aside0.mk A40
  clear A40
  by_cases c5 : t476 = true
  · subst c5
    rw [if_pos rfl] at H
    replace H := Option.bind_eq_some_iff.mp H
    obtain ⟨t477, A60, H⟩ := H
    set_option simprocs false in try dsimp only at H
    have A6 := Aside0.mk A60
    clear A60
    by_cases c7 : t477 = true
    · subst c7
      rw [if_pos rfl] at H
      replace H := Option.bind_eq_some_iff.mp H
      obtain ⟨⟨t478, t479⟩, A80, H⟩ := H
      set_option simprocs false in try dsimp only at H
      have A8 := Aside0.mk A80
      clear A80
      by_cases c9 : t479 = true
      · subst c9
        rw [if_pos rfl] at H
        simp only [Option.some.injEq, Prod.mk.injEq] at H
        obtain ⟨rfl, rfl⟩ := H
        go_enter Try.func20, Try.ntmps20
        go_wp2_with (first | ((with_reducible refine gate_dst (N := 3) rfl ?_); refine box_event ?hg (N := 3) ?hd (cs := #[.slice A0_0 l0_0.length c0_0, .slice A0_1 l0_1.length c0_1]) (t := 26) ?hr ?_; (case hd => rfl); (case hg => rfl); (case hr => first | (go_simp; done) | (go_simp; rfl)); intro gb475 hg w10 hbox hb; have n0_ := Aside0.mk (below_step (by repeat first | exact HB.out | apply pw_below_drewN) hb); have n1_ := Aside0.mk (hbox); clear HB; have HB := n0_; have BK475 := n1_; clear n0_ n1_; clear hb hbox hg; have hcz11_0 := (blk_cell BK475.out 0).trans rfl; have hcz11_1 := (blk_cell BK475.out 1).trans rfl) | ((with_reducible refine gate_callee (f := 33) rfl ?_); refine goesL_ (some 12) rfl rfl Try.func33 (by kernel_rfl) rfl #[.agg #[.slice A0_0 l0_0.length c0_0, .slice A0_1 l0_1.length c0_1]] rfl (by (try simp only [List.map_toArray, List.map_cons, List.map_nil]); first | done | rfl) ?_; (with_reducible refine (impl_TreeOk.calls k _ _ l0_0 _ _ l0_1 true _ ?side1 ?side2 ?side3 ?side4 A4.out).mono ?_); (case side1 => exact (Kd.C_below HR0_0.out HB.out)); (case side2 => exact HC0_0.out); (case side3 => exact (Kd.C_below HR0_1.out HB.out)); (case side4 => exact HC0_1.out); rintro e w12 ⟨rfl, hb⟩; refine ⟨_, rfl, ?_⟩; have n0_ := Aside0.mk (blk_below (by exact BK475.out) hb); have n1_ := Aside0.mk (below_step (by repeat first | exact HB.out | apply pw_below_drewN) hb); clear BK475; clear HB; have BK475 := n0_; have HB := n1_; clear n0_ n1_; (try clear hb); (try clear hb2); (try clear hk); (try clear hi)) | ((with_reducible refine gate_callee (f := 25) rfl ?_); refine goesL_ (some 16) rfl rfl Try.func25 (by kernel_rfl) rfl #[.int .i64 a1, .int .i64 0, .int .i64 2] rfl (by (try simp only [List.map_toArray, List.map_cons, List.map_nil]); first | done | rfl) ?_; (with_reducible refine (impl_between.calls a1 0 2 true _ A6.out).mono ?_); rintro e w' ⟨rfl, ⟨nd, rfl⟩⟩; refine ⟨_, rfl, ?_⟩; have hcz13_0 := (blk_cell BK475.out 0).trans rfl; have hcz13_1 := (blk_cell BK475.out 1).trans rfl) | ((with_reducible refine gate_callee (f := 30) rfl ?_); refine goesL_ (some 22) rfl rfl Try.func30 (by kernel_rfl) rfl #[.agg #[.slice A0_0 l0_0.length c0_0, .slice A0_1 l0_1.length c0_1], .int .i64 a1, .int .i64 a2] rfl (by (try simp only [List.map_toArray, List.map_cons, List.map_nil]); first | done | rfl) ?_; (with_reducible refine (impl_Tree_domain.calls k _ _ l0_0 _ _ l0_1 a1 a2 t478 true _ ?side1 ?side2 ?side3 ?side4 A8.out).mono ?_); (case side1 => exact (Kd.C_below HR0_0.out (by repeat first | exact HB.out | apply pw_below_drewN))); (case side2 => exact HC0_0.out); (case side3 => exact (Kd.C_below HR0_1.out (by repeat first | exact HB.out | apply pw_below_drewN))); (case side4 => exact HC0_1.out); rintro e w14 ⟨rfl, hb⟩; refine ⟨_, rfl, ?_⟩; have n0_ := Aside0.mk (blk_below (by exact BK475.out) hb); have n1_ := Aside0.mk (below_step (by repeat first | exact HB.out | apply pw_below_drewN) hb); clear BK475; clear HB; have BK475 := n0_; have HB := n1_; clear n0_ n1_; (try clear hb); (try clear hb2); (try clear hk); (try clear hi)))
        go_ret2
        exact ⟨by first | rfl | (simp [*, errW_none, errW_some] <;> rfl), by repeat first | exact HB.out | apply pw_below_drewN⟩
      · replace c9 := Bool.eq_false_iff.mpr c9
        subst c9
        rw [if_neg (show ¬ (false = true) by decide)] at H
        simp only [Option.some.injEq, Prod.mk.injEq] at H
        obtain ⟨rfl, rfl⟩ := H
        go_enter Try.func20, Try.ntmps20
        go_wp2_with (first | ((with_reducible refine gate_dst (N := 3) rfl ?_); refine box_event ?hg (N := 3) ?hd (cs := #[.slice A0_0 l0_0.length c0_0, .slice A0_1 l0_1.length c0_1]) (t := 26) ?hr ?_; (case hd => rfl); (case hg => rfl); (case hr => first | (go_simp; done) | (go_simp; rfl)); intro gb475 hg w15 hbox hb; have n0_ := Aside0.mk (below_step (by repeat first | exact HB.out | apply pw_below_drewN) hb); have n1_ := Aside0.mk (hbox); clear HB; have HB := n0_; have BK475 := n1_; clear n0_ n1_; clear hb hbox hg; have hcz16_0 := (blk_cell BK475.out 0).trans rfl; have hcz16_1 := (blk_cell BK475.out 1).trans rfl) | ((with_reducible refine gate_callee (f := 33) rfl ?_); refine goesL_ (some 12) rfl rfl Try.func33 (by kernel_rfl) rfl #[.agg #[.slice A0_0 l0_0.length c0_0, .slice A0_1 l0_1.length c0_1]] rfl (by (try simp only [List.map_toArray, List.map_cons, List.map_nil]); first | done | rfl) ?_; (with_reducible refine (impl_TreeOk.calls k _ _ l0_0 _ _ l0_1 true _ ?side1 ?side2 ?side3 ?side4 A4.out).mono ?_); (case side1 => exact (Kd.C_below HR0_0.out HB.out)); (case side2 => exact HC0_0.out); (case side3 => exact (Kd.C_below HR0_1.out HB.out)); (case side4 => exact HC0_1.out); rintro e w17 ⟨rfl, hb⟩; refine ⟨_, rfl, ?_⟩; have n0_ := Aside0.mk (blk_below (by exact BK475.out) hb); have n1_ := Aside0.mk (below_step (by repeat first | exact HB.out | apply pw_below_drewN) hb); clear BK475; clear HB; have BK475 := n0_; have HB := n1_; clear n0_ n1_; (try clear hb); (try clear hb2); (try clear hk); (try clear hi)) | ((with_reducible refine gate_callee (f := 25) rfl ?_); refine goesL_ (some 16) rfl rfl Try.func25 (by kernel_rfl) rfl #[.int .i64 a1, .int .i64 0, .int .i64 2] rfl (by (try simp only [List.map_toArray, List.map_cons, List.map_nil]); first | done | rfl) ?_; (with_reducible refine (impl_between.calls a1 0 2 true _ A6.out).mono ?_); rintro e w' ⟨rfl, ⟨nd, rfl⟩⟩; refine ⟨_, rfl, ?_⟩; have hcz18_0 := (blk_cell BK475.out 0).trans rfl; have hcz18_1 := (blk_cell BK475.out 1).trans rfl) | ((with_reducible refine gate_callee (f := 30) rfl ?_); refine goesL_ (some 22) rfl rfl Try.func30 (by kernel_rfl) rfl #[.agg #[.slice A0_0 l0_0.length c0_0, .slice A0_1 l0_1.length c0_1], .int .i64 a1, .int .i64 a2] rfl (by (try simp only [List.map_toArray, List.map_cons, List.map_nil]); first | done | rfl) ?_; (with_reducible refine (impl_Tree_domain.calls k _ _ l0_0 _ _ l0_1 a1 a2 t478 false _ ?side1 ?side2 ?side3 ?side4 A8.out).mono ?_); (case side1 => exact (Kd.C_below HR0_0.out (by repeat first | exact HB.out | apply pw_below_drewN))); (case side2 => exact HC0_0.out); (case side3 => exact (Kd.C_below HR0_1.out (by repeat first | exact HB.out | apply pw_below_drewN))); (case side4 => exact HC0_1.out); rintro e w19 ⟨rfl, hb⟩; refine ⟨_, rfl, ?_⟩; have n0_ := Aside0.mk (blk_below (by exact BK475.out) hb); have n1_ := Aside0.mk (below_step (by repeat first | exact HB.out | apply pw_below_drewN) hb); clear BK475; clear HB; have BK475 := n0_; have HB := n1_; clear n0_ n1_; (try clear hb); (try clear hb2); (try clear hk); (try clear hi)))
        go_ret2
        exact ⟨by first | rfl | (simp [*, errW_none, errW_some] <;> rfl), by repeat first | exact HB.out | apply pw_below_drewN⟩
    · replace c7 := Bool.eq_false_iff.mpr c7
      subst c7
      rw [if_neg (show ¬ (false = true) by decide)] at H
      simp only [Option.some.injEq, Prod.mk.injEq] at H
      obtain ⟨rfl, rfl⟩ := H
      go_enter Try.func20, Try.ntmps20
      go_wp2_with (first | ((with_reducible refine gate_dst (N := 3) rfl ?_); refine box_event ?hg (N := 3) ?hd (cs := #[.slice A0_0 l0_0.length c0_0, .slice A0_1 l0_1.length c0_1]) (t := 26) ?hr ?_; (case hd => rfl); (case hg => rfl); (case hr => first | (go_simp; done) | (go_simp; rfl)); intro gb475 hg w20 hbox hb; have n0_ := Aside0.mk (below_step (by repeat first | exact HB.out | apply pw_below_drewN) hb); have n1_ := Aside0.mk (hbox); clear HB; have HB := n0_; have BK475 := n1_; clear n0_ n1_; clear hb hbox hg; have hcz21_0 := (blk_cell BK475.out 0).trans rfl; have hcz21_1 := (blk_cell BK475.out 1).trans rfl) | ((with_reducible refine gate_callee (f := 33) rfl ?_); refine goesL_ (some 12) rfl rfl Try.func33 (by kernel_rfl) rfl #[.agg #[.slice A0_0 l0_0.length c0_0, .slice A0_1 l0_1.length c0_1]] rfl (by (try simp only [List.map_toArray, List.map_cons, List.map_nil]); first | done | rfl) ?_; (with_reducible refine (impl_TreeOk.calls k _ _ l0_0 _ _ l0_1 true _ ?side1 ?side2 ?side3 ?side4 A4.out).mono ?_); (case side1 => exact (Kd.C_below HR0_0.out HB.out)); (case side2 => exact HC0_0.out); (case side3 => exact (Kd.C_below HR0_1.out HB.out)); (case side4 => exact HC0_1.out); rintro e w22 ⟨rfl, hb⟩; refine ⟨_, rfl, ?_⟩; have n0_ := Aside0.mk (blk_below (by exact BK475.out) hb); have n1_ := Aside0.mk (below_step (by repeat first | exact HB.out | apply pw_below_drewN) hb); clear BK475; clear HB; have BK475 := n0_; have HB := n1_; clear n0_ n1_; (try clear hb); (try clear hb2); (try clear hk); (try clear hi)) | ((with_reducible refine gate_callee (f := 25) rfl ?_); refine goesL_ (some 16) rfl rfl Try.func25 (by kernel_rfl) rfl #[.int .i64 a1, .int .i64 0, .int .i64 2] rfl (by (try simp only [List.map_toArray, List.map_cons, List.map_nil]); first | done | rfl) ?_; (with_reducible refine (impl_between.calls a1 0 2 false _ A6.out).mono ?_); rintro e w' ⟨rfl, ⟨nd, rfl⟩⟩; refine ⟨_, rfl, ?_⟩))
      go_ret2
      exact ⟨by first | rfl | (simp [*, errW_none, errW_some] <;> rfl), by repeat first | exact HB.out | apply pw_below_drewN⟩
  · replace c5 := Bool.eq_false_iff.mpr c5
    subst c5
    rw [if_neg (show ¬ (false = true) by decide)] at H
    simp only [Option.some.injEq, Prod.mk.injEq] at H
    obtain ⟨rfl, rfl⟩ := H
    go_enter Try.func20, Try.ntmps20
    go_wp2_with (first | ((with_reducible refine gate_dst (N := 3) rfl ?_); refine box_event ?hg (N := 3) ?hd (cs := #[.slice A0_0 l0_0.length c0_0, .slice A0_1 l0_1.length c0_1]) (t := 26) ?hr ?_; (case hd => rfl); (case hg => rfl); (case hr => first | (go_simp; done) | (go_simp; rfl)); intro gb475 hg w23 hbox hb; have n0_ := Aside0.mk (below_step (by repeat first | exact HB.out | apply pw_below_drewN) hb); have n1_ := Aside0.mk (hbox); clear HB; have HB := n0_; have BK475 := n1_; clear n0_ n1_; clear hb hbox hg; have hcz24_0 := (blk_cell BK475.out 0).trans rfl; have hcz24_1 := (blk_cell BK475.out 1).trans rfl) | ((with_reducible refine gate_callee (f := 33) rfl ?_); refine goesL_ (some 12) rfl rfl Try.func33 (by kernel_rfl) rfl #[.agg #[.slice A0_0 l0_0.length c0_0, .slice A0_1 l0_1.length c0_1]] rfl (by (try simp only [List.map_toArray, List.map_cons, List.map_nil]); first | done | rfl) ?_; (with_reducible refine (impl_TreeOk.calls k _ _ l0_0 _ _ l0_1 false _ ?side1 ?side2 ?side3 ?side4 A4.out).mono ?_); (case side1 => exact (Kd.C_below HR0_0.out HB.out)); (case side2 => exact HC0_0.out); (case side3 => exact (Kd.C_below HR0_1.out HB.out)); (case side4 => exact HC0_1.out); rintro e w25 ⟨rfl, hb⟩; refine ⟨_, rfl, ?_⟩; have n0_ := Aside0.mk (blk_below (by exact BK475.out) hb); have n1_ := Aside0.mk (below_step (by repeat first | exact HB.out | apply pw_below_drewN) hb); clear BK475; clear HB; have BK475 := n0_; have HB := n1_; clear n0_ n1_; (try clear hb); (try clear hb2); (try clear hk); (try clear hi)))
    go_ret2
    exact ⟨by first | rfl | (simp [*, errW_none, errW_some] <;> rfl), by repeat first | exact HB.out | apply pw_below_drewN⟩

/-! ### spec_l00Src_one: function 38 -/
def spec_l00Src_one.f (s0_0 : List Int) (s0_1 : Int) (s0_2 : Int) (a1 : Int) : Option (Bool × Int × Int) := (spec_l00Src_pick.f s0_0 s0_1 s0_2 a1).bind fun bt113 => (some ((bt113.1 == 0), bt113.2.1, bt113.2.2))
set_option maxHeartbeats 8000000 in
set_option maxRecDepth 100000 in
theorem spec_l00Src_one.calls (g : Nat) (s0_0 : List Int) (s0_1 : Int) (s0_2 : Int) (a1 : Int) (r1 : Bool) (r2 : Int) (r3 : Int) (w0 w : World) (hI : IsS68 w0 w g s0_0 s0_1 s0_2) (hB : Below w0.heap.size w0 w) (h : spec_l00Src_one.f s0_0 s0_1 s0_2 a1 = some (r1, r2, r3)) :
    Calls Try.prog 38 #[.pointer (some ⟨g, 0, none⟩), .int .i64 a1] w fun e w' => e = .returned (.bool r1) ∧ IsS68 w0 w' g s0_0 r2 r3 ∧ Below w0.heap.size w0 w' ∧ KeepBut w w' g none := by
  have HI0 := Aside0.mk hI
  have HK := Aside0.mk (KeepBut.refl w g none)
  have HL := Aside0.mk hB.size
  clear hI
  have HW0 := Aside0.mk hB.size
  have HB := Aside0.mk hB
  clear hB
  have H : ((spec_l00Src_pick.f s0_0 s0_1 s0_2 a1).bind fun bt113 => (some ((bt113.1 == 0), bt113.2.1, bt113.2.2))) = some (r1, r2, r3) := h
  clear h
  replace H := Option.bind_eq_some_iff.mp H
  obtain ⟨⟨t113, t114, t115⟩, A30, H⟩ := H
  set_option simprocs false in try dsimp only at H
  have A3 := Aside0.mk A30
  clear A30
  simp only [Option.some.injEq, Prod.mk.injEq] at H
  obtain ⟨rfl, rfl, rfl⟩ := H
  go_enter Try.func38, Try.ntmps38
  go_wp2_with (first | ((with_reducible refine gate_callee (f := 36) rfl ?_); refine goesL_ (some 7) rfl rfl Try.func36 (by kernel_rfl) rfl #[.pointer (some ⟨g, 0, none⟩), .int .i64 a1] rfl (by (try simp only [List.map_toArray, List.map_cons, List.map_nil]); first | done | rfl) ?_; (with_reducible refine (spec_l00Src_pick.calls g s0_0 s0_1 s0_2 a1 t113 t114 t115 w0 _ ?side1 ?side2 A3.out).mono ?_); (case side1 => repeat (first | (with_reducible first | exact HI0.out | apply IsS68.alloc | apply IsS68.drewN | apply IsS68.drew | apply IsS68.set_1 | apply IsS68.set_2) | exact HI0.out)); (case side2 => repeat (first | (with_reducible first | exact HB.out | apply below_alloc | apply pw_below_drewN | apply below_drew1 | refine below_set ?_ (IsS68.ge HI0.out)) | exact HB.out)); rintro e w4 ⟨rfl, hi, hb, hk⟩; refine ⟨_, rfl, ?_⟩; have n0_ := Aside0.mk (KeepBut.trans (by repeat (first | (with_reducible first | exact HK.out | apply KeepBut.set_ | apply keep_drewN | apply keep_drew | apply keep_alloc) | exact HK.out)) hk (.inl rfl)); have n1_ := Aside0.mk (hb); have n2_ := Aside0.mk (hi); clear HK; clear HB; clear HI0; have HK := n0_; have HB := n1_; have HI0 := n2_; clear n0_ n1_ n2_; (try clear hb); (try clear hb2); (try clear hk); (try clear hi)))
  go_ret
  exact ⟨by first | rfl | (simp [*, errW_none, errW_some] <;> rfl), by repeat (first | (with_reducible first | exact HI0.out | apply IsS68.alloc | apply IsS68.drewN | apply IsS68.drew | apply IsS68.set_1 | apply IsS68.set_2) | exact HI0.out), by repeat (first | (with_reducible first | exact HB.out | apply below_alloc | apply pw_below_drewN | apply below_drew1 | refine below_set ?_ (IsS68.ge HI0.out)) | exact HB.out), by repeat (first | (with_reducible first | exact HK.out | apply KeepBut.set_ | apply keep_drewN | apply keep_drew | apply keep_alloc) | exact HK.out)⟩

/-! ### spec_l00Own: function 39 -/
def spec_l00Own.f (l0 : List Int) : Option (List Int) := (some (([] : List Int) : List Int)).bind fun y116 => (if y116.length + l0.length < 17592186044416 then (some (y116 ++ l0)) else (none))
set_option maxHeartbeats 8000000 in
set_option maxRecDepth 100000 in
theorem spec_l00Own.calls (A0 : Option Addr) (c0 : Nat) (l0 : List Int) (r : List Int) (w : World) (hr0 : Kd.C (Kd.int .i64) w A0 l0.length l0) (hc0 : l0.length ≤ c0) (h : spec_l00Own.f l0 = some r) :
    Calls Try.prog 39 #[.slice A0 l0.length c0] w fun e w' => ∃ v0_ : Value, e = .returned (v0_) ∧ Kd.R (Kd.int .i64) 2 w' w.heap.size (fun _ => True) v0_ r ∧ Below w.heap.size w w' := by
  have HR0 := Aside0.mk hr0
  have HC0 := Aside0.mk hc0
  clear hr0 hc0
  have HB := Aside0.mk (Below.refl w.heap.size w)
  have H : ((some (([] : List Int) : List Int)).bind fun y116 => (if y116.length + l0.length < 17592186044416 then (some (y116 ++ l0)) else (none))) = some r := h
  clear h
  obtain ⟨y116, hy116⟩ : ∃ y_ : List Int, y_ = (([] : List Int)) := ⟨_, rfl⟩
  replace H : (if y116.length + l0.length < 17592186044416 then (some (y116 ++ l0)) else (none)) = some r := by first | (rw [hy116]; with_reducible exact H) | (have H2_ := (Option.bind_some _ _).symm.trans H; rw [hy116]; with_reducible exact H2_) | (have H2_ := (Option.bind_some _ _).symm.trans H; with_reducible exact H2_) | with_reducible exact H | (rw [hy116]; exact H) | exact H
  have Ny116 := Aside0.mk hy116
  clear hy116
  by_cases c2 : y116.length + l0.length < 17592186044416
  · rw [if_pos c2] at H
    have LMc2 := Aside0.mk c2
    clear c2
    obtain ⟨y119, hy119⟩ : ∃ y_ : List Int, y_ = (y116 ++ l0) := ⟨_, rfl⟩
    replace H : (some y119) = some r := by first | (rw [hy119]; with_reducible exact H) | (have H2_ := (Option.bind_some _ _).symm.trans H; rw [hy119]; with_reducible exact H2_) | (have H2_ := (Option.bind_some _ _).symm.trans H; with_reducible exact H2_) | with_reducible exact H | (rw [hy119]; exact H) | exact H
    have Ny119 := Aside0.mk hy119
    clear hy119
    obtain rfl := Option.some.inj H
    go_enter Try.func39, Try.ntmps39
    go_wp2_with (first | ((with_reducible refine gate_dst (N := 3) rfl ?_); refine Kd.R_lit (Kd.int .i64) _ 2 ?hg (N := 3) ?hd (xs := ([] : List Int)) (inner := []) (ok := fun _ => True) (okp := fun _ => True) ?hr ?hp (fun _ hk => hk) trivial (Below.refl _ _) (Nat.le_refl _) (by simp) ?_; (case hd => rfl); (case hg => rfl); (case hr => first | (go_simp; done) | (go_simp; rfl)); (case hp => exact (Reps.none _ _)); intro v117 w3 ho4 hb hg_ hnew_; clear hg_ hnew_; (first | rw [← Ny116.out] at ho4 | (simp only [Int.reduceToNat] at ho4; rw [← Ny116.out] at ho4)); have n0_ := Aside0.mk (Kd.R_lower ho4 (below_size (by repeat first | exact HB.out | apply pw_below_drewN))); have n1_ := Aside0.mk (below_step (by repeat first | exact HB.out | apply pw_below_drewN) hb); clear HB; have HO118 := n0_; have HB := n1_; clear n0_ n1_; clear hb ho4) | ((with_reducible refine gate_builtin (b := .append) (xs := #[.tmp 3, .tmp 4]) rfl ?_); at_builtin; refine Kd.R_append_rows (Kd.int .i64) (w0 := w) w.heap.size rfl (.tmp 3) (.tmp 4) 36 2 (.int .i64 0) 8 rfl Try.underlying36 info2 rfl (by decide) (by omega) v117 y116 l0 _ _ _ (fun _ => True) (fun _ => False) rfl rfl ?aO ?aR (fun _ _ h => h) (fun _ h => h.elim) ?aF ?aB ?aS ?aL ?_; (case aR => repeat (first | exact (Kd.C_below HR0.out HB.out) | (with_reducible refine Kd.C_alloc ?_ _) | (with_reducible refine Kd.C_drewN ?_ _) | (with_reducible refine Kd.C_drew ?_))); (case aB => exact (by repeat first | exact HB.out | apply pw_below_drewN)); (case aF => exact (fun _ _ => trivial)); (case aO => exact (by (with_reducible repeat (first | apply Kd.R_alloc | apply Kd.R_drewN | apply Kd.R_drew)); exact HO118.out)); (case aS => exact (below_size (by repeat first | exact HB.out | apply pw_below_drewN))); (case aL => have := LMc2.out; omega); intro v120 w5 ho hb hg hat; rw [← Ny119.out] at ho; have n0_ := Aside0.mk (hb); have n1_ := Aside0.mk (ho); clear HB; clear HO118; have HB := n0_; have HO121 := n1_; clear n0_ n1_; clear ho hb hg hat))
    go_ret
    exact ⟨_, by first | rfl | (simp [*, errW_none, errW_some] <;> rfl), by (with_reducible repeat (first | apply Kd.R_alloc | apply Kd.R_drewN | apply Kd.R_drew)); exact HO121.out, by repeat first | exact HB.out | apply pw_below_drewN⟩
  · rw [if_neg c2] at H
    exact absurd H (by simp)

/-! ### spec_l06Draw: function 22 -/
mutual
def spec_l06Draw.l0 : Nat → Int → List Int → Int → List Int → Int → Int → List (S34) → List (S70) → Option ((List (S34)) × (List (S70)) × Int × Int)
  | 0, _, _, _, _, _, _, _, _ => none
  | k + 1, x4, x5, x6, x1000, x1001, x1002, x124000, x124001 => if x6 > 0 then ((spec_l00Src_pick.f x1000 x1001 x1002 3).bind fun bt131 => (spec_l06Draw.l1 k x4 x5 x6 (wrap64 (1 + bt131.1)) x1000 bt131.2.1 bt131.2.2 x124000 x124001 x4 1 ([] : List Int))) else ((spec_l00Src_one.f x1000 x1001 x1002 2).bind fun bt155 => (if bt155.1 = true then (spec_l06Draw.l2 k x4 x5 (([] : List Int)) 0 x1000 bt155.2.1 bt155.2.2 x124000 x124001) else ((spec_l00Own.f x5).bind fun t193 => (if x124001.length < 3518437208883 then (some (x124000, (x124001 ++ [(⟨x4, 3, t193⟩ : S70)]), bt155.2.1, bt155.2.2)) else (none)))))
def spec_l06Draw.l1 : Nat → Int → List Int → Int → Int → List Int → Int → Int → List (S34) → List (S70) → Int → Int → List Int → Option ((List (S34)) × (List (S70)) × Int × Int)
  | 0, _, _, _, _, _, _, _, _, _, _, _, _ => none
  | k + 1, x4, x5, x6, x8, x1000, x1001, x1002, x124000, x124001, x131000, x131001, x131002 => if x8 > 0 then (spec_l06Draw.j2 k x4 x5 x6 x8 (decide ((x124000.length : Int) < 16)) x1000 x1001 x1002 x124000 x124001 x131000 x131001 x131002) else (spec_l06Draw.j2 k x4 x5 x6 x8 false x1000 x1001 x1002 x124000 x124001 x131000 x131001 x131002)
def spec_l06Draw.j2 : Nat → Int → List Int → Int → Int → Bool → List Int → Int → Int → List (S34) → List (S70) → Int → Int → List Int → Option ((List (S34)) × (List (S70)) × Int × Int)
  | 0, _, _, _, _, _, _, _, _, _, _, _, _, _ => none
  | k + 1, x4, x5, x6, x8, x34, x1000, x1001, x1002, x124000, x124001, x131000, x131001, x131002 => if x34 = true then ((spec_l00Src_pick.f x1000 x1001 x1002 9).bind fun bt134 => ((spec_l00Src_among.f x1000 bt134.2.1 bt134.2.2 (([1, 1, 2, 3, bt134.1] : List Int))).bind fun bt140 => (if x124000.length < 8796093022208 then (if x131002.length < 17592186044416 then (spec_l06Draw.l1 k x4 x5 x6 (wrap64 (x8 - 1)) x1000 bt140.2.1 bt140.2.2 (x124000 ++ [(⟨(x124000.length : Int), bt140.1⟩ : S34)]) x124001 x131000 x131001 (x131002 ++ [(x124000.length : Int)])) else (none)) else (none)))) else (if x124001.length < 3518437208883 then (if x5.length < 17592186044416 then (spec_l06Draw.l0 k (wrap64 (x4 - 1)) (x5 ++ [x4]) (wrap64 (x6 - 1)) x1000 x1001 x1002 x124000 (x124001 ++ [(⟨x131000, x131001, x131002⟩ : S70)])) else (none)) else (none))
def spec_l06Draw.l2 : Nat → Int → List Int → List Int → Int → List Int → Int → Int → List (S34) → List (S70) → Option ((List (S34)) × (List (S70)) × Int × Int)
  | 0, _, _, _, _, _, _, _, _, _ => none
  | k + 1, x4, x5, x10, x11, x1000, x1001, x1002, x124000, x124001 => if x11 < (x5.length : Int) then (if (wrap64 (x11 + 2)) > (x5.length : Int) then (if 0 ≤ x11 then (if x11 ≤ (x5.length : Int) then (if (x5.length : Int) ≤ (x5.length : Int) then ((spec_l00Own.f ((x5.take ((x5.length : Int) : Int).toNat).drop (x11 : Int).toNat)).bind fun t165 => (if x124001.length < 3518437208883 then (if x10.length < 17592186044416 then (spec_l06Draw.l2 k (wrap64 (x4 - 1)) x5 (x10 ++ [x4]) (wrap64 (x11 + 2)) x1000 x1001 x1002 x124000 (x124001 ++ [(⟨x4, 2, t165⟩ : S70)])) else (none)) else (none))) else (none)) else (none)) else (none)) else (if 0 ≤ x11 then (if x11 ≤ (wrap64 (x11 + 2)) then (if (wrap64 (x11 + 2)) ≤ (x5.length : Int) then ((spec_l00Own.f ((x5.take ((wrap64 (x11 + 2)) : Int).toNat).drop (x11 : Int).toNat)).bind fun t178 => (if x124001.length < 3518437208883 then (if x10.length < 17592186044416 then (spec_l06Draw.l2 k (wrap64 (x4 - 1)) x5 (x10 ++ [x4]) (wrap64 (x11 + 2)) x1000 x1001 x1002 x124000 (x124001 ++ [(⟨x4, 2, t178⟩ : S70)])) else (none)) else (none))) else (none)) else (none)) else (none))) else ((spec_l00Own.f x10).bind fun t187 => (if x124001.length < 3518437208883 then (some (x124000, (x124001 ++ [(⟨x4, 3, t187⟩ : S70)]), x1001, x1002)) else (none)))
end
def spec_l06Draw.f (k : Nat) (s0_0 : List Int) (s0_1 : Int) (s0_2 : Int) : Option ((List (S34)) × (List (S70)) × Int × Int) := (spec_l00Src_pick.f s0_0 s0_1 s0_2 4).bind fun bt127 => (spec_l06Draw.l0 k (-1) (([] : List Int)) (wrap64 (2 + bt127.1)) s0_0 bt127.2.1 bt127.2.2 ([] : List (S34)) ([] : List (S70)))
def spec_l06Draw.T12 : Bool × List (List Nat × List Nat) := (true, [([], []), ([0], [0]), ([], []), ([], []), ([], []), ([4], [4]), ([5], [5]), ([3, 6, 5], [3, 6]), ([2, 7], [2, 7]), ([8], [8]), ([1, 9, 7], [1, 9]), ([0, 1, 2, 3, 4, 5, 6, 7, 8, 9, 10], []), ([11, 10, 10, 0, 1, 2, 3, 4, 5, 6, 7, 8, 9, 10], [10, 11])])
def spec_l06Draw.B12 : List Nat := [0, 1, 0, 0, 0, 16, 48, 120, 252, 508, 1023, 2047, 4095]
theorem spec_l06Draw.tab12 : rtab .any (opsOf Try.f22 12) = spec_l06Draw.T12 := by kernel_rfl
theorem spec_l06Draw.bits12 : waitsOk spec_l06Draw.T12.2 spec_l06Draw.B12 = true := by kernel_rfl
def spec_l06Draw.T26 : Bool × List (List Nat × List Nat) := (true, [([], []), ([0], [0]), ([], []), ([], []), ([], []), ([], []), ([3, 4, 5], [3, 4, 5]), ([6], [6]), ([2, 7], [2, 7]), ([8], [8]), ([1, 9, 7], [1, 9]), ([0, 1, 2, 3, 4, 5, 6, 7, 8, 9, 10], []), ([11, 10, 10, 0, 1, 2, 3, 4, 5, 6, 7, 8, 9, 10], [10, 11])])
def spec_l06Draw.B26 : List Nat := [0, 1, 0, 0, 0, 0, 56, 120, 252, 508, 1023, 2047, 4095]
theorem spec_l06Draw.tab26 : rtab .any (opsOf Try.f22 26) = spec_l06Draw.T26 := by kernel_rfl
theorem spec_l06Draw.bits26 : waitsOk spec_l06Draw.T26.2 spec_l06Draw.B26 = true := by kernel_rfl
def spec_l06Draw.T29 : Bool × List (List Nat × List Nat) := (true, [([], []), ([0], [0]), ([], []), ([], []), ([3], [3]), ([2, 4], [2, 4]), ([5], [5]), ([1, 6, 4], [1, 6]), ([0, 1, 2, 3, 4, 5, 6, 7], []), ([8, 7, 7, 0, 1, 2, 3, 4, 5, 6, 7], [7, 8])])
def spec_l06Draw.B29 : List Nat := [0, 1, 0, 0, 8, 28, 60, 127, 255, 511]
theorem spec_l06Draw.tab29 : rtab .any (opsOf Try.f22 29) = spec_l06Draw.T29 := by kernel_rfl
theorem spec_l06Draw.bits29 : waitsOk spec_l06Draw.T29.2 spec_l06Draw.B29 = true := by kernel_rfl
def az_z22 (n m : Nat) : Array Bool := (List.replicate n true ++ List.replicate m false).toArray
def mz22_0 : Array Bool := az_z22 0 13
def mz22_1 : Array Bool := az_z22 1 12
def mz22_2 : Array Bool := #[true, false, true, false, false, false, false, false, false, false, false, false, false]
def mz22_3 : Array Bool := #[true, false, true, true, false, false, false, false, false, false, false, false, false]
def mz22_4 : Array Bool := #[true, false, true, true, true, false, false, false, false, false, false, false, false]
def mz22_5 : Array Bool := az_z22 5 8
def mz22_6 : Array Bool := az_z22 6 7
def mz22_7 : Array Bool := az_z22 7 6
def mz22_8 : Array Bool := az_z22 8 5
def mz22_9 : Array Bool := az_z22 9 4
def mz22_10 : Array Bool := az_z22 10 3
def mz22_11 : Array Bool := az_z22 11 2
def mz22_12 : Array Bool := az_z22 12 1
def mz22_13 : Array Bool := az_z22 13 0
def mz22_14 : Array Bool := #[true, false, true, true, true, true, false, false, false, false, false, false, false]
def mz22_15 : Array Bool := #[true, false, true, true, true, true, true, false, false, false, false, false, false]
def mz22_16 : Array Bool := az_z22 0 10
def mz22_17 : Array Bool := az_z22 1 9
def mz22_18 : Array Bool := #[true, false, true, false, false, false, false, false, false, false]
def mz22_19 : Array Bool := #[true, false, true, true, false, false, false, false, false, false]
def mz22_20 : Array Bool := az_z22 4 6
def mz22_21 : Array Bool := az_z22 5 5
def mz22_22 : Array Bool := az_z22 6 4
def mz22_23 : Array Bool := az_z22 7 3
def mz22_24 : Array Bool := az_z22 8 2
def mz22_25 : Array Bool := az_z22 9 1
def mz22_26 : Array Bool := az_z22 10 0
theorem pu_z22 {P : Program} {ops : Array Oper} {Q : Exit → Act → World → Prop} {md : Region.Mode} {S : World → Prop} {ds : List Nat} {oi : Oper} {fuel : Nat} {l : Array Bool} {a : Act} {w : World} (i : Nat) (N : Option Tmp) (v : Value) (l' : Array Bool) (hi : ops[i]? = some oi) (hN : oi.dst = N) (hc : anyB md ops l l' i = true)
    (hQ : ∀ c a w, Q (.panic c) (a.put oi.dst v) w → Q (.panic c) a w) (hy : Yields P ops oi v a) (a' : Act) (ha : a.put N v = a')
    (h : wpAnyLast P md ops Q S ds fuel l' a' w) : wpAnyLast P md ops Q S ds (fuel + 1) l a w := pure_ l' hi hN hc hQ hy ha h
theorem pq_z22 : (∀ (l : List Value) (i : Nat) (v : Value), l.toArray.setIfInBounds i v = (l.set i v).toArray) ∧ (∀ (x v : Value) (xs : List Value), (x :: xs).set 0 v = v :: xs) ∧ (∀ (x v : Value) (xs : List Value) (n : Nat), (x :: xs).set (n + 1) v = x :: xs.set n v) ∧ (∀ n : Int, IntKind.i64.wrap n = Go.RowKit.wrap64 n) ∧ (∀ n : Int, IntKind.i32.wrap n = Go.RowKit.wrap32 n) :=
  ⟨fun l i v => List.setIfInBounds_toArray l i v, fun _ _ _ => rfl, fun _ _ _ _ => rfl, i64_w, i32_w⟩
set_option maxHeartbeats 8000000 in
set_option maxRecDepth 100000 in
theorem spec_l06Draw.calls (k : Nat) (g : Nat) (s0_0 : List Int) (s0_1 : Int) (s0_2 : Int) (r1 : List (S34)) (r2 : List (S70)) (r3 : Int) (r4 : Int) (w0 w : World) (hI : IsS68 w0 w g s0_0 s0_1 s0_2) (hB : Below w0.heap.size w0 w) (h : spec_l06Draw.f k s0_0 s0_1 s0_2 = some (r1, r2, r3, r4)) :
  Calls Try.prog 22 #[.pointer (some ⟨g, 0, none⟩)] w fun e w' => ∃ v0_ v1_ : Value, e = .returned (.agg #[v0_, v1_]) ∧ Kd.R k34 34 w' w.heap.size (fun _ => True) v0_ r1 ∧ Kd.S k70 70 w' w.heap.size (fun _ => True) v1_ r2 ∧ IsS68 w0 w' g s0_0 r3 r4 ∧ Below w0.heap.size w0 w' ∧ KeepBut w w' g none := by
 have hu26 := Try.underlying26
 have hu70 := Try.underlying70
 have hu34 := Try.underlying34
 have HI0 := Aside0.mk hI
 have HK := Aside0.mk (KeepBut.refl w g none)
 have HL := Aside0.mk hB.size
 clear hI
 have HW0 := Aside0.mk hB.size
 have HB := Aside0.mk hB
 clear hB
 have H : ((spec_l00Src_pick.f s0_0 s0_1 s0_2 4).bind fun bt127 => (spec_l06Draw.l0 k (-1) (([] : List Int)) (wrap64 (2 + bt127.1)) s0_0 bt127.2.1 bt127.2.2 ([] : List (S34)) ([] : List (S70)))) = some (r1, r2, r3, r4) := h
 clear h
 obtain ⟨y124, hy124⟩ : ∃ y_ : List Int, y_ = (([] : List Int)) := ⟨_, rfl⟩
 replace H : ((spec_l00Src_pick.f s0_0 s0_1 s0_2 4).bind fun bt127 => (spec_l06Draw.l0 k (-1) y124 (wrap64 (2 + bt127.1)) s0_0 bt127.2.1 bt127.2.2 ([] : List (S34)) ([] : List (S70)))) = some (r1, r2, r3, r4) := by first | (rw [hy124]; with_reducible exact H) | (have H2_ := (Option.bind_some _ _).symm.trans H; rw [hy124]; with_reducible exact H2_) | (have H2_ := (Option.bind_some _ _).symm.trans H; with_reducible exact H2_) | with_reducible exact H | (rw [hy124]; exact H) | exact H
 have Ny124 := Aside0.mk hy124
 clear hy124
 replace H := Option.bind_eq_some_iff.mp H
 obtain ⟨⟨t127, t128, t129⟩, A20, H⟩ := H
 replace H : (spec_l06Draw.l0 k (-1) y124 (wrap64 (2 + t127)) s0_0 t128 t129 ([] : List (S34)) ([] : List (S70))) = some (r1, r2, r3, r4) := H
 have A2 := Aside0.mk A20
 clear A20
 have H' := Aside0.mk H
 clear H
 go_enter Try.func22, Try.ntmps22
 go_wp2_with (first | ((with_reducible refine gate_dst (N := 2) rfl ?_); refine box_event ?hg (N := 2) ?hd (cs := #[.slice none 0 0, .slice none 0 0]) (t := 26) ?hr ?_; (case hd => rfl); (case hg => rfl); (case hr => first | (go_simp; done) | (go_simp; rfl)); intro gb122 hg w3 hbox hb; have n0_ := Aside0.mk (IsS68.below (by repeat (first | (with_reducible first | exact HI0.out | apply IsS68.alloc | apply IsS68.drewN | apply IsS68.drew | apply IsS68.set_1 | apply IsS68.set_2) | exact HI0.out)) hb); have n1_ := Aside0.mk (KeepBut.trans (by repeat (first | (with_reducible first | exact HK.out | apply KeepBut.set_ | apply keep_drewN | apply keep_drew | apply keep_alloc) | exact HK.out)) (KeepBut.of_below hb g none) (.inl rfl)); have n2_ := Aside0.mk (below_step (by repeat (first | (with_reducible first | exact HB.out | apply below_alloc | apply pw_below_drewN | apply below_drew1 | refine below_set ?_ (IsS68.ge HI0.out)) | exact HB.out)) hb); have n3_ := Aside0.mk (hbox); have n4_ := Aside0.mk ((by rw [hg]; exact (keep_size (w := w) (g := g) (row := none) (by repeat (first | (with_reducible first | exact HK.out | apply KeepBut.set_ | apply keep_drewN | apply keep_drew | apply keep_alloc) | exact HK.out))) : w.heap.size ≤ gb122)); have n5_ := Aside0.mk ((Nat.le_trans HW0.out (by rw [hg]; exact (keep_size (w := w) (g := g) (row := none) (by repeat (first | (with_reducible first | exact HK.out | apply KeepBut.set_ | apply keep_drewN | apply keep_drew | apply keep_alloc) | exact HK.out))) : w.heap.size ≤ gb122) : w0.heap.size ≤ gb122)); have n6_ := Aside0.mk ((by rw [hg]; exact Nat.ne_of_lt (IsS68.lt (show IsS68 w0 _ g s0_0 s0_1 s0_2 from by repeat (first | (with_reducible first | exact HI0.out | apply IsS68.alloc | apply IsS68.drewN | apply IsS68.drew | apply IsS68.set_1 | apply IsS68.set_2) | exact HI0.out))) : g ≠ gb122)); have n7_ := Aside0.mk ((by rw [hg]; exact Nat.ne_of_gt (IsS68.lt (show IsS68 w0 _ g s0_0 s0_1 s0_2 from by repeat (first | (with_reducible first | exact HI0.out | apply IsS68.alloc | apply IsS68.drewN | apply IsS68.drew | apply IsS68.set_1 | apply IsS68.set_2) | exact HI0.out))) : gb122 ≠ g)); clear HI0; clear HK; clear HB; have HI0 := n0_; have HK := n1_; have HB := n2_; have BK122 := n3_; have GW122 := n4_; have GE122 := n5_; have NB0_122 := n6_; have NB122_0 := n7_; clear n0_ n1_ n2_ n3_ n4_ n5_ n6_ n7_; clear hb hbox hg) | ((with_reducible refine gate_dst (N := 3) rfl ?_); refine box_event ?hg (N := 3) ?hd (cs := #[.slice none 0 0, .slice none 0 0]) (t := 26) ?hr ?_; (case hd => rfl); (case hg => rfl); (case hr => first | (go_simp; done) | (go_simp; rfl)); intro gb123 hg w4 hbox hb; have n0_ := Aside0.mk (IsS68.below (by repeat (first | (with_reducible first | exact HI0.out | apply IsS68.alloc | apply IsS68.drewN | apply IsS68.drew | apply IsS68.set_1 | apply IsS68.set_2 | refine IsS68.far ?_ NB0_122.out _) | exact HI0.out)) hb); have n1_ := Aside0.mk (blk_below (g := gb122) (o := .cells #[.slice none 0 0, .slice none 0 0] 26 (0, 0)) (by (with_reducible repeat first | apply blk_drewN | apply blk_drew | apply blk_alloc); exact BK122.out) hb); have n2_ := Aside0.mk (KeepBut.trans (by repeat (first | (with_reducible first | exact HK.out | apply KeepBut.set_ | apply keep_drewN | apply keep_drew | apply keep_alloc | refine keep_far ?_ GW122.out _) | exact HK.out)) (KeepBut.of_below hb g none) (.inl rfl)); have n3_ := Aside0.mk (below_step (by repeat (first | (with_reducible first | exact HB.out | apply below_alloc | apply pw_below_drewN | apply below_drew1 | refine below_set ?_ (IsS68.ge HI0.out) | refine below_set ?_ GE122.out) | exact HB.out)) hb); have n4_ := Aside0.mk (hbox); have n5_ := Aside0.mk ((by rw [hg]; exact (keep_size (w := w) (g := g) (row := none) (by repeat (first | (with_reducible first | exact HK.out | apply KeepBut.set_ | apply keep_drewN | apply keep_drew | apply keep_alloc | refine keep_far ?_ GW122.out _) | exact HK.out))) : w.heap.size ≤ gb123)); have n6_ := Aside0.mk ((Nat.le_trans HW0.out (by rw [hg]; exact (keep_size (w := w) (g := g) (row := none) (by repeat (first | (with_reducible first | exact HK.out | apply KeepBut.set_ | apply keep_drewN | apply keep_drew | apply keep_alloc | refine keep_far ?_ GW122.out _) | exact HK.out))) : w.heap.size ≤ gb123) : w0.heap.size ≤ gb123)); have n7_ := Aside0.mk ((by rw [hg]; exact Nat.ne_of_lt (blk_lt (g := gb122) (o := .cells #[.slice none 0 0, .slice none 0 0] 26 (0, 0)) (by (with_reducible repeat first | apply blk_drewN | apply blk_drew | apply blk_alloc); exact BK122.out)) : gb122 ≠ gb123)); have n8_ := Aside0.mk ((by rw [hg]; exact Nat.ne_of_gt (blk_lt (g := gb122) (o := .cells #[.slice none 0 0, .slice none 0 0] 26 (0, 0)) (by (with_reducible repeat first | apply blk_drewN | apply blk_drew | apply blk_alloc); exact BK122.out)) : gb123 ≠ gb122)); have n9_ := Aside0.mk ((by rw [hg]; exact Nat.ne_of_lt (IsS68.lt (show IsS68 w0 _ g s0_0 s0_1 s0_2 from by repeat (first | (with_reducible first | exact HI0.out | apply IsS68.alloc | apply IsS68.drewN | apply IsS68.drew | apply IsS68.set_1 | apply IsS68.set_2 | refine IsS68.far ?_ NB0_122.out _) | exact HI0.out))) : g ≠ gb123)); have n10_ := Aside0.mk ((by rw [hg]; exact Nat.ne_of_gt (IsS68.lt (show IsS68 w0 _ g s0_0 s0_1 s0_2 from by repeat (first | (with_reducible first | exact HI0.out | apply IsS68.alloc | apply IsS68.drewN | apply IsS68.drew | apply IsS68.set_1 | apply IsS68.set_2 | refine IsS68.far ?_ NB0_122.out _) | exact HI0.out))) : gb123 ≠ g)); clear HI0; clear BK122; clear HK; clear HB; have HI0 := n0_; have BK122 := n1_; have HK := n2_; have HB := n3_; have BK123 := n4_; have GW123 := n5_; have GE123 := n6_; have NB122_123 := n7_; have NB123_122 := n8_; have NB0_123 := n9_; have NB123_0 := n10_; clear n0_ n1_ n2_ n3_ n4_ n5_ n6_ n7_ n8_ n9_ n10_; clear hb hbox hg; have hnb5 := NB123_122.out; have hnc5 := NB122_123.out; have hnb6 := NB123_0.out; have hnc6 := NB0_123.out; have hcz7_0 : w4.cell? ⟨gb123, 0, none⟩ = some (.slice none 0 0) := (blk_cell BK123.out 0).trans rfl; have hcz7_1 : w4.cell? ⟨gb123, 1, none⟩ = some (.slice none 0 0) := (blk_cell BK123.out 1).trans rfl; have hfz7_0 := blk_frozen BK123.out 0; have hfz7_1 := blk_frozen BK123.out 1) | ((with_reducible refine gate_dst (N := 14) rfl ?_); refine Kd.R_lit (Kd.int .i64) _ 2 ?hg (N := 14) ?hd (xs := ([] : List Int)) (inner := []) (ok := fun _ => True) (okp := fun _ => True) ?hr ?hp (fun _ hk => hk) trivial (Below.refl _ _) (Nat.le_refl _) (by simp) ?_; (case hd => rfl); (case hg => rfl); (case hr => first | (go_simp; done) | (go_simp; rfl)); (case hp => exact (Reps.none _ _)); intro v125 w8 ho9 hb hg_ hnew_; clear hg_ hnew_; (first | rw [← Ny124.out] at ho9 | (simp only [Int.reduceToNat] at ho9; rw [← Ny124.out] at ho9)); have n0_ := Aside0.mk (Kd.R_lower ho9 (keep_size (w := w) (g := g) (row := none) (by repeat (first | (with_reducible first | exact HK.out | apply KeepBut.set_ | apply keep_drewN | apply keep_drew | apply keep_alloc | refine keep_far ?_ GW122.out _ | refine keep_far ?_ GW123.out _) | exact HK.out)))); have n1_ := Aside0.mk (IsS68.below (show IsS68 w0 ((w4.setCell ⟨gb123, 0, none⟩ (.slice none 0 0)).setCell ⟨gb123, 1, none⟩ (.slice none 0 0)) g s0_0 s0_1 s0_2 from by repeat (first | (with_reducible first | exact HI0.out | apply IsS68.alloc | apply IsS68.drewN | apply IsS68.drew | apply IsS68.set_1 | apply IsS68.set_2 | refine IsS68.far ?_ NB0_122.out _ | refine IsS68.far ?_ NB0_123.out _) | exact HI0.out)) hb); have n2_ := Aside0.mk (blk_below (g := gb122) (o := .cells #[.slice none 0 0, .slice none 0 0] 26 (0, 0)) (by (with_reducible repeat first | apply blk_drewN | apply blk_drew | apply blk_alloc); refine blk_far ?_ NB122_123.out _; (with_reducible repeat first | apply blk_drewN | apply blk_drew | apply blk_alloc); refine blk_far ?_ NB122_123.out _; (with_reducible repeat first | apply blk_drewN | apply blk_drew | apply blk_alloc); exact BK122.out) hb); have n3_ := Aside0.mk (blk_below (g := gb123) (o := .cells #[.slice none 0 0, .slice none 0 0] 26 (0, 0)) (by (with_reducible repeat first | apply blk_drewN | apply blk_drew | apply blk_alloc); refine blk_put (cs := #[.slice none 0 0, .slice none 0 0]) ?_ 1 _ rfl; (with_reducible repeat first | apply blk_drewN | apply blk_drew | apply blk_alloc); refine blk_put (cs := #[.slice none 0 0, .slice none 0 0]) ?_ 0 _ rfl; (with_reducible repeat first | apply blk_drewN | apply blk_drew | apply blk_alloc); exact BK123.out) hb); have n4_ := Aside0.mk (KeepBut.trans (by repeat (first | (with_reducible first | exact HK.out | apply KeepBut.set_ | apply keep_drewN | apply keep_drew | apply keep_alloc | refine keep_far ?_ GW122.out _ | refine keep_far ?_ GW123.out _) | exact HK.out)) (KeepBut.of_below hb g none) (.inl rfl)); have n5_ := Aside0.mk (below_step (by repeat (first | (with_reducible first | exact HB.out | apply below_alloc | apply pw_below_drewN | apply below_drew1 | refine below_set ?_ (IsS68.ge HI0.out) | refine below_set ?_ GE122.out | refine below_set ?_ GE123.out) | exact HB.out)) hb); clear HI0; clear BK122; clear BK123; clear HK; clear HB; have HO126 := n0_; have HI0 := n1_; have BK122 := n2_; have BK123 := n3_; have HK := n4_; have HB := n5_; clear n0_ n1_ n2_ n3_ n4_ n5_; clear hb ho9) | ((with_reducible refine gate_callee (f := 36) rfl ?_); refine goesL_ (some 16) rfl rfl Try.func36 (by kernel_rfl) rfl #[.pointer (some ⟨g, 0, none⟩), .int .i64 4] rfl (by (try simp only [List.map_toArray, List.map_cons, List.map_nil]); first | done | rfl | (simp only [List.length_drop, List.length_take]; rfl)) ?_; (with_reducible refine (spec_l00Src_pick.calls g s0_0 s0_1 s0_2 4 t127 t128 t129 w0 _ ?side1 ?side2 A2.out).mono ?_); (case side1 => repeat (first | (with_reducible first | exact HI0.out | apply IsS68.alloc | apply IsS68.drewN | apply IsS68.drew | apply IsS68.set_1 | apply IsS68.set_2 | refine IsS68.far ?_ NB0_122.out _ | refine IsS68.far ?_ NB0_123.out _) | exact HI0.out)); (case side2 => repeat (first | (with_reducible first | exact HB.out | apply below_alloc | apply pw_below_drewN | apply below_drew1 | refine below_set ?_ (IsS68.ge HI0.out) | refine below_set ?_ GE122.out | refine below_set ?_ GE123.out) | exact HB.out)); rintro e w10 ⟨rfl, hi, hb, hk⟩; refine ⟨_, rfl, ?_⟩; have n0_ := Aside0.mk (KeepBut.blk hk (g' := gb122) (o := .cells #[.slice none 0 0, .slice none 0 0] 26 (0, 0)) (by (with_reducible repeat first | apply blk_drewN | apply blk_drew | apply blk_alloc); exact BK122.out) NB122_0.out (by simp)); have n1_ := Aside0.mk (KeepBut.blk hk (g' := gb123) (o := .cells #[.slice none 0 0, .slice none 0 0] 26 (0, 0)) (by (with_reducible repeat first | apply blk_drewN | apply blk_drew | apply blk_alloc); exact BK123.out) NB123_0.out (by simp)); have n2_ := Aside0.mk (Kd.R_mono (Kd.R_keep (IsS68.apart (show IsS68 w0 _ g s0_0 s0_1 s0_2 from by repeat (first | (with_reducible first | exact HI0.out | apply IsS68.alloc | apply IsS68.drewN | apply IsS68.drew | apply IsS68.set_1 | apply IsS68.set_2 | refine IsS68.far ?_ NB0_122.out _ | refine IsS68.far ?_ NB0_123.out _) | exact HI0.out)) (by (with_reducible repeat (first | apply Kd.R_alloc | apply Kd.R_drewN | apply Kd.R_drew)); exact HO126.out) (by decide)) hk (fun _ h => h.2)) (fun _ h => h.1)); have n3_ := Aside0.mk (KeepBut.trans (by repeat (first | (with_reducible first | exact HK.out | apply KeepBut.set_ | apply keep_drewN | apply keep_drew | apply keep_alloc | refine keep_far ?_ GW122.out _ | refine keep_far ?_ GW123.out _) | exact HK.out)) hk (.inl rfl)); have n4_ := Aside0.mk (hb); have n5_ := Aside0.mk (hi); clear BK122; clear BK123; clear HO126; clear HK; clear HB; clear HI0; have BK122 := n0_; have BK123 := n1_; have HO126 := n2_; have HK := n3_; have HB := n4_; have HI0 := n5_; clear n0_ n1_ n2_ n3_ n4_ n5_; (try clear hb); (try clear hb2); (try clear hk); (try clear hi)))
 go_loopg [4, 5, 6] k (fun kq v4 v5 v6 w' => ∃ (x4_1 : Int) (x5_1 : List Int) (x6_1 : Int) (x1001_1 : Int) (x1002_1 : Int) (x124000_1 : List (S34)) (x124001_1 : List (S70)) (u124000 : Value) (u124001 : Value), v4 = .int .i64 x4_1 ∧ v6 = .int .i64 x6_1 ∧ Aside0 (spec_l06Draw.l0 kq x4_1 x5_1 x6_1 s0_0 x1001_1 x1002_1 x124000_1 x124001_1 = some (r1, r2, r3, r4)) ∧ Aside0 (kq ≤ k) ∧ Aside0 (Kd.R (Kd.int .i64) 2 w' w.heap.size (fun _ => True) v5 x5_1) ∧ Aside0 (Kd.R k34 34 w' w.heap.size (fun _ => True) u124000 x124000_1) ∧ Aside0 (Kd.S k70 70 w' w.heap.size (fun k_ => some k_ ≠ (v5 : Value).ownBlock) u124001 x124001_1) ∧ Aside0 (w'.heap[gb122]? = some (.cells #[(.slice none 0 0), (.slice none 0 0)] 26 (0, 0))) ∧ Aside0 (w'.heap[gb123]? = some (.cells #[u124000, u124001] 26 (0, 0))) ∧ Aside0 (IsS68 w0 w' g s0_0 x1001_1 x1002_1) ∧ Aside0 (KeepBut w w' g none) ∧ Aside0 (Below w0.heap.size w0 w'))
 case atStart => exact ⟨((-1)), (y124), (wrap64 (2 + t127)), (t128), (t129), (([] : List (S34))), (([] : List (S70))), (.slice none 0 0), (.slice none 0 0), (by first | rfl | (simp; done) | (simp [*]; done)), (by first | rfl | (simp; done) | (simp [*]; done)), H', ⟨Nat.le_refl _⟩, ⟨by (with_reducible repeat (first | apply Kd.R_alloc | apply Kd.R_drewN | apply Kd.R_drew)); exact HO126.out⟩, ⟨by first | exact Kd.R_nil _ _ _ _ _ | exact Kd.N_nil _ _ _ _ _ | exact Kd.V_nil _ _ _ _ _ | exact Kd.Q_nil _ _ _ _ _ | exact Kd.S_nil _ _ _ _ _⟩, ⟨by first | exact Kd.S_nil _ _ _ _ _ | exact Kd.N_nil _ _ _ _ _ | exact Kd.V_nil _ _ _ _ _ | exact Kd.Q_nil _ _ _ _ _ | exact Kd.R_nil _ _ _ _ _⟩, ⟨by (with_reducible repeat first | apply blk_drewN | apply blk_drew | apply blk_alloc); exact BK122.out⟩, ⟨by (with_reducible repeat first | apply blk_drewN | apply blk_drew | apply blk_alloc); exact BK123.out⟩, ⟨by repeat (first | (with_reducible first | exact HI0.out | apply IsS68.alloc | apply IsS68.drewN | apply IsS68.drew | apply IsS68.set_1 | apply IsS68.set_2 | refine IsS68.far ?_ NB0_122.out _ | refine IsS68.far ?_ NB0_123.out _) | exact HI0.out)⟩, ⟨by repeat (first | (with_reducible first | exact HK.out | apply KeepBut.set_ | apply keep_drewN | apply keep_drew | apply keep_alloc | refine keep_far ?_ GW122.out _ | refine keep_far ?_ GW123.out _) | exact HK.out)⟩, ⟨by repeat (first | (with_reducible first | exact HB.out | apply below_alloc | apply pw_below_drewN | apply below_drew1 | refine below_set ?_ (IsS68.ge HI0.out) | refine below_set ?_ GE122.out | refine below_set ?_ GE123.out) | exact HB.out)⟩⟩
 case round =>
  clear H'
  try clear c2
  try clear p2
  try clear c3
  try clear c5
  try clear c6
  try clear p6
  try clear hcz7_0
  try clear hcz7_1
  try clear hfz7_0
  try clear hfz7_1
  obtain ⟨x4_1, x5_1, x6_1, x1001_1, x1002_1, x124000_1, x124001_1, u124000, u124001, rfl, rfl, HA, HK1, HO_5, HO_124000, HO_124001, BK122, BK123, HI0, HK, HB⟩ := hrel
  cases gk with
  | zero => exact absurd HA.out (by simp [spec_l06Draw.l0])
  | succ k1 =>
   have H := HA.out
   clear HA
   simp only [spec_l06Draw.l0] at H
   by_cases c11 : x6_1 > 0
   ·rw [if_pos c11] at H
    have c11b0 : decide (0 < x6_1) = true := decide_eq_true c11
    clear c11
    replace H := Option.bind_eq_some_iff.mp H
    obtain ⟨⟨t131, t132, t133⟩, A120, H⟩ := H
    replace H : (spec_l06Draw.l1 k1 x4_1 x5_1 x6_1 (wrap64 (1 + t131)) s0_0 t132 t133 x124000_1 x124001_1 x4_1 1 ([] : List Int)) = some (r1, r2, r3, r4) := H
    have A12 := Aside0.mk A120
    clear A120
    have H' := Aside0.mk H
    clear H
    go_wp2_with (first | ((with_reducible refine gate_dst (N := 7) rfl ?_); refine box_event ?hg (N := 7) ?hd (cs := #[.int .i64 0, .int .i64 0, .slice none 0 0]) (t := 70) ?hr ?_; (case hd => rfl); (case hg => rfl); (case hr => first | (go_simp; done) | (go_simp; rfl)); intro gb130 hg w13 hbox hb; have n0_ := Aside0.mk (Kd.R_below (by (with_reducible repeat (first | apply Kd.R_alloc | apply Kd.R_drewN | apply Kd.R_drew)); exact HO_5.out) hb); have n1_ := Aside0.mk (Kd.R_below (by (with_reducible repeat (first | apply Kd.R_alloc | apply Kd.R_drewN | apply Kd.R_drew)); exact HO_124000.out) hb); have n2_ := Aside0.mk (Kd.S_below (Kd.S_elderB (by (with_reducible repeat (first | apply Kd.S_alloc | apply Kd.S_drewN | apply Kd.S_drew)); exact HO_124001.out) gb130 (Nat.le_of_eq hg.symm)) hb); have n3_ := Aside0.mk (blk_below (g := gb122) (o := .cells #[.slice none 0 0, .slice none 0 0] 26 (0, 0)) (by (with_reducible repeat first | apply blk_drewN | apply blk_drew | apply blk_alloc); exact BK122.out) hb); have n4_ := Aside0.mk (blk_below (g := gb123) (o := .cells #[u124000, u124001] 26 (0, 0)) (by (with_reducible repeat first | apply blk_drewN | apply blk_drew | apply blk_alloc); exact BK123.out) hb); have n5_ := Aside0.mk (IsS68.below (by repeat (first | (with_reducible first | exact HI0.out | apply IsS68.alloc | apply IsS68.drewN | apply IsS68.drew | apply IsS68.set_1 | apply IsS68.set_2 | refine IsS68.far ?_ NB0_122.out _ | refine IsS68.far ?_ NB0_123.out _) | exact HI0.out)) hb); have n6_ := Aside0.mk (KeepBut.trans (by repeat (first | (with_reducible first | exact HK.out | apply KeepBut.set_ | apply keep_drewN | apply keep_drew | apply keep_alloc | refine keep_far ?_ GW122.out _ | refine keep_far ?_ GW123.out _) | exact HK.out)) (KeepBut.of_below hb g none) (.inl rfl)); have n7_ := Aside0.mk (below_step (by repeat (first | (with_reducible first | exact HB.out | apply below_alloc | apply pw_below_drewN | apply below_drew1 | refine below_set ?_ (IsS68.ge HI0.out) | refine below_set ?_ GE122.out | refine below_set ?_ GE123.out) | exact HB.out)) hb); have n8_ := Aside0.mk (hbox); have n9_ := Aside0.mk ((by rw [hg]; exact (keep_size (w := w) (g := g) (row := none) (by repeat (first | (with_reducible first | exact HK.out | apply KeepBut.set_ | apply keep_drewN | apply keep_drew | apply keep_alloc | refine keep_far ?_ GW122.out _ | refine keep_far ?_ GW123.out _) | exact HK.out))) : w.heap.size ≤ gb130)); have n10_ := Aside0.mk ((Nat.le_trans HW0.out (by rw [hg]; exact (keep_size (w := w) (g := g) (row := none) (by repeat (first | (with_reducible first | exact HK.out | apply KeepBut.set_ | apply keep_drewN | apply keep_drew | apply keep_alloc | refine keep_far ?_ GW122.out _ | refine keep_far ?_ GW123.out _) | exact HK.out))) : w.heap.size ≤ gb130) : w0.heap.size ≤ gb130)); have n11_ := Aside0.mk ((by rw [hg]; exact Nat.ne_of_lt (blk_lt (g := gb122) (o := .cells #[.slice none 0 0, .slice none 0 0] 26 (0, 0)) (by (with_reducible repeat first | apply blk_drewN | apply blk_drew | apply blk_alloc); exact BK122.out)) : gb122 ≠ gb130)); have n12_ := Aside0.mk ((by rw [hg]; exact Nat.ne_of_gt (blk_lt (g := gb122) (o := .cells #[.slice none 0 0, .slice none 0 0] 26 (0, 0)) (by (with_reducible repeat first | apply blk_drewN | apply blk_drew | apply blk_alloc); exact BK122.out)) : gb130 ≠ gb122)); have n13_ := Aside0.mk ((by rw [hg]; exact Nat.ne_of_lt (blk_lt (g := gb123) (o := .cells #[u124000, u124001] 26 (0, 0)) (by (with_reducible repeat first | apply blk_drewN | apply blk_drew | apply blk_alloc); exact BK123.out)) : gb123 ≠ gb130)); have n14_ := Aside0.mk ((by rw [hg]; exact Nat.ne_of_gt (blk_lt (g := gb123) (o := .cells #[u124000, u124001] 26 (0, 0)) (by (with_reducible repeat first | apply blk_drewN | apply blk_drew | apply blk_alloc); exact BK123.out)) : gb130 ≠ gb123)); have n15_ := Aside0.mk ((by rw [hg]; exact Nat.ne_of_lt (IsS68.lt (show IsS68 w0 _ g s0_0 x1001_1 x1002_1 from by repeat (first | (with_reducible first | exact HI0.out | apply IsS68.alloc | apply IsS68.drewN | apply IsS68.drew | apply IsS68.set_1 | apply IsS68.set_2 | refine IsS68.far ?_ NB0_122.out _ | refine IsS68.far ?_ NB0_123.out _) | exact HI0.out))) : g ≠ gb130)); have n16_ := Aside0.mk ((by rw [hg]; exact Nat.ne_of_gt (IsS68.lt (show IsS68 w0 _ g s0_0 x1001_1 x1002_1 from by repeat (first | (with_reducible first | exact HI0.out | apply IsS68.alloc | apply IsS68.drewN | apply IsS68.drew | apply IsS68.set_1 | apply IsS68.set_2 | refine IsS68.far ?_ NB0_122.out _ | refine IsS68.far ?_ NB0_123.out _) | exact HI0.out))) : gb130 ≠ g)); clear HO_5; clear HO_124000; clear HO_124001; clear BK122; clear BK123; clear HI0; clear HK; clear HB; have HO_5 := n0_; have HO_124000 := n1_; have HO_124001 := n2_; have BK122 := n3_; have BK123 := n4_; have HI0 := n5_; have HK := n6_; have HB := n7_; have BK130 := n8_; have GW130 := n9_; have GE130 := n10_; have NB122_130 := n11_; have NB130_122 := n12_; have NB123_130 := n13_; have NB130_123 := n14_; have NB0_130 := n15_; have NB130_0 := n16_; clear n0_ n1_ n2_ n3_ n4_ n5_ n6_ n7_ n8_ n9_ n10_ n11_ n12_ n13_ n14_ n15_ n16_; clear hb hbox hg; have hnb14 := NB130_122.out; have hnc14 := NB122_130.out; have hnb15 := NB130_123.out; have hnc15 := NB123_130.out; have hnb16 := NB130_0.out; have hnc16 := NB0_130.out; have hcz17_0 : w13.cell? ⟨gb130, 0, none⟩ = some (.int .i64 0) := (blk_cell BK130.out 0).trans rfl; have hcz17_1 : w13.cell? ⟨gb130, 1, none⟩ = some (.int .i64 0) := (blk_cell BK130.out 1).trans rfl; have hcz17_2 : w13.cell? ⟨gb130, 2, none⟩ = some (.slice none 0 0) := (blk_cell BK130.out 2).trans rfl; have hfz17_0 := blk_frozen BK130.out 0; have hfz17_1 := blk_frozen BK130.out 1; have hfz17_2 := blk_frozen BK130.out 2) | ((with_reducible refine gate_callee (f := 36) rfl ?_); refine goesL_ (some 25) rfl rfl Try.func36 (by kernel_rfl) rfl #[.pointer (some ⟨g, 0, none⟩), .int .i64 3] rfl (by (try simp only [List.map_toArray, List.map_cons, List.map_nil]); first | done | rfl | (simp only [List.length_drop, List.length_take]; rfl)) ?_; (with_reducible refine (spec_l00Src_pick.calls g s0_0 x1001_1 x1002_1 3 t131 t132 t133 w0 _ ?side1 ?side2 A12.out).mono ?_); (case side1 => repeat (first | (with_reducible first | exact HI0.out | apply IsS68.alloc | apply IsS68.drewN | apply IsS68.drew | apply IsS68.set_1 | apply IsS68.set_2 | refine IsS68.far ?_ NB0_122.out _ | refine IsS68.far ?_ NB0_123.out _ | refine IsS68.far ?_ NB0_130.out _) | exact HI0.out)); (case side2 => repeat (first | (with_reducible first | exact HB.out | apply below_alloc | apply pw_below_drewN | apply below_drew1 | refine below_set ?_ (IsS68.ge HI0.out) | refine below_set ?_ GE122.out | refine below_set ?_ GE123.out | refine below_set ?_ GE130.out) | exact HB.out)); rintro e w18 ⟨rfl, hi, hb, hk⟩; refine ⟨_, rfl, ?_⟩; have n0_ := Aside0.mk (Kd.R_mono (Kd.R_keep (IsS68.apart (show IsS68 w0 _ g s0_0 x1001_1 x1002_1 from by repeat (first | (with_reducible first | exact HI0.out | apply IsS68.alloc | apply IsS68.drewN | apply IsS68.drew | apply IsS68.set_1 | apply IsS68.set_2 | refine IsS68.far ?_ NB0_122.out _ | refine IsS68.far ?_ NB0_123.out _ | refine IsS68.far ?_ NB0_130.out _) | exact HI0.out)) (by (with_reducible repeat (first | apply Kd.R_alloc | apply Kd.R_drewN | apply Kd.R_drew)); exact (Kd.R_mono (Kd.R_far (p := ⟨gb130, 2, none⟩) (Kd.R_far (p := ⟨gb130, 1, none⟩) (Kd.R_far (p := ⟨gb130, 0, none⟩) (Kd.R_types HO_5.out BK130.out (by decide)) (fun _ hk => hk.2) (.int .i64 x4_1)) (fun _ hk => hk.2) (.int .i64 1)) (fun _ hk => hk.2) (.slice none 0 0)) (fun _ h_ => h_.1))) (by decide)) hk (fun _ h => h.2)) (fun _ h => h.1)); have n1_ := Aside0.mk (Kd.R_mono (Kd.R_keep (IsS68.apart (show IsS68 w0 _ g s0_0 x1001_1 x1002_1 from by repeat (first | (with_reducible first | exact HI0.out | apply IsS68.alloc | apply IsS68.drewN | apply IsS68.drew | apply IsS68.set_1 | apply IsS68.set_2 | refine IsS68.far ?_ NB0_122.out _ | refine IsS68.far ?_ NB0_123.out _ | refine IsS68.far ?_ NB0_130.out _) | exact HI0.out)) (by (with_reducible repeat (first | apply Kd.R_alloc | apply Kd.R_drewN | apply Kd.R_drew)); exact (Kd.R_mono (Kd.R_far (p := ⟨gb130, 2, none⟩) (Kd.R_far (p := ⟨gb130, 1, none⟩) (Kd.R_far (p := ⟨gb130, 0, none⟩) (Kd.R_types HO_124000.out BK130.out (by decide)) (fun _ hk => hk.2) (.int .i64 x4_1)) (fun _ hk => hk.2) (.int .i64 1)) (fun _ hk => hk.2) (.slice none 0 0)) (fun _ h_ => h_.1))) (by decide)) hk (fun _ h => h.2)) (fun _ h => h.1)); have n2_ := Aside0.mk (Kd.S_mono (Kd.S_keep (IsS68.apartS (show IsS68 w0 _ g s0_0 x1001_1 x1002_1 from by repeat (first | (with_reducible first | exact HI0.out | apply IsS68.alloc | apply IsS68.drewN | apply IsS68.drew | apply IsS68.set_1 | apply IsS68.set_2 | refine IsS68.far ?_ NB0_122.out _ | refine IsS68.far ?_ NB0_123.out _ | refine IsS68.far ?_ NB0_130.out _) | exact HI0.out)) (by (with_reducible repeat (first | apply Kd.S_alloc | apply Kd.S_drewN | apply Kd.S_drew)); exact (Kd.S_mono (Kd.S_far (p := ⟨gb130, 2, none⟩) (Kd.S_far (p := ⟨gb130, 1, none⟩) (Kd.S_far (p := ⟨gb130, 0, none⟩) (Kd.S_mono HO_124001.out (fun k_ hk => (⟨hk, hk.2⟩ : _ ∧ k_ ≠ gb130))) (fun _ hk => hk.2) (.int .i64 x4_1)) (fun _ hk => hk.2) (.int .i64 1)) (fun _ hk => hk.2) (.slice none 0 0)) (fun _ h_ => h_.1))) (by decide)) hk (fun _ h => h.2)) (fun _ h => h.1)); have n3_ := Aside0.mk (KeepBut.blk hk (g' := gb122) (o := .cells #[.slice none 0 0, .slice none 0 0] 26 (0, 0)) (by (with_reducible repeat first | apply blk_drewN | apply blk_drew | apply blk_alloc); refine blk_far ?_ NB122_130.out _; (with_reducible repeat first | apply blk_drewN | apply blk_drew | apply blk_alloc); refine blk_far ?_ NB122_130.out _; (with_reducible repeat first | apply blk_drewN | apply blk_drew | apply blk_alloc); refine blk_far ?_ NB122_130.out _; (with_reducible repeat first | apply blk_drewN | apply blk_drew | apply blk_alloc); exact BK122.out) NB122_0.out (by simp)); have n4_ := Aside0.mk (KeepBut.blk hk (g' := gb123) (o := .cells #[u124000, u124001] 26 (0, 0)) (by (with_reducible repeat first | apply blk_drewN | apply blk_drew | apply blk_alloc); refine blk_far ?_ NB123_130.out _; (with_reducible repeat first | apply blk_drewN | apply blk_drew | apply blk_alloc); refine blk_far ?_ NB123_130.out _; (with_reducible repeat first | apply blk_drewN | apply blk_drew | apply blk_alloc); refine blk_far ?_ NB123_130.out _; (with_reducible repeat first | apply blk_drewN | apply blk_drew | apply blk_alloc); exact BK123.out) NB123_0.out (by simp)); have n5_ := Aside0.mk (KeepBut.blk hk (g' := gb130) (o := .cells #[.int .i64 x4_1, .int .i64 1, .slice none 0 0] 70 (0, 0)) (by (with_reducible repeat first | apply blk_drewN | apply blk_drew | apply blk_alloc); refine blk_put (cs := #[.int .i64 x4_1, .int .i64 1, .slice none 0 0]) ?_ 2 _ rfl; (with_reducible repeat first | apply blk_drewN | apply blk_drew | apply blk_alloc); refine blk_put (cs := #[.int .i64 x4_1, .int .i64 0, .slice none 0 0]) ?_ 1 _ rfl; (with_reducible repeat first | apply blk_drewN | apply blk_drew | apply blk_alloc); refine blk_put (cs := #[.int .i64 0, .int .i64 0, .slice none 0 0]) ?_ 0 _ rfl; (with_reducible repeat first | apply blk_drewN | apply blk_drew | apply blk_alloc); exact BK130.out) NB130_0.out (by simp)); have n6_ := Aside0.mk (KeepBut.trans (by repeat (first | (with_reducible first | exact HK.out | apply KeepBut.set_ | apply keep_drewN | apply keep_drew | apply keep_alloc | refine keep_far ?_ GW122.out _ | refine keep_far ?_ GW123.out _ | refine keep_far ?_ GW130.out _) | exact HK.out)) hk (.inl rfl)); have n7_ := Aside0.mk (hb); have n8_ := Aside0.mk (hi); clear HO_5; clear HO_124000; clear HO_124001; clear BK122; clear BK123; clear BK130; clear HK; clear HB; clear HI0; have HO_5 := n0_; have HO_124000 := n1_; have HO_124001 := n2_; have BK122 := n3_; have BK123 := n4_; have BK130 := n5_; have HK := n6_; have HB := n7_; have HI0 := n8_; clear n0_ n1_ n2_ n3_ n4_ n5_ n6_ n7_ n8_; (try clear hb); (try clear hb2); (try clear hk); (try clear hi)))
    go_loopg [8] k1 (fun kq v8 w' => ∃ (x8_2 : Int) (x1001_2 : Int) (x1002_2 : Int) (x124000_2 : List (S34)) (x131002_2 : List Int) (u124000 : Value) (u131002 : Value), v8 = .int .i64 x8_2 ∧ Aside0 (spec_l06Draw.l1 kq x4_1 x5_1 x6_1 x8_2 s0_0 x1001_2 x1002_2 x124000_2 x124001_1 x4_1 1 x131002_2 = some (r1, r2, r3, r4)) ∧ Aside0 (kq ≤ k1) ∧ Aside0 (Kd.R (Kd.int .i64) 2 w' w.heap.size (fun k_ => some k_ ≠ (u131002 : Value).ownBlock) u5 x5_1) ∧ Aside0 (Kd.R k34 34 w' w.heap.size (fun _ => True) u124000 x124000_2) ∧ Aside0 (Kd.S k70 70 w' w.heap.size (fun k_ => some k_ ≠ (u5 : Value).ownBlock ∧ some k_ ≠ (u131002 : Value).ownBlock ∧ k_ ≠ gb130) u124001 x124001_1) ∧ Aside0 (Kd.R (Kd.int .i64) 2 w' w.heap.size (fun k_ => some k_ ≠ (u5 : Value).ownBlock) u131002 x131002_2) ∧ Aside0 (w'.heap[gb122]? = some (.cells #[(.slice none 0 0), (.slice none 0 0)] 26 (0, 0))) ∧ Aside0 (w'.heap[gb123]? = some (.cells #[u124000, u124001] 26 (0, 0))) ∧ Aside0 (w'.heap[gb130]? = some (.cells #[.int .i64 x4_1, .int .i64 1, u131002] 70 (0, 0))) ∧ Aside0 (IsS68 w0 w' g s0_0 x1001_2 x1002_2) ∧ Aside0 (KeepBut w w' g none) ∧ Aside0 (Below w0.heap.size w0 w'))
    case atStart => exact ⟨(wrap64 (1 + t131)), (t132), (t133), (x124000_1), (([] : List Int)), (u124000), (.slice none 0 0), (by first | rfl | (simp; done) | (simp [*]; done)), H', ⟨Nat.le_refl _⟩, ⟨by (with_reducible repeat (first | apply Kd.R_alloc | apply Kd.R_drewN | apply Kd.R_drew)); exact Kd.R_mono HO_5.out (fun _ hk => (by simp [Value.ownBlock]))⟩, ⟨by (with_reducible repeat (first | apply Kd.R_alloc | apply Kd.R_drewN | apply Kd.R_drew)); exact HO_124000.out⟩, ⟨by (with_reducible repeat (first | apply Kd.S_alloc | apply Kd.S_drewN | apply Kd.S_drew)); exact Kd.S_mono HO_124001.out (fun _ hk => ⟨hk.1, ⟨(by simp [Value.ownBlock]), hk.2⟩⟩)⟩, ⟨by first | exact Kd.R_nil _ _ _ _ _ | exact Kd.N_nil _ _ _ _ _ | exact Kd.V_nil _ _ _ _ _ | exact Kd.Q_nil _ _ _ _ _ | exact Kd.S_nil _ _ _ _ _⟩, ⟨by (with_reducible repeat first | apply blk_drewN | apply blk_drew | apply blk_alloc); exact BK122.out⟩, ⟨by (with_reducible repeat first | apply blk_drewN | apply blk_drew | apply blk_alloc); exact BK123.out⟩, ⟨by (with_reducible repeat first | apply blk_drewN | apply blk_drew | apply blk_alloc); exact BK130.out⟩, ⟨by repeat (first | (with_reducible first | exact HI0.out | apply IsS68.alloc | apply IsS68.drewN | apply IsS68.drew | apply IsS68.set_1 | apply IsS68.set_2 | refine IsS68.far ?_ NB0_122.out _ | refine IsS68.far ?_ NB0_123.out _ | refine IsS68.far ?_ NB0_130.out _) | exact HI0.out)⟩, ⟨by repeat (first | (with_reducible first | exact HK.out | apply KeepBut.set_ | apply keep_drewN | apply keep_drew | apply keep_alloc | refine keep_far ?_ GW122.out _ | refine keep_far ?_ GW123.out _ | refine keep_far ?_ GW130.out _) | exact HK.out)⟩, ⟨by repeat (first | (with_reducible first | exact HB.out | apply below_alloc | apply pw_below_drewN | apply below_drew1 | refine below_set ?_ (IsS68.ge HI0.out) | refine below_set ?_ GE122.out | refine below_set ?_ GE123.out | refine below_set ?_ GE130.out) | exact HB.out)⟩⟩
    case round =>
     clear H'
     try clear c1
     try clear c2
     try clear p2
     try clear c3
     try clear c5
     try clear c6
     try clear p6
     try clear c11
     try clear c11b0
     try clear c14
     try clear c15
     try clear c16
     try clear hcz17_0
     try clear hcz17_1
     try clear hcz17_2
     try clear hcz7_0
     try clear hcz7_1
     try clear hfz17_0
     try clear hfz17_1
     try clear hfz17_2
     try clear hfz7_0
     try clear hfz7_1
     try clear p2
     try clear p6
     obtain ⟨x8_2, x1001_2, x1002_2, x124000_2, x131002_2, u124000, u131002, rfl, HA, HK2, HO_5, HO_124000, HO_124001, HO_131002, BK122, BK123, BK130, HI0, HK, HB⟩ := hrel
     cases gk with
     | zero => exact absurd HA.out (by simp [spec_l06Draw.l1])
     | succ k2 =>
      have H := HA.out
      clear HA
      simp only [spec_l06Draw.l1] at H
      have HC19 := Aside0.mk H
      clear H
      go_upto_region 9 with (fail)
      go_cut [34] (fun v34 wc => ∃ (kq : Nat) (x34_18 : Bool), v34 = .bool x34_18 ∧ Aside0 (spec_l06Draw.j2 kq x4_1 x5_1 x6_1 x8_2 x34_18 s0_0 x1001_2 x1002_2 x124000_2 x124001_1 x4_1 1 x131002_2 = some (r1, r2, r3, r4)) ∧ Aside0 (kq ≤ k2) ∧ Aside0 (Kd.R (Kd.int .i64) 2 wc w.heap.size (fun k_ => some k_ ≠ (u131002 : Value).ownBlock) u5 x5_1) ∧ Aside0 (Kd.R k34 34 wc w.heap.size (fun _ => True) u124000 x124000_2) ∧ Aside0 (Kd.S k70 70 wc w.heap.size (fun k_ => some k_ ≠ (u5 : Value).ownBlock ∧ some k_ ≠ (u131002 : Value).ownBlock ∧ k_ ≠ gb130) u124001 x124001_1) ∧ Aside0 (Kd.R (Kd.int .i64) 2 wc w.heap.size (fun k_ => some k_ ≠ (u5 : Value).ownBlock) u131002 x131002_2) ∧ Aside0 (wc.heap[gb122]? = some (.cells #[(.slice none 0 0), (.slice none 0 0)] 26 (0, 0))) ∧ Aside0 (wc.heap[gb123]? = some (.cells #[u124000, u124001] 26 (0, 0))) ∧ Aside0 (wc.heap[gb130]? = some (.cells #[.int .i64 x4_1, .int .i64 1, u131002] 70 (0, 0))) ∧ Aside0 (IsS68 w0 wc g s0_0 x1001_2 x1002_2) ∧ Aside0 (KeepBut w wc g none) ∧ Aside0 (Below w0.heap.size w0 wc))
      case first =>
       have H := HC19.out
       clear HC19
       by_cases c20 : x8_2 > 0
       ·rw [if_pos c20] at H
        have c20b0 : decide (0 < x8_2) = true := decide_eq_true c20
        clear c20
        (first | rw [c20b0] | (simp only [i64_w, i32_w]; rw [c20b0]) | skip)
        have H' := Aside0.mk H
        clear H
        have hnb21 := NB123_122.out
        have hnc21 := NB122_123.out
        have hnb22 := NB123_130.out
        have hnc22 := NB130_123.out
        have hnb23 := NB123_0.out
        have hnc23 := NB0_123.out
        have hcz24_0 : wr.cell? ⟨gb123, 0, none⟩ = some (u124000) := (blk_cell BK123.out 0).trans rfl
        have hcz24_1 : wr.cell? ⟨gb123, 1, none⟩ = some (u124001) := (blk_cell BK123.out 1).trans rfl
        have hfz24_0 := blk_frozen BK123.out 0
        have hfz24_1 := blk_frozen BK123.out 1
        obtain ⟨Ao25, co25, eo25⟩ := Kd.R_slice HO_124000.out
        subst eo25
        go_wp2
        go_meet
        case rel => exact ⟨_, (decide ((x124000_2.length : Int) < 16)), (by first | rfl | (simp; done) | (simp [*]; done)), H', ⟨by have := HK1.out; have := HK2.out; first | omega | exact Nat.le_refl _⟩, ⟨by (with_reducible repeat (first | apply Kd.R_alloc | apply Kd.R_drewN | apply Kd.R_drew)); exact HO_5.out⟩, ⟨by (with_reducible repeat (first | apply Kd.R_alloc | apply Kd.R_drewN | apply Kd.R_drew)); exact HO_124000.out⟩, ⟨by (with_reducible repeat (first | apply Kd.S_alloc | apply Kd.S_drewN | apply Kd.S_drew)); exact HO_124001.out⟩, ⟨by (with_reducible repeat (first | apply Kd.R_alloc | apply Kd.R_drewN | apply Kd.R_drew)); exact HO_131002.out⟩, ⟨by (with_reducible repeat first | apply blk_drewN | apply blk_drew | apply blk_alloc); exact BK122.out⟩, ⟨by (with_reducible repeat first | apply blk_drewN | apply blk_drew | apply blk_alloc); exact BK123.out⟩, ⟨by (with_reducible repeat first | apply blk_drewN | apply blk_drew | apply blk_alloc); exact BK130.out⟩, ⟨by repeat (first | (with_reducible first | exact HI0.out | apply IsS68.alloc | apply IsS68.drewN | apply IsS68.drew | apply IsS68.set_1 | apply IsS68.set_2 | refine IsS68.far ?_ NB0_122.out _ | refine IsS68.far ?_ NB0_123.out _ | refine IsS68.far ?_ NB0_130.out _) | exact HI0.out)⟩, ⟨by repeat (first | (with_reducible first | exact HK.out | apply KeepBut.set_ | apply keep_drewN | apply keep_drew | apply keep_alloc | refine keep_far ?_ GW122.out _ | refine keep_far ?_ GW123.out _ | refine keep_far ?_ GW130.out _) | exact HK.out)⟩, ⟨by repeat (first | (with_reducible first | exact HB.out | apply below_alloc | apply pw_below_drewN | apply below_drew1 | refine below_set ?_ (IsS68.ge HI0.out) | refine below_set ?_ GE122.out | refine below_set ?_ GE123.out | refine below_set ?_ GE130.out) | exact HB.out)⟩⟩
       ·rw [if_neg c20] at H
        have c20b0 : decide (0 < x8_2) = false := decide_eq_false c20
        clear c20
        (first | rw [c20b0] | (simp only [i64_w, i32_w]; rw [c20b0]) | skip)
        have H' := Aside0.mk H
        clear H
        go_wp2
        go_meet
        case rel => exact ⟨_, (false), (by first | rfl | (simp; done) | (simp [*]; done)), H', ⟨by have := HK1.out; have := HK2.out; first | omega | exact Nat.le_refl _⟩, ⟨by (with_reducible repeat (first | apply Kd.R_alloc | apply Kd.R_drewN | apply Kd.R_drew)); exact HO_5.out⟩, ⟨by (with_reducible repeat (first | apply Kd.R_alloc | apply Kd.R_drewN | apply Kd.R_drew)); exact HO_124000.out⟩, ⟨by (with_reducible repeat (first | apply Kd.S_alloc | apply Kd.S_drewN | apply Kd.S_drew)); exact HO_124001.out⟩, ⟨by (with_reducible repeat (first | apply Kd.R_alloc | apply Kd.R_drewN | apply Kd.R_drew)); exact HO_131002.out⟩, ⟨by (with_reducible repeat first | apply blk_drewN | apply blk_drew | apply blk_alloc); exact BK122.out⟩, ⟨by (with_reducible repeat first | apply blk_drewN | apply blk_drew | apply blk_alloc); exact BK123.out⟩, ⟨by (with_reducible repeat first | apply blk_drewN | apply blk_drew | apply blk_alloc); exact BK130.out⟩, ⟨by repeat (first | (with_reducible first | exact HI0.out | apply IsS68.alloc | apply IsS68.drewN | apply IsS68.drew | apply IsS68.set_1 | apply IsS68.set_2 | refine IsS68.far ?_ NB0_122.out _ | refine IsS68.far ?_ NB0_123.out _ | refine IsS68.far ?_ NB0_130.out _) | exact HI0.out)⟩, ⟨by repeat (first | (with_reducible first | exact HK.out | apply KeepBut.set_ | apply keep_drewN | apply keep_drew | apply keep_alloc | refine keep_far ?_ GW122.out _ | refine keep_far ?_ GW123.out _ | refine keep_far ?_ GW130.out _) | exact HK.out)⟩, ⟨by repeat (first | (with_reducible first | exact HB.out | apply below_alloc | apply pw_below_drewN | apply below_drew1 | refine below_set ?_ (IsS68.ge HI0.out) | refine below_set ?_ GE122.out | refine below_set ?_ GE123.out | refine below_set ?_ GE130.out) | exact HB.out)⟩⟩
      case rest =>
       clear HC19
       try clear c1
       try clear c2
       try clear p2
       try clear c3
       try clear c5
       try clear c6
       try clear p6
       try clear c11
       try clear c11b0
       try clear c14
       try clear c15
       try clear c16
       try clear c20
       try clear c20b0
       try clear c21
       try clear c22
       try clear c23
       try clear hcz17_0
       try clear hcz17_1
       try clear hcz17_2
       try clear hcz24_0
       try clear hcz24_1
       try clear hcz7_0
       try clear hcz7_1
       try clear hfz17_0
       try clear hfz17_1
       try clear hfz17_2
       try clear hfz24_0
       try clear hfz24_1
       try clear hfz7_0
       try clear hfz7_1
       try clear p2
       try clear p6
       obtain ⟨kq, x34_18, rfl, HA, HJ18, HO_5, HO_124000, HO_124001, HO_131002, BK122, BK123, BK130, HI0, HK, HB⟩ := hcut
       cases kq with
       | zero => exact absurd HA.out (by simp [spec_l06Draw.j2])
       | succ kj18 =>
        have H := HA.out
        clear HA
        simp only [spec_l06Draw.j2] at H
        by_cases c26 : x34_18 = true
        ·subst c26
         have H1 : ((spec_l00Src_pick.f s0_0 x1001_2 x1002_2 9).bind fun bt134 => ((spec_l00Src_among.f s0_0 bt134.2.1 bt134.2.2 (([1, 1, 2, 3, bt134.1] : List Int))).bind fun bt140 => (if x124000_2.length < 8796093022208 then (if x131002_2.length < 17592186044416 then (spec_l06Draw.l1 kj18 x4_1 x5_1 x6_1 (wrap64 (x8_2 - 1)) s0_0 bt140.2.1 bt140.2.2 (x124000_2 ++ [(⟨(x124000_2.length : Int), bt140.1⟩ : S34)]) x124001_1 x4_1 1 (x131002_2 ++ [(x124000_2.length : Int)])) else (none)) else (none)))) = some (r1, r2, r3, r4) := by rw [if_pos rfl] at H; exact H
         clear H
         have H := H1
         clear H1
         replace H := Option.bind_eq_some_iff.mp H
         obtain ⟨⟨t134, t135, t136⟩, A270, H⟩ := H
         replace H : ((spec_l00Src_among.f s0_0 t135 t136 (([1, 1, 2, 3, t134] : List Int))).bind fun bt140 => (if x124000_2.length < 8796093022208 then (if x131002_2.length < 17592186044416 then (spec_l06Draw.l1 kj18 x4_1 x5_1 x6_1 (wrap64 (x8_2 - 1)) s0_0 bt140.2.1 bt140.2.2 (x124000_2 ++ [(⟨(x124000_2.length : Int), bt140.1⟩ : S34)]) x124001_1 x4_1 1 (x131002_2 ++ [(x124000_2.length : Int)])) else (none)) else (none))) = some (r1, r2, r3, r4) := H
         have A27 := Aside0.mk A270
         clear A270
         obtain ⟨y137, hy137⟩ : ∃ y_ : List Int, y_ = (([1, 1, 2, 3, t134] : List Int)) := ⟨_, rfl⟩
         replace H : ((spec_l00Src_among.f s0_0 t135 t136 y137).bind fun bt140 => (if x124000_2.length < 8796093022208 then (if x131002_2.length < 17592186044416 then (spec_l06Draw.l1 kj18 x4_1 x5_1 x6_1 (wrap64 (x8_2 - 1)) s0_0 bt140.2.1 bt140.2.2 (x124000_2 ++ [(⟨(x124000_2.length : Int), bt140.1⟩ : S34)]) x124001_1 x4_1 1 (x131002_2 ++ [(x124000_2.length : Int)])) else (none)) else (none))) = some (r1, r2, r3, r4) := by first | (rw [hy137]; with_reducible exact H) | (have H2_ := (Option.bind_some _ _).symm.trans H; rw [hy137]; with_reducible exact H2_) | (have H2_ := (Option.bind_some _ _).symm.trans H; with_reducible exact H2_) | with_reducible exact H | (rw [hy137]; exact H) | exact H
         have Ny137 := Aside0.mk hy137
         clear hy137
         replace H := Option.bind_eq_some_iff.mp H
         obtain ⟨⟨t140, t141, t142⟩, A280, H⟩ := H
         replace H : (if x124000_2.length < 8796093022208 then (if x131002_2.length < 17592186044416 then (spec_l06Draw.l1 kj18 x4_1 x5_1 x6_1 (wrap64 (x8_2 - 1)) s0_0 t141 t142 (x124000_2 ++ [(⟨(x124000_2.length : Int), t140⟩ : S34)]) x124001_1 x4_1 1 (x131002_2 ++ [(x124000_2.length : Int)])) else (none)) else (none)) = some (r1, r2, r3, r4) := H
         have A28 := Aside0.mk A280
         clear A280
         by_cases c29 : x124000_2.length < 8796093022208
         ·rw [if_pos c29] at H
          have LMc29 := Aside0.mk c29
          clear c29
          obtain ⟨y143, hy143⟩ : ∃ y_ : List (S34), y_ = (x124000_2 ++ [(⟨(x124000_2.length : Int), t140⟩ : S34)]) := ⟨_, rfl⟩
          replace H : (if x131002_2.length < 17592186044416 then (spec_l06Draw.l1 kj18 x4_1 x5_1 x6_1 (wrap64 (x8_2 - 1)) s0_0 t141 t142 y143 x124001_1 x4_1 1 (x131002_2 ++ [(x124000_2.length : Int)])) else (none)) = some (r1, r2, r3, r4) := by first | (rw [hy143]; with_reducible exact H) | (have H2_ := (Option.bind_some _ _).symm.trans H; rw [hy143]; with_reducible exact H2_) | (have H2_ := (Option.bind_some _ _).symm.trans H; with_reducible exact H2_) | with_reducible exact H | (rw [hy143]; exact H) | exact H
          have Ny143 := Aside0.mk hy143
          clear hy143
          by_cases c30 : x131002_2.length < 17592186044416
          ·rw [if_pos c30] at H
           have LMc30 := Aside0.mk c30
           clear c30
           obtain ⟨y146, hy146⟩ : ∃ y_ : List Int, y_ = (x131002_2 ++ [(x124000_2.length : Int)]) := ⟨_, rfl⟩
           replace H : (spec_l06Draw.l1 kj18 x4_1 x5_1 x6_1 (wrap64 (x8_2 - 1)) s0_0 t141 t142 y143 x124001_1 x4_1 1 y146) = some (r1, r2, r3, r4) := by first | (rw [hy146]; with_reducible exact H) | (have H2_ := (Option.bind_some _ _).symm.trans H; rw [hy146]; with_reducible exact H2_) | (have H2_ := (Option.bind_some _ _).symm.trans H; with_reducible exact H2_) | with_reducible exact H | (rw [hy146]; exact H) | exact H
           have Ny146 := Aside0.mk hy146
           clear hy146
           have H' := Aside0.mk H
           clear H
           have hnb31 := NB123_122.out
           have hnc31 := NB122_123.out
           have hnb32 := NB123_130.out
           have hnc32 := NB130_123.out
           have hnb33 := NB123_0.out
           have hnc33 := NB0_123.out
           have hcz34_0 : wc.cell? ⟨gb123, 0, none⟩ = some (u124000) := (blk_cell BK123.out 0).trans rfl
           have hcz34_1 : wc.cell? ⟨gb123, 1, none⟩ = some (u124001) := (blk_cell BK123.out 1).trans rfl
           have hfz34_0 := blk_frozen BK123.out 0
           have hfz34_1 := blk_frozen BK123.out 1
           obtain ⟨Ao35, co35, eo35⟩ := Kd.R_slice HO_124000.out
           subst eo35
           try go_wp2
           have n0_ := Aside0.mk (Kd.R_drew HO_5.out)
           have n1_ := Aside0.mk (Kd.R_drew HO_124000.out)
           have n2_ := Aside0.mk (Kd.S_drew HO_124001.out)
           have n3_ := Aside0.mk (Kd.R_drew HO_131002.out)
           have n4_ := Aside0.mk (blk_drew BK122.out)
           have n5_ := Aside0.mk (blk_drew BK123.out)
           have n6_ := Aside0.mk (blk_drew BK130.out)
           have n7_ := Aside0.mk (IsS68.drew HI0.out)
           have n8_ := Aside0.mk (keep_drew HK.out)
           have n9_ := Aside0.mk (below_drew1 HB.out)
           clear HO_5
           clear HO_124000
           clear HO_124001
           clear HO_131002
           clear BK122
           clear BK123
           clear BK130
           clear HI0
           clear HK
           clear HB
           have HO_5 := n0_
           have HO_124000 := n1_
           have HO_124001 := n2_
           have HO_131002 := n3_
           have BK122 := n4_
           have BK123 := n5_
           have BK130 := n6_
           have HI0 := n7_
           have HK := n8_
           have HB := n9_
           clear n0_ n1_ n2_ n3_ n4_ n5_ n6_ n7_ n8_ n9_
           refine start_ (n := 13) (S := fun w' => w'.cell? ⟨gb123, 0, none⟩ = some (.slice Ao35 x124000_2.length co35) ∧ w'.cell? ⟨gb123, 1, none⟩ = some (u124001)) (ds := [12]) mz22_0 (by kernel_rfl) rfl rfl ⟨(blk_cell BK123.out 0).trans rfl, (blk_cell BK123.out 1).trans rfl⟩ (fun hHeld => ?_); refine with_tabW spec_l06Draw.tab12 spec_l06Draw.bits12 (fun HT_ HW_ => ?_)
           generalize wc.drew = w36 at HO_5 HO_124000 HO_124001 HO_131002 BK122 BK123 BK130 HI0 HK HB hHeld ⊢
           refine pu_z22 0 (some 40) ?_ mz22_1 rfl rfl (any_of HT_.out (by kernel_rfl)) (fun _ _ _ h => h) (Or.inl ⟨by rfl, ?_⟩) ?_ ?_ ?_
           (rotate_left; ·(intro w'; go_simp; with_reducible rfl)); (rotate_left; ·(simp only [Act.put, pq_z22]; rfl))
           refine pu_z22 2 (some 42) ?_ mz22_2 rfl rfl (any_of HT_.out (by kernel_rfl)) (fun _ _ _ h => h) (Or.inl ⟨by rfl, ?_⟩) ?_ ?_ ?_
           (rotate_left; ·(intro w'; go_simp; with_reducible rfl)); (rotate_left; ·(simp only [Act.put, pq_z22]; rfl))
           refine pu_z22 3 (some 43) ?_ mz22_3 rfl rfl (any_of HT_.out (by kernel_rfl)) (fun _ _ _ h => h) (Or.inl ⟨by rfl, ?_⟩) ?_ ?_ ?_
           (rotate_left; ·(intro w'; go_simp; with_reducible rfl)); (rotate_left; ·(simp only [Act.put, pq_z22]; rfl))
           refine pu_z22 4 (some 44) ?_ mz22_4 rfl rfl (any_of HT_.out (by kernel_rfl)) (fun _ _ _ h => h) (Or.inl ⟨by rfl, ?_⟩) ?_ ?_ ?_
           (rotate_left; ·(intro w'; go_simp; with_reducible rfl)); (rotate_left; ·(simp only [Act.put, pq_z22]; rfl))
           refine take_ (i := 1) (N := some 41) (v := ?_) (a' := ?_) mz22_5 rfl rfl (take_ofW HT_.out HW_.out (by kernel_rfl)) (fun _ _ _ h => h) (Or.inl ⟨by rfl, ?_⟩) hHeld ?_ ?_
           (rotate_left; ·(rintro w' ⟨s0, s1⟩; go_simp; with_reducible rfl)); (rotate_left; ·(simp only [Act.put, pq_z22]; rfl))
           refine one_ (i := 5) (N := some 45) mz22_6 rfl rfl (one_of HT_.out (by kernel_rfl)) (by decide) (fun K hK => ?_)
           refine goes_ Try.func36 (by kernel_rfl) rfl #[.pointer (some ⟨g, 0, none⟩), .int .i64 9] (by rfl) rfl rfl (by (try simp only [List.map_toArray, List.map_cons, List.map_nil]); first | done | rfl | (simp only [List.length_drop, List.length_take]; rfl)) ?_
           with_reducible refine (spec_l00Src_pick.calls g s0_0 x1001_2 x1002_2 9 t134 t135 t136 w0 _ ?side1 ?side2 A27.out).mono ?_
           (case side1 => repeat (first | (with_reducible first | exact HI0.out | apply IsS68.alloc | apply IsS68.drewN | apply IsS68.drew | apply IsS68.set_1 | apply IsS68.set_2 | refine IsS68.far ?_ NB0_122.out _ | refine IsS68.far ?_ NB0_123.out _ | refine IsS68.far ?_ NB0_130.out _) | exact HI0.out))
           (case side2 => repeat (first | (with_reducible first | exact HB.out | apply below_alloc | apply pw_below_drewN | apply below_drew1 | refine below_set ?_ (IsS68.ge HI0.out) | refine below_set ?_ GE122.out | refine below_set ?_ GE123.out | refine below_set ?_ GE130.out) | exact HB.out))
           rintro e w37 ⟨rfl, hi, hb, hk⟩
           refine ⟨_, rfl, ?_⟩
           have n0_ := Aside0.mk (Kd.R_mono (Kd.R_keep (IsS68.apart (show IsS68 w0 _ g s0_0 x1001_2 x1002_2 from by repeat (first | (with_reducible first | exact HI0.out | apply IsS68.alloc | apply IsS68.drewN | apply IsS68.drew | apply IsS68.set_1 | apply IsS68.set_2 | refine IsS68.far ?_ NB0_122.out _ | refine IsS68.far ?_ NB0_123.out _ | refine IsS68.far ?_ NB0_130.out _) | exact HI0.out)) (by (with_reducible repeat (first | apply Kd.R_alloc | apply Kd.R_drewN | apply Kd.R_drew)); exact HO_5.out) (by decide)) hk (fun _ h => h.2)) (fun _ h => h.1))
           have n1_ := Aside0.mk (Kd.R_mono (Kd.R_keep (IsS68.apart (show IsS68 w0 _ g s0_0 x1001_2 x1002_2 from by repeat (first | (with_reducible first | exact HI0.out | apply IsS68.alloc | apply IsS68.drewN | apply IsS68.drew | apply IsS68.set_1 | apply IsS68.set_2 | refine IsS68.far ?_ NB0_122.out _ | refine IsS68.far ?_ NB0_123.out _ | refine IsS68.far ?_ NB0_130.out _) | exact HI0.out)) (by (with_reducible repeat (first | apply Kd.R_alloc | apply Kd.R_drewN | apply Kd.R_drew)); exact HO_124000.out) (by decide)) hk (fun _ h => h.2)) (fun _ h => h.1))
           have n2_ := Aside0.mk (Kd.S_mono (Kd.S_keep (IsS68.apartS (show IsS68 w0 _ g s0_0 x1001_2 x1002_2 from by repeat (first | (with_reducible first | exact HI0.out | apply IsS68.alloc | apply IsS68.drewN | apply IsS68.drew | apply IsS68.set_1 | apply IsS68.set_2 | refine IsS68.far ?_ NB0_122.out _ | refine IsS68.far ?_ NB0_123.out _ | refine IsS68.far ?_ NB0_130.out _) | exact HI0.out)) (by (with_reducible repeat (first | apply Kd.S_alloc | apply Kd.S_drewN | apply Kd.S_drew)); exact HO_124001.out) (by decide)) hk (fun _ h => h.2)) (fun _ h => h.1))
           have n3_ := Aside0.mk (Kd.R_mono (Kd.R_keep (IsS68.apart (show IsS68 w0 _ g s0_0 x1001_2 x1002_2 from by repeat (first | (with_reducible first | exact HI0.out | apply IsS68.alloc | apply IsS68.drewN | apply IsS68.drew | apply IsS68.set_1 | apply IsS68.set_2 | refine IsS68.far ?_ NB0_122.out _ | refine IsS68.far ?_ NB0_123.out _ | refine IsS68.far ?_ NB0_130.out _) | exact HI0.out)) (by (with_reducible repeat (first | apply Kd.R_alloc | apply Kd.R_drewN | apply Kd.R_drew)); exact HO_131002.out) (by decide)) hk (fun _ h => h.2)) (fun _ h => h.1))
           have n4_ := Aside0.mk (KeepBut.blk hk (g' := gb122) (o := .cells #[.slice none 0 0, .slice none 0 0] 26 (0, 0)) (by (with_reducible repeat first | apply blk_drewN | apply blk_drew | apply blk_alloc); exact BK122.out) NB122_0.out (by simp))
           have n5_ := Aside0.mk (KeepBut.blk hk (g' := gb123) (o := .cells #[.slice Ao35 x124000_2.length co35, u124001] 26 (0, 0)) (by (with_reducible repeat first | apply blk_drewN | apply blk_drew | apply blk_alloc); exact BK123.out) NB123_0.out (by simp))
           have n6_ := Aside0.mk (KeepBut.blk hk (g' := gb130) (o := .cells #[.int .i64 x4_1, .int .i64 1, u131002] 70 (0, 0)) (by (with_reducible repeat first | apply blk_drewN | apply blk_drew | apply blk_alloc); exact BK130.out) NB130_0.out (by simp))
           have n7_ := Aside0.mk (KeepBut.trans (by repeat (first | (with_reducible first | exact HK.out | apply KeepBut.set_ | apply keep_drewN | apply keep_drew | apply keep_alloc | refine keep_far ?_ GW122.out _ | refine keep_far ?_ GW123.out _ | refine keep_far ?_ GW130.out _) | exact HK.out)) hk (.inl rfl))
           have n8_ := Aside0.mk (hb)
           have n9_ := Aside0.mk (hi)
           clear HO_5
           clear HO_124000
           clear HO_124001
           clear HO_131002
           clear BK122
           clear BK123
           clear BK130
           clear HK
           clear HB
           clear HI0
           have HO_5 := n0_
           have HO_124000 := n1_
           have HO_124001 := n2_
           have HO_131002 := n3_
           have BK122 := n4_
           have BK123 := n5_
           have BK130 := n6_
           have HK := n7_
           have HB := n8_
           have HI0 := n9_
           clear n0_ n1_ n2_ n3_ n4_ n5_ n6_ n7_ n8_ n9_
           (try clear hb)
           (try clear hb2)
           (try clear hk)
           (try clear hi)
           refine hK.out _ _ ⟨(blk_cell BK123.out 0).trans rfl, (blk_cell BK123.out 1).trans rfl⟩ (fun hHeld => ?_)
           clear hK K
           refine norm_ (a' := ?_) ?_ ?_
           (rotate_left; ·(show Act.put _ (some 45) _ = _; simp only [Act.put, pq_z22]; rfl))
           refine one_ (i := 6) (N := some 46) mz22_7 rfl rfl (one_of HT_.out (by kernel_rfl)) (by decide) (fun K hK => ?_)
           refine Kd.R_lit_step (Kd.int .i64) _ 2 ?hg (N := 46) ?hd (xs := ([1, 1, 2, 3, t134] : List Int)) (inner := [.int .i64 1, .int .i64 1, .int .i64 2, .int .i64 3, .int .i64 t134]) (ok := fun _ => True) (okp := fun _ => True) ?hr ?hp (fun _ hk => hk) trivial (Below.refl _ _) (Nat.le_refl _) (by simp) ?_; (case hd => rfl); (case hg => rfl); (case hr => first | (go_simp; done) | (go_simp; rfl)); (case hp => exact (Reps.one (show Kd.M (Kd.int .i64) _ _ _ 1 [.int .i64 1] from rfl) (Reps.one (show Kd.M (Kd.int .i64) _ _ _ 1 [.int .i64 1] from rfl) (Reps.one (show Kd.M (Kd.int .i64) _ _ _ 2 [.int .i64 2] from rfl) (Reps.one (show Kd.M (Kd.int .i64) _ _ _ 3 [.int .i64 3] from rfl) (Reps.one (show Kd.M (Kd.int .i64) _ _ _ t134 [.int .i64 t134] from rfl) (Reps.none _ _)))))))
           intro v138 w38 ho39 hb hg_ hnew_
           clear hg_ hnew_
           (first | rw [← Ny137.out] at ho39 | (simp only [Int.reduceToNat] at ho39; rw [← Ny137.out] at ho39))
           have n0_ := Aside0.mk (Kd.R_elder' (by (with_reducible repeat (first | apply Kd.R_alloc | apply Kd.R_drewN | apply Kd.R_drew)); exact HO_5.out) (Kd.R_base ho39) hb)
           have n1_ := Aside0.mk (Kd.R_below (by (with_reducible repeat (first | apply Kd.R_alloc | apply Kd.R_drewN | apply Kd.R_drew)); exact HO_124000.out) hb)
           have n2_ := Aside0.mk (Kd.S_elder' (by (with_reducible repeat (first | apply Kd.S_alloc | apply Kd.S_drewN | apply Kd.S_drew)); exact HO_124001.out) (Kd.R_base ho39) hb)
           have n3_ := Aside0.mk (Kd.R_elder' (by (with_reducible repeat (first | apply Kd.R_alloc | apply Kd.R_drewN | apply Kd.R_drew)); exact HO_131002.out) (Kd.R_base ho39) hb)
           have n4_ := Aside0.mk (Kd.R_lower (Kd.R_new' (Kd.R_new' ho39 (Kd.R_lt (by (with_reducible repeat (first | apply Kd.R_alloc | apply Kd.R_drewN | apply Kd.R_drew)); exact HO_5.out))) (Kd.R_lt (by (with_reducible repeat (first | apply Kd.R_alloc | apply Kd.R_drewN | apply Kd.R_drew)); exact HO_131002.out))) (keep_size (w := w) (g := g) (row := none) (by repeat (first | (with_reducible first | exact HK.out | apply KeepBut.set_ | apply keep_drewN | apply keep_drew | apply keep_alloc | refine keep_far ?_ GW122.out _ | refine keep_far ?_ GW123.out _ | refine keep_far ?_ GW130.out _) | exact HK.out))))
           have n5_ := Aside0.mk (blk_below (g := gb122) (o := .cells #[.slice none 0 0, .slice none 0 0] 26 (0, 0)) (by (with_reducible repeat first | apply blk_drewN | apply blk_drew | apply blk_alloc); exact BK122.out) hb)
           have n6_ := Aside0.mk (blk_below (g := gb123) (o := .cells #[.slice Ao35 x124000_2.length co35, u124001] 26 (0, 0)) (by (with_reducible repeat first | apply blk_drewN | apply blk_drew | apply blk_alloc); exact BK123.out) hb)
           have n7_ := Aside0.mk (blk_below (g := gb130) (o := .cells #[.int .i64 x4_1, .int .i64 1, u131002] 70 (0, 0)) (by (with_reducible repeat first | apply blk_drewN | apply blk_drew | apply blk_alloc); exact BK130.out) hb)
           have n8_ := Aside0.mk (IsS68.below (by repeat (first | (with_reducible first | exact HI0.out | apply IsS68.alloc | apply IsS68.drewN | apply IsS68.drew | apply IsS68.set_1 | apply IsS68.set_2 | refine IsS68.far ?_ NB0_122.out _ | refine IsS68.far ?_ NB0_123.out _ | refine IsS68.far ?_ NB0_130.out _) | exact HI0.out)) hb)
           have n9_ := Aside0.mk (KeepBut.trans (by repeat (first | (with_reducible first | exact HK.out | apply KeepBut.set_ | apply keep_drewN | apply keep_drew | apply keep_alloc | refine keep_far ?_ GW122.out _ | refine keep_far ?_ GW123.out _ | refine keep_far ?_ GW130.out _) | exact HK.out)) (KeepBut.of_below hb g none) (.inl rfl))
           have n10_ := Aside0.mk (below_step (by repeat (first | (with_reducible first | exact HB.out | apply below_alloc | apply pw_below_drewN | apply below_drew1 | refine below_set ?_ (IsS68.ge HI0.out) | refine below_set ?_ GE122.out | refine below_set ?_ GE123.out | refine below_set ?_ GE130.out) | exact HB.out)) hb)
           clear HO_5
           clear HO_124000
           clear HO_124001
           clear HO_131002
           clear BK122
           clear BK123
           clear BK130
           clear HI0
           clear HK
           clear HB
           have HO_5 := n0_
           have HO_124000 := n1_
           have HO_124001 := n2_
           have HO_131002 := n3_
           have HO139 := n4_
           have BK122 := n5_
           have BK123 := n6_
           have BK130 := n7_
           have HI0 := n8_
           have HK := n9_
           have HB := n10_
           clear n0_ n1_ n2_ n3_ n4_ n5_ n6_ n7_ n8_ n9_ n10_
           clear hb ho39
           obtain ⟨Ao40, co40, eo40⟩ := Kd.R_slice HO139.out
           (first | subst eo40 | (injection eo40 with f1_ f2_ f3_; have f4_ := f1_.symm; have f5_ := f3_.symm; clear f1_ f2_ f3_; subst f4_; subst f5_))
           refine hK.out _ _ ⟨(blk_cell BK123.out 0).trans rfl, (blk_cell BK123.out 1).trans rfl⟩ (fun hHeld => ?_)
           clear hK K
           refine norm_ (a' := ?_) ?_ ?_
           (rotate_left; ·(show Act.put _ (some 46) _ = _; simp only [Act.put, pq_z22]; rfl))
           refine one_ (i := 7) (N := some 47) mz22_8 rfl rfl (one_of HT_.out (by kernel_rfl)) (by decide) (fun K hK => ?_)
           refine goes_ Try.func37 (by kernel_rfl) rfl #[.pointer (some ⟨g, 0, none⟩), .slice Ao40 y137.length co40] (by rfl) rfl rfl (by (try simp only [List.map_toArray, List.map_cons, List.map_nil]); first | done | rfl | (simp only [List.length_drop, List.length_take]; rfl)) ?_
           with_reducible refine (spec_l00Src_among.calls g s0_0 t135 t136 _ _ y137 t140 t141 t142 w0 _ ?side1 ?side2 ?side3 ?side4 ?side5 A28.out).mono ?_
           (case side1 => repeat (first | (with_reducible first | exact HI0.out | apply IsS68.alloc | apply IsS68.drewN | apply IsS68.drew | apply IsS68.set_1 | apply IsS68.set_2 | refine IsS68.far ?_ NB0_122.out _ | refine IsS68.far ?_ NB0_123.out _ | refine IsS68.far ?_ NB0_130.out _) | exact HI0.out))
           (case side2 => repeat (first | (with_reducible first | exact HB.out | apply below_alloc | apply pw_below_drewN | apply below_drew1 | refine below_set ?_ (IsS68.ge HI0.out) | refine below_set ?_ GE122.out | refine below_set ?_ GE123.out | refine below_set ?_ GE130.out) | exact HB.out))
           (case side3 => repeat (first | exact (Kd.R_reads' HO139.out).2.2 | (with_reducible refine Kd.C_alloc ?_ _) | (with_reducible refine Kd.C_drewN ?_ _) | (with_reducible refine Kd.C_drew ?_)))
           (case side4 => exact (Kd.R_reads' HO139.out).2.1)
           (case side5 => exact far_slice (IsS68.own_ne HI0.out HO139.out (by decide)))
           rintro e w41 ⟨rfl, hi, hb, hk⟩
           refine ⟨_, rfl, ?_⟩
           have n0_ := Aside0.mk (Kd.R_mono (Kd.R_keep (IsS68.apart (show IsS68 w0 _ g s0_0 t135 t136 from by repeat (first | (with_reducible first | exact HI0.out | apply IsS68.alloc | apply IsS68.drewN | apply IsS68.drew | apply IsS68.set_1 | apply IsS68.set_2 | refine IsS68.far ?_ NB0_122.out _ | refine IsS68.far ?_ NB0_123.out _ | refine IsS68.far ?_ NB0_130.out _) | exact HI0.out)) (by (with_reducible repeat (first | apply Kd.R_alloc | apply Kd.R_drewN | apply Kd.R_drew)); exact HO_5.out) (by decide)) hk (fun _ h => h.2)) (fun _ h => h.1))
           have n1_ := Aside0.mk (Kd.R_mono (Kd.R_keep (IsS68.apart (show IsS68 w0 _ g s0_0 t135 t136 from by repeat (first | (with_reducible first | exact HI0.out | apply IsS68.alloc | apply IsS68.drewN | apply IsS68.drew | apply IsS68.set_1 | apply IsS68.set_2 | refine IsS68.far ?_ NB0_122.out _ | refine IsS68.far ?_ NB0_123.out _ | refine IsS68.far ?_ NB0_130.out _) | exact HI0.out)) (by (with_reducible repeat (first | apply Kd.R_alloc | apply Kd.R_drewN | apply Kd.R_drew)); exact HO_124000.out) (by decide)) hk (fun _ h => h.2)) (fun _ h => h.1))
           have n2_ := Aside0.mk (Kd.S_mono (Kd.S_keep (IsS68.apartS (show IsS68 w0 _ g s0_0 t135 t136 from by repeat (first | (with_reducible first | exact HI0.out | apply IsS68.alloc | apply IsS68.drewN | apply IsS68.drew | apply IsS68.set_1 | apply IsS68.set_2 | refine IsS68.far ?_ NB0_122.out _ | refine IsS68.far ?_ NB0_123.out _ | refine IsS68.far ?_ NB0_130.out _) | exact HI0.out)) (by (with_reducible repeat (first | apply Kd.S_alloc | apply Kd.S_drewN | apply Kd.S_drew)); exact HO_124001.out) (by decide)) hk (fun _ h => h.2)) (fun _ h => h.1))
           have n3_ := Aside0.mk (Kd.R_mono (Kd.R_keep (IsS68.apart (show IsS68 w0 _ g s0_0 t135 t136 from by repeat (first | (with_reducible first | exact HI0.out | apply IsS68.alloc | apply IsS68.drewN | apply IsS68.drew | apply IsS68.set_1 | apply IsS68.set_2 | refine IsS68.far ?_ NB0_122.out _ | refine IsS68.far ?_ NB0_123.out _ | refine IsS68.far ?_ NB0_130.out _) | exact HI0.out)) (by (with_reducible repeat (first | apply Kd.R_alloc | apply Kd.R_drewN | apply Kd.R_drew)); exact HO_131002.out) (by decide)) hk (fun _ h => h.2)) (fun _ h => h.1))
           have n4_ := Aside0.mk (KeepBut.blk hk (g' := gb122) (o := .cells #[.slice none 0 0, .slice none 0 0] 26 (0, 0)) (by (with_reducible repeat first | apply blk_drewN | apply blk_drew | apply blk_alloc); exact BK122.out) NB122_0.out (by simp))
           have n5_ := Aside0.mk (KeepBut.blk hk (g' := gb123) (o := .cells #[.slice Ao35 x124000_2.length co35, u124001] 26 (0, 0)) (by (with_reducible repeat first | apply blk_drewN | apply blk_drew | apply blk_alloc); exact BK123.out) NB123_0.out (by simp))
           have n6_ := Aside0.mk (KeepBut.blk hk (g' := gb130) (o := .cells #[.int .i64 x4_1, .int .i64 1, u131002] 70 (0, 0)) (by (with_reducible repeat first | apply blk_drewN | apply blk_drew | apply blk_alloc); exact BK130.out) NB130_0.out (by simp))
           have n7_ := Aside0.mk (Kd.R_mono (Kd.R_keep (IsS68.apart (show IsS68 w0 _ g s0_0 t135 t136 from by repeat (first | (with_reducible first | exact HI0.out | apply IsS68.alloc | apply IsS68.drewN | apply IsS68.drew | apply IsS68.set_1 | apply IsS68.set_2 | refine IsS68.far ?_ NB0_122.out _ | refine IsS68.far ?_ NB0_123.out _ | refine IsS68.far ?_ NB0_130.out _) | exact HI0.out)) (by (with_reducible repeat (first | apply Kd.R_alloc | apply Kd.R_drewN | apply Kd.R_drew)); exact HO139.out) (by decide)) hk (fun _ h => h.2)) (fun _ h => h.1))
           have n8_ := Aside0.mk (KeepBut.trans (by repeat (first | (with_reducible first | exact HK.out | apply KeepBut.set_ | apply keep_drewN | apply keep_drew | apply keep_alloc | refine keep_far ?_ GW122.out _ | refine keep_far ?_ GW123.out _ | refine keep_far ?_ GW130.out _) | exact HK.out)) hk (.inl rfl))
           have n9_ := Aside0.mk (hb)
           have n10_ := Aside0.mk (hi)
           clear HO_5
           clear HO_124000
           clear HO_124001
           clear HO_131002
           clear BK122
           clear BK123
           clear BK130
           clear HO139
           clear HK
           clear HB
           clear HI0
           have HO_5 := n0_
           have HO_124000 := n1_
           have HO_124001 := n2_
           have HO_131002 := n3_
           have BK122 := n4_
           have BK123 := n5_
           have BK130 := n6_
           have HO139 := n7_
           have HK := n8_
           have HB := n9_
           have HI0 := n10_
           clear n0_ n1_ n2_ n3_ n4_ n5_ n6_ n7_ n8_ n9_ n10_
           (try clear hb)
           (try clear hb2)
           (try clear hk)
           (try clear hi)
           refine hK.out _ _ ⟨(blk_cell BK123.out 0).trans rfl, (blk_cell BK123.out 1).trans rfl⟩ (fun hHeld => ?_)
           clear hK K
           refine norm_ (a' := ?_) ?_ ?_
           (rotate_left; ·(show Act.put _ (some 47) _ = _; simp only [Act.put, pq_z22]; rfl))
           refine pu_z22 8 (some 48) ?_ mz22_9 rfl rfl (any_of HT_.out (by kernel_rfl)) (fun _ _ _ h => h) (Or.inl ⟨by rfl, ?_⟩) ?_ ?_ ?_
           (rotate_left; ·(intro w'; go_simp; with_reducible rfl)); (rotate_left; ·(simp only [Act.put, pq_z22]; rfl))
           refine one_ (i := 9) (N := some 49) mz22_10 rfl rfl (one_of HT_.out (by kernel_rfl)) (by decide) (fun K hK => ?_)
           refine value_ (w1 := ?_) (v := ?_) (by rfl) rfl ?_ ?_
           rotate_left 2
           ·go_simp
            constructor
            ·rfl
            ·rfl
           refine hK.out _ _ ⟨(blk_cell (blk_alloc BK123.out _) 0).trans rfl, (blk_cell (blk_alloc BK123.out _) 1).trans rfl⟩ (fun hHeld => ?_)
           clear hK K
           refine norm_ (a' := ?_) ?_ ?_
           (rotate_left; ·(show Act.put _ (some 49) _ = _; simp only [Act.put, pq_z22]; rfl))
           refine one_ (i := 10) (N := some 50) mz22_11 rfl rfl (one_of HT_.out (by kernel_rfl)) (by decide) (fun K hK => ?_)
           refine Kd.R_append_step k34 w.heap.size (by rfl) (.tmp 41) (.tmp 49) 23 34 (.agg #[(.int .i64 0), (.int .i64 0)]) 16 rfl Try.underlying23 info34 rfl (by decide) (by omega) (.slice Ao35 x124000_2.length co35) x124000_2 (⟨(x124000_2.length : Int), t140⟩ : S34) [.int .i64 (x124000_2.length : Int), .int .i64 t140] (fun _ => True) (fun _ => False) rfl rfl ?aP (fun _ hk => hk.elim) ?aF ?aO (Below.refl _ _) ?aS ?aL ?_
           (case aP => exact k34_mkM _ _ _ (⟨(x124000_2.length : Int), t140⟩ : S34))
           (case aF => exact (fun _ _ => trivial))
           (case aO => exact (by (with_reducible repeat (first | apply Kd.R_alloc | apply Kd.R_drewN | apply Kd.R_drew)); exact HO_124000.out))
           (case aS => exact (keep_size (w := w) (g := g) (row := none) (by repeat (first | (with_reducible first | exact HK.out | apply KeepBut.set_ | apply keep_drewN | apply keep_drew | apply keep_alloc | refine keep_far ?_ GW122.out _ | refine keep_far ?_ GW123.out _ | refine keep_far ?_ GW130.out _) | exact HK.out))))
           (case aL => have := LMc29.out; omega)
           intro v144 w42 ho hb hg hat
           rw [← Ny143.out] at ho
           have n0_ := Aside0.mk (Kd.R_over' (by (with_reducible repeat (first | apply Kd.R_alloc | apply Kd.R_drewN | apply Kd.R_drew)); exact HO_5.out) (Kd.R_typed (by (with_reducible repeat (first | apply Kd.R_alloc | apply Kd.R_drewN | apply Kd.R_drew)); exact HO_124000.out)) (by decide) hg)
           have n1_ := Aside0.mk (Kd.S_over' (by (with_reducible repeat (first | apply Kd.S_alloc | apply Kd.S_drewN | apply Kd.S_drew)); exact HO_124001.out) (Kd.R_typed (by (with_reducible repeat (first | apply Kd.R_alloc | apply Kd.R_drewN | apply Kd.R_drew)); exact HO_124000.out)) (by decide) hg)
           have n2_ := Aside0.mk (Kd.R_over' (by (with_reducible repeat (first | apply Kd.R_alloc | apply Kd.R_drewN | apply Kd.R_drew)); exact HO_131002.out) (Kd.R_typed (by (with_reducible repeat (first | apply Kd.R_alloc | apply Kd.R_drewN | apply Kd.R_drew)); exact HO_124000.out)) (by decide) hg)
           have n3_ := Aside0.mk (blk_grown (g := gb122) (o := .cells #[.slice none 0 0, .slice none 0 0] 26 (0, 0)) (by (with_reducible repeat first | apply blk_drewN | apply blk_drew | apply blk_alloc); exact BK122.out) hg (Kd.R_ne HO_124000.out BK122.out (by decide)))
           have n4_ := Aside0.mk (blk_grown (g := gb123) (o := .cells #[.slice Ao35 x124000_2.length co35, u124001] 26 (0, 0)) (by (with_reducible repeat first | apply blk_drewN | apply blk_drew | apply blk_alloc); exact BK123.out) hg (Kd.R_ne HO_124000.out BK123.out (by decide)))
           have n5_ := Aside0.mk (blk_grown (g := gb130) (o := .cells #[.int .i64 x4_1, .int .i64 1, u131002] 70 (0, 0)) (by (with_reducible repeat first | apply blk_drewN | apply blk_drew | apply blk_alloc); exact BK130.out) hg (Kd.R_ne HO_124000.out BK130.out (by decide)))
           have n6_ := Aside0.mk (IsS68.grown (by repeat (first | (with_reducible first | exact HI0.out | apply IsS68.alloc | apply IsS68.drewN | apply IsS68.drew | apply IsS68.set_1 | apply IsS68.set_2 | refine IsS68.far ?_ NB0_122.out _ | refine IsS68.far ?_ NB0_123.out _ | refine IsS68.far ?_ NB0_130.out _) | exact HI0.out)) hg (IsS68.own_ne HI0.out HO_124000.out (by decide)))
           have n7_ := Aside0.mk (Kd.R_over' (by (with_reducible repeat (first | apply Kd.R_alloc | apply Kd.R_drewN | apply Kd.R_drew)); exact HO139.out) (Kd.R_typed (by (with_reducible repeat (first | apply Kd.R_alloc | apply Kd.R_drewN | apply Kd.R_drew)); exact HO_124000.out)) (by decide) hg)
           have n8_ := Aside0.mk (below_weaken (by repeat (first | (with_reducible first | exact HB.out | apply below_alloc | apply pw_below_drewN | apply below_drew1 | refine below_set ?_ (IsS68.ge HI0.out) | refine below_set ?_ GE122.out | refine below_set ?_ GE123.out | refine below_set ?_ GE130.out) | exact HB.out)) HL.out hb)
           have n9_ := Aside0.mk (KeepBut.trans (by repeat (first | (with_reducible first | exact HK.out | apply KeepBut.set_ | apply keep_drewN | apply keep_drew | apply keep_alloc | refine keep_far ?_ GW122.out _ | refine keep_far ?_ GW123.out _ | refine keep_far ?_ GW130.out _) | exact HK.out)) (KeepBut.of_grown hg g) (Kd.R_base2 HO_124000.out))
           have n10_ := Aside0.mk (ho)
           clear HO_5
           clear HO_124001
           clear HO_131002
           clear BK122
           clear BK123
           clear BK130
           clear HI0
           clear HO139
           clear HB
           clear HK
           clear HO_124000
           have HO_5 := n0_
           have HO_124001 := n1_
           have HO_131002 := n2_
           have BK122 := n3_
           have BK123 := n4_
           have BK130 := n5_
           have HI0 := n6_
           have HO139 := n7_
           have HB := n8_
           have HK := n9_
           have HO145 := n10_
           clear n0_ n1_ n2_ n3_ n4_ n5_ n6_ n7_ n8_ n9_ n10_
           clear ho hb hg hat
           obtain ⟨Ao43, co43, eo43⟩ := Kd.R_slice HO145.out
           (first | subst eo43 | (injection eo43 with f1_ f2_ f3_; have f4_ := f1_.symm; have f5_ := f3_.symm; clear f1_ f2_ f3_; subst f4_; subst f5_))
           refine hK.out _ _ ⟨(blk_cell BK123.out 0).trans rfl, (blk_cell BK123.out 1).trans rfl⟩ (fun hHeld => ?_)
           clear hK K
           refine norm_ (a' := ?_) ?_ ?_
           (rotate_left; ·(show Act.put _ (some 50) _ = _; simp only [Act.put, pq_z22]; rfl))
           refine pu_z22 11 (some 51) ?_ mz22_12 rfl rfl (any_of HT_.out (by kernel_rfl)) (fun _ _ _ h => h) (Or.inl ⟨by rfl, ?_⟩) ?_ ?_ ?_
           (rotate_left; ·(intro w'; go_simp; with_reducible rfl)); (rotate_left; ·(simp only [Act.put, pq_z22]; rfl))
           refine last_ (i := 12) (N := none) mz22_13 rfl rfl (one_of HT_.out (by kernel_rfl)) (by decide) (fun K hK => ?_)
           have hs44 : w42.cell? ⟨gb123, 0, none⟩ = some (.slice Ao35 x124000_2.length co35) := (blk_cell BK123.out 0).trans rfl
           have hfs44 := blk_frozen BK123.out 0
           have hns44_0 := NB122_123.out
           have hns44_2 := NB130_123.out
           have hms44_0 := NB123_122.out
           have hms44_2 := NB123_130.out
           refine skip_ (w1 := ?_) (by rfl) rfl ?_ ?_
           rotate_left
           ·go_simp
            rfl
           refine hK.out _ _ ?_
           clear hK K
           refine done_ (done_of HT_.out (by kernel_rfl)) ?_
           have hnb45 := NB130_122.out
           have hnc45 := NB122_130.out
           have hnb46 := NB130_0.out
           have hnc46 := NB0_130.out
           have m0_ := Aside0.mk (Kd.R_mono (Kd.R_far (p := ⟨gb123, 0, none⟩) (Kd.R_types HO_5.out BK123.out (by decide)) (fun _ hk => hk.2) (.slice Ao43 y143.length co43)) (fun _ h_ => h_.1))
           have m1_ := Aside0.mk (Kd.R_mono (Kd.R_far (p := ⟨gb123, 0, none⟩) (Kd.R_types HO139.out BK123.out (by decide)) (fun _ hk => hk.2) (.slice Ao43 y143.length co43)) (fun _ h_ => h_.1))
           have m2_ := Aside0.mk (Kd.R_mono (Kd.R_far (p := ⟨gb123, 0, none⟩) (Kd.R_types HO_131002.out BK123.out (by decide)) (fun _ hk => hk.2) (.slice Ao43 y143.length co43)) (fun _ h_ => h_.1))
           have m3_ := Aside0.mk (Kd.R_mono (Kd.R_far (p := ⟨gb123, 0, none⟩) (Kd.R_types HO145.out BK123.out (by decide)) (fun _ hk => hk.2) (.slice Ao43 y143.length co43)) (fun _ h_ => h_.1))
           have m4_ := Aside0.mk (Kd.S_mono (Kd.S_far (p := ⟨gb123, 0, none⟩) (Kd.S_types HO_124001.out BK123.out (by decide)) (fun _ hk => hk.2) (.slice Ao43 y143.length co43)) (fun _ h_ => h_.1))
           have m5_ := Aside0.mk (blk_far (p := ⟨gb123, 0, none⟩) BK122.out NB122_123.out (.slice Ao43 y143.length co43))
           have m6_ := Aside0.mk (blk_far (p := ⟨gb123, 0, none⟩) BK130.out NB130_123.out (.slice Ao43 y143.length co43))
           have m7_ := Aside0.mk (show (w42.setCell ⟨gb123, 0, none⟩ (.slice Ao43 y143.length co43)).heap[gb123]? = some (.cells #[.slice Ao43 y143.length co43, u124001] 26 (0, 0)) from blk_put (cs := #[.slice Ao35 x124000_2.length co35, u124001]) BK123.out 0 _ rfl)
           have m8_ := Aside0.mk (IsS68.far (p := ⟨gb123, 0, none⟩) HI0.out NB0_123.out (.slice Ao43 y143.length co43))
           have m9_ := Aside0.mk (below_set (v := (.slice Ao43 y143.length co43)) (j := 0) HB.out GE123.out)
           have m10_ := Aside0.mk (keep_far (p := ⟨gb123, 0, none⟩) HK.out GW123.out (.slice Ao43 y143.length co43))
           clear HO_5 HO139 HO_131002 HO145 HO_124001 BK122 BK130 BK123 HI0 HB HK
           generalize (w42.setCell ⟨gb123, 0, none⟩ (.slice Ao43 y143.length co43)) = wz42 at m0_ m1_ m2_ m3_ m4_ m5_ m6_ m7_ m8_ m9_ m10_ ⊢
           have HO_5 := m0_
           have HO139 := m1_
           have HO_131002 := m2_
           have HO145 := m3_
           have HO_124001 := m4_
           have BK122 := m5_
           have BK130 := m6_
           have BK123 := m7_
           have HI0 := m8_
           have HB := m9_
           have HK := m10_
           clear m0_ m1_ m2_ m3_ m4_ m5_ m6_ m7_ m8_ m9_ m10_
           have hcz_2 := (blk_cell BK130.out 2).trans rfl
           have hfz_2 := blk_frozen BK130.out 2
           go_wp2_with (first | ((with_reducible refine gate_builtin (b := .append) (xs := #[.tmp 53, .tmp 55]) rfl ?_); at_builtin; refine Kd.R_append (Kd.int .i64) w.heap.size rfl (.tmp 53) (.tmp 55) 36 2 (.int .i64 0) 8 rfl Try.underlying36 info2 rfl (by decide) (by omega) u131002 x131002_2 (x124000_2.length : Int) [.int .i64 (x124000_2.length : Int)] (fun k_ => some k_ ≠ (u5 : Value).ownBlock ∧ some k_ ≠ (.slice Ao40 y137.length co40 : Value).ownBlock) (fun _ => False) rfl rfl ?aP (fun _ hk => hk.elim) ?aF ?aO (Below.refl _ _) ?aS ?aL ?_; (case aP => exact rfl); (case aF => exact (fun k_ hk => ⟨Kd.fresh' (Kd.R_lt (HO_5.out)) k_ hk, Kd.fresh' (Kd.R_lt (HO139.out)) k_ hk⟩)); (case aO => exact (Kd.R_mono HO_131002.out (fun _ hk => ⟨hk.1, hk.2⟩))); (case aS => exact (keep_size HK.out)); (case aL => have := LMc30.out; omega); intro v147 w48 ho hb hg hat; rw [← Ny146.out] at ho; have n0_ := Aside0.mk (Kd.R_after (ok := (fun k_ => some k_ ≠ (.slice Ao40 y137.length co40 : Value).ownBlock)) (Kd.R_mono HO_5.out (fun _ hk => ⟨hk.2, hk.1⟩)) hg hat); have n1_ := Aside0.mk (Kd.S_after (ok := (fun k_ => some k_ ≠ (u5 : Value).ownBlock ∧ some k_ ≠ (.slice Ao40 y137.length co40 : Value).ownBlock ∧ k_ ≠ gb130)) (Kd.S_mono HO_124001.out (fun _ hk => ⟨⟨hk.1.1, ⟨hk.2, hk.1.2.2⟩⟩, hk.1.2.1⟩)) hg hat); have n2_ := Aside0.mk (blk_grown BK122.out hg (Kd.R_ne HO_131002.out BK122.out (by decide))); have n3_ := Aside0.mk (blk_grown BK123.out hg (Kd.R_ne HO_131002.out BK123.out (by decide))); have n4_ := Aside0.mk (blk_grown BK130.out hg (Kd.R_ne HO_131002.out BK130.out (by decide))); have n5_ := Aside0.mk (IsS68.grown HI0.out hg (IsS68.own_ne HI0.out HO_131002.out (by decide))); have n6_ := Aside0.mk (Kd.R_after (ok := (fun k_ => some k_ ≠ (u5 : Value).ownBlock)) (Kd.R_mono HO139.out (fun _ hk => ⟨hk.1.2, hk.2⟩)) hg hat); have n7_ := Aside0.mk (Kd.R_over' (HO145.out) (Kd.R_typed (HO_131002.out)) (by decide) hg); have n8_ := Aside0.mk (below_weaken HB.out HL.out hb); have n9_ := Aside0.mk (KeepBut.trans HK.out (KeepBut.of_grown hg g) (Kd.R_base2 HO_131002.out)); have n10_ := Aside0.mk (ho); clear HO_5; clear HO_124001; clear BK122; clear BK123; clear BK130; clear HI0; clear HO139; clear HO145; clear HB; clear HK; clear HO_131002; have HO_5 := n0_; have HO_124001 := n1_; have BK122 := n2_; have BK123 := n3_; have BK130 := n4_; have HI0 := n5_; have HO139 := n6_; have HO145 := n7_; have HB := n8_; have HK := n9_; have HO148 := n10_; clear n0_ n1_ n2_ n3_ n4_ n5_ n6_ n7_ n8_ n9_ n10_; clear ho hb hg hat; obtain ⟨Ao49, co49, eo49⟩ := Kd.R_slice HO148.out; subst eo49; have hcz50_0 : w48.cell? ⟨gb130, 0, none⟩ = some (.int .i64 x4_1) := (blk_cell BK130.out 0).trans rfl; have hcz50_1 : w48.cell? ⟨gb130, 1, none⟩ = some (.int .i64 1) := (blk_cell BK130.out 1).trans rfl; have hcz50_2 : w48.cell? ⟨gb130, 2, none⟩ = some (u131002) := (blk_cell BK130.out 2).trans rfl; have hfz50_0 := blk_frozen BK130.out 0; have hfz50_1 := blk_frozen BK130.out 1; have hfz50_2 := blk_frozen BK130.out 2))
           go_roundg kj18
           case measure => have := HK1.out; have := HK2.out; have := HJ18.out; omega
           case rel => exact ⟨(wrap64 (x8_2 - 1)), (t141), (t142), (y143), (y146), (.slice Ao43 y143.length co43), (.slice Ao49 y146.length co49), (by first | rfl | (simp; done) | (simp [*]; done)), H', ⟨by have := HK1.out; have := HK2.out; have := HJ18.out; omega⟩, ⟨by (with_reducible repeat (first | apply Kd.R_alloc | apply Kd.R_drewN | apply Kd.R_drew)); exact Kd.R_mono (Kd.R_far (p := ⟨gb130, 2, none⟩) (Kd.R_types HO_5.out BK130.out (by decide)) (fun _ hk => hk.2) (.slice Ao49 y146.length co49)) (fun _ hk => hk.1.2)⟩, ⟨by (with_reducible repeat (first | apply Kd.R_alloc | apply Kd.R_drewN | apply Kd.R_drew)); exact Kd.R_mono (Kd.R_far (p := ⟨gb130, 2, none⟩) (Kd.R_types HO145.out BK130.out (by decide)) (fun _ hk => hk.2) (.slice Ao49 y146.length co49)) (fun _ hk => trivial)⟩, ⟨by (with_reducible repeat (first | apply Kd.S_alloc | apply Kd.S_drewN | apply Kd.S_drew)); exact Kd.S_mono (Kd.S_far (p := ⟨gb130, 2, none⟩) (Kd.S_mono HO_124001.out (fun k_ hk => (⟨hk, hk.1.2.2⟩ : _ ∧ k_ ≠ gb130))) (fun _ hk => hk.2) (.slice Ao49 y146.length co49)) (fun _ hk => ⟨hk.1.1.1, ⟨hk.1.2, hk.1.1.2.2⟩⟩)⟩, ⟨by (with_reducible repeat (first | apply Kd.R_alloc | apply Kd.R_drewN | apply Kd.R_drew)); exact Kd.R_mono (Kd.R_far (p := ⟨gb130, 2, none⟩) (Kd.R_types HO148.out BK130.out (by decide)) (fun _ hk => hk.2) (.slice Ao49 y146.length co49)) (fun _ hk => hk.1.1)⟩, ⟨by (with_reducible repeat first | apply blk_drewN | apply blk_drew | apply blk_alloc); refine blk_far ?_ NB122_130.out _; (with_reducible repeat first | apply blk_drewN | apply blk_drew | apply blk_alloc); exact BK122.out⟩, ⟨by (with_reducible repeat first | apply blk_drewN | apply blk_drew | apply blk_alloc); refine blk_far ?_ NB123_130.out _; (with_reducible repeat first | apply blk_drewN | apply blk_drew | apply blk_alloc); exact BK123.out⟩, ⟨by (with_reducible repeat first | apply blk_drewN | apply blk_drew | apply blk_alloc); refine blk_put (cs := #[.int .i64 x4_1, .int .i64 1, u131002]) ?_ 2 _ rfl; (with_reducible repeat first | apply blk_drewN | apply blk_drew | apply blk_alloc); exact BK130.out⟩, ⟨by repeat (first | (with_reducible first | exact HI0.out | apply IsS68.alloc | apply IsS68.drewN | apply IsS68.drew | apply IsS68.set_1 | apply IsS68.set_2 | refine IsS68.far ?_ NB0_122.out _ | refine IsS68.far ?_ NB0_123.out _ | refine IsS68.far ?_ NB0_130.out _) | exact HI0.out)⟩, ⟨by repeat (first | (with_reducible first | exact HK.out | apply KeepBut.set_ | apply keep_drewN | apply keep_drew | apply keep_alloc | refine keep_far ?_ GW122.out _ | refine keep_far ?_ GW123.out _ | refine keep_far ?_ GW130.out _) | exact HK.out)⟩, ⟨by repeat (first | (with_reducible first | exact HB.out | apply below_alloc | apply pw_below_drewN | apply below_drew1 | refine below_set ?_ (IsS68.ge HI0.out) | refine below_set ?_ GE122.out | refine below_set ?_ GE123.out | refine below_set ?_ GE130.out) | exact HB.out)⟩⟩
          ·rw [if_neg c30] at H
           exact absurd H (by simp)
         ·rw [if_neg c29] at H
          exact absurd H (by simp)
        ·replace c26 := Bool.eq_false_iff.mpr c26
         subst c26
         have H1 : (if x124001_1.length < 3518437208883 then (if x5_1.length < 17592186044416 then (spec_l06Draw.l0 kj18 (wrap64 (x4_1 - 1)) (x5_1 ++ [x4_1]) (wrap64 (x6_1 - 1)) s0_0 x1001_2 x1002_2 x124000_2 (x124001_1 ++ [(⟨x4_1, 1, x131002_2⟩ : S70)])) else (none)) else (none)) = some (r1, r2, r3, r4) := by rw [if_neg (show ¬ (false = true) by decide)] at H; exact H
         clear H
         have H := H1
         clear H1
         by_cases c51 : x124001_1.length < 3518437208883
         ·rw [if_pos c51] at H
          have LMc51 := Aside0.mk c51
          clear c51
          obtain ⟨y149, hy149⟩ : ∃ y_ : List (S70), y_ = (x124001_1 ++ [(⟨x4_1, 1, x131002_2⟩ : S70)]) := ⟨_, rfl⟩
          replace H : (if x5_1.length < 17592186044416 then (spec_l06Draw.l0 kj18 (wrap64 (x4_1 - 1)) (x5_1 ++ [x4_1]) (wrap64 (x6_1 - 1)) s0_0 x1001_2 x1002_2 x124000_2 y149) else (none)) = some (r1, r2, r3, r4) := by first | (rw [hy149]; with_reducible exact H) | (have H2_ := (Option.bind_some _ _).symm.trans H; rw [hy149]; with_reducible exact H2_) | (have H2_ := (Option.bind_some _ _).symm.trans H; with_reducible exact H2_) | with_reducible exact H | (rw [hy149]; exact H) | exact H
          have Ny149 := Aside0.mk hy149
          clear hy149
          by_cases c52 : x5_1.length < 17592186044416
          ·rw [if_pos c52] at H
           have LMc52 := Aside0.mk c52
           clear c52
           obtain ⟨y152, hy152⟩ : ∃ y_ : List Int, y_ = (x5_1 ++ [x4_1]) := ⟨_, rfl⟩
           replace H : (spec_l06Draw.l0 kj18 (wrap64 (x4_1 - 1)) y152 (wrap64 (x6_1 - 1)) s0_0 x1001_2 x1002_2 x124000_2 y149) = some (r1, r2, r3, r4) := by first | (rw [hy152]; with_reducible exact H) | (have H2_ := (Option.bind_some _ _).symm.trans H; rw [hy152]; with_reducible exact H2_) | (have H2_ := (Option.bind_some _ _).symm.trans H; with_reducible exact H2_) | with_reducible exact H | (rw [hy152]; exact H) | exact H
           have Ny152 := Aside0.mk hy152
           clear hy152
           have H' := Aside0.mk H
           clear H
           have hnb53 := NB123_122.out
           have hnc53 := NB122_123.out
           have hnb54 := NB123_130.out
           have hnc54 := NB130_123.out
           have hnb55 := NB123_0.out
           have hnc55 := NB0_123.out
           have hcz56_0 : wc.cell? ⟨gb123, 0, none⟩ = some (u124000) := (blk_cell BK123.out 0).trans rfl
           have hcz56_1 : wc.cell? ⟨gb123, 1, none⟩ = some (u124001) := (blk_cell BK123.out 1).trans rfl
           have hfz56_0 := blk_frozen BK123.out 0
           have hfz56_1 := blk_frozen BK123.out 1
           have hnb57 := NB130_122.out
           have hnc57 := NB122_130.out
           have hnb58 := NB130_0.out
           have hnc58 := NB0_130.out
           have hcz59_0 : wc.cell? ⟨gb130, 0, none⟩ = some (.int .i64 x4_1) := (blk_cell BK130.out 0).trans rfl
           have hcz59_1 : wc.cell? ⟨gb130, 1, none⟩ = some (.int .i64 1) := (blk_cell BK130.out 1).trans rfl
           have hcz59_2 : wc.cell? ⟨gb130, 2, none⟩ = some (u131002) := (blk_cell BK130.out 2).trans rfl
           have hfz59_0 := blk_frozen BK130.out 0
           have hfz59_1 := blk_frozen BK130.out 1
           have hfz59_2 := blk_frozen BK130.out 2
           obtain ⟨Ao61, co61, eo61⟩ := Kd.R_slice HO_131002.out
           subst eo61
           go_wp2_with (first | ((with_reducible refine gate_builtin (b := .append) (xs := #[.tmp 59, .tmp 61]) rfl ?_); at_builtin; refine Kd.S_append k70 w.heap.size rfl (.tmp 59) (.tmp 61) 24 70 (.agg #[(.int .i64 0), (.int .i64 0), (.slice none 0 0)]) 40 rfl Try.underlying24 info70 rfl (by decide) (by omega) u124001 x124001_1 (⟨x4_1, 1, x131002_2⟩ : S70) [.int .i64 x4_1, .int .i64 1, .slice Ao61 x131002_2.length co61] (fun k_ => some k_ ≠ (u5 : Value).ownBlock ∧ k_ ≠ gb130) (fun k_ => some k_ = (.slice Ao61 x131002_2.length co61 : Value).ownBlock) rfl rfl ?aP (fun k_ hk_ => ((Kd.R_mono (ok' := fun k_ => ((fun k_ => some k_ ≠ (u5 : Value).ownBlock ∧ k_ ≠ gb130)) k_ ∧ some k_ ≠ (u124001 : Value).ownBlock) (Kd.R_types (Kd.R_apart' (HO_131002.out) (Kd.S_typed HO_124001.out) (by decide)) BK130.out (by decide)) (fun k_ hk => ⟨⟨hk.1.1, hk.2⟩, hk.1.2⟩))).1 k_ hk_.symm) ?aF ?aO (Below.refl _ _) ?aS ?aL ?_; (case aP => exact k70_mkM _ _ _ (⟨x4_1, 1, x131002_2⟩ : S70) (Kd.R_mono (Kd.R_tight rfl (Kd.R_mono (ok' := fun k_ => ((fun k_ => some k_ ≠ (u5 : Value).ownBlock ∧ k_ ≠ gb130)) k_ ∧ some k_ ≠ (u124001 : Value).ownBlock) (Kd.R_types (Kd.R_apart' (HO_131002.out) (Kd.S_typed HO_124001.out) (by decide)) BK130.out (by decide)) (fun k_ hk => ⟨⟨hk.1.1, hk.2⟩, hk.1.2⟩))) (fun _ h_ => h_))); (case aF => exact (fun k_ hk => ⟨Kd.fresh' (Kd.R_lt (by (with_reducible repeat (first | apply Kd.R_alloc | apply Kd.R_drewN | apply Kd.R_drew)); exact HO_5.out)) k_ hk, Kd.freshB (g := gb130) (o := .cells #[.int .i64 x4_1, .int .i64 1, .slice Ao61 x131002_2.length co61] 70 (0, 0)) (by (with_reducible repeat first | apply blk_drewN | apply blk_drew | apply blk_alloc); exact BK130.out) k_ hk⟩)); (case aO => exact (by (with_reducible repeat (first | apply Kd.S_alloc | apply Kd.S_drewN | apply Kd.S_drew)); exact Kd.S_mono HO_124001.out (fun k_ hk => ⟨⟨hk.1, hk.2.2⟩, fun e_ => hk.2.1 e_⟩))); (case aS => exact (keep_size (w := w) (g := g) (row := none) (by repeat (first | (with_reducible first | exact HK.out | apply KeepBut.set_ | apply keep_drewN | apply keep_drew | apply keep_alloc | refine keep_far ?_ GW122.out _ | refine keep_far ?_ GW123.out _ | refine keep_far ?_ GW130.out _) | exact HK.out)))); (case aL => have := LMc51.out; omega); intro v150 w60 ho hb hg hat; rw [← Ny149.out] at ho; have n0_ := Aside0.mk (Kd.R_over' (by (with_reducible repeat (first | apply Kd.R_alloc | apply Kd.R_drewN | apply Kd.R_drew)); exact HO_5.out) (Kd.S_typed (by (with_reducible repeat (first | apply Kd.S_alloc | apply Kd.S_drewN | apply Kd.S_drew)); exact HO_124001.out)) (by decide) hg); have n1_ := Aside0.mk (Kd.R_over' (by (with_reducible repeat (first | apply Kd.R_alloc | apply Kd.R_drewN | apply Kd.R_drew)); exact HO_124000.out) (Kd.S_typed (by (with_reducible repeat (first | apply Kd.S_alloc | apply Kd.S_drewN | apply Kd.S_drew)); exact HO_124001.out)) (by decide) hg); have n2_ := Aside0.mk (blk_grown (g := gb122) (o := .cells #[.slice none 0 0, .slice none 0 0] 26 (0, 0)) (by (with_reducible repeat first | apply blk_drewN | apply blk_drew | apply blk_alloc); exact BK122.out) hg (Kd.S_ne HO_124001.out BK122.out (by decide))); have n3_ := Aside0.mk (blk_grown (g := gb123) (o := .cells #[u124000, u124001] 26 (0, 0)) (by (with_reducible repeat first | apply blk_drewN | apply blk_drew | apply blk_alloc); exact BK123.out) hg (Kd.S_ne HO_124001.out BK123.out (by decide))); have n4_ := Aside0.mk (blk_grown (g := gb130) (o := .cells #[.int .i64 x4_1, .int .i64 1, .slice Ao61 x131002_2.length co61] 70 (0, 0)) (by (with_reducible repeat first | apply blk_drewN | apply blk_drew | apply blk_alloc); exact BK130.out) hg (Kd.S_away HO_124001.out (fun _ hk => hk.2.2))); have n5_ := Aside0.mk (IsS68.grown (by repeat (first | (with_reducible first | exact HI0.out | apply IsS68.alloc | apply IsS68.drewN | apply IsS68.drew | apply IsS68.set_1 | apply IsS68.set_2 | refine IsS68.far ?_ NB0_122.out _ | refine IsS68.far ?_ NB0_123.out _ | refine IsS68.far ?_ NB0_130.out _) | exact HI0.out)) hg (IsS68.own_neS HI0.out HO_124001.out (by decide))); have n6_ := Aside0.mk (below_weaken (by repeat (first | (with_reducible first | exact HB.out | apply below_alloc | apply pw_below_drewN | apply below_drew1 | refine below_set ?_ (IsS68.ge HI0.out) | refine below_set ?_ GE122.out | refine below_set ?_ GE123.out | refine below_set ?_ GE130.out) | exact HB.out)) HL.out hb); have n7_ := Aside0.mk (KeepBut.trans (by repeat (first | (with_reducible first | exact HK.out | apply KeepBut.set_ | apply keep_drewN | apply keep_drew | apply keep_alloc | refine keep_far ?_ GW122.out _ | refine keep_far ?_ GW123.out _ | refine keep_far ?_ GW130.out _) | exact HK.out)) (KeepBut.of_grown hg g) (Kd.S_base2 HO_124001.out)); have n8_ := Aside0.mk (ho); clear HO_5; clear HO_124000; clear BK122; clear BK123; clear BK130; clear HI0; clear HB; clear HK; clear HO_124001; clear HO_131002; have HO_5 := n0_; have HO_124000 := n1_; have BK122 := n2_; have BK123 := n3_; have BK130 := n4_; have HI0 := n5_; have HB := n6_; have HK := n7_; have HO151 := n8_; clear n0_ n1_ n2_ n3_ n4_ n5_ n6_ n7_ n8_; clear ho hb hg hat; obtain ⟨Ao62, co62, eo62⟩ := Kd.S_slice HO151.out; subst eo62; have hcz63_0 : w60.cell? ⟨gb123, 0, none⟩ = some (u124000) := (blk_cell BK123.out 0).trans rfl; have hcz63_1 : w60.cell? ⟨gb123, 1, none⟩ = some (u124001) := (blk_cell BK123.out 1).trans rfl; have hfz63_0 := blk_frozen BK123.out 0; have hfz63_1 := blk_frozen BK123.out 1) | ((with_reducible refine gate_builtin (b := .append) (xs := #[.tmp 64, .tmp 66]) rfl ?_); at_builtin; have m0_ := Aside0.mk (Kd.R_mono (Kd.R_far (p := ⟨gb123, 1, none⟩) (Kd.R_types HO_5.out BK123.out (by decide)) (fun _ hk => hk.2) (.slice Ao62 y149.length co62)) (fun _ h_ => h_.1)); have m1_ := Aside0.mk (Kd.R_mono (Kd.R_far (p := ⟨gb123, 1, none⟩) (Kd.R_types HO_124000.out BK123.out (by decide)) (fun _ hk => hk.2) (.slice Ao62 y149.length co62)) (fun _ h_ => h_.1)); have m2_ := Aside0.mk (Kd.S_mono (Kd.S_far (p := ⟨gb123, 1, none⟩) (Kd.S_types HO151.out BK123.out (by decide)) (fun _ hk => hk.2) (.slice Ao62 y149.length co62)) (fun _ h_ => h_.1)); have m3_ := Aside0.mk (blk_far (p := ⟨gb123, 1, none⟩) BK122.out NB122_123.out (.slice Ao62 y149.length co62)); have m4_ := Aside0.mk (blk_far (p := ⟨gb123, 1, none⟩) BK130.out NB130_123.out (.slice Ao62 y149.length co62)); have m5_ := Aside0.mk (show (w60.setCell ⟨gb123, 1, none⟩ (.slice Ao62 y149.length co62)).heap[gb123]? = some (.cells #[u124000, .slice Ao62 y149.length co62] 26 (0, 0)) from blk_put (cs := #[u124000, u124001]) BK123.out 1 _ rfl); have m6_ := Aside0.mk (IsS68.far (p := ⟨gb123, 1, none⟩) HI0.out NB0_123.out (.slice Ao62 y149.length co62)); have m7_ := Aside0.mk (below_set (v := (.slice Ao62 y149.length co62)) (j := 1) HB.out GE123.out); have m8_ := Aside0.mk (keep_far (p := ⟨gb123, 1, none⟩) HK.out GW123.out (.slice Ao62 y149.length co62)); clear HO_5 HO_124000 HO151 BK122 BK130 BK123 HI0 HB HK; have hsz_ : (w60.setCell ⟨gb123, 1, none⟩ (.slice Ao62 y149.length co62)).heap.size = w60.heap.size := (by simp only [World.size_setCell]); generalize (w60.setCell ⟨gb123, 1, none⟩ (.slice Ao62 y149.length co62)) = wz60 at hsz_ m0_ m1_ m2_ m3_ m4_ m5_ m6_ m7_ m8_ ⊢; have HO_5 := m0_; have HO_124000 := m1_; have HO151 := m2_; have BK122 := m3_; have BK130 := m4_; have BK123 := m5_; have HI0 := m6_; have HB := m7_; have HK := m8_; clear m0_ m1_ m2_ m3_ m4_ m5_ m6_ m7_ m8_; refine Kd.R_append (Kd.int .i64) w.heap.size rfl (.tmp 64) (.tmp 66) 36 2 (.int .i64 0) 8 rfl Try.underlying36 info2 rfl (by decide) (by omega) u5 x5_1 x4_1 [.int .i64 x4_1] (fun _ => True) (fun _ => False) rfl (by first | (rw [hsz_]; done) | (rw [hsz_]; rfl)) ?aP (fun _ hk => hk.elim) ?aF ?aO (Below.refl _ _) ?aS ?aL ?_; (case aP => exact rfl); (case aF => exact (fun _ _ => trivial)); (case aO => exact (Kd.R_mono HO_5.out (fun _ hk => trivial))); (case aS => exact (keep_size HK.out)); (case aL => have := LMc52.out; omega); intro v153 w64 ho hb hg hat; rw [← Ny152.out] at ho; have n0_ := Aside0.mk (Kd.R_over' (HO_124000.out) (Kd.R_typed (HO_5.out)) (by decide) hg); have n1_ := Aside0.mk (blk_grown BK122.out hg (Kd.R_ne HO_5.out BK122.out (by decide))); have n2_ := Aside0.mk (blk_grown BK123.out hg (Kd.R_ne HO_5.out BK123.out (by decide))); have n3_ := Aside0.mk (blk_grown BK130.out hg (Kd.R_ne HO_5.out BK130.out (by decide))); have n4_ := Aside0.mk (IsS68.grown HI0.out hg (IsS68.own_ne HI0.out HO_5.out (by decide))); have n5_ := Aside0.mk (Kd.S_after (ok := (fun k_ => k_ ≠ gb130)) (Kd.S_mono HO151.out (fun _ hk => ⟨hk.2, hk.1⟩)) hg hat); have n6_ := Aside0.mk (below_weaken HB.out HL.out hb); have n7_ := Aside0.mk (KeepBut.trans HK.out (KeepBut.of_grown hg g) (Kd.R_base2 HO_5.out)); have n8_ := Aside0.mk (ho); clear HO_124000; clear BK122; clear BK123; clear BK130; clear HI0; clear HO151; clear HB; clear HK; clear HO_5; have HO_124000 := n0_; have BK122 := n1_; have BK123 := n2_; have BK130 := n3_; have HI0 := n4_; have HO151 := n5_; have HB := n6_; have HK := n7_; have HO154 := n8_; clear n0_ n1_ n2_ n3_ n4_ n5_ n6_ n7_ n8_; clear ho hb hg hat))
           go_roundg kj18
           case measure => have := HK1.out; have := HK2.out; have := HJ18.out; omega
           case rel => exact ⟨(wrap64 (x4_1 - 1)), (y152), (wrap64 (x6_1 - 1)), (x1001_2), (x1002_2), (x124000_2), (y149), (u124000), (.slice Ao62 y149.length co62), (by first | rfl | (simp; done) | (simp [*]; done)), (by first | rfl | (simp; done) | (simp [*]; done)), H', ⟨by have := HK1.out; have := HK2.out; have := HJ18.out; omega⟩, ⟨by (with_reducible repeat (first | apply Kd.R_alloc | apply Kd.R_drewN | apply Kd.R_drew)); exact HO154.out⟩, ⟨by (with_reducible repeat (first | apply Kd.R_alloc | apply Kd.R_drewN | apply Kd.R_drew)); exact HO_124000.out⟩, ⟨by (with_reducible repeat (first | apply Kd.S_alloc | apply Kd.S_drewN | apply Kd.S_drew)); exact Kd.S_mono HO151.out (fun _ hk => hk.2)⟩, ⟨by (with_reducible repeat first | apply blk_drewN | apply blk_drew | apply blk_alloc); exact BK122.out⟩, ⟨by (with_reducible repeat first | apply blk_drewN | apply blk_drew | apply blk_alloc); exact BK123.out⟩, ⟨by repeat (first | (with_reducible first | exact HI0.out | apply IsS68.alloc | apply IsS68.drewN | apply IsS68.drew | apply IsS68.set_1 | apply IsS68.set_2 | refine IsS68.far ?_ NB0_122.out _ | refine IsS68.far ?_ NB0_123.out _ | refine IsS68.far ?_ NB0_130.out _) | exact HI0.out)⟩, ⟨by repeat (first | (with_reducible first | exact HK.out | apply KeepBut.set_ | apply keep_drewN | apply keep_drew | apply keep_alloc | refine keep_far ?_ GW122.out _ | refine keep_far ?_ GW123.out _ | refine keep_far ?_ GW130.out _) | exact HK.out)⟩, ⟨by repeat (first | (with_reducible first | exact HB.out | apply below_alloc | apply pw_below_drewN | apply below_drew1 | refine below_set ?_ (IsS68.ge HI0.out) | refine below_set ?_ GE122.out | refine below_set ?_ GE123.out | refine below_set ?_ GE130.out) | exact HB.out)⟩⟩
          ·rw [if_neg c52] at H
           exact absurd H (by simp)
         ·rw [if_neg c51] at H
          exact absurd H (by simp)
   ·rw [if_neg c11] at H
    have c11b0 : decide (0 < x6_1) = false := decide_eq_false c11
    clear c11
    replace H := Option.bind_eq_some_iff.mp H
    obtain ⟨⟨t155, t156, t157⟩, A650, H⟩ := H
    replace H : (if t155 = true then (spec_l06Draw.l2 k1 x4_1 x5_1 (([] : List Int)) 0 s0_0 t156 t157 x124000_1 x124001_1) else ((spec_l00Own.f x5_1).bind fun t193 => (if x124001_1.length < 3518437208883 then (some (x124000_1, (x124001_1 ++ [(⟨x4_1, 3, t193⟩ : S70)]), t156, t157)) else (none)))) = some (r1, r2, r3, r4) := H
    have A65 := Aside0.mk A650
    clear A650
    by_cases c66 : t155 = true
    ·subst c66
     have H1 : (spec_l06Draw.l2 k1 x4_1 x5_1 (([] : List Int)) 0 s0_0 t156 t157 x124000_1 x124001_1) = some (r1, r2, r3, r4) := by rw [if_pos rfl] at H; exact H
     clear H
     have H := H1
     clear H1
     obtain ⟨y158, hy158⟩ : ∃ y_ : List Int, y_ = (([] : List Int)) := ⟨_, rfl⟩
     replace H : (spec_l06Draw.l2 k1 x4_1 x5_1 y158 0 s0_0 t156 t157 x124000_1 x124001_1) = some (r1, r2, r3, r4) := by first | (rw [hy158]; with_reducible exact H) | (have H2_ := (Option.bind_some _ _).symm.trans H; rw [hy158]; with_reducible exact H2_) | (have H2_ := (Option.bind_some _ _).symm.trans H; with_reducible exact H2_) | with_reducible exact H | (rw [hy158]; exact H) | exact H
     have Ny158 := Aside0.mk hy158
     clear hy158
     have H' := Aside0.mk H
     clear H
     go_wp2_with (first | ((with_reducible refine gate_callee (f := 38) rfl ?_); refine goesL_ (some 72) rfl rfl Try.func38 (by kernel_rfl) rfl #[.pointer (some ⟨g, 0, none⟩), .int .i64 2] rfl (by (try simp only [List.map_toArray, List.map_cons, List.map_nil]); first | done | rfl | (simp only [List.length_drop, List.length_take]; rfl)) ?_; (with_reducible refine (spec_l00Src_one.calls g s0_0 x1001_1 x1002_1 2 true t156 t157 w0 _ ?side1 ?side2 A65.out).mono ?_); (case side1 => repeat (first | (with_reducible first | exact HI0.out | apply IsS68.alloc | apply IsS68.drewN | apply IsS68.drew | apply IsS68.set_1 | apply IsS68.set_2 | refine IsS68.far ?_ NB0_122.out _ | refine IsS68.far ?_ NB0_123.out _) | exact HI0.out)); (case side2 => repeat (first | (with_reducible first | exact HB.out | apply below_alloc | apply pw_below_drewN | apply below_drew1 | refine below_set ?_ (IsS68.ge HI0.out) | refine below_set ?_ GE122.out | refine below_set ?_ GE123.out) | exact HB.out)); rintro e w67 ⟨rfl, hi, hb, hk⟩; refine ⟨_, rfl, ?_⟩; have n0_ := Aside0.mk (Kd.R_mono (Kd.R_keep (IsS68.apart (show IsS68 w0 _ g s0_0 x1001_1 x1002_1 from by repeat (first | (with_reducible first | exact HI0.out | apply IsS68.alloc | apply IsS68.drewN | apply IsS68.drew | apply IsS68.set_1 | apply IsS68.set_2 | refine IsS68.far ?_ NB0_122.out _ | refine IsS68.far ?_ NB0_123.out _) | exact HI0.out)) (by (with_reducible repeat (first | apply Kd.R_alloc | apply Kd.R_drewN | apply Kd.R_drew)); exact HO_5.out) (by decide)) hk (fun _ h => h.2)) (fun _ h => h.1)); have n1_ := Aside0.mk (Kd.R_mono (Kd.R_keep (IsS68.apart (show IsS68 w0 _ g s0_0 x1001_1 x1002_1 from by repeat (first | (with_reducible first | exact HI0.out | apply IsS68.alloc | apply IsS68.drewN | apply IsS68.drew | apply IsS68.set_1 | apply IsS68.set_2 | refine IsS68.far ?_ NB0_122.out _ | refine IsS68.far ?_ NB0_123.out _) | exact HI0.out)) (by (with_reducible repeat (first | apply Kd.R_alloc | apply Kd.R_drewN | apply Kd.R_drew)); exact HO_124000.out) (by decide)) hk (fun _ h => h.2)) (fun _ h => h.1)); have n2_ := Aside0.mk (Kd.S_mono (Kd.S_keep (IsS68.apartS (show IsS68 w0 _ g s0_0 x1001_1 x1002_1 from by repeat (first | (with_reducible first | exact HI0.out | apply IsS68.alloc | apply IsS68.drewN | apply IsS68.drew | apply IsS68.set_1 | apply IsS68.set_2 | refine IsS68.far ?_ NB0_122.out _ | refine IsS68.far ?_ NB0_123.out _) | exact HI0.out)) (by (with_reducible repeat (first | apply Kd.S_alloc | apply Kd.S_drewN | apply Kd.S_drew)); exact HO_124001.out) (by decide)) hk (fun _ h => h.2)) (fun _ h => h.1)); have n3_ := Aside0.mk (KeepBut.blk hk (g' := gb122) (o := .cells #[.slice none 0 0, .slice none 0 0] 26 (0, 0)) (by (with_reducible repeat first | apply blk_drewN | apply blk_drew | apply blk_alloc); exact BK122.out) NB122_0.out (by simp)); have n4_ := Aside0.mk (KeepBut.blk hk (g' := gb123) (o := .cells #[u124000, u124001] 26 (0, 0)) (by (with_reducible repeat first | apply blk_drewN | apply blk_drew | apply blk_alloc); exact BK123.out) NB123_0.out (by simp)); have n5_ := Aside0.mk (KeepBut.trans (by repeat (first | (with_reducible first | exact HK.out | apply KeepBut.set_ | apply keep_drewN | apply keep_drew | apply keep_alloc | refine keep_far ?_ GW122.out _ | refine keep_far ?_ GW123.out _) | exact HK.out)) hk (.inl rfl)); have n6_ := Aside0.mk (hb); have n7_ := Aside0.mk (hi); clear HO_5; clear HO_124000; clear HO_124001; clear BK122; clear BK123; clear HK; clear HB; clear HI0; have HO_5 := n0_; have HO_124000 := n1_; have HO_124001 := n2_; have BK122 := n3_; have BK123 := n4_; have HK := n5_; have HB := n6_; have HI0 := n7_; clear n0_ n1_ n2_ n3_ n4_ n5_ n6_ n7_; (try clear hb); (try clear hb2); (try clear hk); (try clear hi)) | ((with_reducible refine gate_dst (N := 73) rfl ?_); refine Kd.R_lit (Kd.int .i64) _ 2 ?hg (N := 73) ?hd (xs := ([] : List Int)) (inner := []) (ok := fun _ => True) (okp := fun _ => True) ?hr ?hp (fun _ hk => hk) trivial (Below.refl _ _) (Nat.le_refl _) (by simp) ?_; (case hd => rfl); (case hg => rfl); (case hr => first | (go_simp; done) | (go_simp; rfl)); (case hp => exact (Reps.none _ _)); intro v159 w68 ho69 hb hg_ hnew_; clear hg_ hnew_; (first | rw [← Ny158.out] at ho69 | (simp only [Int.reduceToNat] at ho69; rw [← Ny158.out] at ho69)); have n0_ := Aside0.mk (Kd.R_elder' (by (with_reducible repeat (first | apply Kd.R_alloc | apply Kd.R_drewN | apply Kd.R_drew)); exact HO_5.out) (Kd.R_base ho69) hb); have n1_ := Aside0.mk (Kd.R_below (by (with_reducible repeat (first | apply Kd.R_alloc | apply Kd.R_drewN | apply Kd.R_drew)); exact HO_124000.out) hb); have n2_ := Aside0.mk (Kd.S_elder' (by (with_reducible repeat (first | apply Kd.S_alloc | apply Kd.S_drewN | apply Kd.S_drew)); exact HO_124001.out) (Kd.R_base ho69) hb); have n3_ := Aside0.mk (Kd.R_lower (Kd.R_new' ho69 (Kd.R_lt (by (with_reducible repeat (first | apply Kd.R_alloc | apply Kd.R_drewN | apply Kd.R_drew)); exact HO_5.out))) (keep_size (w := w) (g := g) (row := none) (by repeat (first | (with_reducible first | exact HK.out | apply KeepBut.set_ | apply keep_drewN | apply keep_drew | apply keep_alloc | refine keep_far ?_ GW122.out _ | refine keep_far ?_ GW123.out _) | exact HK.out)))); have n4_ := Aside0.mk (blk_below (g := gb122) (o := .cells #[.slice none 0 0, .slice none 0 0] 26 (0, 0)) (by (with_reducible repeat first | apply blk_drewN | apply blk_drew | apply blk_alloc); exact BK122.out) hb); have n5_ := Aside0.mk (blk_below (g := gb123) (o := .cells #[u124000, u124001] 26 (0, 0)) (by (with_reducible repeat first | apply blk_drewN | apply blk_drew | apply blk_alloc); exact BK123.out) hb); have n6_ := Aside0.mk (IsS68.below (by repeat (first | (with_reducible first | exact HI0.out | apply IsS68.alloc | apply IsS68.drewN | apply IsS68.drew | apply IsS68.set_1 | apply IsS68.set_2 | refine IsS68.far ?_ NB0_122.out _ | refine IsS68.far ?_ NB0_123.out _) | exact HI0.out)) hb); have n7_ := Aside0.mk (KeepBut.trans (by repeat (first | (with_reducible first | exact HK.out | apply KeepBut.set_ | apply keep_drewN | apply keep_drew | apply keep_alloc | refine keep_far ?_ GW122.out _ | refine keep_far ?_ GW123.out _) | exact HK.out)) (KeepBut.of_below hb g none) (.inl rfl)); have n8_ := Aside0.mk (below_step (by repeat (first | (with_reducible first | exact HB.out | apply below_alloc | apply pw_below_drewN | apply below_drew1 | refine below_set ?_ (IsS68.ge HI0.out) | refine below_set ?_ GE122.out | refine below_set ?_ GE123.out) | exact HB.out)) hb); clear HO_5; clear HO_124000; clear HO_124001; clear BK122; clear BK123; clear HI0; clear HK; clear HB; have HO_5 := n0_; have HO_124000 := n1_; have HO_124001 := n2_; have HO160 := n3_; have BK122 := n4_; have BK123 := n5_; have HI0 := n6_; have HK := n7_; have HB := n8_; clear n0_ n1_ n2_ n3_ n4_ n5_ n6_ n7_ n8_; clear hb ho69))
     go_loopg [4, 10, 11] k1 (fun kq v4 v10 v11 w' => ∃ (x4_2 : Int) (x10_2 : List Int) (x11_2 : Int) (x124001_2 : List (S70)) (u124001 : Value), v4 = .int .i64 x4_2 ∧ v11 = .int .i64 x11_2 ∧ Aside0 (spec_l06Draw.l2 kq x4_2 x5_1 x10_2 x11_2 s0_0 t156 t157 x124000_1 x124001_2 = some (r1, r2, r3, r4)) ∧ Aside0 (kq ≤ k1) ∧ Aside0 (Kd.R (Kd.int .i64) 2 w' w.heap.size (fun k_ => some k_ ≠ (v10 : Value).ownBlock) u5 x5_1) ∧ Aside0 (Kd.R (Kd.int .i64) 2 w' w.heap.size (fun k_ => some k_ ≠ (u5 : Value).ownBlock) v10 x10_2) ∧ Aside0 (Kd.R k34 34 w' w.heap.size (fun _ => True) u124000 x124000_1) ∧ Aside0 (Kd.S k70 70 w' w.heap.size (fun k_ => some k_ ≠ (u5 : Value).ownBlock ∧ some k_ ≠ (v10 : Value).ownBlock) u124001 x124001_2) ∧ Aside0 (w'.heap[gb122]? = some (.cells #[(.slice none 0 0), (.slice none 0 0)] 26 (0, 0))) ∧ Aside0 (w'.heap[gb123]? = some (.cells #[u124000, u124001] 26 (0, 0))) ∧ Aside0 (IsS68 w0 w' g s0_0 t156 t157) ∧ Aside0 (KeepBut w w' g none) ∧ Aside0 (Below w0.heap.size w0 w'))
     case atStart => exact ⟨(x4_1), (y158), (0), (x124001_1), (u124001), (by first | rfl | (simp; done) | (simp [*]; done)), (by first | rfl | (simp; done) | (simp [*]; done)), H', ⟨Nat.le_refl _⟩, ⟨by (with_reducible repeat (first | apply Kd.R_alloc | apply Kd.R_drewN | apply Kd.R_drew)); exact Kd.R_mono HO_5.out (fun _ hk => hk.2)⟩, ⟨by (with_reducible repeat (first | apply Kd.R_alloc | apply Kd.R_drewN | apply Kd.R_drew)); exact Kd.R_mono HO160.out (fun _ hk => hk.2)⟩, ⟨by (with_reducible repeat (first | apply Kd.R_alloc | apply Kd.R_drewN | apply Kd.R_drew)); exact HO_124000.out⟩, ⟨by (with_reducible repeat (first | apply Kd.S_alloc | apply Kd.S_drewN | apply Kd.S_drew)); exact HO_124001.out⟩, ⟨by (with_reducible repeat first | apply blk_drewN | apply blk_drew | apply blk_alloc); exact BK122.out⟩, ⟨by (with_reducible repeat first | apply blk_drewN | apply blk_drew | apply blk_alloc); exact BK123.out⟩, ⟨by repeat (first | (with_reducible first | exact HI0.out | apply IsS68.alloc | apply IsS68.drewN | apply IsS68.drew | apply IsS68.set_1 | apply IsS68.set_2 | refine IsS68.far ?_ NB0_122.out _ | refine IsS68.far ?_ NB0_123.out _) | exact HI0.out)⟩, ⟨by repeat (first | (with_reducible first | exact HK.out | apply KeepBut.set_ | apply keep_drewN | apply keep_drew | apply keep_alloc | refine keep_far ?_ GW122.out _ | refine keep_far ?_ GW123.out _) | exact HK.out)⟩, ⟨by repeat (first | (with_reducible first | exact HB.out | apply below_alloc | apply pw_below_drewN | apply below_drew1 | refine below_set ?_ (IsS68.ge HI0.out) | refine below_set ?_ GE122.out | refine below_set ?_ GE123.out) | exact HB.out)⟩⟩
     case round =>
      clear H'
      try clear c1
      try clear c2
      try clear p2
      try clear c3
      try clear c4
      try clear c5
      try clear c6
      try clear p6
      try clear c11
      try clear c11b0
      try clear c14
      try clear c15
      try clear c16
      try clear c20
      try clear c20b0
      try clear c21
      try clear c22
      try clear c23
      try clear c26
      try clear c29
      try clear c30
      try clear c31
      try clear c32
      try clear c33
      try clear c36
      try clear c37
      try clear c38
      try clear c45
      try clear c46
      try clear c51
      try clear c52
      try clear c53
      try clear c54
      try clear c55
      try clear c57
      try clear c58
      try clear p64
      try clear c66
      try clear hcz17_0
      try clear hcz17_1
      try clear hcz17_2
      try clear hcz24_0
      try clear hcz24_1
      try clear hcz34_0
      try clear hcz34_1
      try clear hcz47_0
      try clear hcz47_1
      try clear hcz47_2
      try clear hcz50_0
      try clear hcz50_1
      try clear hcz50_2
      try clear hcz56_0
      try clear hcz56_1
      try clear hcz59_0
      try clear hcz59_1
      try clear hcz59_2
      try clear hcz63_0
      try clear hcz63_1
      try clear hcz7_0
      try clear hcz7_1
      try clear hfz17_0
      try clear hfz17_1
      try clear hfz17_2
      try clear hfz24_0
      try clear hfz24_1
      try clear hfz34_0
      try clear hfz34_1
      try clear hfz47_0
      try clear hfz47_1
      try clear hfz47_2
      try clear hfz50_0
      try clear hfz50_1
      try clear hfz50_2
      try clear hfz56_0
      try clear hfz56_1
      try clear hfz59_0
      try clear hfz59_1
      try clear hfz59_2
      try clear hfz63_0
      try clear hfz63_1
      try clear hfz7_0
      try clear hfz7_1
      try clear p2
      try clear p6
      obtain ⟨x4_2, x10_2, x11_2, x124001_2, u124001, rfl, rfl, HA, HK2, HO_5, HO_10, HO_124000, HO_124001, BK122, BK123, HI0, HK, HB⟩ := hrel
      cases gk with
      | zero => exact absurd HA.out (by simp [spec_l06Draw.l2])
      | succ k2 =>
       have H := HA.out
       clear HA
       simp only [spec_l06Draw.l2] at H
       by_cases c70 : x11_2 < (x5_1.length : Int)
       ·rw [if_pos c70] at H
        have c70b0 : decide (x11_2 < (x5_1.length : Int)) = true := decide_eq_true c70
        clear c70
        by_cases c71 : (wrap64 (x11_2 + 2)) > (x5_1.length : Int)
        ·rw [if_pos c71] at H
         have c71b0 : decide ((x5_1.length : Int) < (wrap64 (x11_2 + 2))) = true := decide_eq_true c71
         clear c71
         by_cases c72 : 0 ≤ x11_2
         ·rw [if_pos c72] at H
          have c72b0 := eq_true c72
          have c72b1 : decide (0 ≤ x11_2) = true := decide_eq_true c72
          clear c72
          by_cases c73 : x11_2 ≤ (x5_1.length : Int)
          ·rw [if_pos c73] at H
           have c73b0 := eq_true c73
           have c73b1 : decide (x11_2 ≤ (x5_1.length : Int)) = true := decide_eq_true c73
           clear c73
           by_cases c74 : (x5_1.length : Int) ≤ (x5_1.length : Int)
           ·rw [if_pos c74] at H
            have c74b0 := eq_true c74
            have c74b1 : decide ((x5_1.length : Int) ≤ (x5_1.length : Int)) = true := decide_eq_true c74
            clear c74
            obtain ⟨y161, hy161⟩ : ∃ y_ : List Int, y_ = ((x5_1.take ((x5_1.length : Int) : Int).toNat).drop (x11_2 : Int).toNat) := ⟨_, rfl⟩
            replace H : ((spec_l00Own.f y161).bind fun t165 => (if x124001_2.length < 3518437208883 then (if x10_2.length < 17592186044416 then (spec_l06Draw.l2 k2 (wrap64 (x4_2 - 1)) x5_1 (x10_2 ++ [x4_2]) (wrap64 (x11_2 + 2)) s0_0 t156 t157 x124000_1 (x124001_2 ++ [(⟨x4_2, 2, t165⟩ : S70)])) else (none)) else (none))) = some (r1, r2, r3, r4) := by first | (rw [hy161]; with_reducible exact H) | (have H2_ := (Option.bind_some _ _).symm.trans H; rw [hy161]; with_reducible exact H2_) | (have H2_ := (Option.bind_some _ _).symm.trans H; with_reducible exact H2_) | with_reducible exact H | (rw [hy161]; exact H) | exact H
            have Ny161 := Aside0.mk hy161
            clear hy161
            replace H := Option.bind_eq_some_iff.mp H
            obtain ⟨t165, A750, H⟩ := H
            replace H : (if x124001_2.length < 3518437208883 then (if x10_2.length < 17592186044416 then (spec_l06Draw.l2 k2 (wrap64 (x4_2 - 1)) x5_1 (x10_2 ++ [x4_2]) (wrap64 (x11_2 + 2)) s0_0 t156 t157 x124000_1 (x124001_2 ++ [(⟨x4_2, 2, t165⟩ : S70)])) else (none)) else (none)) = some (r1, r2, r3, r4) := H
            have A75 := Aside0.mk A750
            clear A750
            by_cases c76 : x124001_2.length < 3518437208883
            ·rw [if_pos c76] at H
             have LMc76 := Aside0.mk c76
             clear c76
             obtain ⟨y168, hy168⟩ : ∃ y_ : List (S70), y_ = (x124001_2 ++ [(⟨x4_2, 2, t165⟩ : S70)]) := ⟨_, rfl⟩
             replace H : (if x10_2.length < 17592186044416 then (spec_l06Draw.l2 k2 (wrap64 (x4_2 - 1)) x5_1 (x10_2 ++ [x4_2]) (wrap64 (x11_2 + 2)) s0_0 t156 t157 x124000_1 y168) else (none)) = some (r1, r2, r3, r4) := by first | (rw [hy168]; with_reducible exact H) | (have H2_ := (Option.bind_some _ _).symm.trans H; rw [hy168]; with_reducible exact H2_) | (have H2_ := (Option.bind_some _ _).symm.trans H; with_reducible exact H2_) | with_reducible exact H | (rw [hy168]; exact H) | exact H
             have Ny168 := Aside0.mk hy168
             clear hy168
             by_cases c77 : x10_2.length < 17592186044416
             ·rw [if_pos c77] at H
              have LMc77 := Aside0.mk c77
              clear c77
              obtain ⟨y171, hy171⟩ : ∃ y_ : List Int, y_ = (x10_2 ++ [x4_2]) := ⟨_, rfl⟩
              replace H : (spec_l06Draw.l2 k2 (wrap64 (x4_2 - 1)) x5_1 y171 (wrap64 (x11_2 + 2)) s0_0 t156 t157 x124000_1 y168) = some (r1, r2, r3, r4) := by first | (rw [hy171]; with_reducible exact H) | (have H2_ := (Option.bind_some _ _).symm.trans H; rw [hy171]; with_reducible exact H2_) | (have H2_ := (Option.bind_some _ _).symm.trans H; with_reducible exact H2_) | with_reducible exact H | (rw [hy171]; exact H) | exact H
              have Ny171 := Aside0.mk hy171
              clear hy171
              have H' := Aside0.mk H
              clear H
              obtain ⟨Ao78, co78, eo78⟩ := Kd.R_slice HO_5.out
              subst eo78
              try go_wp2
              have n0_ := Aside0.mk (Kd.R_drew HO_5.out)
              have n1_ := Aside0.mk (Kd.R_drew HO_10.out)
              have n2_ := Aside0.mk (Kd.R_drew HO_124000.out)
              have n3_ := Aside0.mk (Kd.S_drew HO_124001.out)
              have n4_ := Aside0.mk (blk_drew BK122.out)
              have n5_ := Aside0.mk (blk_drew BK123.out)
              have n6_ := Aside0.mk (IsS68.drew HI0.out)
              have n7_ := Aside0.mk (keep_drew HK.out)
              have n8_ := Aside0.mk (below_drew1 HB.out)
              clear HO_5
              clear HO_10
              clear HO_124000
              clear HO_124001
              clear BK122
              clear BK123
              clear HI0
              clear HK
              clear HB
              have HO_5 := n0_
              have HO_10 := n1_
              have HO_124000 := n2_
              have HO_124001 := n3_
              have BK122 := n4_
              have BK123 := n5_
              have HI0 := n6_
              have HK := n7_
              have HB := n8_
              clear n0_ n1_ n2_ n3_ n4_ n5_ n6_ n7_ n8_
              have q80 : ((x5_1.length : Int) : Int) ≤ ((x5_1.length : Int) : Int) := of_decide_eq_true (by assumption)
              obtain ⟨i080, hi080, _, hsz80, _⟩ := info_parts info2
              have hroom80 : x5_1.length ≤ co78 := (Kd.R_reads' HO_5.out).2.1
              have hC80 : Kd.C (Kd.int .i64) _ Ao78 x5_1.length x5_1 := (Kd.R_reads' HO_5.out).2.2
              have ql80 : (x11_2 : Int) ≤ ((x5_1.length : Int) : Int) := of_decide_eq_true (by assumption)
              have q080 : (0 : Int) ≤ (x11_2 : Int) := of_decide_eq_true (by assumption)
              have hcut80 := cut_mid (P := Try.prog) 36 2 .i64 .i64 Try.underlying36 hi080 1 hsz80 Ao78 x5_1.length co78 x11_2 (x5_1.length : Int) q080 ql80 q80 hroom80
              have hr80 := Kd.C_mid (lo := (x11_2 : Int).toNat) (hi := ((x5_1.length : Int) : Int).toNat) (c := co78) hC80 (by omega) (by omega) hroom80
              obtain ⟨A80, hA80⟩ : ∃ A1, A1 = (if co78 = (x11_2 : Int).toNat then Ao78 else (Ao78 : Option Addr).map (·.add ((x11_2 : Int).toNat * 1))) := ⟨_, rfl⟩
              obtain ⟨c80, hc80⟩ : ∃ c1, c1 = co78 - (x11_2 : Int).toNat := ⟨_, rfl⟩
              have hy80 : y161.length = ((x5_1.length : Int) : Int).toNat - (x11_2 : Int).toNat := (by rw [Ny161.out, List.length_drop, List.length_take] <;> omega)
              rw [show ((x5_1).take ((x5_1.length : Int) : Int).toNat).drop (x11_2 : Int).toNat = y161 from Ny161.out.symm] at hr80
              replace hr80 : Kd.C (Kd.int .i64) _ A80 y161.length y161 := (by rw [hA80]; exact hr80)
              rw [← hy80, ← hA80, ← hc80] at hcut80
              have HR164 := Aside0.mk hr80
              have HC164 := Aside0.mk (show y161.length ≤ c80 from by rw [hy80, hc80]; exact Nat.sub_le_sub_right (Nat.le_trans (by omega) hroom80) _)
              clear hr80 hC80 hroom80 hi080 hsz80 hc80
              have KY80 := Aside0.mk hy80
              have KA80 := Aside0.mk hA80
              clear hy80 hA80
              have KL80 := Aside0.mk (show ((x5_1.length : Int) : Int).toNat ≤ x5_1.length from by omega)
              have KM80 := Aside0.mk (show (x11_2 : Int).toNat ≤ ((x5_1.length : Int) : Int).toNat from by omega)
              replace q80 := eq_true q80
              refine start_ (n := 13) (S := fun w' => w'.cell? ⟨gb123, 0, none⟩ = some (u124000) ∧ w'.cell? ⟨gb123, 1, none⟩ = some (u124001)) (ds := [12]) mz22_0 (by kernel_rfl) rfl rfl ⟨(blk_cell BK123.out 0).trans rfl, (blk_cell BK123.out 1).trans rfl⟩ (fun hHeld => ?_); refine with_tabW spec_l06Draw.tab26 spec_l06Draw.bits26 (fun HT_ HW_ => ?_)
              generalize wr.drew = w79 at HO_5 HO_10 HO_124000 HO_124001 BK122 BK123 HI0 HK HB HR164 hHeld ⊢
              refine pu_z22 0 (some 88) ?_ mz22_1 rfl rfl (any_of HT_.out (by kernel_rfl)) (fun _ _ _ h => h) (Or.inl ⟨by rfl, ?_⟩) ?_ ?_ ?_
              (rotate_left; ·(intro w'; go_simp; with_reducible rfl)); (rotate_left; ·(simp only [Act.put, pq_z22]; rfl))
              refine pu_z22 2 (some 90) ?_ mz22_2 rfl rfl (any_of HT_.out (by kernel_rfl)) (fun _ _ _ h => h) (Or.inl ⟨by rfl, ?_⟩) ?_ ?_ ?_
              (rotate_left; ·(intro w'; go_simp; with_reducible rfl)); (rotate_left; ·(simp only [Act.put, pq_z22]; rfl))
              refine pu_z22 3 (some 91) ?_ mz22_3 rfl rfl (any_of HT_.out (by kernel_rfl)) (fun _ _ _ h => h) (Or.inl ⟨by rfl, ?_⟩) ?_ ?_ ?_
              (rotate_left; ·(intro w'; go_simp; with_reducible rfl)); (rotate_left; ·(simp only [Act.put, pq_z22]; rfl))
              refine pu_z22 4 (some 92) ?_ mz22_4 rfl rfl (any_of HT_.out (by kernel_rfl)) (fun _ _ _ h => h) (Or.inl ⟨by rfl, ?_⟩) ?_ ?_ ?_
              (rotate_left; ·(intro w'; go_simp; with_reducible rfl)); (rotate_left; ·(simp only [Act.put, pq_z22]; rfl))
              refine pu_z22 5 (some 93) ?_ mz22_14 rfl rfl (any_of HT_.out (by kernel_rfl)) (fun _ _ _ h => h) (Or.inl ⟨by rfl, ?_⟩) ?_ ?_ ?_
              (rotate_left; ·(intro w'; go_simp; with_reducible rfl)); (rotate_left; ·(simp only [Act.put, pq_z22]; rfl))
              refine pu_z22 6 (some 94) ?_ mz22_15 rfl rfl (any_of HT_.out (by kernel_rfl)) (fun _ _ _ h => h) (Or.inl ⟨by rfl, ?_⟩) ?_ ?_ ?_
              (rotate_left; ·(intro w'; go_simp; with_reducible rfl)); (rotate_left; ·(simp only [Act.put, pq_z22]; rfl))
              refine take_ (i := 1) (N := some 89) (v := ?_) (a' := ?_) mz22_7 rfl rfl (take_ofW HT_.out HW_.out (by kernel_rfl)) (fun _ _ _ h => h) (Or.inl ⟨by rfl, ?_⟩) hHeld ?_ ?_
              (rotate_left; ·(rintro w' ⟨s0, s1⟩; go_simp; with_reducible rfl)); (rotate_left; ·(simp only [Act.put, pq_z22]; rfl))
              refine one_ (i := 7) (N := some 95) mz22_8 rfl rfl (one_of HT_.out (by kernel_rfl)) (by decide) (fun K hK => ?_)
              refine goes_ Try.func39 (by kernel_rfl) rfl #[.slice A80 y161.length c80] (by rfl) rfl rfl (by (try simp only [List.map_toArray, List.map_cons, List.map_nil]); first | done | rfl | (simp only [List.length_drop, List.length_take]; rfl)) ?_
              with_reducible refine (spec_l00Own.calls _ _ y161 t165 _ ?side1 ?side2 A75.out).mono ?_
              (case side1 => repeat (first | exact (by repeat (first | (with_reducible exact HR164.out) | (with_reducible refine Kd.C_alloc ?_ _) | (with_reducible refine Kd.C_drewN ?_ _) | (with_reducible refine Kd.C_drew ?_) | exact HR164.out)) | (with_reducible refine Kd.C_alloc ?_ _) | (with_reducible refine Kd.C_drewN ?_ _) | (with_reducible refine Kd.C_drew ?_)))
              (case side2 => exact HC164.out)
              rintro e w81 ⟨v166, rfl, ho0, hb⟩
              refine ⟨_, rfl, ?_⟩
              have n0_ := Aside0.mk (Kd.R_elder' (by (with_reducible repeat (first | apply Kd.R_alloc | apply Kd.R_drewN | apply Kd.R_drew)); exact HO_5.out) (Kd.R_base ho0) hb)
              have n1_ := Aside0.mk (Kd.R_elder' (by (with_reducible repeat (first | apply Kd.R_alloc | apply Kd.R_drewN | apply Kd.R_drew)); exact HO_10.out) (Kd.R_base ho0) hb)
              have n2_ := Aside0.mk (Kd.R_below (by (with_reducible repeat (first | apply Kd.R_alloc | apply Kd.R_drewN | apply Kd.R_drew)); exact HO_124000.out) hb)
              have n3_ := Aside0.mk (Kd.S_elder' (by (with_reducible repeat (first | apply Kd.S_alloc | apply Kd.S_drewN | apply Kd.S_drew)); exact HO_124001.out) (Kd.R_base ho0) hb)
              have n4_ := Aside0.mk (Kd.R_lower (Kd.R_new' (Kd.R_new' ho0 (Kd.R_lt (by (with_reducible repeat (first | apply Kd.R_alloc | apply Kd.R_drewN | apply Kd.R_drew)); exact HO_5.out))) (Kd.R_lt (by (with_reducible repeat (first | apply Kd.R_alloc | apply Kd.R_drewN | apply Kd.R_drew)); exact HO_10.out))) (keep_size (w := w) (g := g) (row := none) (by repeat (first | (with_reducible first | exact HK.out | apply KeepBut.set_ | apply keep_drewN | apply keep_drew | apply keep_alloc | refine keep_far ?_ GW122.out _ | refine keep_far ?_ GW123.out _) | exact HK.out))))
              have n5_ := Aside0.mk (blk_below (g := gb122) (o := .cells #[.slice none 0 0, .slice none 0 0] 26 (0, 0)) (by (with_reducible repeat first | apply blk_drewN | apply blk_drew | apply blk_alloc); exact BK122.out) hb)
              have n6_ := Aside0.mk (blk_below (g := gb123) (o := .cells #[u124000, u124001] 26 (0, 0)) (by (with_reducible repeat first | apply blk_drewN | apply blk_drew | apply blk_alloc); exact BK123.out) hb)
              have n7_ := Aside0.mk (IsS68.below (by repeat (first | (with_reducible first | exact HI0.out | apply IsS68.alloc | apply IsS68.drewN | apply IsS68.drew | apply IsS68.set_1 | apply IsS68.set_2 | refine IsS68.far ?_ NB0_122.out _ | refine IsS68.far ?_ NB0_123.out _) | exact HI0.out)) hb)
              have n8_ := Aside0.mk (Kd.C_below (by repeat (first | (with_reducible exact HR164.out) | (with_reducible refine Kd.C_alloc ?_ _) | (with_reducible refine Kd.C_drewN ?_ _) | (with_reducible refine Kd.C_drew ?_) | exact HR164.out)) hb)
              have n9_ := Aside0.mk (KeepBut.trans (by repeat (first | (with_reducible first | exact HK.out | apply KeepBut.set_ | apply keep_drewN | apply keep_drew | apply keep_alloc | refine keep_far ?_ GW122.out _ | refine keep_far ?_ GW123.out _) | exact HK.out)) (KeepBut.of_below hb g none) (.inl rfl))
              have n10_ := Aside0.mk (below_step (by repeat (first | (with_reducible first | exact HB.out | apply below_alloc | apply pw_below_drewN | apply below_drew1 | refine below_set ?_ (IsS68.ge HI0.out) | refine below_set ?_ GE122.out | refine below_set ?_ GE123.out) | exact HB.out)) hb)
              clear HO_5
              clear HO_10
              clear HO_124000
              clear HO_124001
              clear BK122
              clear BK123
              clear HI0
              clear HR164
              clear HK
              clear HB
              have HO_5 := n0_
              have HO_10 := n1_
              have HO_124000 := n2_
              have HO_124001 := n3_
              have HO167 := n4_
              have BK122 := n5_
              have BK123 := n6_
              have HI0 := n7_
              have HR164 := n8_
              have HK := n9_
              have HB := n10_
              clear n0_ n1_ n2_ n3_ n4_ n5_ n6_ n7_ n8_ n9_ n10_
              (try clear hb)
              (try clear hb2)
              (try clear hk)
              (try clear hi)
              (try clear ho0)
              obtain ⟨Ao82, co82, eo82⟩ := Kd.R_slice HO167.out
              (first | subst eo82 | (injection eo82 with f1_ f2_ f3_; have f4_ := f1_.symm; have f5_ := f3_.symm; clear f1_ f2_ f3_; subst f4_; subst f5_))
              refine hK.out _ _ ⟨(blk_cell BK123.out 0).trans rfl, (blk_cell BK123.out 1).trans rfl⟩ (fun hHeld => ?_)
              clear hK K
              refine norm_ (a' := ?_) ?_ ?_
              (rotate_left; ·(show Act.put _ (some 95) _ = _; simp only [Act.put, pq_z22]; rfl))
              refine pu_z22 8 (some 96) ?_ mz22_9 rfl rfl (any_of HT_.out (by kernel_rfl)) (fun _ _ _ h => h) (Or.inl ⟨by rfl, ?_⟩) ?_ ?_ ?_
              (rotate_left; ·(intro w'; go_simp; with_reducible rfl)); (rotate_left; ·(simp only [Act.put, pq_z22]; rfl))
              refine one_ (i := 9) (N := some 97) mz22_10 rfl rfl (one_of HT_.out (by kernel_rfl)) (by decide) (fun K hK => ?_)
              refine value_ (w1 := ?_) (v := ?_) (by rfl) rfl ?_ ?_
              rotate_left 2
              ·go_simp
               constructor
               ·rfl
               ·rfl
              refine hK.out _ _ ⟨(blk_cell (blk_alloc BK123.out _) 0).trans rfl, (blk_cell (blk_alloc BK123.out _) 1).trans rfl⟩ (fun hHeld => ?_)
              clear hK K
              refine norm_ (a' := ?_) ?_ ?_
              (rotate_left; ·(show Act.put _ (some 97) _ = _; simp only [Act.put, pq_z22]; rfl))
              refine one_ (i := 10) (N := some 98) mz22_11 rfl rfl (one_of HT_.out (by kernel_rfl)) (by decide) (fun K hK => ?_)
              refine Kd.S_append_step k70 w.heap.size (by rfl) (.tmp 89) (.tmp 97) 24 70 (.agg #[(.int .i64 0), (.int .i64 0), (.slice none 0 0)]) 40 rfl Try.underlying24 info70 rfl (by decide) (by omega) u124001 x124001_2 (⟨x4_2, 2, t165⟩ : S70) [.int .i64 x4_2, .int .i64 2, .slice Ao82 t165.length co82] (fun k_ => some k_ ≠ (.slice Ao78 x5_1.length co78 : Value).ownBlock ∧ some k_ ≠ (u10 : Value).ownBlock) (fun k_ => some k_ = (.slice Ao82 t165.length co82 : Value).ownBlock) rfl rfl ?aP (fun k_ hk_ => ((Kd.R_mono (ok' := fun k_ => ((fun k_ => some k_ ≠ (.slice Ao78 x5_1.length co78 : Value).ownBlock ∧ some k_ ≠ (u10 : Value).ownBlock)) k_ ∧ some k_ ≠ (u124001 : Value).ownBlock) (Kd.R_apart' (HO167.out) (Kd.S_typed HO_124001.out) (by decide)) (fun k_ hk => ⟨⟨hk.1.1.2, hk.1.2⟩, hk.2⟩))).1 k_ hk_.symm) ?aF ?aO (Below.refl _ _) ?aS ?aL ?_
              (case aP => exact k70_mkM _ _ _ (⟨x4_2, 2, t165⟩ : S70) (Kd.R_mono (Kd.R_tight rfl (Kd.R_mono (ok' := fun k_ => ((fun k_ => some k_ ≠ (.slice Ao78 x5_1.length co78 : Value).ownBlock ∧ some k_ ≠ (u10 : Value).ownBlock)) k_ ∧ some k_ ≠ (u124001 : Value).ownBlock) (Kd.R_apart' (HO167.out) (Kd.S_typed HO_124001.out) (by decide)) (fun k_ hk => ⟨⟨hk.1.1.2, hk.1.2⟩, hk.2⟩))) (fun _ h_ => h_)))
              (case aF => exact (fun k_ hk => ⟨Kd.fresh' (Kd.R_lt (by (with_reducible repeat (first | apply Kd.R_alloc | apply Kd.R_drewN | apply Kd.R_drew)); exact HO_5.out)) k_ hk, Kd.fresh' (Kd.R_lt (by (with_reducible repeat (first | apply Kd.R_alloc | apply Kd.R_drewN | apply Kd.R_drew)); exact HO_10.out)) k_ hk⟩))
              (case aO => exact (by (with_reducible repeat (first | apply Kd.S_alloc | apply Kd.S_drewN | apply Kd.S_drew)); exact Kd.S_mono HO_124001.out (fun k_ hk => ⟨⟨hk.1.1, hk.1.2⟩, fun e_ => hk.2 e_⟩)))
              (case aS => exact (keep_size (w := w) (g := g) (row := none) (by repeat (first | (with_reducible first | exact HK.out | apply KeepBut.set_ | apply keep_drewN | apply keep_drew | apply keep_alloc | refine keep_far ?_ GW122.out _ | refine keep_far ?_ GW123.out _) | exact HK.out))))
              (case aL => have := LMc76.out; omega)
              intro v169 w83 ho hb hg hat
              rw [← Ny168.out] at ho
              have n0_ := Aside0.mk (Kd.R_over' (by (with_reducible repeat (first | apply Kd.R_alloc | apply Kd.R_drewN | apply Kd.R_drew)); exact HO_5.out) (Kd.S_typed (by (with_reducible repeat (first | apply Kd.S_alloc | apply Kd.S_drewN | apply Kd.S_drew)); exact HO_124001.out)) (by decide) hg)
              have n1_ := Aside0.mk (Kd.R_over' (by (with_reducible repeat (first | apply Kd.R_alloc | apply Kd.R_drewN | apply Kd.R_drew)); exact HO_10.out) (Kd.S_typed (by (with_reducible repeat (first | apply Kd.S_alloc | apply Kd.S_drewN | apply Kd.S_drew)); exact HO_124001.out)) (by decide) hg)
              have n2_ := Aside0.mk (Kd.R_over' (by (with_reducible repeat (first | apply Kd.R_alloc | apply Kd.R_drewN | apply Kd.R_drew)); exact HO_124000.out) (Kd.S_typed (by (with_reducible repeat (first | apply Kd.S_alloc | apply Kd.S_drewN | apply Kd.S_drew)); exact HO_124001.out)) (by decide) hg)
              have n3_ := Aside0.mk (blk_grown (g := gb122) (o := .cells #[.slice none 0 0, .slice none 0 0] 26 (0, 0)) (by (with_reducible repeat first | apply blk_drewN | apply blk_drew | apply blk_alloc); exact BK122.out) hg (Kd.S_ne HO_124001.out BK122.out (by decide)))
              have n4_ := Aside0.mk (blk_grown (g := gb123) (o := .cells #[u124000, u124001] 26 (0, 0)) (by (with_reducible repeat first | apply blk_drewN | apply blk_drew | apply blk_alloc); exact BK123.out) hg (Kd.S_ne HO_124001.out BK123.out (by decide)))
              have n5_ := Aside0.mk (IsS68.grown (by repeat (first | (with_reducible first | exact HI0.out | apply IsS68.alloc | apply IsS68.drewN | apply IsS68.drew | apply IsS68.set_1 | apply IsS68.set_2 | refine IsS68.far ?_ NB0_122.out _ | refine IsS68.far ?_ NB0_123.out _) | exact HI0.out)) hg (IsS68.own_neS HI0.out HO_124001.out (by decide)))
              have n6_ := Aside0.mk (below_weaken (by repeat (first | (with_reducible first | exact HB.out | apply below_alloc | apply pw_below_drewN | apply below_drew1 | refine below_set ?_ (IsS68.ge HI0.out) | refine below_set ?_ GE122.out | refine below_set ?_ GE123.out) | exact HB.out)) HL.out hb)
              have n7_ := Aside0.mk (KeepBut.trans (by repeat (first | (with_reducible first | exact HK.out | apply KeepBut.set_ | apply keep_drewN | apply keep_drew | apply keep_alloc | refine keep_far ?_ GW122.out _ | refine keep_far ?_ GW123.out _) | exact HK.out)) (KeepBut.of_grown hg g) (Kd.S_base2 HO_124001.out))
              have n8_ := Aside0.mk ((show Kd.C (Kd.int .i64) w83 A80 y161.length y161 from by rw [Ny161.out, KA80.out]; exact Kd.C_mid (lo := (x11_2 : Int).toNat) (hi := ((x5_1.length : Int) : Int).toNat) (c := co78) ((Kd.R_reads' (Kd.R_over' (by (with_reducible repeat (first | apply Kd.R_alloc | apply Kd.R_drewN | apply Kd.R_drew)); exact HO_5.out) (Kd.S_typed (by (with_reducible repeat (first | apply Kd.S_alloc | apply Kd.S_drewN | apply Kd.S_drew)); exact HO_124001.out)) (by decide) hg)).2.2) KM80.out KL80.out ((Kd.R_reads' (Kd.R_over' (by (with_reducible repeat (first | apply Kd.R_alloc | apply Kd.R_drewN | apply Kd.R_drew)); exact HO_5.out) (Kd.S_typed (by (with_reducible repeat (first | apply Kd.S_alloc | apply Kd.S_drewN | apply Kd.S_drew)); exact HO_124001.out)) (by decide) hg)).2.1)))
              have n9_ := Aside0.mk (ho)
              clear HO_5
              clear HO_10
              clear HO_124000
              clear BK122
              clear BK123
              clear HI0
              clear HB
              clear HK
              clear HR164
              clear HO_124001
              clear HO167
              have HO_5 := n0_
              have HO_10 := n1_
              have HO_124000 := n2_
              have BK122 := n3_
              have BK123 := n4_
              have HI0 := n5_
              have HB := n6_
              have HK := n7_
              have HR164 := n8_
              have HO170 := n9_
              clear n0_ n1_ n2_ n3_ n4_ n5_ n6_ n7_ n8_ n9_
              clear ho hb hg hat
              obtain ⟨Ao84, co84, eo84⟩ := Kd.S_slice HO170.out
              (first | subst eo84 | (injection eo84 with f1_ f2_ f3_; have f4_ := f1_.symm; have f5_ := f3_.symm; clear f1_ f2_ f3_; subst f4_; subst f5_))
              refine hK.out _ _ ⟨(blk_cell BK123.out 0).trans rfl, (blk_cell BK123.out 1).trans rfl⟩ (fun hHeld => ?_)
              clear hK K
              refine norm_ (a' := ?_) ?_ ?_
              (rotate_left; ·(show Act.put _ (some 98) _ = _; simp only [Act.put, pq_z22]; rfl))
              refine pu_z22 11 (some 99) ?_ mz22_12 rfl rfl (any_of HT_.out (by kernel_rfl)) (fun _ _ _ h => h) (Or.inl ⟨by rfl, ?_⟩) ?_ ?_ ?_
              (rotate_left; ·(intro w'; go_simp; with_reducible rfl)); (rotate_left; ·(simp only [Act.put, pq_z22]; rfl))
              refine last_ (i := 12) (N := none) mz22_13 rfl rfl (one_of HT_.out (by kernel_rfl)) (by decide) (fun K hK => ?_)
              have hs85 : w83.cell? ⟨gb123, 1, none⟩ = some (u124001) := (blk_cell BK123.out 1).trans rfl
              have hfs85 := blk_frozen BK123.out 1
              have hns85_0 := NB122_123.out
              have hms85_0 := NB123_122.out
              refine skip_ (w1 := ?_) (by rfl) rfl ?_ ?_
              rotate_left
              ·go_simp
               rfl
              refine hK.out _ _ ?_
              clear hK K
              refine done_ (done_of HT_.out (by kernel_rfl)) ?_
              have m0_ := Aside0.mk (Kd.R_mono (Kd.R_far (p := ⟨gb123, 1, none⟩) (Kd.R_types HO_5.out BK123.out (by decide)) (fun _ hk => hk.2) (.slice Ao84 y168.length co84)) (fun _ h_ => h_.1))
              have m1_ := Aside0.mk (Kd.R_mono (Kd.R_far (p := ⟨gb123, 1, none⟩) (Kd.R_types HO_10.out BK123.out (by decide)) (fun _ hk => hk.2) (.slice Ao84 y168.length co84)) (fun _ h_ => h_.1))
              have m2_ := Aside0.mk (Kd.R_mono (Kd.R_far (p := ⟨gb123, 1, none⟩) (Kd.R_types HO_124000.out BK123.out (by decide)) (fun _ hk => hk.2) (.slice Ao84 y168.length co84)) (fun _ h_ => h_.1))
              have m3_ := Aside0.mk (Kd.S_mono (Kd.S_far (p := ⟨gb123, 1, none⟩) (Kd.S_types HO170.out BK123.out (by decide)) (fun _ hk => hk.2) (.slice Ao84 y168.length co84)) (fun _ h_ => h_.1))
              have m4_ := Aside0.mk (blk_far (p := ⟨gb123, 1, none⟩) BK122.out NB122_123.out (.slice Ao84 y168.length co84))
              have m5_ := Aside0.mk (show (w83.setCell ⟨gb123, 1, none⟩ (.slice Ao84 y168.length co84)).heap[gb123]? = some (.cells #[u124000, .slice Ao84 y168.length co84] 26 (0, 0)) from blk_put (cs := #[u124000, u124001]) BK123.out 1 _ rfl)
              have m6_ := Aside0.mk (IsS68.far (p := ⟨gb123, 1, none⟩) HI0.out NB0_123.out (.slice Ao84 y168.length co84))
              have m7_ := Aside0.mk (below_set (v := (.slice Ao84 y168.length co84)) (j := 1) HB.out GE123.out)
              have m8_ := Aside0.mk (keep_far (p := ⟨gb123, 1, none⟩) HK.out GW123.out (.slice Ao84 y168.length co84))
              clear HO_5 HO_10 HO_124000 HO170 BK122 BK123 HI0 HB HK HR164
              generalize (w83.setCell ⟨gb123, 1, none⟩ (.slice Ao84 y168.length co84)) = wz83 at m0_ m1_ m2_ m3_ m4_ m5_ m6_ m7_ m8_ ⊢
              have HO_5 := m0_
              have HO_10 := m1_
              have HO_124000 := m2_
              have HO170 := m3_
              have BK122 := m4_
              have BK123 := m5_
              have HI0 := m6_
              have HB := m7_
              have HK := m8_
              clear m0_ m1_ m2_ m3_ m4_ m5_ m6_ m7_ m8_
              go_wp2_with (first | ((with_reducible refine gate_builtin (b := .append) (xs := #[.tmp 100, .tmp 102]) rfl ?_); at_builtin; refine Kd.R_append (Kd.int .i64) w.heap.size rfl (.tmp 100) (.tmp 102) 36 2 (.int .i64 0) 8 rfl Try.underlying36 info2 rfl (by decide) (by omega) u10 x10_2 x4_2 [.int .i64 x4_2] (fun k_ => some k_ ≠ (.slice Ao78 x5_1.length co78 : Value).ownBlock) (fun _ => False) rfl rfl ?aP (fun _ hk => hk.elim) ?aF ?aO (Below.refl _ _) ?aS ?aL ?_; (case aP => exact rfl); (case aF => exact (fun k_ hk => Kd.fresh' (Kd.R_lt (HO_5.out)) k_ hk)); (case aO => exact (Kd.R_mono HO_10.out (fun _ hk => hk.1))); (case aS => exact (keep_size HK.out)); (case aL => have := LMc77.out; omega); intro v172 w86 ho hb hg hat; rw [← Ny171.out] at ho; have n0_ := Aside0.mk (Kd.R_after (ok := (fun _ => True)) (Kd.R_mono HO_5.out (fun _ hk => ⟨trivial, hk.1⟩)) hg hat); have n1_ := Aside0.mk (Kd.R_over' (HO_124000.out) (Kd.R_typed (HO_10.out)) (by decide) hg); have n2_ := Aside0.mk (blk_grown BK122.out hg (Kd.R_ne HO_10.out BK122.out (by decide))); have n3_ := Aside0.mk (blk_grown BK123.out hg (Kd.R_ne HO_10.out BK123.out (by decide))); have n4_ := Aside0.mk (IsS68.grown HI0.out hg (IsS68.own_ne HI0.out HO_10.out (by decide))); have n5_ := Aside0.mk (Kd.S_after (ok := (fun k_ => some k_ ≠ (.slice Ao78 x5_1.length co78 : Value).ownBlock)) (Kd.S_mono HO170.out (fun _ hk => ⟨hk.1, hk.2⟩)) hg hat); have n6_ := Aside0.mk (below_weaken HB.out HL.out hb); have n7_ := Aside0.mk (KeepBut.trans HK.out (KeepBut.of_grown hg g) (Kd.R_base2 HO_10.out)); have n8_ := Aside0.mk trivial; have n9_ := Aside0.mk (ho); clear HO_5; clear HO_124000; clear BK122; clear BK123; clear HI0; clear HO170; clear HB; clear HK; clear HO_10; have HO_5 := n0_; have HO_124000 := n1_; have BK122 := n2_; have BK123 := n3_; have HI0 := n4_; have HO170 := n5_; have HB := n6_; have HK := n7_; have HR164 := n8_; have HO173 := n9_; clear n0_ n1_ n2_ n3_ n4_ n5_ n6_ n7_ n8_ n9_; clear ho hb hg hat))
              go_roundg k2
              case measure => have := HK1.out; have := HK2.out; omega
              case rel => exact ⟨(wrap64 (x4_2 - 1)), (y171), (wrap64 (x11_2 + 2)), (y168), (.slice Ao84 y168.length co84), (by first | rfl | (simp; done) | (simp [*]; done)), (by first | rfl | (simp; done) | (simp [*]; done)), H', ⟨by have := HK1.out; have := HK2.out; omega⟩, ⟨by (with_reducible repeat (first | apply Kd.R_alloc | apply Kd.R_drewN | apply Kd.R_drew)); exact Kd.R_mono HO_5.out (fun _ hk => hk.2)⟩, ⟨by (with_reducible repeat (first | apply Kd.R_alloc | apply Kd.R_drewN | apply Kd.R_drew)); exact HO173.out⟩, ⟨by (with_reducible repeat (first | apply Kd.R_alloc | apply Kd.R_drewN | apply Kd.R_drew)); exact HO_124000.out⟩, ⟨by (with_reducible repeat (first | apply Kd.S_alloc | apply Kd.S_drewN | apply Kd.S_drew)); exact HO170.out⟩, ⟨by (with_reducible repeat first | apply blk_drewN | apply blk_drew | apply blk_alloc); exact BK122.out⟩, ⟨by (with_reducible repeat first | apply blk_drewN | apply blk_drew | apply blk_alloc); exact BK123.out⟩, ⟨by repeat (first | (with_reducible first | exact HI0.out | apply IsS68.alloc | apply IsS68.drewN | apply IsS68.drew | apply IsS68.set_1 | apply IsS68.set_2 | refine IsS68.far ?_ NB0_122.out _ | refine IsS68.far ?_ NB0_123.out _) | exact HI0.out)⟩, ⟨by repeat (first | (with_reducible first | exact HK.out | apply KeepBut.set_ | apply keep_drewN | apply keep_drew | apply keep_alloc | refine keep_far ?_ GW122.out _ | refine keep_far ?_ GW123.out _) | exact HK.out)⟩, ⟨by repeat (first | (with_reducible first | exact HB.out | apply below_alloc | apply pw_below_drewN | apply below_drew1 | refine below_set ?_ (IsS68.ge HI0.out) | refine below_set ?_ GE122.out | refine below_set ?_ GE123.out) | exact HB.out)⟩⟩
             ·rw [if_neg c77] at H
              exact absurd H (by simp)
            ·rw [if_neg c76] at H
             exact absurd H (by simp)
           ·rw [if_neg c74] at H
            exact absurd H (by simp)
          ·rw [if_neg c73] at H
           exact absurd H (by simp)
         ·rw [if_neg c72] at H
          exact absurd H (by simp)
        ·rw [if_neg c71] at H
         have c71b0 : decide ((x5_1.length : Int) < (wrap64 (x11_2 + 2))) = false := decide_eq_false c71
         clear c71
         by_cases c87 : 0 ≤ x11_2
         ·rw [if_pos c87] at H
          have c87b0 := eq_true c87
          have c87b1 : decide (0 ≤ x11_2) = true := decide_eq_true c87
          clear c87
          by_cases c88 : x11_2 ≤ (wrap64 (x11_2 + 2))
          ·rw [if_pos c88] at H
           have c88b0 := eq_true c88
           have c88b1 : decide (x11_2 ≤ (wrap64 (x11_2 + 2))) = true := decide_eq_true c88
           by_cases c89 : (wrap64 (x11_2 + 2)) ≤ (x5_1.length : Int)
           ·rw [if_pos c89] at H
            have c89b0 := eq_true c89
            have c89b1 : decide ((wrap64 (x11_2 + 2)) ≤ (x5_1.length : Int)) = true := decide_eq_true c89
            obtain ⟨y174, hy174⟩ : ∃ y_ : List Int, y_ = ((x5_1.take ((wrap64 (x11_2 + 2)) : Int).toNat).drop (x11_2 : Int).toNat) := ⟨_, rfl⟩
            replace H : ((spec_l00Own.f y174).bind fun t178 => (if x124001_2.length < 3518437208883 then (if x10_2.length < 17592186044416 then (spec_l06Draw.l2 k2 (wrap64 (x4_2 - 1)) x5_1 (x10_2 ++ [x4_2]) (wrap64 (x11_2 + 2)) s0_0 t156 t157 x124000_1 (x124001_2 ++ [(⟨x4_2, 2, t178⟩ : S70)])) else (none)) else (none))) = some (r1, r2, r3, r4) := by first | (rw [hy174]; with_reducible exact H) | (have H2_ := (Option.bind_some _ _).symm.trans H; rw [hy174]; with_reducible exact H2_) | (have H2_ := (Option.bind_some _ _).symm.trans H; with_reducible exact H2_) | with_reducible exact H | (rw [hy174]; exact H) | exact H
            have Ny174 := Aside0.mk hy174
            clear hy174
            replace H := Option.bind_eq_some_iff.mp H
            obtain ⟨t178, A900, H⟩ := H
            replace H : (if x124001_2.length < 3518437208883 then (if x10_2.length < 17592186044416 then (spec_l06Draw.l2 k2 (wrap64 (x4_2 - 1)) x5_1 (x10_2 ++ [x4_2]) (wrap64 (x11_2 + 2)) s0_0 t156 t157 x124000_1 (x124001_2 ++ [(⟨x4_2, 2, t178⟩ : S70)])) else (none)) else (none)) = some (r1, r2, r3, r4) := H
            have A90 := Aside0.mk A900
            clear A900
            by_cases c91 : x124001_2.length < 3518437208883
            ·rw [if_pos c91] at H
             have LMc91 := Aside0.mk c91
             clear c91
             obtain ⟨y181, hy181⟩ : ∃ y_ : List (S70), y_ = (x124001_2 ++ [(⟨x4_2, 2, t178⟩ : S70)]) := ⟨_, rfl⟩
             replace H : (if x10_2.length < 17592186044416 then (spec_l06Draw.l2 k2 (wrap64 (x4_2 - 1)) x5_1 (x10_2 ++ [x4_2]) (wrap64 (x11_2 + 2)) s0_0 t156 t157 x124000_1 y181) else (none)) = some (r1, r2, r3, r4) := by first | (rw [hy181]; with_reducible exact H) | (have H2_ := (Option.bind_some _ _).symm.trans H; rw [hy181]; with_reducible exact H2_) | (have H2_ := (Option.bind_some _ _).symm.trans H; with_reducible exact H2_) | with_reducible exact H | (rw [hy181]; exact H) | exact H
             have Ny181 := Aside0.mk hy181
             clear hy181
             by_cases c92 : x10_2.length < 17592186044416
             ·rw [if_pos c92] at H
              have LMc92 := Aside0.mk c92
              clear c92
              obtain ⟨y184, hy184⟩ : ∃ y_ : List Int, y_ = (x10_2 ++ [x4_2]) := ⟨_, rfl⟩
              replace H : (spec_l06Draw.l2 k2 (wrap64 (x4_2 - 1)) x5_1 y184 (wrap64 (x11_2 + 2)) s0_0 t156 t157 x124000_1 y181) = some (r1, r2, r3, r4) := by first | (rw [hy184]; with_reducible exact H) | (have H2_ := (Option.bind_some _ _).symm.trans H; rw [hy184]; with_reducible exact H2_) | (have H2_ := (Option.bind_some _ _).symm.trans H; with_reducible exact H2_) | with_reducible exact H | (rw [hy184]; exact H) | exact H
              have Ny184 := Aside0.mk hy184
              clear hy184
              have H' := Aside0.mk H
              clear H
              obtain ⟨Ao93, co93, eo93⟩ := Kd.R_slice HO_5.out
              subst eo93
              try go_wp2
              have n0_ := Aside0.mk (Kd.R_drew HO_5.out)
              have n1_ := Aside0.mk (Kd.R_drew HO_10.out)
              have n2_ := Aside0.mk (Kd.R_drew HO_124000.out)
              have n3_ := Aside0.mk (Kd.S_drew HO_124001.out)
              have n4_ := Aside0.mk (blk_drew BK122.out)
              have n5_ := Aside0.mk (blk_drew BK123.out)
              have n6_ := Aside0.mk (IsS68.drew HI0.out)
              have n7_ := Aside0.mk (keep_drew HK.out)
              have n8_ := Aside0.mk (below_drew1 HB.out)
              clear HO_5
              clear HO_10
              clear HO_124000
              clear HO_124001
              clear BK122
              clear BK123
              clear HI0
              clear HK
              clear HB
              have HO_5 := n0_
              have HO_10 := n1_
              have HO_124000 := n2_
              have HO_124001 := n3_
              have BK122 := n4_
              have BK123 := n5_
              have HI0 := n6_
              have HK := n7_
              have HB := n8_
              clear n0_ n1_ n2_ n3_ n4_ n5_ n6_ n7_ n8_
              have q95 : ((wrap64 (x11_2 + 2)) : Int) ≤ ((x5_1.length : Int) : Int) := of_decide_eq_true (by assumption)
              obtain ⟨i095, hi095, _, hsz95, _⟩ := info_parts info2
              have hroom95 : x5_1.length ≤ co93 := (Kd.R_reads' HO_5.out).2.1
              have hC95 : Kd.C (Kd.int .i64) _ Ao93 x5_1.length x5_1 := (Kd.R_reads' HO_5.out).2.2
              have ql95 : (x11_2 : Int) ≤ ((wrap64 (x11_2 + 2)) : Int) := of_decide_eq_true (by assumption)
              have q095 : (0 : Int) ≤ (x11_2 : Int) := of_decide_eq_true (by assumption)
              have hcut95 := cut_mid (P := Try.prog) 36 2 .i64 .i64 Try.underlying36 hi095 1 hsz95 Ao93 x5_1.length co93 x11_2 (wrap64 (x11_2 + 2)) q095 ql95 q95 hroom95
              have hr95 := Kd.C_mid (lo := (x11_2 : Int).toNat) (hi := ((wrap64 (x11_2 + 2)) : Int).toNat) (c := co93) hC95 (by omega) (by omega) hroom95
              obtain ⟨A95, hA95⟩ : ∃ A1, A1 = (if co93 = (x11_2 : Int).toNat then Ao93 else (Ao93 : Option Addr).map (·.add ((x11_2 : Int).toNat * 1))) := ⟨_, rfl⟩
              obtain ⟨c95, hc95⟩ : ∃ c1, c1 = co93 - (x11_2 : Int).toNat := ⟨_, rfl⟩
              have hy95 : y174.length = ((wrap64 (x11_2 + 2)) : Int).toNat - (x11_2 : Int).toNat := (by rw [Ny174.out, List.length_drop, List.length_take] <;> omega)
              rw [show ((x5_1).take ((wrap64 (x11_2 + 2)) : Int).toNat).drop (x11_2 : Int).toNat = y174 from Ny174.out.symm] at hr95
              replace hr95 : Kd.C (Kd.int .i64) _ A95 y174.length y174 := (by rw [hA95]; exact hr95)
              rw [← hy95, ← hA95, ← hc95] at hcut95
              have HR177 := Aside0.mk hr95
              have HC177 := Aside0.mk (show y174.length ≤ c95 from by rw [hy95, hc95]; exact Nat.sub_le_sub_right (Nat.le_trans (by omega) hroom95) _)
              clear hr95 hC95 hroom95 hi095 hsz95 hc95
              have KY95 := Aside0.mk hy95
              have KA95 := Aside0.mk hA95
              clear hy95 hA95
              have KL95 := Aside0.mk (show ((wrap64 (x11_2 + 2)) : Int).toNat ≤ x5_1.length from by omega)
              have KM95 := Aside0.mk (show (x11_2 : Int).toNat ≤ ((wrap64 (x11_2 + 2)) : Int).toNat from by omega)
              replace q95 := eq_true q95
              refine start_ (n := 13) (S := fun w' => w'.cell? ⟨gb123, 0, none⟩ = some (u124000) ∧ w'.cell? ⟨gb123, 1, none⟩ = some (u124001)) (ds := [12]) mz22_0 (by kernel_rfl) rfl rfl ⟨(blk_cell BK123.out 0).trans rfl, (blk_cell BK123.out 1).trans rfl⟩ (fun hHeld => ?_); refine with_tabW spec_l06Draw.tab26 spec_l06Draw.bits26 (fun HT_ HW_ => ?_)
              generalize wr.drew = w94 at HO_5 HO_10 HO_124000 HO_124001 BK122 BK123 HI0 HK HB HR177 hHeld ⊢
              refine pu_z22 0 (some 88) ?_ mz22_1 rfl rfl (any_of HT_.out (by kernel_rfl)) (fun _ _ _ h => h) (Or.inl ⟨by rfl, ?_⟩) ?_ ?_ ?_
              (rotate_left; ·(intro w'; go_simp; with_reducible rfl)); (rotate_left; ·(simp only [Act.put, pq_z22]; rfl))
              refine pu_z22 2 (some 90) ?_ mz22_2 rfl rfl (any_of HT_.out (by kernel_rfl)) (fun _ _ _ h => h) (Or.inl ⟨by rfl, ?_⟩) ?_ ?_ ?_
              (rotate_left; ·(intro w'; go_simp; with_reducible rfl)); (rotate_left; ·(simp only [Act.put, pq_z22]; rfl))
              refine pu_z22 3 (some 91) ?_ mz22_3 rfl rfl (any_of HT_.out (by kernel_rfl)) (fun _ _ _ h => h) (Or.inl ⟨by rfl, ?_⟩) ?_ ?_ ?_
              (rotate_left; ·(intro w'; go_simp; with_reducible rfl)); (rotate_left; ·(simp only [Act.put, pq_z22]; rfl))
              refine pu_z22 4 (some 92) ?_ mz22_4 rfl rfl (any_of HT_.out (by kernel_rfl)) (fun _ _ _ h => h) (Or.inl ⟨by rfl, ?_⟩) ?_ ?_ ?_
              (rotate_left; ·(intro w'; go_simp; with_reducible rfl)); (rotate_left; ·(simp only [Act.put, pq_z22]; rfl))
              refine pu_z22 5 (some 93) ?_ mz22_14 rfl rfl (any_of HT_.out (by kernel_rfl)) (fun _ _ _ h => h) (Or.inl ⟨by rfl, ?_⟩) ?_ ?_ ?_
              (rotate_left; ·(intro w'; go_simp; with_reducible rfl)); (rotate_left; ·(simp only [Act.put, pq_z22]; rfl))
              refine pu_z22 6 (some 94) ?_ mz22_15 rfl rfl (any_of HT_.out (by kernel_rfl)) (fun _ _ _ h => h) (Or.inl ⟨by rfl, ?_⟩) ?_ ?_ ?_
              (rotate_left; ·(intro w'; go_simp; with_reducible rfl)); (rotate_left; ·(simp only [Act.put, pq_z22]; rfl))
              refine take_ (i := 1) (N := some 89) (v := ?_) (a' := ?_) mz22_7 rfl rfl (take_ofW HT_.out HW_.out (by kernel_rfl)) (fun _ _ _ h => h) (Or.inl ⟨by rfl, ?_⟩) hHeld ?_ ?_
              (rotate_left; ·(rintro w' ⟨s0, s1⟩; go_simp; with_reducible rfl)); (rotate_left; ·(simp only [Act.put, pq_z22]; rfl))
              refine one_ (i := 7) (N := some 95) mz22_8 rfl rfl (one_of HT_.out (by kernel_rfl)) (by decide) (fun K hK => ?_)
              refine goes_ Try.func39 (by kernel_rfl) rfl #[.slice A95 y174.length c95] (by rfl) rfl rfl (by (try simp only [List.map_toArray, List.map_cons, List.map_nil]); first | done | rfl | (simp only [List.length_drop, List.length_take]; rfl)) ?_
              with_reducible refine (spec_l00Own.calls _ _ y174 t178 _ ?side1 ?side2 A90.out).mono ?_
              (case side1 => repeat (first | exact (by repeat (first | (with_reducible exact HR177.out) | (with_reducible refine Kd.C_alloc ?_ _) | (with_reducible refine Kd.C_drewN ?_ _) | (with_reducible refine Kd.C_drew ?_) | exact HR177.out)) | (with_reducible refine Kd.C_alloc ?_ _) | (with_reducible refine Kd.C_drewN ?_ _) | (with_reducible refine Kd.C_drew ?_)))
              (case side2 => exact HC177.out)
              rintro e w96 ⟨v179, rfl, ho0, hb⟩
              refine ⟨_, rfl, ?_⟩
              have n0_ := Aside0.mk (Kd.R_elder' (by (with_reducible repeat (first | apply Kd.R_alloc | apply Kd.R_drewN | apply Kd.R_drew)); exact HO_5.out) (Kd.R_base ho0) hb)
              have n1_ := Aside0.mk (Kd.R_elder' (by (with_reducible repeat (first | apply Kd.R_alloc | apply Kd.R_drewN | apply Kd.R_drew)); exact HO_10.out) (Kd.R_base ho0) hb)
              have n2_ := Aside0.mk (Kd.R_below (by (with_reducible repeat (first | apply Kd.R_alloc | apply Kd.R_drewN | apply Kd.R_drew)); exact HO_124000.out) hb)
              have n3_ := Aside0.mk (Kd.S_elder' (by (with_reducible repeat (first | apply Kd.S_alloc | apply Kd.S_drewN | apply Kd.S_drew)); exact HO_124001.out) (Kd.R_base ho0) hb)
              have n4_ := Aside0.mk (Kd.R_lower (Kd.R_new' (Kd.R_new' ho0 (Kd.R_lt (by (with_reducible repeat (first | apply Kd.R_alloc | apply Kd.R_drewN | apply Kd.R_drew)); exact HO_5.out))) (Kd.R_lt (by (with_reducible repeat (first | apply Kd.R_alloc | apply Kd.R_drewN | apply Kd.R_drew)); exact HO_10.out))) (keep_size (w := w) (g := g) (row := none) (by repeat (first | (with_reducible first | exact HK.out | apply KeepBut.set_ | apply keep_drewN | apply keep_drew | apply keep_alloc | refine keep_far ?_ GW122.out _ | refine keep_far ?_ GW123.out _) | exact HK.out))))
              have n5_ := Aside0.mk (blk_below (g := gb122) (o := .cells #[.slice none 0 0, .slice none 0 0] 26 (0, 0)) (by (with_reducible repeat first | apply blk_drewN | apply blk_drew | apply blk_alloc); exact BK122.out) hb)
              have n6_ := Aside0.mk (blk_below (g := gb123) (o := .cells #[u124000, u124001] 26 (0, 0)) (by (with_reducible repeat first | apply blk_drewN | apply blk_drew | apply blk_alloc); exact BK123.out) hb)
              have n7_ := Aside0.mk (IsS68.below (by repeat (first | (with_reducible first | exact HI0.out | apply IsS68.alloc | apply IsS68.drewN | apply IsS68.drew | apply IsS68.set_1 | apply IsS68.set_2 | refine IsS68.far ?_ NB0_122.out _ | refine IsS68.far ?_ NB0_123.out _) | exact HI0.out)) hb)
              have n8_ := Aside0.mk (Kd.C_below (by repeat (first | (with_reducible exact HR177.out) | (with_reducible refine Kd.C_alloc ?_ _) | (with_reducible refine Kd.C_drewN ?_ _) | (with_reducible refine Kd.C_drew ?_) | exact HR177.out)) hb)
              have n9_ := Aside0.mk (KeepBut.trans (by repeat (first | (with_reducible first | exact HK.out | apply KeepBut.set_ | apply keep_drewN | apply keep_drew | apply keep_alloc | refine keep_far ?_ GW122.out _ | refine keep_far ?_ GW123.out _) | exact HK.out)) (KeepBut.of_below hb g none) (.inl rfl))
              have n10_ := Aside0.mk (below_step (by repeat (first | (with_reducible first | exact HB.out | apply below_alloc | apply pw_below_drewN | apply below_drew1 | refine below_set ?_ (IsS68.ge HI0.out) | refine below_set ?_ GE122.out | refine below_set ?_ GE123.out) | exact HB.out)) hb)
              clear HO_5
              clear HO_10
              clear HO_124000
              clear HO_124001
              clear BK122
              clear BK123
              clear HI0
              clear HR177
              clear HK
              clear HB
              have HO_5 := n0_
              have HO_10 := n1_
              have HO_124000 := n2_
              have HO_124001 := n3_
              have HO180 := n4_
              have BK122 := n5_
              have BK123 := n6_
              have HI0 := n7_
              have HR177 := n8_
              have HK := n9_
              have HB := n10_
              clear n0_ n1_ n2_ n3_ n4_ n5_ n6_ n7_ n8_ n9_ n10_
              (try clear hb)
              (try clear hb2)
              (try clear hk)
              (try clear hi)
              (try clear ho0)
              obtain ⟨Ao97, co97, eo97⟩ := Kd.R_slice HO180.out
              (first | subst eo97 | (injection eo97 with f1_ f2_ f3_; have f4_ := f1_.symm; have f5_ := f3_.symm; clear f1_ f2_ f3_; subst f4_; subst f5_))
              refine hK.out _ _ ⟨(blk_cell BK123.out 0).trans rfl, (blk_cell BK123.out 1).trans rfl⟩ (fun hHeld => ?_)
              clear hK K
              refine norm_ (a' := ?_) ?_ ?_
              (rotate_left; ·(show Act.put _ (some 95) _ = _; simp only [Act.put, pq_z22]; rfl))
              refine pu_z22 8 (some 96) ?_ mz22_9 rfl rfl (any_of HT_.out (by kernel_rfl)) (fun _ _ _ h => h) (Or.inl ⟨by rfl, ?_⟩) ?_ ?_ ?_
              (rotate_left; ·(intro w'; go_simp; with_reducible rfl)); (rotate_left; ·(simp only [Act.put, pq_z22]; rfl))
              refine one_ (i := 9) (N := some 97) mz22_10 rfl rfl (one_of HT_.out (by kernel_rfl)) (by decide) (fun K hK => ?_)
              refine value_ (w1 := ?_) (v := ?_) (by rfl) rfl ?_ ?_
              rotate_left 2
              ·go_simp
               constructor
               ·rfl
               ·rfl
              refine hK.out _ _ ⟨(blk_cell (blk_alloc BK123.out _) 0).trans rfl, (blk_cell (blk_alloc BK123.out _) 1).trans rfl⟩ (fun hHeld => ?_)
              clear hK K
              refine norm_ (a' := ?_) ?_ ?_
              (rotate_left; ·(show Act.put _ (some 97) _ = _; simp only [Act.put, pq_z22]; rfl))
              refine one_ (i := 10) (N := some 98) mz22_11 rfl rfl (one_of HT_.out (by kernel_rfl)) (by decide) (fun K hK => ?_)
              refine Kd.S_append_step k70 w.heap.size (by rfl) (.tmp 89) (.tmp 97) 24 70 (.agg #[(.int .i64 0), (.int .i64 0), (.slice none 0 0)]) 40 rfl Try.underlying24 info70 rfl (by decide) (by omega) u124001 x124001_2 (⟨x4_2, 2, t178⟩ : S70) [.int .i64 x4_2, .int .i64 2, .slice Ao97 t178.length co97] (fun k_ => some k_ ≠ (.slice Ao93 x5_1.length co93 : Value).ownBlock ∧ some k_ ≠ (u10 : Value).ownBlock) (fun k_ => some k_ = (.slice Ao97 t178.length co97 : Value).ownBlock) rfl rfl ?aP (fun k_ hk_ => ((Kd.R_mono (ok' := fun k_ => ((fun k_ => some k_ ≠ (.slice Ao93 x5_1.length co93 : Value).ownBlock ∧ some k_ ≠ (u10 : Value).ownBlock)) k_ ∧ some k_ ≠ (u124001 : Value).ownBlock) (Kd.R_apart' (HO180.out) (Kd.S_typed HO_124001.out) (by decide)) (fun k_ hk => ⟨⟨hk.1.1.2, hk.1.2⟩, hk.2⟩))).1 k_ hk_.symm) ?aF ?aO (Below.refl _ _) ?aS ?aL ?_
              (case aP => exact k70_mkM _ _ _ (⟨x4_2, 2, t178⟩ : S70) (Kd.R_mono (Kd.R_tight rfl (Kd.R_mono (ok' := fun k_ => ((fun k_ => some k_ ≠ (.slice Ao93 x5_1.length co93 : Value).ownBlock ∧ some k_ ≠ (u10 : Value).ownBlock)) k_ ∧ some k_ ≠ (u124001 : Value).ownBlock) (Kd.R_apart' (HO180.out) (Kd.S_typed HO_124001.out) (by decide)) (fun k_ hk => ⟨⟨hk.1.1.2, hk.1.2⟩, hk.2⟩))) (fun _ h_ => h_)))
              (case aF => exact (fun k_ hk => ⟨Kd.fresh' (Kd.R_lt (by (with_reducible repeat (first | apply Kd.R_alloc | apply Kd.R_drewN | apply Kd.R_drew)); exact HO_5.out)) k_ hk, Kd.fresh' (Kd.R_lt (by (with_reducible repeat (first | apply Kd.R_alloc | apply Kd.R_drewN | apply Kd.R_drew)); exact HO_10.out)) k_ hk⟩))
              (case aO => exact (by (with_reducible repeat (first | apply Kd.S_alloc | apply Kd.S_drewN | apply Kd.S_drew)); exact Kd.S_mono HO_124001.out (fun k_ hk => ⟨⟨hk.1.1, hk.1.2⟩, fun e_ => hk.2 e_⟩)))
              (case aS => exact (keep_size (w := w) (g := g) (row := none) (by repeat (first | (with_reducible first | exact HK.out | apply KeepBut.set_ | apply keep_drewN | apply keep_drew | apply keep_alloc | refine keep_far ?_ GW122.out _ | refine keep_far ?_ GW123.out _) | exact HK.out))))
              (case aL => have := LMc91.out; omega)
              intro v182 w98 ho hb hg hat
              rw [← Ny181.out] at ho
              have n0_ := Aside0.mk (Kd.R_over' (by (with_reducible repeat (first | apply Kd.R_alloc | apply Kd.R_drewN | apply Kd.R_drew)); exact HO_5.out) (Kd.S_typed (by (with_reducible repeat (first | apply Kd.S_alloc | apply Kd.S_drewN | apply Kd.S_drew)); exact HO_124001.out)) (by decide) hg)
              have n1_ := Aside0.mk (Kd.R_over' (by (with_reducible repeat (first | apply Kd.R_alloc | apply Kd.R_drewN | apply Kd.R_drew)); exact HO_10.out) (Kd.S_typed (by (with_reducible repeat (first | apply Kd.S_alloc | apply Kd.S_drewN | apply Kd.S_drew)); exact HO_124001.out)) (by decide) hg)
              have n2_ := Aside0.mk (Kd.R_over' (by (with_reducible repeat (first | apply Kd.R_alloc | apply Kd.R_drewN | apply Kd.R_drew)); exact HO_124000.out) (Kd.S_typed (by (with_reducible repeat (first | apply Kd.S_alloc | apply Kd.S_drewN | apply Kd.S_drew)); exact HO_124001.out)) (by decide) hg)
              have n3_ := Aside0.mk (blk_grown (g := gb122) (o := .cells #[.slice none 0 0, .slice none 0 0] 26 (0, 0)) (by (with_reducible repeat first | apply blk_drewN | apply blk_drew | apply blk_alloc); exact BK122.out) hg (Kd.S_ne HO_124001.out BK122.out (by decide)))
              have n4_ := Aside0.mk (blk_grown (g := gb123) (o := .cells #[u124000, u124001] 26 (0, 0)) (by (with_reducible repeat first | apply blk_drewN | apply blk_drew | apply blk_alloc); exact BK123.out) hg (Kd.S_ne HO_124001.out BK123.out (by decide)))
              have n5_ := Aside0.mk (IsS68.grown (by repeat (first | (with_reducible first | exact HI0.out | apply IsS68.alloc | apply IsS68.drewN | apply IsS68.drew | apply IsS68.set_1 | apply IsS68.set_2 | refine IsS68.far ?_ NB0_122.out _ | refine IsS68.far ?_ NB0_123.out _) | exact HI0.out)) hg (IsS68.own_neS HI0.out HO_124001.out (by decide)))
              have n6_ := Aside0.mk (below_weaken (by repeat (first | (with_reducible first | exact HB.out | apply below_alloc | apply pw_below_drewN | apply below_drew1 | refine below_set ?_ (IsS68.ge HI0.out) | refine below_set ?_ GE122.out | refine below_set ?_ GE123.out) | exact HB.out)) HL.out hb)
              have n7_ := Aside0.mk (KeepBut.trans (by repeat (first | (with_reducible first | exact HK.out | apply KeepBut.set_ | apply keep_drewN | apply keep_drew | apply keep_alloc | refine keep_far ?_ GW122.out _ | refine keep_far ?_ GW123.out _) | exact HK.out)) (KeepBut.of_grown hg g) (Kd.S_base2 HO_124001.out))
              have n8_ := Aside0.mk ((show Kd.C (Kd.int .i64) w98 A95 y174.length y174 from by rw [Ny174.out, KA95.out]; exact Kd.C_mid (lo := (x11_2 : Int).toNat) (hi := ((wrap64 (x11_2 + 2)) : Int).toNat) (c := co93) ((Kd.R_reads' (Kd.R_over' (by (with_reducible repeat (first | apply Kd.R_alloc | apply Kd.R_drewN | apply Kd.R_drew)); exact HO_5.out) (Kd.S_typed (by (with_reducible repeat (first | apply Kd.S_alloc | apply Kd.S_drewN | apply Kd.S_drew)); exact HO_124001.out)) (by decide) hg)).2.2) KM95.out KL95.out ((Kd.R_reads' (Kd.R_over' (by (with_reducible repeat (first | apply Kd.R_alloc | apply Kd.R_drewN | apply Kd.R_drew)); exact HO_5.out) (Kd.S_typed (by (with_reducible repeat (first | apply Kd.S_alloc | apply Kd.S_drewN | apply Kd.S_drew)); exact HO_124001.out)) (by decide) hg)).2.1)))
              have n9_ := Aside0.mk (ho)
              clear HO_5
              clear HO_10
              clear HO_124000
              clear BK122
              clear BK123
              clear HI0
              clear HB
              clear HK
              clear HR177
              clear HO_124001
              clear HO180
              have HO_5 := n0_
              have HO_10 := n1_
              have HO_124000 := n2_
              have BK122 := n3_
              have BK123 := n4_
              have HI0 := n5_
              have HB := n6_
              have HK := n7_
              have HR177 := n8_
              have HO183 := n9_
              clear n0_ n1_ n2_ n3_ n4_ n5_ n6_ n7_ n8_ n9_
              clear ho hb hg hat
              obtain ⟨Ao99, co99, eo99⟩ := Kd.S_slice HO183.out
              (first | subst eo99 | (injection eo99 with f1_ f2_ f3_; have f4_ := f1_.symm; have f5_ := f3_.symm; clear f1_ f2_ f3_; subst f4_; subst f5_))
              refine hK.out _ _ ⟨(blk_cell BK123.out 0).trans rfl, (blk_cell BK123.out 1).trans rfl⟩ (fun hHeld => ?_)
              clear hK K
              refine norm_ (a' := ?_) ?_ ?_
              (rotate_left; ·(show Act.put _ (some 98) _ = _; simp only [Act.put, pq_z22]; rfl))
              refine pu_z22 11 (some 99) ?_ mz22_12 rfl rfl (any_of HT_.out (by kernel_rfl)) (fun _ _ _ h => h) (Or.inl ⟨by rfl, ?_⟩) ?_ ?_ ?_
              (rotate_left; ·(intro w'; go_simp; with_reducible rfl)); (rotate_left; ·(simp only [Act.put, pq_z22]; rfl))
              refine last_ (i := 12) (N := none) mz22_13 rfl rfl (one_of HT_.out (by kernel_rfl)) (by decide) (fun K hK => ?_)
              have hs100 : w98.cell? ⟨gb123, 1, none⟩ = some (u124001) := (blk_cell BK123.out 1).trans rfl
              have hfs100 := blk_frozen BK123.out 1
              have hns100_0 := NB122_123.out
              have hms100_0 := NB123_122.out
              refine skip_ (w1 := ?_) (by rfl) rfl ?_ ?_
              rotate_left
              ·go_simp
               rfl
              refine hK.out _ _ ?_
              clear hK K
              refine done_ (done_of HT_.out (by kernel_rfl)) ?_
              have m0_ := Aside0.mk (Kd.R_mono (Kd.R_far (p := ⟨gb123, 1, none⟩) (Kd.R_types HO_5.out BK123.out (by decide)) (fun _ hk => hk.2) (.slice Ao99 y181.length co99)) (fun _ h_ => h_.1))
              have m1_ := Aside0.mk (Kd.R_mono (Kd.R_far (p := ⟨gb123, 1, none⟩) (Kd.R_types HO_10.out BK123.out (by decide)) (fun _ hk => hk.2) (.slice Ao99 y181.length co99)) (fun _ h_ => h_.1))
              have m2_ := Aside0.mk (Kd.R_mono (Kd.R_far (p := ⟨gb123, 1, none⟩) (Kd.R_types HO_124000.out BK123.out (by decide)) (fun _ hk => hk.2) (.slice Ao99 y181.length co99)) (fun _ h_ => h_.1))
              have m3_ := Aside0.mk (Kd.S_mono (Kd.S_far (p := ⟨gb123, 1, none⟩) (Kd.S_types HO183.out BK123.out (by decide)) (fun _ hk => hk.2) (.slice Ao99 y181.length co99)) (fun _ h_ => h_.1))
              have m4_ := Aside0.mk (blk_far (p := ⟨gb123, 1, none⟩) BK122.out NB122_123.out (.slice Ao99 y181.length co99))
              have m5_ := Aside0.mk (show (w98.setCell ⟨gb123, 1, none⟩ (.slice Ao99 y181.length co99)).heap[gb123]? = some (.cells #[u124000, .slice Ao99 y181.length co99] 26 (0, 0)) from blk_put (cs := #[u124000, u124001]) BK123.out 1 _ rfl)
              have m6_ := Aside0.mk (IsS68.far (p := ⟨gb123, 1, none⟩) HI0.out NB0_123.out (.slice Ao99 y181.length co99))
              have m7_ := Aside0.mk (below_set (v := (.slice Ao99 y181.length co99)) (j := 1) HB.out GE123.out)
              have m8_ := Aside0.mk (keep_far (p := ⟨gb123, 1, none⟩) HK.out GW123.out (.slice Ao99 y181.length co99))
              clear HO_5 HO_10 HO_124000 HO183 BK122 BK123 HI0 HB HK HR177
              generalize (w98.setCell ⟨gb123, 1, none⟩ (.slice Ao99 y181.length co99)) = wz98 at m0_ m1_ m2_ m3_ m4_ m5_ m6_ m7_ m8_ ⊢
              have HO_5 := m0_
              have HO_10 := m1_
              have HO_124000 := m2_
              have HO183 := m3_
              have BK122 := m4_
              have BK123 := m5_
              have HI0 := m6_
              have HB := m7_
              have HK := m8_
              clear m0_ m1_ m2_ m3_ m4_ m5_ m6_ m7_ m8_
              go_wp2_with (first | ((with_reducible refine gate_builtin (b := .append) (xs := #[.tmp 100, .tmp 102]) rfl ?_); at_builtin; refine Kd.R_append (Kd.int .i64) w.heap.size rfl (.tmp 100) (.tmp 102) 36 2 (.int .i64 0) 8 rfl Try.underlying36 info2 rfl (by decide) (by omega) u10 x10_2 x4_2 [.int .i64 x4_2] (fun k_ => some k_ ≠ (.slice Ao93 x5_1.length co93 : Value).ownBlock) (fun _ => False) rfl rfl ?aP (fun _ hk => hk.elim) ?aF ?aO (Below.refl _ _) ?aS ?aL ?_; (case aP => exact rfl); (case aF => exact (fun k_ hk => Kd.fresh' (Kd.R_lt (HO_5.out)) k_ hk)); (case aO => exact (Kd.R_mono HO_10.out (fun _ hk => hk.1))); (case aS => exact (keep_size HK.out)); (case aL => have := LMc92.out; omega); intro v185 w101 ho hb hg hat; rw [← Ny184.out] at ho; have n0_ := Aside0.mk (Kd.R_after (ok := (fun _ => True)) (Kd.R_mono HO_5.out (fun _ hk => ⟨trivial, hk.1⟩)) hg hat); have n1_ := Aside0.mk (Kd.R_over' (HO_124000.out) (Kd.R_typed (HO_10.out)) (by decide) hg); have n2_ := Aside0.mk (blk_grown BK122.out hg (Kd.R_ne HO_10.out BK122.out (by decide))); have n3_ := Aside0.mk (blk_grown BK123.out hg (Kd.R_ne HO_10.out BK123.out (by decide))); have n4_ := Aside0.mk (IsS68.grown HI0.out hg (IsS68.own_ne HI0.out HO_10.out (by decide))); have n5_ := Aside0.mk (Kd.S_after (ok := (fun k_ => some k_ ≠ (.slice Ao93 x5_1.length co93 : Value).ownBlock)) (Kd.S_mono HO183.out (fun _ hk => ⟨hk.1, hk.2⟩)) hg hat); have n6_ := Aside0.mk (below_weaken HB.out HL.out hb); have n7_ := Aside0.mk (KeepBut.trans HK.out (KeepBut.of_grown hg g) (Kd.R_base2 HO_10.out)); have n8_ := Aside0.mk trivial; have n9_ := Aside0.mk (ho); clear HO_5; clear HO_124000; clear BK122; clear BK123; clear HI0; clear HO183; clear HB; clear HK; clear HO_10; have HO_5 := n0_; have HO_124000 := n1_; have BK122 := n2_; have BK123 := n3_; have HI0 := n4_; have HO183 := n5_; have HB := n6_; have HK := n7_; have HR177 := n8_; have HO186 := n9_; clear n0_ n1_ n2_ n3_ n4_ n5_ n6_ n7_ n8_ n9_; clear ho hb hg hat))
              go_roundg k2
              case measure => have := HK1.out; have := HK2.out; omega
              case rel => exact ⟨(wrap64 (x4_2 - 1)), (y184), (wrap64 (x11_2 + 2)), (y181), (.slice Ao99 y181.length co99), (by first | rfl | (simp; done) | (simp [*]; done)), (by first | rfl | (simp; done) | (simp [*]; done)), H', ⟨by have := HK1.out; have := HK2.out; omega⟩, ⟨by (with_reducible repeat (first | apply Kd.R_alloc | apply Kd.R_drewN | apply Kd.R_drew)); exact Kd.R_mono HO_5.out (fun _ hk => hk.2)⟩, ⟨by (with_reducible repeat (first | apply Kd.R_alloc | apply Kd.R_drewN | apply Kd.R_drew)); exact HO186.out⟩, ⟨by (with_reducible repeat (first | apply Kd.R_alloc | apply Kd.R_drewN | apply Kd.R_drew)); exact HO_124000.out⟩, ⟨by (with_reducible repeat (first | apply Kd.S_alloc | apply Kd.S_drewN | apply Kd.S_drew)); exact HO183.out⟩, ⟨by (with_reducible repeat first | apply blk_drewN | apply blk_drew | apply blk_alloc); exact BK122.out⟩, ⟨by (with_reducible repeat first | apply blk_drewN | apply blk_drew | apply blk_alloc); exact BK123.out⟩, ⟨by repeat (first | (with_reducible first | exact HI0.out | apply IsS68.alloc | apply IsS68.drewN | apply IsS68.drew | apply IsS68.set_1 | apply IsS68.set_2 | refine IsS68.far ?_ NB0_122.out _ | refine IsS68.far ?_ NB0_123.out _) | exact HI0.out)⟩, ⟨by repeat (first | (with_reducible first | exact HK.out | apply KeepBut.set_ | apply keep_drewN | apply keep_drew | apply keep_alloc | refine keep_far ?_ GW122.out _ | refine keep_far ?_ GW123.out _) | exact HK.out)⟩, ⟨by repeat (first | (with_reducible first | exact HB.out | apply below_alloc | apply pw_below_drewN | apply below_drew1 | refine below_set ?_ (IsS68.ge HI0.out) | refine below_set ?_ GE122.out | refine below_set ?_ GE123.out) | exact HB.out)⟩⟩
             ·rw [if_neg c92] at H
              exact absurd H (by simp)
            ·rw [if_neg c91] at H
             exact absurd H (by simp)
           ·rw [if_neg c89] at H
            exact absurd H (by simp)
          ·rw [if_neg c88] at H
           exact absurd H (by simp)
         ·rw [if_neg c87] at H
          exact absurd H (by simp)
       ·rw [if_neg c70] at H
        have c70b0 : decide (x11_2 < (x5_1.length : Int)) = false := decide_eq_false c70
        clear c70
        replace H := Option.bind_eq_some_iff.mp H
        obtain ⟨t187, A1020, H⟩ := H
        replace H : (if x124001_2.length < 3518437208883 then (some (x124000_1, (x124001_2 ++ [(⟨x4_2, 3, t187⟩ : S70)]), t156, t157)) else (none)) = some (r1, r2, r3, r4) := H
        have A102 := Aside0.mk A1020
        clear A1020
        by_cases c103 : x124001_2.length < 3518437208883
        ·rw [if_pos c103] at H
         have LMc103 := Aside0.mk c103
         clear c103
         obtain ⟨y190, hy190⟩ : ∃ y_ : List (S70), y_ = (x124001_2 ++ [(⟨x4_2, 3, t187⟩ : S70)]) := ⟨_, rfl⟩
         replace H : (some (x124000_1, y190, t156, t157)) = some (r1, r2, r3, r4) := by first | (rw [hy190]; with_reducible exact H) | (have H2_ := (Option.bind_some _ _).symm.trans H; rw [hy190]; with_reducible exact H2_) | (have H2_ := (Option.bind_some _ _).symm.trans H; with_reducible exact H2_) | with_reducible exact H | (rw [hy190]; exact H) | exact H
         have Ny190 := Aside0.mk hy190
         clear hy190
         simp only [Option.some.injEq, Prod.mk.injEq] at H
         obtain ⟨rfl, rfl, rfl, rfl⟩ := H
         obtain ⟨Ao104, co104, eo104⟩ := Kd.R_slice HO_5.out
         subst eo104
         try go_wp2
         have n0_ := Aside0.mk (Kd.R_drew HO_5.out)
         have n1_ := Aside0.mk (Kd.R_drew HO_10.out)
         have n2_ := Aside0.mk (Kd.R_drew HO_124000.out)
         have n3_ := Aside0.mk (Kd.S_drew HO_124001.out)
         have n4_ := Aside0.mk (blk_drew BK122.out)
         have n5_ := Aside0.mk (blk_drew BK123.out)
         have n6_ := Aside0.mk (IsS68.drew HI0.out)
         have n7_ := Aside0.mk (keep_drew HK.out)
         have n8_ := Aside0.mk (below_drew1 HB.out)
         clear HO_5
         clear HO_10
         clear HO_124000
         clear HO_124001
         clear BK122
         clear BK123
         clear HI0
         clear HK
         clear HB
         have HO_5 := n0_
         have HO_10 := n1_
         have HO_124000 := n2_
         have HO_124001 := n3_
         have BK122 := n4_
         have BK123 := n5_
         have HI0 := n6_
         have HK := n7_
         have HB := n8_
         clear n0_ n1_ n2_ n3_ n4_ n5_ n6_ n7_ n8_
         obtain ⟨Ao106, co106, eo106⟩ := Kd.R_slice HO_10.out
         (first | subst eo106 | (injection eo106 with f1_ f2_ f3_; have f4_ := f1_.symm; have f5_ := f3_.symm; clear f1_ f2_ f3_; subst f4_; subst f5_))
         refine start_ (n := 10) (S := fun w' => w'.cell? ⟨gb123, 0, none⟩ = some (u124000) ∧ w'.cell? ⟨gb123, 1, none⟩ = some (u124001)) (ds := [9]) mz22_16 (by kernel_rfl) rfl rfl ⟨(blk_cell BK123.out 0).trans rfl, (blk_cell BK123.out 1).trans rfl⟩ (fun hHeld => ?_); refine with_tabW spec_l06Draw.tab29 spec_l06Draw.bits29 (fun HT_ HW_ => ?_)
         generalize wr.drew = w105 at HO_5 HO_10 HO_124000 HO_124001 BK122 BK123 HI0 HK HB hHeld ⊢
         refine pu_z22 0 (some 106) ?_ mz22_17 rfl rfl (any_of HT_.out (by kernel_rfl)) (fun _ _ _ h => h) (Or.inl ⟨by rfl, ?_⟩) ?_ ?_ ?_
         (rotate_left; ·(intro w'; go_simp; with_reducible rfl)); (rotate_left; ·(simp only [Act.put, pq_z22]; rfl))
         refine pu_z22 2 (some 108) ?_ mz22_18 rfl rfl (any_of HT_.out (by kernel_rfl)) (fun _ _ _ h => h) (Or.inl ⟨by rfl, ?_⟩) ?_ ?_ ?_
         (rotate_left; ·(intro w'; go_simp; with_reducible rfl)); (rotate_left; ·(simp only [Act.put, pq_z22]; rfl))
         refine pu_z22 3 (some 109) ?_ mz22_19 rfl rfl (any_of HT_.out (by kernel_rfl)) (fun _ _ _ h => h) (Or.inl ⟨by rfl, ?_⟩) ?_ ?_ ?_
         (rotate_left; ·(intro w'; go_simp; with_reducible rfl)); (rotate_left; ·(simp only [Act.put, pq_z22]; rfl))
         refine take_ (i := 1) (N := some 107) (v := ?_) (a' := ?_) mz22_20 rfl rfl (take_ofW HT_.out HW_.out (by kernel_rfl)) (fun _ _ _ h => h) (Or.inl ⟨by rfl, ?_⟩) hHeld ?_ ?_
         (rotate_left; ·(rintro w' ⟨s0, s1⟩; go_simp; with_reducible rfl)); (rotate_left; ·(simp only [Act.put, pq_z22]; rfl))
         refine one_ (i := 4) (N := some 110) mz22_21 rfl rfl (one_of HT_.out (by kernel_rfl)) (by decide) (fun K hK => ?_)
         refine goes_ Try.func39 (by kernel_rfl) rfl #[.slice Ao106 x10_2.length co106] (by rfl) rfl rfl (by (try simp only [List.map_toArray, List.map_cons, List.map_nil]); first | done | rfl | (simp only [List.length_drop, List.length_take]; rfl)) ?_
         with_reducible refine (spec_l00Own.calls _ _ x10_2 t187 _ ?side1 ?side2 A102.out).mono ?_
         (case side1 => repeat (first | exact (Kd.R_reads' HO_10.out).2.2 | (with_reducible refine Kd.C_alloc ?_ _) | (with_reducible refine Kd.C_drewN ?_ _) | (with_reducible refine Kd.C_drew ?_)))
         (case side2 => exact (Kd.R_reads' HO_10.out).2.1)
         rintro e w107 ⟨v188, rfl, ho0, hb⟩
         refine ⟨_, rfl, ?_⟩
         have n0_ := Aside0.mk (Kd.R_elder' (by (with_reducible repeat (first | apply Kd.R_alloc | apply Kd.R_drewN | apply Kd.R_drew)); exact HO_5.out) (Kd.R_base ho0) hb)
         have n1_ := Aside0.mk (Kd.R_elder' (by (with_reducible repeat (first | apply Kd.R_alloc | apply Kd.R_drewN | apply Kd.R_drew)); exact HO_10.out) (Kd.R_base ho0) hb)
         have n2_ := Aside0.mk (Kd.R_below (by (with_reducible repeat (first | apply Kd.R_alloc | apply Kd.R_drewN | apply Kd.R_drew)); exact HO_124000.out) hb)
         have n3_ := Aside0.mk (Kd.S_elder' (by (with_reducible repeat (first | apply Kd.S_alloc | apply Kd.S_drewN | apply Kd.S_drew)); exact HO_124001.out) (Kd.R_base ho0) hb)
         have n4_ := Aside0.mk (Kd.R_lower (Kd.R_new' (Kd.R_new' ho0 (Kd.R_lt (by (with_reducible repeat (first | apply Kd.R_alloc | apply Kd.R_drewN | apply Kd.R_drew)); exact HO_5.out))) (Kd.R_lt (by (with_reducible repeat (first | apply Kd.R_alloc | apply Kd.R_drewN | apply Kd.R_drew)); exact HO_10.out))) (keep_size (w := w) (g := g) (row := none) (by repeat (first | (with_reducible first | exact HK.out | apply KeepBut.set_ | apply keep_drewN | apply keep_drew | apply keep_alloc | refine keep_far ?_ GW122.out _ | refine keep_far ?_ GW123.out _) | exact HK.out))))
         have n5_ := Aside0.mk (blk_below (g := gb122) (o := .cells #[.slice none 0 0, .slice none 0 0] 26 (0, 0)) (by (with_reducible repeat first | apply blk_drewN | apply blk_drew | apply blk_alloc); exact BK122.out) hb)
         have n6_ := Aside0.mk (blk_below (g := gb123) (o := .cells #[u124000, u124001] 26 (0, 0)) (by (with_reducible repeat first | apply blk_drewN | apply blk_drew | apply blk_alloc); exact BK123.out) hb)
         have n7_ := Aside0.mk (IsS68.below (by repeat (first | (with_reducible first | exact HI0.out | apply IsS68.alloc | apply IsS68.drewN | apply IsS68.drew | apply IsS68.set_1 | apply IsS68.set_2 | refine IsS68.far ?_ NB0_122.out _ | refine IsS68.far ?_ NB0_123.out _) | exact HI0.out)) hb)
         have n8_ := Aside0.mk (KeepBut.trans (by repeat (first | (with_reducible first | exact HK.out | apply KeepBut.set_ | apply keep_drewN | apply keep_drew | apply keep_alloc | refine keep_far ?_ GW122.out _ | refine keep_far ?_ GW123.out _) | exact HK.out)) (KeepBut.of_below hb g none) (.inl rfl))
         have n9_ := Aside0.mk (below_step (by repeat (first | (with_reducible first | exact HB.out | apply below_alloc | apply pw_below_drewN | apply below_drew1 | refine below_set ?_ (IsS68.ge HI0.out) | refine below_set ?_ GE122.out | refine below_set ?_ GE123.out) | exact HB.out)) hb)
         clear HO_5
         clear HO_10
         clear HO_124000
         clear HO_124001
         clear BK122
         clear BK123
         clear HI0
         clear HK
         clear HB
         have HO_5 := n0_
         have HO_10 := n1_
         have HO_124000 := n2_
         have HO_124001 := n3_
         have HO189 := n4_
         have BK122 := n5_
         have BK123 := n6_
         have HI0 := n7_
         have HK := n8_
         have HB := n9_
         clear n0_ n1_ n2_ n3_ n4_ n5_ n6_ n7_ n8_ n9_
         (try clear hb)
         (try clear hb2)
         (try clear hk)
         (try clear hi)
         (try clear ho0)
         obtain ⟨Ao108, co108, eo108⟩ := Kd.R_slice HO189.out
         (first | subst eo108 | (injection eo108 with f1_ f2_ f3_; have f4_ := f1_.symm; have f5_ := f3_.symm; clear f1_ f2_ f3_; subst f4_; subst f5_))
         refine hK.out _ _ ⟨(blk_cell BK123.out 0).trans rfl, (blk_cell BK123.out 1).trans rfl⟩ (fun hHeld => ?_)
         clear hK K
         refine norm_ (a' := ?_) ?_ ?_
         (rotate_left; ·(show Act.put _ (some 110) _ = _; simp only [Act.put, pq_z22]; rfl))
         refine pu_z22 5 (some 111) ?_ mz22_22 rfl rfl (any_of HT_.out (by kernel_rfl)) (fun _ _ _ h => h) (Or.inl ⟨by rfl, ?_⟩) ?_ ?_ ?_
         (rotate_left; ·(intro w'; go_simp; with_reducible rfl)); (rotate_left; ·(simp only [Act.put, pq_z22]; rfl))
         refine one_ (i := 6) (N := some 112) mz22_23 rfl rfl (one_of HT_.out (by kernel_rfl)) (by decide) (fun K hK => ?_)
         refine value_ (w1 := ?_) (v := ?_) (by rfl) rfl ?_ ?_
         rotate_left 2
         ·go_simp
          constructor
          ·rfl
          ·rfl
         refine hK.out _ _ ⟨(blk_cell (blk_alloc BK123.out _) 0).trans rfl, (blk_cell (blk_alloc BK123.out _) 1).trans rfl⟩ (fun hHeld => ?_)
         clear hK K
         refine norm_ (a' := ?_) ?_ ?_
         (rotate_left; ·(show Act.put _ (some 112) _ = _; simp only [Act.put, pq_z22]; rfl))
         refine one_ (i := 7) (N := some 113) mz22_24 rfl rfl (one_of HT_.out (by kernel_rfl)) (by decide) (fun K hK => ?_)
         refine Kd.S_append_step k70 w.heap.size (by rfl) (.tmp 107) (.tmp 112) 24 70 (.agg #[(.int .i64 0), (.int .i64 0), (.slice none 0 0)]) 40 rfl Try.underlying24 info70 rfl (by decide) (by omega) u124001 x124001_2 (⟨x4_2, 3, t187⟩ : S70) [.int .i64 x4_2, .int .i64 3, .slice Ao108 t187.length co108] (fun k_ => some k_ ≠ (.slice Ao104 x5_1.length co104 : Value).ownBlock ∧ some k_ ≠ (.slice Ao106 x10_2.length co106 : Value).ownBlock) (fun k_ => some k_ = (.slice Ao108 t187.length co108 : Value).ownBlock) rfl rfl ?aP (fun k_ hk_ => ((Kd.R_mono (ok' := fun k_ => ((fun k_ => some k_ ≠ (.slice Ao104 x5_1.length co104 : Value).ownBlock ∧ some k_ ≠ (.slice Ao106 x10_2.length co106 : Value).ownBlock)) k_ ∧ some k_ ≠ (u124001 : Value).ownBlock) (Kd.R_apart' (HO189.out) (Kd.S_typed HO_124001.out) (by decide)) (fun k_ hk => ⟨⟨hk.1.1.2, hk.1.2⟩, hk.2⟩))).1 k_ hk_.symm) ?aF ?aO (Below.refl _ _) ?aS ?aL ?_
         (case aP => exact k70_mkM _ _ _ (⟨x4_2, 3, t187⟩ : S70) (Kd.R_mono (Kd.R_tight rfl (Kd.R_mono (ok' := fun k_ => ((fun k_ => some k_ ≠ (.slice Ao104 x5_1.length co104 : Value).ownBlock ∧ some k_ ≠ (.slice Ao106 x10_2.length co106 : Value).ownBlock)) k_ ∧ some k_ ≠ (u124001 : Value).ownBlock) (Kd.R_apart' (HO189.out) (Kd.S_typed HO_124001.out) (by decide)) (fun k_ hk => ⟨⟨hk.1.1.2, hk.1.2⟩, hk.2⟩))) (fun _ h_ => h_)))
         (case aF => exact (fun k_ hk => ⟨Kd.fresh' (Kd.R_lt (by (with_reducible repeat (first | apply Kd.R_alloc | apply Kd.R_drewN | apply Kd.R_drew)); exact HO_5.out)) k_ hk, Kd.fresh' (Kd.R_lt (by (with_reducible repeat (first | apply Kd.R_alloc | apply Kd.R_drewN | apply Kd.R_drew)); exact HO_10.out)) k_ hk⟩))
         (case aO => exact (by (with_reducible repeat (first | apply Kd.S_alloc | apply Kd.S_drewN | apply Kd.S_drew)); exact Kd.S_mono HO_124001.out (fun k_ hk => ⟨⟨hk.1.1, hk.1.2⟩, fun e_ => hk.2 e_⟩)))
         (case aS => exact (keep_size (w := w) (g := g) (row := none) (by repeat (first | (with_reducible first | exact HK.out | apply KeepBut.set_ | apply keep_drewN | apply keep_drew | apply keep_alloc | refine keep_far ?_ GW122.out _ | refine keep_far ?_ GW123.out _) | exact HK.out))))
         (case aL => have := LMc103.out; omega)
         intro v191 w109 ho hb hg hat
         rw [← Ny190.out] at ho
         have n0_ := Aside0.mk (Kd.R_over' (by (with_reducible repeat (first | apply Kd.R_alloc | apply Kd.R_drewN | apply Kd.R_drew)); exact HO_5.out) (Kd.S_typed (by (with_reducible repeat (first | apply Kd.S_alloc | apply Kd.S_drewN | apply Kd.S_drew)); exact HO_124001.out)) (by decide) hg)
         have n1_ := Aside0.mk (Kd.R_over' (by (with_reducible repeat (first | apply Kd.R_alloc | apply Kd.R_drewN | apply Kd.R_drew)); exact HO_10.out) (Kd.S_typed (by (with_reducible repeat (first | apply Kd.S_alloc | apply Kd.S_drewN | apply Kd.S_drew)); exact HO_124001.out)) (by decide) hg)
         have n2_ := Aside0.mk (Kd.R_over' (by (with_reducible repeat (first | apply Kd.R_alloc | apply Kd.R_drewN | apply Kd.R_drew)); exact HO_124000.out) (Kd.S_typed (by (with_reducible repeat (first | apply Kd.S_alloc | apply Kd.S_drewN | apply Kd.S_drew)); exact HO_124001.out)) (by decide) hg)
         have n3_ := Aside0.mk (blk_grown (g := gb122) (o := .cells #[.slice none 0 0, .slice none 0 0] 26 (0, 0)) (by (with_reducible repeat first | apply blk_drewN | apply blk_drew | apply blk_alloc); exact BK122.out) hg (Kd.S_ne HO_124001.out BK122.out (by decide)))
         have n4_ := Aside0.mk (blk_grown (g := gb123) (o := .cells #[u124000, u124001] 26 (0, 0)) (by (with_reducible repeat first | apply blk_drewN | apply blk_drew | apply blk_alloc); exact BK123.out) hg (Kd.S_ne HO_124001.out BK123.out (by decide)))
         have n5_ := Aside0.mk (IsS68.grown (by repeat (first | (with_reducible first | exact HI0.out | apply IsS68.alloc | apply IsS68.drewN | apply IsS68.drew | apply IsS68.set_1 | apply IsS68.set_2 | refine IsS68.far ?_ NB0_122.out _ | refine IsS68.far ?_ NB0_123.out _) | exact HI0.out)) hg (IsS68.own_neS HI0.out HO_124001.out (by decide)))
         have n6_ := Aside0.mk (below_weaken (by repeat (first | (with_reducible first | exact HB.out | apply below_alloc | apply pw_below_drewN | apply below_drew1 | refine below_set ?_ (IsS68.ge HI0.out) | refine below_set ?_ GE122.out | refine below_set ?_ GE123.out) | exact HB.out)) HL.out hb)
         have n7_ := Aside0.mk (KeepBut.trans (by repeat (first | (with_reducible first | exact HK.out | apply KeepBut.set_ | apply keep_drewN | apply keep_drew | apply keep_alloc | refine keep_far ?_ GW122.out _ | refine keep_far ?_ GW123.out _) | exact HK.out)) (KeepBut.of_grown hg g) (Kd.S_base2 HO_124001.out))
         have n8_ := Aside0.mk (ho)
         clear HO_5
         clear HO_10
         clear HO_124000
         clear BK122
         clear BK123
         clear HI0
         clear HB
         clear HK
         clear HO_124001
         clear HO189
         have HO_5 := n0_
         have HO_10 := n1_
         have HO_124000 := n2_
         have BK122 := n3_
         have BK123 := n4_
         have HI0 := n5_
         have HB := n6_
         have HK := n7_
         have HO192 := n8_
         clear n0_ n1_ n2_ n3_ n4_ n5_ n6_ n7_ n8_
         clear ho hb hg hat
         obtain ⟨Ao110, co110, eo110⟩ := Kd.S_slice HO192.out
         (first | subst eo110 | (injection eo110 with f1_ f2_ f3_; have f4_ := f1_.symm; have f5_ := f3_.symm; clear f1_ f2_ f3_; subst f4_; subst f5_))
         refine hK.out _ _ ⟨(blk_cell BK123.out 0).trans rfl, (blk_cell BK123.out 1).trans rfl⟩ (fun hHeld => ?_)
         clear hK K
         refine norm_ (a' := ?_) ?_ ?_
         (rotate_left; ·(show Act.put _ (some 113) _ = _; simp only [Act.put, pq_z22]; rfl))
         refine pu_z22 8 (some 114) ?_ mz22_25 rfl rfl (any_of HT_.out (by kernel_rfl)) (fun _ _ _ h => h) (Or.inl ⟨by rfl, ?_⟩) ?_ ?_ ?_
         (rotate_left; ·(intro w'; go_simp; with_reducible rfl)); (rotate_left; ·(simp only [Act.put, pq_z22]; rfl))
         refine last_ (i := 9) (N := none) mz22_26 rfl rfl (one_of HT_.out (by kernel_rfl)) (by decide) (fun K hK => ?_)
         have hs111 : w109.cell? ⟨gb123, 1, none⟩ = some (u124001) := (blk_cell BK123.out 1).trans rfl
         have hfs111 := blk_frozen BK123.out 1
         have hns111_0 := NB122_123.out
         have hms111_0 := NB123_122.out
         refine skip_ (w1 := ?_) (by rfl) rfl ?_ ?_
         rotate_left
         ·go_simp
          rfl
         refine hK.out _ _ ?_
         clear hK K
         refine done_ (done_of HT_.out (by kernel_rfl)) ?_
         have hnb112 := NB123_122.out
         have hnc112 := NB122_123.out
         have hnb113 := NB123_0.out
         have hnc113 := NB0_123.out
         have hcz114_0 : w109.cell? ⟨gb123, 0, none⟩ = some (u124000) := (blk_cell BK123.out 0).trans rfl
         have hcz114_1 : w109.cell? ⟨gb123, 1, none⟩ = some (u124001) := (blk_cell BK123.out 1).trans rfl
         have hfz114_0 := blk_frozen BK123.out 0
         have hfz114_1 := blk_frozen BK123.out 1
         obtain ⟨Ao115, co115, eo115⟩ := Kd.R_slice HO_124000.out
         subst eo115
         have hnb116 := NB122_0.out
         have hnc116 := NB0_122.out
         have hcz117_0 : w109.cell? ⟨gb122, 0, none⟩ = some (.slice none 0 0) := (blk_cell BK122.out 0).trans rfl
         have hcz117_1 : w109.cell? ⟨gb122, 1, none⟩ = some (.slice none 0 0) := (blk_cell BK122.out 1).trans rfl
         have hfz117_0 := blk_frozen BK122.out 0
         have hfz117_1 := blk_frozen BK122.out 1
         try go_wp2
         refine bodyPost_ret (results_cell_row rfl _ _ gb122 26 #[.slice Ao115 x124000_1.length co115, .slice Ao110 y190.length co110] (0, 0) _ rfl (by (with_reducible repeat first | apply blk_drewN | apply blk_drew | apply blk_alloc); refine blk_put (cs := #[.slice Ao115 x124000_1.length co115, .slice none 0 0]) ?_ 1 _ rfl; (with_reducible repeat first | apply blk_drewN | apply blk_drew | apply blk_alloc); refine blk_put (cs := #[.slice none 0 0, .slice none 0 0]) ?_ 0 _ rfl; (with_reducible repeat first | apply blk_drewN | apply blk_drew | apply blk_alloc); refine blk_far ?_ NB122_123.out _; (with_reducible repeat first | apply blk_drewN | apply blk_drew | apply blk_alloc); exact BK122.out) Try.underlying26 rfl (by kernel_rfl)) rfl ?_
         exact ⟨_, _, by first | rfl | (simp [*, errW_none, errW_some] <;> rfl), by (with_reducible repeat (first | apply Kd.R_alloc | apply Kd.R_drewN | apply Kd.R_drew)); exact Kd.R_mono (Kd.R_far (p := ⟨gb122, 1, none⟩) (Kd.R_far (p := ⟨gb122, 0, none⟩) (Kd.R_far (p := ⟨gb123, 1, none⟩) (Kd.R_types (Kd.R_types HO_124000.out BK123.out (by decide)) BK122.out (by decide)) (fun _ hk => hk.1.2) (.slice Ao110 y190.length co110)) (fun _ hk => hk.2) (.slice Ao115 x124000_1.length co115)) (fun _ hk => hk.2) (.slice Ao110 y190.length co110)) (fun _ hk => trivial), by (with_reducible repeat (first | apply Kd.S_alloc | apply Kd.S_drewN | apply Kd.S_drew)); exact Kd.S_mono (Kd.S_far (p := ⟨gb122, 1, none⟩) (Kd.S_far (p := ⟨gb122, 0, none⟩) (Kd.S_far (p := ⟨gb123, 1, none⟩) (Kd.S_types (Kd.S_types HO192.out BK123.out (by decide)) BK122.out (by decide)) (fun _ hk => hk.1.2) (.slice Ao110 y190.length co110)) (fun _ hk => hk.2) (.slice Ao115 x124000_1.length co115)) (fun _ hk => hk.2) (.slice Ao110 y190.length co110)) (fun _ hk => trivial), by repeat (first | (with_reducible first | exact HI0.out | apply IsS68.alloc | apply IsS68.drewN | apply IsS68.drew | apply IsS68.set_1 | apply IsS68.set_2 | refine IsS68.far ?_ NB0_122.out _ | refine IsS68.far ?_ NB0_123.out _) | exact HI0.out), by repeat (first | (with_reducible first | exact HB.out | apply below_alloc | apply pw_below_drewN | apply below_drew1 | refine below_set ?_ (IsS68.ge HI0.out) | refine below_set ?_ GE122.out | refine below_set ?_ GE123.out) | exact HB.out), by repeat (first | (with_reducible first | exact HK.out | apply KeepBut.set_ | apply keep_drewN | apply keep_drew | apply keep_alloc | refine keep_far ?_ GW122.out _ | refine keep_far ?_ GW123.out _) | exact HK.out)⟩
        ·rw [if_neg c103] at H
         exact absurd H (by simp)
    ·replace c66 := Bool.eq_false_iff.mpr c66
     subst c66
     have H1 : ((spec_l00Own.f x5_1).bind fun t193 => (if x124001_1.length < 3518437208883 then (some (x124000_1, (x124001_1 ++ [(⟨x4_1, 3, t193⟩ : S70)]), t156, t157)) else (none))) = some (r1, r2, r3, r4) := by rw [if_neg (show ¬ (false = true) by decide)] at H; exact H
     clear H
     have H := H1
     clear H1
     replace H := Option.bind_eq_some_iff.mp H
     obtain ⟨t193, A1180, H⟩ := H
     replace H : (if x124001_1.length < 3518437208883 then (some (x124000_1, (x124001_1 ++ [(⟨x4_1, 3, t193⟩ : S70)]), t156, t157)) else (none)) = some (r1, r2, r3, r4) := H
     have A118 := Aside0.mk A1180
     clear A1180
     by_cases c119 : x124001_1.length < 3518437208883
     ·rw [if_pos c119] at H
      have LMc119 := Aside0.mk c119
      clear c119
      obtain ⟨y196, hy196⟩ : ∃ y_ : List (S70), y_ = (x124001_1 ++ [(⟨x4_1, 3, t193⟩ : S70)]) := ⟨_, rfl⟩
      replace H : (some (x124000_1, y196, t156, t157)) = some (r1, r2, r3, r4) := by first | (rw [hy196]; with_reducible exact H) | (have H2_ := (Option.bind_some _ _).symm.trans H; rw [hy196]; with_reducible exact H2_) | (have H2_ := (Option.bind_some _ _).symm.trans H; with_reducible exact H2_) | with_reducible exact H | (rw [hy196]; exact H) | exact H
      have Ny196 := Aside0.mk hy196
      clear hy196
      simp only [Option.some.injEq, Prod.mk.injEq] at H
      obtain ⟨rfl, rfl, rfl, rfl⟩ := H
      try go_wp2_with (first | ((with_reducible refine gate_callee (f := 38) rfl ?_); refine goesL_ (some 72) rfl rfl Try.func38 (by kernel_rfl) rfl #[.pointer (some ⟨g, 0, none⟩), .int .i64 2] rfl (by (try simp only [List.map_toArray, List.map_cons, List.map_nil]); first | done | rfl | (simp only [List.length_drop, List.length_take]; rfl)) ?_; (with_reducible refine (spec_l00Src_one.calls g s0_0 x1001_1 x1002_1 2 false t156 t157 w0 _ ?side1 ?side2 A65.out).mono ?_); (case side1 => repeat (first | (with_reducible first | exact HI0.out | apply IsS68.alloc | apply IsS68.drewN | apply IsS68.drew | apply IsS68.set_1 | apply IsS68.set_2 | refine IsS68.far ?_ NB0_122.out _ | refine IsS68.far ?_ NB0_123.out _) | exact HI0.out)); (case side2 => repeat (first | (with_reducible first | exact HB.out | apply below_alloc | apply pw_below_drewN | apply below_drew1 | refine below_set ?_ (IsS68.ge HI0.out) | refine below_set ?_ GE122.out | refine below_set ?_ GE123.out) | exact HB.out)); rintro e w120 ⟨rfl, hi, hb, hk⟩; refine ⟨_, rfl, ?_⟩; have n0_ := Aside0.mk (Kd.R_mono (Kd.R_keep (IsS68.apart (show IsS68 w0 _ g s0_0 x1001_1 x1002_1 from by repeat (first | (with_reducible first | exact HI0.out | apply IsS68.alloc | apply IsS68.drewN | apply IsS68.drew | apply IsS68.set_1 | apply IsS68.set_2 | refine IsS68.far ?_ NB0_122.out _ | refine IsS68.far ?_ NB0_123.out _) | exact HI0.out)) (by (with_reducible repeat (first | apply Kd.R_alloc | apply Kd.R_drewN | apply Kd.R_drew)); exact HO_5.out) (by decide)) hk (fun _ h => h.2)) (fun _ h => h.1)); have n1_ := Aside0.mk (Kd.R_mono (Kd.R_keep (IsS68.apart (show IsS68 w0 _ g s0_0 x1001_1 x1002_1 from by repeat (first | (with_reducible first | exact HI0.out | apply IsS68.alloc | apply IsS68.drewN | apply IsS68.drew | apply IsS68.set_1 | apply IsS68.set_2 | refine IsS68.far ?_ NB0_122.out _ | refine IsS68.far ?_ NB0_123.out _) | exact HI0.out)) (by (with_reducible repeat (first | apply Kd.R_alloc | apply Kd.R_drewN | apply Kd.R_drew)); exact HO_124000.out) (by decide)) hk (fun _ h => h.2)) (fun _ h => h.1)); have n2_ := Aside0.mk (Kd.S_mono (Kd.S_keep (IsS68.apartS (show IsS68 w0 _ g s0_0 x1001_1 x1002_1 from by repeat (first | (with_reducible first | exact HI0.out | apply IsS68.alloc | apply IsS68.drewN | apply IsS68.drew | apply IsS68.set_1 | apply IsS68.set_2 | refine IsS68.far ?_ NB0_122.out _ | refine IsS68.far ?_ NB0_123.out _) | exact HI0.out)) (by (with_reducible repeat (first | apply Kd.S_alloc | apply Kd.S_drewN | apply Kd.S_drew)); exact HO_124001.out) (by decide)) hk (fun _ h => h.2)) (fun _ h => h.1)); have n3_ := Aside0.mk (KeepBut.blk hk (g' := gb122) (o := .cells #[.slice none 0 0, .slice none 0 0] 26 (0, 0)) (by (with_reducible repeat first | apply blk_drewN | apply blk_drew | apply blk_alloc); exact BK122.out) NB122_0.out (by simp)); have n4_ := Aside0.mk (KeepBut.blk hk (g' := gb123) (o := .cells #[u124000, u124001] 26 (0, 0)) (by (with_reducible repeat first | apply blk_drewN | apply blk_drew | apply blk_alloc); exact BK123.out) NB123_0.out (by simp)); have n5_ := Aside0.mk (KeepBut.trans (by repeat (first | (with_reducible first | exact HK.out | apply KeepBut.set_ | apply keep_drewN | apply keep_drew | apply keep_alloc | refine keep_far ?_ GW122.out _ | refine keep_far ?_ GW123.out _) | exact HK.out)) hk (.inl rfl)); have n6_ := Aside0.mk (hb); have n7_ := Aside0.mk (hi); clear HO_5; clear HO_124000; clear HO_124001; clear BK122; clear BK123; clear HK; clear HB; clear HI0; have HO_5 := n0_; have HO_124000 := n1_; have HO_124001 := n2_; have BK122 := n3_; have BK123 := n4_; have HK := n5_; have HB := n6_; have HI0 := n7_; clear n0_ n1_ n2_ n3_ n4_ n5_ n6_ n7_; (try clear hb); (try clear hb2); (try clear hk); (try clear hi)))
      have n0_ := Aside0.mk (Kd.R_drew HO_5.out)
      have n1_ := Aside0.mk (Kd.R_drew HO_124000.out)
      have n2_ := Aside0.mk (Kd.S_drew HO_124001.out)
      have n3_ := Aside0.mk (blk_drew BK122.out)
      have n4_ := Aside0.mk (blk_drew BK123.out)
      have n5_ := Aside0.mk (IsS68.drew HI0.out)
      have n6_ := Aside0.mk (keep_drew HK.out)
      have n7_ := Aside0.mk (below_drew1 HB.out)
      clear HO_5
      clear HO_124000
      clear HO_124001
      clear BK122
      clear BK123
      clear HI0
      clear HK
      clear HB
      have HO_5 := n0_
      have HO_124000 := n1_
      have HO_124001 := n2_
      have BK122 := n3_
      have BK123 := n4_
      have HI0 := n5_
      have HK := n6_
      have HB := n7_
      clear n0_ n1_ n2_ n3_ n4_ n5_ n6_ n7_
      obtain ⟨Ao122, co122, eo122⟩ := Kd.R_slice HO_5.out
      (first | subst eo122 | (injection eo122 with f1_ f2_ f3_; have f4_ := f1_.symm; have f5_ := f3_.symm; clear f1_ f2_ f3_; subst f4_; subst f5_))
      refine start_ (n := 10) (S := fun w' => w'.cell? ⟨gb123, 0, none⟩ = some (u124000) ∧ w'.cell? ⟨gb123, 1, none⟩ = some (u124001)) (ds := [9]) mz22_16 (by kernel_rfl) rfl rfl ⟨(blk_cell BK123.out 0).trans rfl, (blk_cell BK123.out 1).trans rfl⟩ (fun hHeld => ?_); refine with_tabW spec_l06Draw.tab29 spec_l06Draw.bits29 (fun HT_ HW_ => ?_)
      generalize w120.drew = w121 at HO_5 HO_124000 HO_124001 BK122 BK123 HI0 HK HB hHeld ⊢
      refine pu_z22 0 (some 106) ?_ mz22_17 rfl rfl (any_of HT_.out (by kernel_rfl)) (fun _ _ _ h => h) (Or.inl ⟨by rfl, ?_⟩) ?_ ?_ ?_
      (rotate_left; ·(intro w'; go_simp; with_reducible rfl)); (rotate_left; ·(simp only [Act.put, pq_z22]; rfl))
      refine pu_z22 2 (some 108) ?_ mz22_18 rfl rfl (any_of HT_.out (by kernel_rfl)) (fun _ _ _ h => h) (Or.inl ⟨by rfl, ?_⟩) ?_ ?_ ?_
      (rotate_left; ·(intro w'; go_simp; with_reducible rfl)); (rotate_left; ·(simp only [Act.put, pq_z22]; rfl))
      refine pu_z22 3 (some 109) ?_ mz22_19 rfl rfl (any_of HT_.out (by kernel_rfl)) (fun _ _ _ h => h) (Or.inl ⟨by rfl, ?_⟩) ?_ ?_ ?_
      (rotate_left; ·(intro w'; go_simp; with_reducible rfl)); (rotate_left; ·(simp only [Act.put, pq_z22]; rfl))
      refine take_ (i := 1) (N := some 107) (v := ?_) (a' := ?_) mz22_20 rfl rfl (take_ofW HT_.out HW_.out (by kernel_rfl)) (fun _ _ _ h => h) (Or.inl ⟨by rfl, ?_⟩) hHeld ?_ ?_
      (rotate_left; ·(rintro w' ⟨s0, s1⟩; go_simp; with_reducible rfl)); (rotate_left; ·(simp only [Act.put, pq_z22]; rfl))
      refine one_ (i := 4) (N := some 110) mz22_21 rfl rfl (one_of HT_.out (by kernel_rfl)) (by decide) (fun K hK => ?_)
      refine goes_ Try.func39 (by kernel_rfl) rfl #[.slice Ao122 x5_1.length co122] (by rfl) rfl rfl (by (try simp only [List.map_toArray, List.map_cons, List.map_nil]); first | done | rfl | (simp only [List.length_drop, List.length_take]; rfl)) ?_
      with_reducible refine (spec_l00Own.calls _ _ x5_1 t193 _ ?side1 ?side2 A118.out).mono ?_
      (case side1 => repeat (first | exact (Kd.R_reads' HO_5.out).2.2 | (with_reducible refine Kd.C_alloc ?_ _) | (with_reducible refine Kd.C_drewN ?_ _) | (with_reducible refine Kd.C_drew ?_)))
      (case side2 => exact (Kd.R_reads' HO_5.out).2.1)
      rintro e w123 ⟨v194, rfl, ho0, hb⟩
      refine ⟨_, rfl, ?_⟩
      have n0_ := Aside0.mk (Kd.R_elder' (by (with_reducible repeat (first | apply Kd.R_alloc | apply Kd.R_drewN | apply Kd.R_drew)); exact HO_5.out) (Kd.R_base ho0) hb)
      have n1_ := Aside0.mk (Kd.R_below (by (with_reducible repeat (first | apply Kd.R_alloc | apply Kd.R_drewN | apply Kd.R_drew)); exact HO_124000.out) hb)
      have n2_ := Aside0.mk (Kd.S_elder' (by (with_reducible repeat (first | apply Kd.S_alloc | apply Kd.S_drewN | apply Kd.S_drew)); exact HO_124001.out) (Kd.R_base ho0) hb)
      have n3_ := Aside0.mk (Kd.R_lower (Kd.R_new' ho0 (Kd.R_lt (by (with_reducible repeat (first | apply Kd.R_alloc | apply Kd.R_drewN | apply Kd.R_drew)); exact HO_5.out))) (keep_size (w := w) (g := g) (row := none) (by repeat (first | (with_reducible first | exact HK.out | apply KeepBut.set_ | apply keep_drewN | apply keep_drew | apply keep_alloc | refine keep_far ?_ GW122.out _ | refine keep_far ?_ GW123.out _) | exact HK.out))))
      have n4_ := Aside0.mk (blk_below (g := gb122) (o := .cells #[.slice none 0 0, .slice none 0 0] 26 (0, 0)) (by (with_reducible repeat first | apply blk_drewN | apply blk_drew | apply blk_alloc); exact BK122.out) hb)
      have n5_ := Aside0.mk (blk_below (g := gb123) (o := .cells #[u124000, u124001] 26 (0, 0)) (by (with_reducible repeat first | apply blk_drewN | apply blk_drew | apply blk_alloc); exact BK123.out) hb)
      have n6_ := Aside0.mk (IsS68.below (by repeat (first | (with_reducible first | exact HI0.out | apply IsS68.alloc | apply IsS68.drewN | apply IsS68.drew | apply IsS68.set_1 | apply IsS68.set_2 | refine IsS68.far ?_ NB0_122.out _ | refine IsS68.far ?_ NB0_123.out _) | exact HI0.out)) hb)
      have n7_ := Aside0.mk (KeepBut.trans (by repeat (first | (with_reducible first | exact HK.out | apply KeepBut.set_ | apply keep_drewN | apply keep_drew | apply keep_alloc | refine keep_far ?_ GW122.out _ | refine keep_far ?_ GW123.out _) | exact HK.out)) (KeepBut.of_below hb g none) (.inl rfl))
      have n8_ := Aside0.mk (below_step (by repeat (first | (with_reducible first | exact HB.out | apply below_alloc | apply pw_below_drewN | apply below_drew1 | refine below_set ?_ (IsS68.ge HI0.out) | refine below_set ?_ GE122.out | refine below_set ?_ GE123.out) | exact HB.out)) hb)
      clear HO_5
      clear HO_124000
      clear HO_124001
      clear BK122
      clear BK123
      clear HI0
      clear HK
      clear HB
      have HO_5 := n0_
      have HO_124000 := n1_
      have HO_124001 := n2_
      have HO195 := n3_
      have BK122 := n4_
      have BK123 := n5_
      have HI0 := n6_
      have HK := n7_
      have HB := n8_
      clear n0_ n1_ n2_ n3_ n4_ n5_ n6_ n7_ n8_
      (try clear hb)
      (try clear hb2)
      (try clear hk)
      (try clear hi)
      (try clear ho0)
      obtain ⟨Ao124, co124, eo124⟩ := Kd.R_slice HO195.out
      (first | subst eo124 | (injection eo124 with f1_ f2_ f3_; have f4_ := f1_.symm; have f5_ := f3_.symm; clear f1_ f2_ f3_; subst f4_; subst f5_))
      refine hK.out _ _ ⟨(blk_cell BK123.out 0).trans rfl, (blk_cell BK123.out 1).trans rfl⟩ (fun hHeld => ?_)
      clear hK K
      refine norm_ (a' := ?_) ?_ ?_
      (rotate_left; ·(show Act.put _ (some 110) _ = _; simp only [Act.put, pq_z22]; rfl))
      refine pu_z22 5 (some 111) ?_ mz22_22 rfl rfl (any_of HT_.out (by kernel_rfl)) (fun _ _ _ h => h) (Or.inl ⟨by rfl, ?_⟩) ?_ ?_ ?_
      (rotate_left; ·(intro w'; go_simp; with_reducible rfl)); (rotate_left; ·(simp only [Act.put, pq_z22]; rfl))
      refine one_ (i := 6) (N := some 112) mz22_23 rfl rfl (one_of HT_.out (by kernel_rfl)) (by decide) (fun K hK => ?_)
      refine value_ (w1 := ?_) (v := ?_) (by rfl) rfl ?_ ?_
      rotate_left 2
      ·go_simp
       constructor
       ·rfl
       ·rfl
      refine hK.out _ _ ⟨(blk_cell (blk_alloc BK123.out _) 0).trans rfl, (blk_cell (blk_alloc BK123.out _) 1).trans rfl⟩ (fun hHeld => ?_)
      clear hK K
      refine norm_ (a' := ?_) ?_ ?_
      (rotate_left; ·(show Act.put _ (some 112) _ = _; simp only [Act.put, pq_z22]; rfl))
      refine one_ (i := 7) (N := some 113) mz22_24 rfl rfl (one_of HT_.out (by kernel_rfl)) (by decide) (fun K hK => ?_)
      refine Kd.S_append_step k70 w.heap.size (by rfl) (.tmp 107) (.tmp 112) 24 70 (.agg #[(.int .i64 0), (.int .i64 0), (.slice none 0 0)]) 40 rfl Try.underlying24 info70 rfl (by decide) (by omega) u124001 x124001_1 (⟨x4_1, 3, t193⟩ : S70) [.int .i64 x4_1, .int .i64 3, .slice Ao124 t193.length co124] (fun k_ => some k_ ≠ (.slice Ao122 x5_1.length co122 : Value).ownBlock) (fun k_ => some k_ = (.slice Ao124 t193.length co124 : Value).ownBlock) rfl rfl ?aP (fun k_ hk_ => ((Kd.R_mono (ok' := fun k_ => ((fun k_ => some k_ ≠ (.slice Ao122 x5_1.length co122 : Value).ownBlock)) k_ ∧ some k_ ≠ (u124001 : Value).ownBlock) (Kd.R_apart' (HO195.out) (Kd.S_typed HO_124001.out) (by decide)) (fun k_ hk => ⟨hk.1.2, hk.2⟩))).1 k_ hk_.symm) ?aF ?aO (Below.refl _ _) ?aS ?aL ?_
      (case aP => exact k70_mkM _ _ _ (⟨x4_1, 3, t193⟩ : S70) (Kd.R_mono (Kd.R_tight rfl (Kd.R_mono (ok' := fun k_ => ((fun k_ => some k_ ≠ (.slice Ao122 x5_1.length co122 : Value).ownBlock)) k_ ∧ some k_ ≠ (u124001 : Value).ownBlock) (Kd.R_apart' (HO195.out) (Kd.S_typed HO_124001.out) (by decide)) (fun k_ hk => ⟨hk.1.2, hk.2⟩))) (fun _ h_ => h_)))
      (case aF => exact (fun k_ hk => Kd.fresh' (Kd.R_lt (by (with_reducible repeat (first | apply Kd.R_alloc | apply Kd.R_drewN | apply Kd.R_drew)); exact HO_5.out)) k_ hk))
      (case aO => exact (by (with_reducible repeat (first | apply Kd.S_alloc | apply Kd.S_drewN | apply Kd.S_drew)); exact Kd.S_mono HO_124001.out (fun k_ hk => ⟨hk.1, fun e_ => hk.2 e_⟩)))
      (case aS => exact (keep_size (w := w) (g := g) (row := none) (by repeat (first | (with_reducible first | exact HK.out | apply KeepBut.set_ | apply keep_drewN | apply keep_drew | apply keep_alloc | refine keep_far ?_ GW122.out _ | refine keep_far ?_ GW123.out _) | exact HK.out))))
      (case aL => have := LMc119.out; omega)
      intro v197 w125 ho hb hg hat
      rw [← Ny196.out] at ho
      have n0_ := Aside0.mk (Kd.R_over' (by (with_reducible repeat (first | apply Kd.R_alloc | apply Kd.R_drewN | apply Kd.R_drew)); exact HO_5.out) (Kd.S_typed (by (with_reducible repeat (first | apply Kd.S_alloc | apply Kd.S_drewN | apply Kd.S_drew)); exact HO_124001.out)) (by decide) hg)
      have n1_ := Aside0.mk (Kd.R_over' (by (with_reducible repeat (first | apply Kd.R_alloc | apply Kd.R_drewN | apply Kd.R_drew)); exact HO_124000.out) (Kd.S_typed (by (with_reducible repeat (first | apply Kd.S_alloc | apply Kd.S_drewN | apply Kd.S_drew)); exact HO_124001.out)) (by decide) hg)
      have n2_ := Aside0.mk (blk_grown (g := gb122) (o := .cells #[.slice none 0 0, .slice none 0 0] 26 (0, 0)) (by (with_reducible repeat first | apply blk_drewN | apply blk_drew | apply blk_alloc); exact BK122.out) hg (Kd.S_ne HO_124001.out BK122.out (by decide)))
      have n3_ := Aside0.mk (blk_grown (g := gb123) (o := .cells #[u124000, u124001] 26 (0, 0)) (by (with_reducible repeat first | apply blk_drewN | apply blk_drew | apply blk_alloc); exact BK123.out) hg (Kd.S_ne HO_124001.out BK123.out (by decide)))
      have n4_ := Aside0.mk (IsS68.grown (by repeat (first | (with_reducible first | exact HI0.out | apply IsS68.alloc | apply IsS68.drewN | apply IsS68.drew | apply IsS68.set_1 | apply IsS68.set_2 | refine IsS68.far ?_ NB0_122.out _ | refine IsS68.far ?_ NB0_123.out _) | exact HI0.out)) hg (IsS68.own_neS HI0.out HO_124001.out (by decide)))
      have n5_ := Aside0.mk (below_weaken (by repeat (first | (with_reducible first | exact HB.out | apply below_alloc | apply pw_below_drewN | apply below_drew1 | refine below_set ?_ (IsS68.ge HI0.out) | refine below_set ?_ GE122.out | refine below_set ?_ GE123.out) | exact HB.out)) HL.out hb)
      have n6_ := Aside0.mk (KeepBut.trans (by repeat (first | (with_reducible first | exact HK.out | apply KeepBut.set_ | apply keep_drewN | apply keep_drew | apply keep_alloc | refine keep_far ?_ GW122.out _ | refine keep_far ?_ GW123.out _) | exact HK.out)) (KeepBut.of_grown hg g) (Kd.S_base2 HO_124001.out))
      have n7_ := Aside0.mk (ho)
      clear HO_5
      clear HO_124000
      clear BK122
      clear BK123
      clear HI0
      clear HB
      clear HK
      clear HO_124001
      clear HO195
      have HO_5 := n0_
      have HO_124000 := n1_
      have BK122 := n2_
      have BK123 := n3_
      have HI0 := n4_
      have HB := n5_
      have HK := n6_
      have HO198 := n7_
      clear n0_ n1_ n2_ n3_ n4_ n5_ n6_ n7_
      clear ho hb hg hat
      obtain ⟨Ao126, co126, eo126⟩ := Kd.S_slice HO198.out
      (first | subst eo126 | (injection eo126 with f1_ f2_ f3_; have f4_ := f1_.symm; have f5_ := f3_.symm; clear f1_ f2_ f3_; subst f4_; subst f5_))
      refine hK.out _ _ ⟨(blk_cell BK123.out 0).trans rfl, (blk_cell BK123.out 1).trans rfl⟩ (fun hHeld => ?_)
      clear hK K
      refine norm_ (a' := ?_) ?_ ?_
      (rotate_left; ·(show Act.put _ (some 113) _ = _; simp only [Act.put, pq_z22]; rfl))
      refine pu_z22 8 (some 114) ?_ mz22_25 rfl rfl (any_of HT_.out (by kernel_rfl)) (fun _ _ _ h => h) (Or.inl ⟨by rfl, ?_⟩) ?_ ?_ ?_
      (rotate_left; ·(intro w'; go_simp; with_reducible rfl)); (rotate_left; ·(simp only [Act.put, pq_z22]; rfl))
      refine last_ (i := 9) (N := none) mz22_26 rfl rfl (one_of HT_.out (by kernel_rfl)) (by decide) (fun K hK => ?_)
      have hs127 : w125.cell? ⟨gb123, 1, none⟩ = some (u124001) := (blk_cell BK123.out 1).trans rfl
      have hfs127 := blk_frozen BK123.out 1
      have hns127_0 := NB122_123.out
      have hms127_0 := NB123_122.out
      refine skip_ (w1 := ?_) (by rfl) rfl ?_ ?_
      rotate_left
      ·go_simp
       rfl
      refine hK.out _ _ ?_
      clear hK K
      refine done_ (done_of HT_.out (by kernel_rfl)) ?_
      have hnb128 := NB123_122.out
      have hnc128 := NB122_123.out
      have hnb129 := NB123_0.out
      have hnc129 := NB0_123.out
      have hcz130_0 : w125.cell? ⟨gb123, 0, none⟩ = some (u124000) := (blk_cell BK123.out 0).trans rfl
      have hcz130_1 : w125.cell? ⟨gb123, 1, none⟩ = some (u124001) := (blk_cell BK123.out 1).trans rfl
      have hfz130_0 := blk_frozen BK123.out 0
      have hfz130_1 := blk_frozen BK123.out 1
      obtain ⟨Ao131, co131, eo131⟩ := Kd.R_slice HO_124000.out
      subst eo131
      have hnb132 := NB122_0.out
      have hnc132 := NB0_122.out
      have hcz133_0 : w125.cell? ⟨gb122, 0, none⟩ = some (.slice none 0 0) := (blk_cell BK122.out 0).trans rfl
      have hcz133_1 : w125.cell? ⟨gb122, 1, none⟩ = some (.slice none 0 0) := (blk_cell BK122.out 1).trans rfl
      have hfz133_0 := blk_frozen BK122.out 0
      have hfz133_1 := blk_frozen BK122.out 1
      try go_wp2
      refine bodyPost_ret (results_cell_row rfl _ _ gb122 26 #[.slice Ao131 x124000_1.length co131, .slice Ao126 y196.length co126] (0, 0) _ rfl (by (with_reducible repeat first | apply blk_drewN | apply blk_drew | apply blk_alloc); refine blk_put (cs := #[.slice Ao131 x124000_1.length co131, .slice none 0 0]) ?_ 1 _ rfl; (with_reducible repeat first | apply blk_drewN | apply blk_drew | apply blk_alloc); refine blk_put (cs := #[.slice none 0 0, .slice none 0 0]) ?_ 0 _ rfl; (with_reducible repeat first | apply blk_drewN | apply blk_drew | apply blk_alloc); refine blk_far ?_ NB122_123.out _; (with_reducible repeat first | apply blk_drewN | apply blk_drew | apply blk_alloc); exact BK122.out) Try.underlying26 rfl (by kernel_rfl)) rfl ?_
      exact ⟨_, _, by first | rfl | (simp [*, errW_none, errW_some] <;> rfl), by (with_reducible repeat (first | apply Kd.R_alloc | apply Kd.R_drewN | apply Kd.R_drew)); exact Kd.R_mono (Kd.R_far (p := ⟨gb122, 1, none⟩) (Kd.R_far (p := ⟨gb122, 0, none⟩) (Kd.R_far (p := ⟨gb123, 1, none⟩) (Kd.R_types (Kd.R_types HO_124000.out BK123.out (by decide)) BK122.out (by decide)) (fun _ hk => hk.1.2) (.slice Ao126 y196.length co126)) (fun _ hk => hk.2) (.slice Ao131 x124000_1.length co131)) (fun _ hk => hk.2) (.slice Ao126 y196.length co126)) (fun _ hk => trivial), by (with_reducible repeat (first | apply Kd.S_alloc | apply Kd.S_drewN | apply Kd.S_drew)); exact Kd.S_mono (Kd.S_far (p := ⟨gb122, 1, none⟩) (Kd.S_far (p := ⟨gb122, 0, none⟩) (Kd.S_far (p := ⟨gb123, 1, none⟩) (Kd.S_types (Kd.S_types HO198.out BK123.out (by decide)) BK122.out (by decide)) (fun _ hk => hk.1.2) (.slice Ao126 y196.length co126)) (fun _ hk => hk.2) (.slice Ao131 x124000_1.length co131)) (fun _ hk => hk.2) (.slice Ao126 y196.length co126)) (fun _ hk => trivial), by repeat (first | (with_reducible first | exact HI0.out | apply IsS68.alloc | apply IsS68.drewN | apply IsS68.drew | apply IsS68.set_1 | apply IsS68.set_2 | refine IsS68.far ?_ NB0_122.out _ | refine IsS68.far ?_ NB0_123.out _) | exact HI0.out), by repeat (first | (with_reducible first | exact HB.out | apply below_alloc | apply pw_below_drewN | apply below_drew1 | refine below_set ?_ (IsS68.ge HI0.out) | refine below_set ?_ GE122.out | refine below_set ?_ GE123.out) | exact HB.out), by repeat (first | (with_reducible first | exact HK.out | apply KeepBut.set_ | apply keep_drewN | apply keep_drew | apply keep_alloc | refine keep_far ?_ GW122.out _ | refine keep_far ?_ GW123.out _) | exact HK.out)⟩
     ·rw [if_neg c119] at H
      exact absurd H (by simp)

end Go.Proofs.Ytohjpgcmhihdhaa.Q
