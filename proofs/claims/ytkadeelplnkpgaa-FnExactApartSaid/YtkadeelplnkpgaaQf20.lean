/- Walks of the Go functions that the laws call: each returns what a plain Lean function says. Written by a program for these claims. -/
import Derived.Test.YtkadeelplnkpgaaQ0
import Derived.Test.YtkadeelplnkpgaaQf54
import Derived.Test.YtkadeelplnkpgaaQf60
import Derived.Test.YtkadeelplnkpgaaQf61
namespace Go.Proofs.Ytkadeelplnkpgaa.Q
open Go.RowKit Go.Proofs.YtkadeelplnkpgaaW.PrintWords Go.Proofs.YtkadeelplnkpgaaW.PrintLast Go.Proofs.YtkadeelplnkpgaaW.PrintMore
attribute [local go_sem] max2_int min2_int max_two min_two max_three min_three max_four min_four   -- for this text's walks alone
set_option linter.unusedVariables false
set_option linter.unusedSimpArgs false

/-! ### impl_Apart: function 20 -/
/-- are things apart: each has a domain, no two the same? (what is -1 does not count) -/
def apartGo (g : Int → Option (Int × Bool)) : List Int → List Int → Option Bool
  | _, [] => some true
  | u, x :: xs => if x = -1 then apartGo g u xs else (g x).bind fun d => if d.2 = true then (if wfI d.1 = true then (if (u.any fun y => y == d.1) = true then some false else apartGo g (u ++ [d.1]) xs) else none) else some false
theorem apartGo_here (g : Int → Option (Int × Bool)) (u l : List Int) (i : Int) (h0 : 0 ≤ i) (h1 : i < (l.length : Int)) : apartGo g u (l.drop i.toNat) = if rd l i = -1 then apartGo g u (l.drop (i + 1).toNat) else (g (rd l i)).bind fun d => if d.2 = true then (if wfI d.1 = true then (if (u.any fun y => y == d.1) = true then some false else apartGo g (u ++ [d.1]) (l.drop (i + 1).toNat)) else none) else some false := by
  obtain ⟨n, rfl⟩ := Int.eq_ofNat_of_zero_le h0
  have hl : n < l.length := by omega
  have e : ((n : Int) + 1).toNat = n + 1 := by omega
  have er : rd l (n : Int) = l[n] := by unfold rd; rw [Int.toNat_natCast, List.getD_eq_getElem?_getD, List.getElem?_eq_getElem hl]; rfl
  rw [e, Int.toNat_natCast, List.drop_eq_getElem_cons hl, er]
  rfl
def impl_Apart.f (k : Nat) (l0_0 : List (S50)) (l0_1 : List (S108)) (a1 : Int) (l2 : List Int) : Option Bool :=
  (impl_TreeOk.f k l0_0 l0_1).bind fun t => if t = true then (if inB a1 0 2 = true then (if l2.length ≤ 7 then apartGo (fun x => impl_Tree_domain.f k l0_0 l0_1 a1 x) [] l2 else some false) else some false) else some false
set_option maxHeartbeats 4000000 in
set_option maxRecDepth 100000 in
theorem impl_Apart.calls (k : Nat) (A0_0 : Option Addr) (c0_0 : Nat) (l0_0 : List (S50)) (A0_1 : Option Addr) (c0_1 : Nat) (l0_1 : List (S108)) (a1 : Int) (A2 : Option Addr) (c2 : Nat) (l2 : List Int) (r : Bool) (w : World) (hr0_0 : Kd.C k50 w A0_0 l0_0.length l0_0) (hc0_0 : l0_0.length ≤ c0_0) (hr0_1 : Kd.C k108 w A0_1 l0_1.length l0_1) (hc0_1 : l0_1.length ≤ c0_1) (hr2 : Kd.C (Kd.int .i64) w A2 l2.length l2) (hc2 : l2.length ≤ c2) (h : impl_Apart.f k l0_0 l0_1 a1 l2 = some r) :
    Calls Try.prog 20 #[.agg #[.slice A0_0 l0_0.length c0_0, .slice A0_1 l0_1.length c0_1], .int .i64 a1, .slice A2 l2.length c2] w fun e w' => e = .returned (.bool r) ∧ Below w.heap.size w w' := by
  have HR0 := Aside0.mk hr0_0
  have HR1 := Aside0.mk hr0_1
  have HR2 := Aside0.mk hr2
  have HC0 := Aside0.mk hc0_0
  have HC1 := Aside0.mk hc0_1
  clear hr0_0 hr0_1 hr2 hc0_0 hc0_1 hc2
  unfold impl_Apart.f at h
  obtain ⟨t, ht, h2⟩ := Option.bind_eq_some_iff.1 h
  have HT := Aside0.mk ht
  have H := Aside0.mk h2
  clear h ht h2
  have hmm := @run_makeMap Try.prog
  go_enter Try.func20, Try.ntmps20
  go_wp2_with fail
  have BK := Aside0.mk (blk_new w (.cells #[.slice A0_0 l0_0.length c0_0, .slice A0_1 l0_1.length c0_1] 31))
  have HB := Aside0.mk (below_alloc (Below.refl w.heap.size w) (.cells #[.slice A0_0 l0_0.length c0_0, .slice A0_1 l0_1.length c0_1] 31))
  refine (impl_TreeOk.calls k A0_0 c0_0 l0_0 A0_1 c0_1 l0_1 t _ (Kd.C_below HR0.out HB.out) HC0.out (Kd.C_below HR1.out HB.out) HC1.out HT.out).mono ?_
  rintro e w1 ⟨rfl, hb⟩
  replace BK := Aside0.mk (blk_below BK.out hb)
  replace HB := Aside0.mk (below_step HB.out hb)
  clear hb
  have HLT := Aside0.mk (blk_lt BK.out)
  have h0 := (blk_cell BK.out 0).trans rfl
  have h1 := (blk_cell BK.out 1).trans rfl
  cases t with
  | false =>
    have HF := Aside0.mk (show r = false from by have := H.out; rw [if_neg (by decide)] at this; exact (Option.some.inj this).symm)
    go_wp2_with fail
    go_ret
    exact ⟨by rw [HF.out]; rfl, HB.out⟩
  | true =>
  replace H := Aside0.mk (by have := H.out; rwa [if_pos rfl] at this)
  go_wp2_with fail
  refine (impl_between.calls _ _ _ _ _ (between_inB a1 0 2)).mono ?_
  rintro e w2 ⟨rfl, hd⟩
  have hb := hd.below
  replace BK := Aside0.mk (blk_below BK.out hb)
  replace HB := Aside0.mk (below_step HB.out hb)
  clear hb hd h0 h1 HLT
  have HLT := Aside0.mk (blk_lt BK.out)
  have h0 := (blk_cell BK.out 0).trans rfl
  have h1 := (blk_cell BK.out 1).trans rfl
  cases e2 : inB a1 0 2 with
  | false =>
    have HF := Aside0.mk (show r = false from by have := H.out; rw [if_neg (by rw [e2]; decide)] at this; exact (Option.some.inj this).symm)
    go_wp2_with fail
    go_ret
    exact ⟨by rw [HF.out]; rfl, HB.out⟩
  | true =>
  replace H := Aside0.mk (by have := H.out; rwa [if_pos e2] at this)
  clear e2
  by_cases c : l2.length ≤ 7
  case neg =>
    have HF := Aside0.mk (show r = false from by have := H.out; rw [if_neg c] at this; exact (Option.some.inj this).symm)
    have cb := decide_eq_true (show 7 < (l2.length : Int) by omega)
    have cn := decide_eq_true (show 7 < l2.length by omega)
    clear c
    go_wp2_with fail
    go_ret
    exact ⟨by rw [HF.out]; rfl, HB.out⟩
  replace H := Aside0.mk (show apartGo (fun x => impl_Tree_domain.f k l0_0 l0_1 a1 x) [] (l2.drop (0 : Int).toNat) = some r from by have := H.out; rwa [if_pos c] at this)
  have cb := decide_eq_false (show ¬ 7 < (l2.length : Int) by omega)
  have cn := decide_eq_false (show ¬ 7 < l2.length by omega)
  go_wp2_with fail
  have HS := Aside0.mk (OwnSet.made w2)
  have HMB := Aside0.mk (show w.heap.size ≤ w2.heap.size from HB.out.size)
  have HNE := Aside0.mk (show ¬ w.heap.size = w2.heap.size from by have := HLT.out; omega)
  replace BK := Aside0.mk (blk_alloc BK.out (.map #[] 0))
  replace HB := Aside0.mk (below_alloc HB.out (.map #[] 0))
  generalize (w2.alloc (.map #[] 0)) = w3 at HS BK HB ⊢
  generalize w2.heap.size = mb at HS HMB HNE ⊢
  obtain ⟨gt, hgt⟩ : ∃ g, g = w.heap.size := ⟨_, rfl⟩
  rw [← hgt] at BK HNE ⊢
  clear hgt h0 h1 HLT
  go_loopg [28] l2.length (fun gg s28 wr => ∃ (kk : Int) (S : List Int), 0 ≤ kk ∧ kk ≤ l2.length ∧ (l2.length : Int) - kk ≤ gg ∧ s28 = .int .i64 kk ∧ (S.length : Int) ≤ kk ∧ Aside0 (Below w.heap.size w wr) ∧ Aside0 (OwnSet wr mb S.length S) ∧ Aside0 (wr.heap[gt]? = some (.cells #[.slice A0_0 l0_0.length c0_0, .slice A0_1 l0_1.length c0_1] 31 (0, 0))) ∧ Aside0 (apartGo (fun x => impl_Tree_domain.f k l0_0 l0_1 a1 x) S (l2.drop kk.toNat) = some r))
  case atStart => exact ⟨0, [], by omega, by omega, by omega, rfl, by simp, HB, HS, BK, H⟩
  case round =>
    clear HB HS BK H
    obtain ⟨kk, S, h0, hk, hg, rfl, hS, HB, HS, BK, H⟩ := hrel
    have ht0 := (blk_cell BK.out 0).trans rfl
    have ht1 := (blk_cell BK.out 1).trans rfl
    by_cases hlt : kk < (l2.length : Int)
    case neg =>
      obtain rfl : kk = l2.length := by omega
      have HF := Aside0.mk (show r = true from by have := H.out; rw [Int.toNat_natCast, List.drop_length] at this; exact (Option.some.inj this).symm)
      clear H
      go_wp2_with fail
      go_ret
      exact ⟨by rw [HF.out]; rfl, HB.out⟩
    obtain ⟨ad, rfl, hx0⟩ := Kd.at_int HR2.out kk h0 hlt
    replace hx0 := (HB.out.cell (World.block_lt_of_cell? w _ hx0)).trans hx0
    have q0 := eq_true h0
    have q1 := eq_true hlt
    have HN := Aside0.mk (by have := apartGo_here (fun x => impl_Tree_domain.f k l0_0 l0_1 a1 x) S l2 kk h0 hlt; rw [H.out] at this; exact this.symm)
    clear H
    generalize rd l2 kk = x at hx0 HN
    by_cases ex : x = -1
    · subst ex
      replace HN := Aside0.mk (by have := HN.out; rwa [if_pos rfl] at this)
      go_wp2_with fail
      go_roundg (gk - 1)
      case measure => omega
      case rel => exact ⟨kk + 1, S, by omega, by omega, by omega, by go_num, by omega, HB, HS, BK, HN⟩
    replace HN := Aside0.mk (by have := HN.out; rwa [if_neg ex] at this)
    have exb : (x == -1) = false := by simpa using ex
    clear ex
    obtain ⟨⟨d1, d2⟩, hdm, hn⟩ := Option.bind_eq_some_iff.1 HN.out
    have HD := Aside0.mk hdm
    replace HN := Aside0.mk hn
    clear hdm hn
    go_wp2_with fail
    refine (impl_Tree_domain.calls k A0_0 c0_0 l0_0 A0_1 c0_1 l0_1 a1 x d1 d2 _ (Kd.C_below HR0.out HB.out) HC0.out (Kd.C_below HR1.out HB.out) HC1.out HD.out).mono ?_
    rintro e w4 ⟨rfl, hb⟩
    have HB4 := Aside0.mk (below_step HB.out hb)
    have BK4 := Aside0.mk (blk_below BK.out hb)
    have HS4 := Aside0.mk (OwnSet.below HS.out hb)
    clear hb HB BK HS ht0 ht1 hx0
    cases d2 with
    | false =>
      have HF := Aside0.mk (show r = false from by have := HN.out; rw [if_neg (by decide)] at this; exact (Option.some.inj this).symm)
      go_wp2_with fail
      go_ret
      exact ⟨by rw [HF.out]; rfl, HB4.out⟩
    | true =>
    replace HN := Aside0.mk (by have := HN.out; rwa [if_pos rfl] at this)
    by_cases hw : wfI d1 = true
    case neg => exact absurd HN.out (by rw [if_neg hw]; simp)
    replace HN := Aside0.mk (by have := HN.out; rwa [if_pos hw] at this)
    have hlook := OwnSet.look HS4.out d1 hw
    have HW2 := Aside0.mk hw
    clear hw
    cases hq : S.any (fun y => y == d1) with
    | true =>
      rw [hq] at hlook
      have HF := Aside0.mk (show r = false from by have := HN.out; simp only [hq, if_true] at this; exact (Option.some.inj this).symm)
      clear hq
      go_wp2_with fail
      go_ret
      exact ⟨by rw [HF.out]; rfl, HB4.out⟩
    | false =>
      rw [hq] at hlook
      replace HN := Aside0.mk (show apartGo (fun x => impl_Tree_domain.f k l0_0 l0_1 a1 x) (S ++ [d1]) (l2.drop (kk + 1).toNat) = some r from by have := HN.out; simpa only [hq, Bool.false_eq_true, if_false] using this)
      have HSN := Aside0.mk (show S.length < 9223372036854775807 from by omega)
      clear hq
      go_wp2_with (at_mapUpdate; refine OwnSet.put rfl rfl _ _ _ rfl _ _ _ rfl HS4.out HSN.out _ rfl rfl HW2.out ?_; intro w5 hs5 hg5; have HS5 := Aside0.mk hs5; have HG5 := Aside0.mk hg5; clear hs5 hg5)
      go_roundg (gk - 1)
      case measure => omega
      case rel =>
        exact ⟨kk + 1, S ++ [d1], by omega, by omega, by omega, by go_num, by rw [List.length_append]; simp; omega, ⟨pw_below_grown HB4.out (some mb) HB4.out.size HG5.out (by intro k hk; cases hk; exact HMB.out)⟩,
          ⟨by have := HS5.out; rw [List.length_append]; exact this⟩, ⟨(HG5.out.block _ (blk_lt BK4.out) (by simp; exact HNE.out)).trans BK4.out⟩, HN⟩

end Go.Proofs.Ytkadeelplnkpgaa.Q
