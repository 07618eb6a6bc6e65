/- Walks of the Go functions that the laws call: each returns what a plain Lean function says. Written by a program for these claims. -/
import Derived.Test.YtohjpgcmhihdhaaGreatDoorQ0
import Derived.Test.YtohjpgcmhihdhaaGreatDoorOSteps
import Derived.Test.YtohjpgcmhihdhaaGreatDoorQf32
import Derived.Test.YtohjpgcmhihdhaaGreatDoorQf33
import Derived.Test.YtohjpgcmhihdhaaGreatDoorQf34
namespace Go.Proofs.YtohjpgcmhihdhaaGreatDoor.Q
open Go.RowKit Go.Proofs.YtohjpgcmhihdhaaGreatDoorW.PrintWords Go.Proofs.YtohjpgcmhihdhaaGreatDoorW.PrintLast Go.Proofs.YtohjpgcmhihdhaaGreatDoorW.PrintMore
attribute [local go_sem] max2_int min2_int max_two min_two max_three min_three max_four min_four   -- for this text's walks alone
set_option linter.unusedVariables false
set_option linter.unusedSimpArgs false

/-! ### impl_TreeOk: function 14 -/
/-- is a number in a range? -/
def inB (a b c : Int) : Bool := decide (b ≤ a) && decide (a ≤ c)
theorem between_inB (a b c : Int) : impl_between.f a b c = some (inB a b c) := by
  unfold impl_between.f inB
  by_cases h : a ≥ b
  · rw [if_pos h, decide_eq_true h]; simp
  · rw [if_neg h, decide_eq_false h]; simp
/-- is the bucket at a place valid for itself, the one before it known? -/
def bktB (l0 : List (S57)) (l1 : List (S49)) (i : Int) : Bool :=
  inB (rd_T49 l1 i).f0 (-12) (-1) && !(decide (0 < i) && decide ((rd_T49 l1 (i - 1)).f0 ≤ (rd_T49 l1 i).f0)) && inB (rd_T49 l1 i).f1 1 3 && decide ((rd_T49 l1 i).f2.length ≤ 8) && itemsOkB l0 l1 (rd_T49 l1 i).f1 (rd_T49 l1 i).f2
/-- what is used behind some things more; none where one is used twice -/
def useGo : List Int → List Int → Option (List Int)
  | u, [] => some u
  | u, x :: xs => if (u.any fun y => y == x) = true then none else useGo (u ++ [x]) xs
def treeGo (l0 : List (S57)) (l1 : List (S49)) : Nat → Int → List Int → Bool
  | 0, _, _ => true
  | d + 1, i, u => if bktB l0 l1 i = true then (match useGo u (rd_T49 l1 i).f2 with | some u' => treeGo l0 l1 d (i + 1) u' | none => false) else false
def tailB (l0 : List (S57)) (l1 : List (S49)) (d : Nat) (i : Int) (u items : List Int) : Bool := match useGo u items with | some u' => treeGo l0 l1 d (i + 1) u' | none => false
def treeB (l0 : List (S57)) (l1 : List (S49)) : Bool := treeGo l0 l1 l1.length 0 []
theorem tail_hit (l0 : List (S57)) (l1 : List (S49)) (d : Nat) (i : Int) (u items : List Int) (j : Int) (h0 : 0 ≤ j) (h1 : j < items.length) (h : (u.any fun y => y == rd items j) = true) : tailB l0 l1 d i u (items.drop j.toNat) = false := by
  obtain ⟨n, rfl⟩ := Int.eq_ofNat_of_zero_le h0
  have hl : n < items.length := by omega
  have er : rd items (n : Int) = items[n] := by unfold rd; rw [Int.toNat_natCast, List.getD_eq_getElem?_getD, List.getElem?_eq_getElem hl]; rfl
  rw [er] at h
  unfold tailB
  rw [Int.toNat_natCast, List.drop_eq_getElem_cons hl]
  simp only [useGo, h, if_true]
theorem tail_miss (l0 : List (S57)) (l1 : List (S49)) (d : Nat) (i : Int) (u items : List Int) (j : Int) (h0 : 0 ≤ j) (h1 : j < items.length) (h : (u.any fun y => y == rd items j) = false) : tailB l0 l1 d i u (items.drop j.toNat) = tailB l0 l1 d i (u ++ [rd items j]) (items.drop (j + 1).toNat) := by
  obtain ⟨n, rfl⟩ := Int.eq_ofNat_of_zero_le h0
  have hl : n < items.length := by omega
  have er : rd items (n : Int) = items[n] := by unfold rd; rw [Int.toNat_natCast, List.getD_eq_getElem?_getD, List.getElem?_eq_getElem hl]; rfl
  have e : ((n : Int) + 1).toNat = n + 1 := by omega
  rw [er] at h ⊢
  unfold tailB
  rw [Int.toNat_natCast, e, List.drop_eq_getElem_cons hl]
  simp only [useGo, h, Bool.false_eq_true, if_false]
theorem tail_end (l0 : List (S57)) (l1 : List (S49)) (d : Nat) (i : Int) (u items : List Int) : tailB l0 l1 d i u (items.drop items.length) = treeGo l0 l1 d (i + 1) u := by
  unfold tailB
  rw [List.drop_length]
  rfl
def impl_TreeOk.f (k : Nat) (l0_0 : List (S57)) (l0_1 : List (S49)) : Option Bool :=
  if wfTree l0_0 l0_1 = true then (impl_Tree_devicesOk.f k l0_0 l0_1).bind fun d => some (d && decide (l0_1.length ≤ 12) && treeB l0_0 l0_1) else none
theorem wf_items {l0 : List (S57)} {l1 : List (S49)} (h : wfTree l0 l1 = true) (i : Int) (h0 : 0 ≤ i) (h1 : i < l1.length) (j : Int) (g0 : 0 ≤ j) (g1 : j < (rd_T49 l1 i).f2.length) : wfI (rd (rd_T49 l1 i).f2 j) = true := by
  have hw := (wf_bucket h i h0 h1).2.2
  rw [List.all_eq_true] at hw
  refine hw _ ?_
  have hl : j.toNat < (rd_T49 l1 i).f2.length := by omega
  unfold rd
  rw [List.getD_eq_getElem?_getD, List.getElem?_eq_getElem hl]
  exact List.getElem_mem hl
def az_z14 (n m : Nat) : Array Bool := (List.replicate n true ++ List.replicate m false).toArray
def mz14_0 : Array Bool := az_z14 0 38
def mz14_1 : Array Bool := az_z14 1 37
def mz14_2 : Array Bool := az_z14 2 36
def mz14_3 : Array Bool := az_z14 3 35
def mz14_4 : Array Bool := az_z14 4 34
def mz14_5 : Array Bool := az_z14 5 33
def mz14_6 : Array Bool := az_z14 6 32
def mz14_7 : Array Bool := az_z14 7 31
def mz14_8 : Array Bool := az_z14 8 30
def mz14_9 : Array Bool := az_z14 9 29
def mz14_10 : Array Bool := az_z14 10 28
def mz14_11 : Array Bool := az_z14 11 27
def mz14_12 : Array Bool := az_z14 12 26
def mz14_13 : Array Bool := az_z14 13 25
def mz14_14 : Array Bool := az_z14 14 24
def mz14_15 : Array Bool := az_z14 15 23
def mz14_16 : Array Bool := az_z14 16 22
def mz14_17 : Array Bool := az_z14 17 21
def mz14_18 : Array Bool := az_z14 18 20
def mz14_19 : Array Bool := az_z14 19 19
def mz14_20 : Array Bool := az_z14 20 18
def mz14_21 : Array Bool := az_z14 21 17
def mz14_22 : Array Bool := az_z14 22 16
def mz14_23 : Array Bool := az_z14 23 15
def mz14_24 : Array Bool := az_z14 24 14
def mz14_25 : Array Bool := az_z14 25 13
def mz14_26 : Array Bool := az_z14 26 12
def mz14_27 : Array Bool := az_z14 27 11
def mz14_28 : Array Bool := az_z14 28 10
def mz14_29 : Array Bool := az_z14 29 9
def mz14_30 : Array Bool := az_z14 30 8
def mz14_31 : Array Bool := az_z14 31 7
def mz14_32 : Array Bool := az_z14 32 6
def mz14_33 : Array Bool := az_z14 33 5
def mz14_34 : Array Bool := az_z14 34 4
def mz14_35 : Array Bool := az_z14 35 3
def mz14_36 : Array Bool := az_z14 36 2
def mz14_37 : Array Bool := az_z14 37 1
def mz14_38 : Array Bool := az_z14 38 0
theorem pu_z14 {P : Program} {ops : Array Oper} {Q : Exit → Act → World → Prop} {md : Region.Mode} {S : World → Prop} {ds : List Nat} {oi : Oper} {fuel : Nat} {l : Array Bool} {a : Act} {w : World} (i : Nat) (N : Option Tmp) (v : Value) (l' : Array Bool) (hi : ops[i]? = some oi) (hN : oi.dst = N) (hc : anyB md ops l l' i = true)
    (hQ : ∀ c a w, Q (.panic c) (a.put oi.dst v) w → Q (.panic c) a w) (hy : Yields P ops oi v a) (a' : Act) (ha : a.put N v = a')
    (h : wpAnyLast P md ops Q S ds fuel l' a' w) : wpAnyLast P md ops Q S ds (fuel + 1) l a w := pure_ l' hi hN hc hQ hy ha h
theorem pq_z14 : (∀ (l : List Value) (i : Nat) (v : Value), l.toArray.setIfInBounds i v = (l.set i v).toArray) ∧ (∀ (x v : Value) (xs : List Value), (x :: xs).set 0 v = v :: xs) ∧ (∀ (x v : Value) (xs : List Value) (n : Nat), (x :: xs).set (n + 1) v = x :: xs.set n v) ∧ (∀ n : Int, IntKind.i64.wrap n = Go.RowKit.wrap64 n) ∧ (∀ n : Int, IntKind.i32.wrap n = Go.RowKit.wrap32 n) :=
  ⟨fun l i v => List.setIfInBounds_toArray l i v, fun _ _ _ => rfl, fun _ _ _ _ => rfl, i64_w, i32_w⟩
set_option maxHeartbeats 4000000 in
set_option maxRecDepth 100000 in
theorem impl_TreeOk.calls (k : Nat) (A0_0 : Option Addr) (c0_0 : Nat) (l0_0 : List (S57)) (A0_1 : Option Addr) (c0_1 : Nat) (l0_1 : List (S49)) (r : Bool) (w : World) (hr0_0 : Kd.C k57 w A0_0 l0_0.length l0_0) (hc0_0 : l0_0.length ≤ c0_0) (hr0_1 : Kd.C k49 w A0_1 l0_1.length l0_1) (hc0_1 : l0_1.length ≤ c0_1) (h : impl_TreeOk.f k l0_0 l0_1 = some r) :
  Calls Tryz.prog 14 #[.agg #[.slice A0_0 l0_0.length c0_0, .slice A0_1 l0_1.length c0_1]] w fun e w' => e = .returned (.bool r) ∧ Below w.heap.size w w' := by
 have hm := Kd.C_max hr0_1
 have HR0 := Aside0.mk hr0_0
 have HR1 := Aside0.mk hr0_1
 have HC0 := Aside0.mk hc0_0
 have HC1 := Aside0.mk hc0_1
 clear hr0_0 hr0_1 hc0_0 hc0_1
 unfold impl_TreeOk.f at h
 by_cases hwf : wfTree l0_0 l0_1 = true
 case neg => rw [if_neg hwf] at h; cases h
 rw [if_pos hwf] at h
 have HWF := Aside0.mk hwf
 clear hwf
 obtain ⟨dv, hdv, h2⟩ := Option.bind_eq_some_iff.1 h
 have HDV := Aside0.mk hdv
 have HR := Aside0.mk (Option.some.inj h2)
 clear h hdv h2
 have hmm := @run_makeMap Tryz.prog
 go_enter Tryz.func14, Tryz.ntmps14
 go_wp2_with fail
 have HX0 := Aside0.mk (blk_new w (.cells #[.slice A0_0 l0_0.length c0_0, .slice A0_1 l0_1.length c0_1] 25))
 have HB0 := Aside0.mk (below_alloc (Below.refl w.heap.size w) (.cells #[.slice A0_0 l0_0.length c0_0, .slice A0_1 l0_1.length c0_1] 25))
 generalize hgt : w.heap.size = gt at HX0 ⊢
 have HGT := Aside0.mk hgt
 clear hgt
 refine (impl_Tree_devicesOk.calls k A0_0 c0_0 l0_0 A0_1 c0_1 l0_1 dv _ (Kd.C_below HR0.out HB0.out) HC0.out (Kd.C_below HR1.out HB0.out) HC1.out HDV.out).mono ?_
 rintro e w1 ⟨rfl, hb1⟩
 have HX1 := Aside0.mk ((hb1.block _ (blk_lt HX0.out)).trans HX0.out)
 have HB1 := Aside0.mk (below_step HB0.out hb1)
 clear hb1 HB0 HX0 HDV
 have hcx0 := (blk_cell HX1.out 0).trans rfl
 have hcx1 := (blk_cell HX1.out 1).trans rfl
 have hgl1 := blk_lt HX1.out
 cases dv with
 | false =>
  go_wp2_with fail
  go_ret
  exact ⟨by rw [← HR.out]; rfl, HB1.out⟩
 | true =>
  by_cases c1 : l0_1.length ≤ 12
  case neg =>
   have c1b : decide (12 < (l0_1.length : Int)) = true := decide_eq_true (by omega)
   have c1n : decide (12 < l0_1.length) = true := decide_eq_true (by omega)
   have HF := Aside0.mk (show r = false from by rw [← HR.out, decide_eq_false c1]; rfl)
   clear c1
   go_wp2_with fail
   go_ret
   exact ⟨by rw [HF.out]; rfl, HB1.out⟩
  have c1b : decide (12 < (l0_1.length : Int)) = false := decide_eq_false (by omega)
  have c1n : decide (12 < l0_1.length) = false := decide_eq_false (by omega)
  have HRT := Aside0.mk (show r = treeGo l0_0 l0_1 (l0_1.length - (0 : Int).toNat) 0 [] from by rw [← HR.out, decide_eq_true c1]; rfl)
  clear HR
  go_wp2_with fail
  have HS0 := Aside0.mk (OwnSet.made w1)
  have HMB := Aside0.mk (show w.heap.size ≤ w1.heap.size from HB1.out.size)
  have HNE := Aside0.mk (show ¬ gt = w1.heap.size from by have := blk_lt HX1.out; omega)
  have HX2 := Aside0.mk (blk_alloc HX1.out (.map #[] 0))
  have HB2 := Aside0.mk (below_alloc HB1.out (.map #[] 0))
  generalize (w1.alloc (.map #[] 0)) = w2 at HS0 HX2 HB2 ⊢
  generalize w1.heap.size = mb at HS0 HMB HNE ⊢
  clear HX1 HB1
  go_loopg [21] l0_1.length (fun gg s21 wr => ∃ (kk : Int) (S : List Int), 0 ≤ kk ∧ kk ≤ l0_1.length ∧ (l0_1.length : Int) - kk ≤ gg ∧ s21 = .int .i64 kk ∧ (S.length : Int) ≤ 8 * kk ∧ Aside0 (Below w.heap.size w wr) ∧ Aside0 (OwnSet wr mb S.length S) ∧ Aside0 (wr.heap[gt]? = some (.cells #[.slice A0_0 l0_0.length c0_0, .slice A0_1 l0_1.length c0_1] 25 (0, 0))) ∧ Aside0 (r = treeGo l0_0 l0_1 (l0_1.length - kk.toNat) kk S))
  case atStart => exact ⟨0, [], by omega, by omega, by omega, rfl, by simp, HB2, HS0, HX2, HRT⟩
  case round =>
   clear HB2 HS0 HX2 HRT hcx0 hcx1 hgl1
   obtain ⟨kk, S, h0, hkk, hg, rfl, hS, BW, HS, HX, HT⟩ := hrel
   obtain ⟨gko, hgko⟩ : ∃ g, g = gk := ⟨_, rfl⟩
   rw [← hgko] at hg
   have HGK := Aside0.mk hgko
   clear hgko
   by_cases hlt : kk < (l0_1.length : Int)
   case neg =>
    obtain rfl : kk = l0_1.length := by omega
    have HF := Aside0.mk (show r = true from by rw [HT.out, show l0_1.length - ((l0_1.length : Int)).toNat = 0 from by omega]; rfl)
    clear HT
    go_wp2_with fail
    go_ret
    exact ⟨by rw [HF.out]; rfl, BW.out⟩
   have hdd : l0_1.length - kk.toNat = (l0_1.length - (kk + 1).toNat) + 1 := by omega
   have HT1 := Aside0.mk (show r = if bktB l0_0 l0_1 kk = true then tailB l0_0 l0_1 (l0_1.length - (kk + 1).toNat) kk S (rd_T49 l0_1 kk).f2 else false from by rw [HT.out, hdd]; rfl)
   clear HT hdd
   obtain ⟨ad, A2, c2, hA, hx0, hx1, hx2, hl2, hg2⟩ := at_T49 HR1.out kk h0 hlt
   have hprev : 0 < kk → w.cell? (ad.add ((kk - 1).toNat * 3)) = some (.int .i64 (rd_T49 l0_1 (kk - 1)).f0) := fun hp => by
    obtain ⟨ad', A2', c2', hA', hx0', _⟩ := at_T49 HR1.out (kk - 1) (by omega) (by omega)
    have : ad = ad' := Option.some.inj (hA.symm.trans hA')
    rw [this]; exact hx0'
   have HPV := Aside0.mk hprev
   clear hprev
   subst hA
   have HRI := Aside0.mk hg2
   have HWI := Aside0.mk (fun j g0 g1 => wf_items HWF.out kk h0 hlt j g0 g1)
   have HBK := Aside0.mk (show bktB l0_0 l0_1 kk = (inB (rd_T49 l0_1 kk).f0 (-12) (-1) && !(decide (0 < kk) && decide ((rd_T49 l0_1 (kk - 1)).f0 ≤ (rd_T49 l0_1 kk).f0)) && inB (rd_T49 l0_1 kk).f1 1 3 && decide ((rd_T49 l0_1 kk).f2.length ≤ 8) && itemsOkB l0_0 l0_1 (rd_T49 l0_1 kk).f1 (rd_T49 l0_1 kk).f2) from rfl)
   have hm2 := Kd.C_max hg2
   clear hg2
   replace hx0 := (BW.out.cell (World.block_lt_of_cell? w _ hx0)).trans hx0
   replace hx1 := (BW.out.cell (World.block_lt_of_cell? w _ hx1)).trans hx1
   replace hx2 := (BW.out.cell (World.block_lt_of_cell? w _ hx2)).trans hx2
   generalize rd_T49 l0_1 kk = b at hx0 hx1 hx2 hl2 HRI HWI HBK HT1 hm2
   generalize (rd_T49 l0_1 (kk - 1)).f0 = pv at HPV HBK
   have q0 := eq_true h0
   have q1 := eq_true hlt
   have hcx1 := (blk_cell HX.out 1).trans rfl
   have hgl := blk_lt HX.out
   go_wp2_with fail
   have HG := Aside0.mk (blk_new wr (.cells #[.int .i64 b.f0, .int .i64 b.f1, .slice A2 b.f2.length c2] 49))
   have HX3 := Aside0.mk (blk_alloc HX.out (.cells #[.int .i64 b.f0, .int .i64 b.f1, .slice A2 b.f2.length c2] 49))
   have HB3 := Aside0.mk (below_alloc BW.out (.cells #[.int .i64 b.f0, .int .i64 b.f1, .slice A2 b.f2.length c2] 49))
   have HS3 := Aside0.mk (OwnSet.below HS.out (below_alloc (Below.refl wr.heap.size wr) (.cells #[.int .i64 b.f0, .int .i64 b.f1, .slice A2 b.f2.length c2] 49)))
   generalize (wr.alloc (.cells #[.int .i64 b.f0, .int .i64 b.f1, .slice A2 b.f2.length c2] 49)) = W at HG HX3 HB3 HS3 ⊢
   generalize wr.heap.size = gb at HG ⊢
   clear BW HS HX hx0 hx1 hx2 hcx1 hgl
   have hb0 := (blk_cell HG.out 0).trans rfl
   have hb1 := (blk_cell HG.out 1).trans rfl
   have hb2 := (blk_cell HG.out 2).trans rfl
   have ht0 := (blk_cell HX3.out 0).trans rfl
   have ht1 := (blk_cell HX3.out 1).trans rfl
   by_cases e1 : inB b.f0 (-12) (-1) = true
   case neg =>
    have g1 := Aside0.mk (show impl_between.f b.f0 (-12) (-1) = some false from by rw [between_inB]; simpa using e1)
    have HF := Aside0.mk (show r = false from by rw [HT1.out, HBK.out]; simp [e1])
    clear e1
    go_quiet ((go_at_call 33; first | exact quietD (impl_between.calls _ _ _ _ _ g1.out) | exact quietD (impl_between.calls _ _ _ _ _ g2.out)))
    have HBF := Aside0.mk (fun n => pw_below_drewN HB3.out n)
    go_wp2_with fail
    go_ret
    exact ⟨by rw [HF.out]; rfl, HBF.out _⟩
   have g1 := Aside0.mk (show impl_between.f b.f0 (-12) (-1) = some true from by rw [between_inB, e1])
   by_cases e0 : 0 < kk
   case pos =>
    obtain ⟨ki, hki⟩ : ∃ ki : Int, kk - 1 = ki := ⟨_, rfl⟩
    have hpv0 := HPV.out e0
    rw [hki] at hpv0
    have hpv := (HB3.out.cell (World.block_lt_of_cell? w _ hpv0)).trans hpv0
    have hw1 : IntKind.i64.wrap (kk - 1) = ki := (i64_w _).trans (by unfold wrap64; omega)
    have hw2 : wrap64 (kk - 1) = ki := by unfold wrap64; omega
    have i0 := eq_true (show 0 ≤ ki by omega)
    have i1 := eq_true (show ki < (l0_1.length : Int) by omega)
    clear hki hpv0
    have e0b : decide (0 < kk) = true := decide_eq_true e0
    by_cases e2 : pv ≤ b.f0
    case pos =>
     have e2b : decide (pv ≤ b.f0) = true := decide_eq_true e2
     have HF := Aside0.mk (show r = false from by rw [HT1.out, HBK.out]; simp [e0, e2])
     clear e1 e2 e0
     go_quiet ((go_at_call 33; first | exact quietD (impl_between.calls _ _ _ _ _ g1.out) | exact quietD (impl_between.calls _ _ _ _ _ g2.out)))
     have HBF := Aside0.mk (fun n => pw_below_drewN HB3.out n)
     go_wp2_with fail
     go_ret
     exact ⟨by rw [HF.out]; rfl, HBF.out _⟩
    have e2b : decide (pv ≤ b.f0) = false := decide_eq_false e2
    by_cases e3 : inB b.f1 1 3 = true
    case neg =>
     have g2 := Aside0.mk (show impl_between.f b.f1 1 3 = some false from by rw [between_inB]; simpa using e3)
     have HF := Aside0.mk (show r = false from by rw [HT1.out, HBK.out]; simp [e3])
     clear e1 e3 e2 e0
     go_quiet ((go_at_call 33; first | exact quietD (impl_between.calls _ _ _ _ _ g1.out) | exact quietD (impl_between.calls _ _ _ _ _ g2.out)))
     have HBF := Aside0.mk (fun n => pw_below_drewN HB3.out n)
     go_wp2_with fail
     go_ret
     exact ⟨by rw [HF.out]; rfl, HBF.out _⟩
    have g2 := Aside0.mk (show impl_between.f b.f1 1 3 = some true from by rw [between_inB, e3])
    by_cases e4 : b.f2.length ≤ 8
    case neg =>
     have e4b : decide (8 < (b.f2.length : Int)) = true := decide_eq_true (by omega)
     have e4n : decide (8 < b.f2.length) = true := decide_eq_true (by omega)
     have HF := Aside0.mk (show r = false from by rw [HT1.out, HBK.out]; simp [e4])
     clear e1 e3 e4 e2 e0
     go_quiet ((go_at_call 33; first | exact quietD (impl_between.calls _ _ _ _ _ g1.out) | exact quietD (impl_between.calls _ _ _ _ _ g2.out)))
     have HBF := Aside0.mk (fun n => pw_below_drewN HB3.out n)
     go_wp2_with fail
     go_ret
     exact ⟨by rw [HF.out]; rfl, HBF.out _⟩
    have e4b : decide (8 < (b.f2.length : Int)) = false := decide_eq_false (by omega)
    have e4n : decide (8 < b.f2.length) = false := decide_eq_false (by omega)
    by_cases e5 : itemsOkB l0_0 l0_1 b.f1 b.f2 = true
    case neg =>
     have g3 := Aside0.mk (show impl_Tree_itemsOk.f l0_0 l0_1 b.f0 b.f1 b.f2 = some false from by unfold impl_Tree_itemsOk.f; rw [if_pos HWF.out]; simpa using e5)
     have HF := Aside0.mk (show r = false from by rw [HT1.out, HBK.out]; simp [e5])
     clear e1 e3 e4 e5 e2 e0
     have HK := Aside0.mk (show ∀ w', Below W.heap.size W w' → (fun w' => w'.cell? ⟨gb, 0, none⟩ = some (.int .i64 b.f0) ∧ w'.cell? ⟨gb, 1, none⟩ = some (.int .i64 b.f1) ∧ w'.cell? ⟨gb, 2, none⟩ = some (.slice A2 b.f2.length c2) ∧ w'.cell? ⟨gt, 0, none⟩ = some (.slice A0_0 l0_0.length c0_0) ∧ w'.cell? ⟨gt, 1, none⟩ = some (.slice (some ad) l0_1.length c0_1) ∧ w'.cell? (ad.add (ki.toNat * 3)) = some (.int .i64 pv) ∧ Below W.heap.size W w') w' from fun w' h => ⟨(h.cell (blk_lt HG.out)).trans hb0, (h.cell (blk_lt HG.out)).trans hb1, (h.cell (blk_lt HG.out)).trans hb2, (h.cell (blk_lt HX3.out)).trans ht0, (h.cell (blk_lt HX3.out)).trans ht1, (h.cell (World.block_lt_of_cell? W _ hpv)).trans hpv, h⟩)
     have HIT := Aside0.mk (fun w' (hb : Below W.heap.size W w') => impl_Tree_itemsOk.calls A0_0 c0_0 l0_0 (some ad) c0_1 l0_1 b.f0 b.f1 A2 c2 b.f2 false w' (Kd.C_below HR0.out (below_step HB3.out hb)) HC0.out (Kd.C_below HR1.out (below_step HB3.out hb)) HC1.out (Kd.C_below HRI.out (below_step HB3.out hb)) hl2 g3.out)
     go_region_held3 (fun w' => w'.cell? ⟨gb, 0, none⟩ = some (.int .i64 b.f0) ∧ w'.cell? ⟨gb, 1, none⟩ = some (.int .i64 b.f1) ∧ w'.cell? ⟨gb, 2, none⟩ = some (.slice A2 b.f2.length c2) ∧ w'.cell? ⟨gt, 0, none⟩ = some (.slice A0_0 l0_0.length c0_0) ∧ w'.cell? ⟨gt, 1, none⟩ = some (.slice (some ad) l0_1.length c0_1) ∧ w'.cell? (ad.add (ki.toNat * 3)) = some (.int .i64 pv) ∧ Below W.heap.size W w')
      (first | exact HK.out _ hbb | exact HK.out _ (below_drew1 (Below.refl _ _)) | exact HK.out _ (Below.refl _ _))
      (first | (go_at_call 33; go_split_ands; (first | (with_reducible refine (impl_between.calls _ _ _ _ _ g1.out).mono ?_) | (with_reducible refine (impl_between.calls _ _ _ _ _ g2.out).mono ?_)); rintro e w3 ⟨rfl, hd⟩; have hbb : Below W.heap.size W w3 := below_step (by assumption) hd.below) | (go_at_call 34; go_split_ands; (with_reducible refine (HIT.out _ (by assumption)).mono ?_); rintro e w3 ⟨rfl, hb⟩; have hbb : Below W.heap.size W w3 := below_step (by assumption) hb))
     have HBF := Aside0.mk (below_step HB3.out hbb)
     go_wp2_with fail
     go_ret
     exact ⟨by rw [HF.out]; rfl, HBF.out⟩
    have g3 := Aside0.mk (show impl_Tree_itemsOk.f l0_0 l0_1 b.f0 b.f1 b.f2 = some true from by unfold impl_Tree_itemsOk.f; rw [if_pos HWF.out, e5])
    have HT2 := Aside0.mk (show r = tailB l0_0 l0_1 (l0_1.length - (kk + 1).toNat) kk (S ++ b.f2.take (0 : Int).toNat) (b.f2.drop (0 : Int).toNat) from by rw [HT1.out, HBK.out, if_pos (by simp [e1, e2, e3, e4, e5])]; simp)
    have he4 := eq_true e4
    clear e1 e3 e5 HT1 HBK he4 e2 e0
    have HK := Aside0.mk (show ∀ w', Below W.heap.size W w' → (fun w' => w'.cell? ⟨gb, 0, none⟩ = some (.int .i64 b.f0) ∧ w'.cell? ⟨gb, 1, none⟩ = some (.int .i64 b.f1) ∧ w'.cell? ⟨gb, 2, none⟩ = some (.slice A2 b.f2.length c2) ∧ w'.cell? ⟨gt, 0, none⟩ = some (.slice A0_0 l0_0.length c0_0) ∧ w'.cell? ⟨gt, 1, none⟩ = some (.slice (some ad) l0_1.length c0_1) ∧ w'.cell? (ad.add (ki.toNat * 3)) = some (.int .i64 pv) ∧ Below W.heap.size W w') w' from fun w' h => ⟨(h.cell (blk_lt HG.out)).trans hb0, (h.cell (blk_lt HG.out)).trans hb1, (h.cell (blk_lt HG.out)).trans hb2, (h.cell (blk_lt HX3.out)).trans ht0, (h.cell (blk_lt HX3.out)).trans ht1, (h.cell (World.block_lt_of_cell? W _ hpv)).trans hpv, h⟩)
    have HIT := Aside0.mk (fun w' (hb : Below W.heap.size W w') => impl_Tree_itemsOk.calls A0_0 c0_0 l0_0 (some ad) c0_1 l0_1 b.f0 b.f1 A2 c2 b.f2 true w' (Kd.C_below HR0.out (below_step HB3.out hb)) HC0.out (Kd.C_below HR1.out (below_step HB3.out hb)) HC1.out (Kd.C_below HRI.out (below_step HB3.out hb)) hl2 g3.out)
    go_region_held3 (fun w' => w'.cell? ⟨gb, 0, none⟩ = some (.int .i64 b.f0) ∧ w'.cell? ⟨gb, 1, none⟩ = some (.int .i64 b.f1) ∧ w'.cell? ⟨gb, 2, none⟩ = some (.slice A2 b.f2.length c2) ∧ w'.cell? ⟨gt, 0, none⟩ = some (.slice A0_0 l0_0.length c0_0) ∧ w'.cell? ⟨gt, 1, none⟩ = some (.slice (some ad) l0_1.length c0_1) ∧ w'.cell? (ad.add (ki.toNat * 3)) = some (.int .i64 pv) ∧ Below W.heap.size W w')
     (first | exact HK.out _ hbb | exact HK.out _ (below_drew1 (Below.refl _ _)) | exact HK.out _ (Below.refl _ _))
     (first | (go_at_call 33; go_split_ands; (first | (with_reducible refine (impl_between.calls _ _ _ _ _ g1.out).mono ?_) | (with_reducible refine (impl_between.calls _ _ _ _ _ g2.out).mono ?_)); rintro e w3 ⟨rfl, hd⟩; have hbb : Below W.heap.size W w3 := below_step (by assumption) hd.below) | (go_at_call 34; go_split_ands; (with_reducible refine (HIT.out _ (by assumption)).mono ?_); rintro e w3 ⟨rfl, hb⟩; have hbb : Below W.heap.size W w3 := below_step (by assumption) hb))
    have t2 := (hbb.cell (blk_lt HG.out)).trans hb2
    have HXF := Aside0.mk (blk_below HX3.out hbb)
    have HSF := Aside0.mk (OwnSet.below HS3.out hbb)
    have HBF := Aside0.mk (below_step HB3.out hbb)
    clear g1 g2 g3 HG HX3 HB3 HS3
    go_wp2_with fail
    try clear hb0 hb1 hb2 ht0 ht1 hpv
    go_loopg [67] b.f2.length (fun gg s67 wq => ∃ jj : Int, 0 ≤ jj ∧ jj ≤ b.f2.length ∧ (b.f2.length : Int) - jj ≤ gg ∧ s67 = .int .i64 jj ∧ Aside0 (Below w.heap.size w wq) ∧ Aside0 (OwnSet wq mb (S ++ b.f2.take jj.toNat).length (S ++ b.f2.take jj.toNat)) ∧ Aside0 (wq.heap[gt]? = some (.cells #[.slice A0_0 l0_0.length c0_0, .slice (some ad) l0_1.length c0_1] 25 (0, 0))) ∧ Aside0 (r = tailB l0_0 l0_1 (l0_1.length - (kk + 1).toNat) kk (S ++ b.f2.take jj.toNat) (b.f2.drop jj.toNat)))
    case atStart => exact ⟨0, by omega, by omega, by omega, rfl, HBF, by simpa using HSF, HXF, HT2⟩
    case round =>
     clear HBF HSF HXF HT2
     obtain ⟨jj, j0, hjj, hgj, rfl, BQ, SQ, XQ, TQ⟩ := hrel
     by_cases hlj : jj < (b.f2.length : Int)
     ·obtain ⟨ad2, rfl, hy0⟩ := Kd.at_int HRI.out jj j0 hlj
      replace hy0 := (BQ.out.cell (World.block_lt_of_cell? w _ hy0)).trans hy0
      have p0 := eq_true j0
      have p1 := eq_true hlj
      have hw := HWI.out jj j0 hlj
      have hlook := OwnSet.look SQ.out (rd b.f2 jj) hw
      have hsl : (S ++ b.f2.take jj.toNat).length = S.length + jj.toNat := by rw [List.length_append, List.length_take]; omega
      have hsn : (S ++ b.f2.take jj.toNat).length < 9223372036854775807 := by omega
      have HW2 := Aside0.mk hw
      have HTK := Aside0.mk (show S ++ b.f2.take (jj + 1).toNat = (S ++ b.f2.take jj.toNat) ++ [rd b.f2 jj] from by
       have := take_map_snoc id b.f2 jj j0 hlj 0
       simp only [List.map_id, id] at this
       rw [this, List.append_assoc]; rfl)
      cases hq : (S ++ b.f2.take jj.toNat).any (fun y => y == rd b.f2 jj) with
      | true =>
       rw [hq] at hlook
       have HF := Aside0.mk (show r = false from by rw [TQ.out]; exact tail_hit _ _ _ _ _ _ _ j0 hlj hq)
       clear hq hsl hsn TQ HTK hw
       go_wp2_with fail
       go_ret
       exact ⟨by rw [HF.out]; rfl, BQ.out⟩
      | false =>
       rw [hq] at hlook
       have HTN := Aside0.mk (show r = tailB l0_0 l0_1 (l0_1.length - (kk + 1).toNat) kk (S ++ b.f2.take (jj + 1).toNat) (b.f2.drop (jj + 1).toNat) from by rw [TQ.out, HTK.out]; exact tail_miss _ _ _ _ _ _ _ j0 hlj hq)
       have HSN := Aside0.mk hsn
       clear hq hsl hsn TQ hw
       go_wp2_with (at_mapUpdate; refine OwnSet.put rfl rfl _ _ _ rfl _ _ _ rfl SQ.out HSN.out _ rfl rfl HW2.out ?_; intro w5 hs5 hg5; have HS5 := Aside0.mk hs5; have HG5 := Aside0.mk hg5; clear hs5 hg5)
       go_roundg (gk - 1)
       case measure => omega
       case rel =>
        exact ⟨jj + 1, by omega, by omega, by omega, by go_num, ⟨pw_below_grown BQ.out (some mb) BQ.out.size HG5.out (by intro k hk; cases hk; exact HMB.out)⟩,
         ⟨by rw [HTK.out]; have := HS5.out; rw [List.length_append]; exact this⟩, ⟨(HG5.out.block _ (blk_lt XQ.out) (by simp; exact HNE.out)).trans XQ.out⟩, HTN⟩
     ·obtain rfl : jj = b.f2.length := by omega
      have HTE := Aside0.mk (show r = treeGo l0_0 l0_1 (l0_1.length - (kk + 1).toNat) (kk + 1) (S ++ b.f2) from by
       have := TQ.out
       rw [Int.toNat_natCast, List.take_length] at this
       rw [this]; exact tail_end _ _ _ _ _ _)
      have HSE := Aside0.mk (show OwnSet wr mb (S ++ b.f2).length (S ++ b.f2) from by have := SQ.out; rw [Int.toNat_natCast, List.take_length] at this; exact this)
      have hlen : (((S ++ b.f2).length : Nat) : Int) ≤ 8 * (kk + 1) := by rw [List.length_append]; omega
      clear TQ SQ
      go_wp2_with fail
      go_roundg (gko - 1)
      case measure => have := HGK.out; omega
      case rel => exact ⟨kk + 1, S ++ b.f2, by omega, by omega, by omega, by go_num, hlen, BQ, HSE, XQ, HTE⟩
   have e0b : decide (0 < kk) = false := decide_eq_false e0
   by_cases e3 : inB b.f1 1 3 = true
   case neg =>
    have g2 := Aside0.mk (show impl_between.f b.f1 1 3 = some false from by rw [between_inB]; simpa using e3)
    have HF := Aside0.mk (show r = false from by rw [HT1.out, HBK.out]; simp [e3])
    clear e1 e3 e0
    go_quiet ((go_at_call 33; first | exact quietD (impl_between.calls _ _ _ _ _ g1.out) | exact quietD (impl_between.calls _ _ _ _ _ g2.out)))
    have HBF := Aside0.mk (fun n => pw_below_drewN HB3.out n)
    go_wp2_with fail
    go_ret
    exact ⟨by rw [HF.out]; rfl, HBF.out _⟩
   have g2 := Aside0.mk (show impl_between.f b.f1 1 3 = some true from by rw [between_inB, e3])
   by_cases e4 : b.f2.length ≤ 8
   case neg =>
    have e4b : decide (8 < (b.f2.length : Int)) = true := decide_eq_true (by omega)
    have e4n : decide (8 < b.f2.length) = true := decide_eq_true (by omega)
    have HF := Aside0.mk (show r = false from by rw [HT1.out, HBK.out]; simp [e4])
    clear e1 e3 e4 e0
    go_quiet ((go_at_call 33; first | exact quietD (impl_between.calls _ _ _ _ _ g1.out) | exact quietD (impl_between.calls _ _ _ _ _ g2.out)))
    have HBF := Aside0.mk (fun n => pw_below_drewN HB3.out n)
    go_wp2_with fail
    go_ret
    exact ⟨by rw [HF.out]; rfl, HBF.out _⟩
   have e4b : decide (8 < (b.f2.length : Int)) = false := decide_eq_false (by omega)
   have e4n : decide (8 < b.f2.length) = false := decide_eq_false (by omega)
   by_cases e5 : itemsOkB l0_0 l0_1 b.f1 b.f2 = true
   case neg =>
    have g3 := Aside0.mk (show impl_Tree_itemsOk.f l0_0 l0_1 b.f0 b.f1 b.f2 = some false from by unfold impl_Tree_itemsOk.f; rw [if_pos HWF.out]; simpa using e5)
    have HF := Aside0.mk (show r = false from by rw [HT1.out, HBK.out]; simp [e5])
    clear e1 e3 e4 e5 e0
    refine start_ (n := 38) (S := fun w' => w'.cell? ⟨gb, 0, none⟩ = some (.int .i64 b.f0) ∧ w'.cell? ⟨gb, 1, none⟩ = some (.int .i64 b.f1) ∧ w'.cell? ⟨gb, 2, none⟩ = some (.slice A2 b.f2.length c2) ∧ w'.cell? ⟨gt, 0, none⟩ = some (.slice A0_0 l0_0.length c0_0) ∧ w'.cell? ⟨gt, 1, none⟩ = some (.slice (some ad) l0_1.length c0_1) ∧ w'.heap[gb]? = some (.cells #[.int .i64 b.f0, .int .i64 b.f1, .slice A2 b.f2.length c2] 49 (0, 0)) ∧ w'.heap[gt]? = some (.cells #[.slice A0_0 l0_0.length c0_0, .slice (some ad) l0_1.length c0_1] 25 (0, 0)) ∧ OwnSet w' mb S.length S ∧ Below w.heap.size w w') (ds := []) mz14_0 (by kernel_rfl) rfl rfl ⟨hb0, hb1, hb2, ht0, ht1, blk_drew HG.out, blk_drew HX3.out, OwnSet.drew1 HS3.out, below_drew1 HB3.out⟩ (fun hHeld => ?_)
    refine pu 0 (some 26) mz14_1 (by kernel_rfl) ?_
    refine tk 1 (some 27) mz14_2 hHeld (by kernel_rfl) ?_
    refine one_ (i := 2) (N := some 28) mz14_3 rfl rfl (by kernel_rfl) (by decide) (fun K hK => ?_)
    obtain ⟨t0, t1, t2, t3, t4, t5, t6, t7, t8⟩ := hHeld
    refine goes_ Tryz.func33 (by kernel_rfl) rfl #[.int .i64 b.f0, .int .i64 (-12), .int .i64 (-1)] (by rfl) rfl rfl (by simp only [List.map_toArray, List.map_cons, List.map_nil]; rfl) ?_
    with_reducible refine (impl_between.calls _ _ _ true _ g1.out).mono ?_
    rintro e w3 ⟨rfl, hd⟩
    refine ⟨_, rfl, ?_⟩
    have hb := hd.below
    clear hd
    have u0 := (hb.cell (blk_lt t5)).trans t0
    have u1 := (hb.cell (blk_lt t5)).trans t1
    have u2 := (hb.cell (blk_lt t5)).trans t2
    have u3 := (hb.cell (blk_lt t6)).trans t3
    have u4 := (hb.cell (blk_lt t6)).trans t4
    have u5 := (hb.block _ (blk_lt t5)).trans t5
    have u6 := (hb.block _ (blk_lt t6)).trans t6
    have u7 := OwnSet.below t7 hb
    have u8 := below_step t8 hb
    clear t0 t1 t2 t3 t4 t5 t6 t7 t8 hb
    refine hK.out _ _ ⟨u0, u1, u2, u3, u4, u5, u6, u7, u8⟩ (fun hHeld => ?_)
    clear hK K
    refine norm_ (a' := ?_) ?_ ?_
    (rotate_left; ·(show Act.put _ (some 28) _ = _; simp only [Act.put, pq_z14]; rfl))
    refine pu 3 (some 29) mz14_4 (by kernel_rfl) ?_
    refine pu 4 (some 30) mz14_5 (by kernel_rfl) ?_
    refine pu 5 (some 31) mz14_6 (by kernel_rfl) ?_
    refine pu 6 (some 32) mz14_7 (by kernel_rfl) ?_
    refine pu 7 (some 33) mz14_8 (by kernel_rfl) ?_
    refine po 8 (some 34) mz14_9 (by kernel_rfl) ?_
    refine po 9 (some 35) mz14_10 (by kernel_rfl) ?_
    refine po 10 (some 36) mz14_11 (by kernel_rfl) ?_
    refine po 11 (some 37) mz14_12 (by kernel_rfl) ?_
    refine po 12 (some 38) mz14_13 (by kernel_rfl) ?_
    refine po 13 (some 39) mz14_14 (by kernel_rfl) ?_
    refine po 14 (some 40) mz14_15 (by kernel_rfl) ?_
    refine po 15 (some 41) mz14_16 (by kernel_rfl) ?_
    refine po 16 (some 42) mz14_17 (by kernel_rfl) ?_
    refine po 17 (some 43) mz14_18 (by kernel_rfl) ?_
    refine pu 18 (some 44) mz14_19 (by kernel_rfl) ?_
    refine pu 19 (some 45) mz14_20 (by kernel_rfl) ?_
    refine pu 20 (some 46) mz14_21 (by kernel_rfl) ?_
    refine pu 21 (some 47) mz14_22 (by kernel_rfl) ?_
    refine tk 22 (some 48) mz14_23 hHeld (by kernel_rfl) ?_
    refine one_ (i := 23) (N := some 49) mz14_24 rfl rfl (by kernel_rfl) (by decide) (fun K hK => ?_)
    obtain ⟨t0, t1, t2, t3, t4, t5, t6, t7, t8⟩ := hHeld
    refine goes_ Tryz.func33 (by kernel_rfl) rfl #[.int .i64 b.f1, .int .i64 1, .int .i64 3] (by rfl) rfl rfl (by simp only [List.map_toArray, List.map_cons, List.map_nil]; rfl) ?_
    with_reducible refine (impl_between.calls _ _ _ true _ g2.out).mono ?_
    rintro e w3 ⟨rfl, hd⟩
    refine ⟨_, rfl, ?_⟩
    have hb := hd.below
    clear hd
    have u0 := (hb.cell (blk_lt t5)).trans t0
    have u1 := (hb.cell (blk_lt t5)).trans t1
    have u2 := (hb.cell (blk_lt t5)).trans t2
    have u3 := (hb.cell (blk_lt t6)).trans t3
    have u4 := (hb.cell (blk_lt t6)).trans t4
    have u5 := (hb.block _ (blk_lt t5)).trans t5
    have u6 := (hb.block _ (blk_lt t6)).trans t6
    have u7 := OwnSet.below t7 hb
    have u8 := below_step t8 hb
    clear t0 t1 t2 t3 t4 t5 t6 t7 t8 hb
    refine hK.out _ _ ⟨u0, u1, u2, u3, u4, u5, u6, u7, u8⟩ (fun hHeld => ?_)
    clear hK K
    refine norm_ (a' := ?_) ?_ ?_
    (rotate_left; ·(show Act.put _ (some 49) _ = _; simp only [Act.put, pq_z14]; rfl))
    refine pu 24 (some 50) mz14_25 (by kernel_rfl) ?_
    refine pu 25 (some 51) mz14_26 (by kernel_rfl) ?_
    refine pu 26 (some 52) mz14_27 (by kernel_rfl) ?_
    refine pu 27 (some 53) mz14_28 (by kernel_rfl) ?_
    refine tk 28 (some 54) mz14_29 hHeld (by kernel_rfl) ?_
    refine pu 29 (some 55) mz14_30 (by kernel_rfl) ?_
    refine pu 30 (some 56) mz14_31 (by kernel_rfl) ?_
    refine pu 31 (some 57) mz14_32 (by kernel_rfl) ?_
    refine pu 32 (some 58) mz14_33 (by kernel_rfl) ?_
    refine tk 33 (some 59) mz14_34 hHeld (by kernel_rfl) ?_
    refine tk 34 (some 60) mz14_35 hHeld (by kernel_rfl) ?_
    refine one_ (i := 35) (N := some 61) mz14_36 rfl rfl (by kernel_rfl) (by decide) (fun K hK => ?_)
    obtain ⟨t0, t1, t2, t3, t4, t5, t6, t7, t8⟩ := hHeld
    refine goes_ Tryz.func34 (by kernel_rfl) rfl #[.agg #[.slice A0_0 l0_0.length c0_0, .slice (some ad) l0_1.length c0_1], .agg #[.int .i64 b.f0, .int .i64 b.f1, .slice A2 b.f2.length c2]] (by rfl) rfl rfl (by simp only [List.map_toArray, List.map_cons, List.map_nil]; rfl) ?_
    with_reducible refine (impl_Tree_itemsOk.calls A0_0 c0_0 l0_0 (some ad) c0_1 l0_1 b.f0 b.f1 A2 c2 b.f2 false _ (Kd.C_below HR0.out t8) HC0.out (Kd.C_below HR1.out t8) HC1.out (Kd.C_below HRI.out t8) hl2 g3.out).mono ?_
    rintro e w3 ⟨rfl, hb⟩
    refine ⟨_, rfl, ?_⟩
    have u0 := (hb.cell (blk_lt t5)).trans t0
    have u1 := (hb.cell (blk_lt t5)).trans t1
    have u2 := (hb.cell (blk_lt t5)).trans t2
    have u3 := (hb.cell (blk_lt t6)).trans t3
    have u4 := (hb.cell (blk_lt t6)).trans t4
    have u5 := (hb.block _ (blk_lt t5)).trans t5
    have u6 := (hb.block _ (blk_lt t6)).trans t6
    have u7 := OwnSet.below t7 hb
    have u8 := below_step t8 hb
    clear t0 t1 t2 t3 t4 t5 t6 t7 t8 hb
    refine hK.out _ _ ⟨u0, u1, u2, u3, u4, u5, u6, u7, u8⟩ (fun hHeld => ?_)
    clear hK K
    refine norm_ (a' := ?_) ?_ ?_
    (rotate_left; ·(show Act.put _ (some 61) _ = _; simp only [Act.put, pq_z14]; rfl))
    refine pu 36 (some 62) mz14_37 (by kernel_rfl) ?_
    refine pu 37 (some 63) mz14_38 (by kernel_rfl) ?_
    refine done_ (by kernel_rfl) ?_
    obtain ⟨t0, t1, t2, t3, t4, t5, t6, t7, t8⟩ := hHeld
    clear t0 t1 t2 t3 t4 t5 t6 t7
    have HBF := Aside0.mk t8
    clear t8
    go_wp2_with fail
    go_ret
    exact ⟨by rw [HF.out]; rfl, HBF.out⟩
   have g3 := Aside0.mk (show impl_Tree_itemsOk.f l0_0 l0_1 b.f0 b.f1 b.f2 = some true from by unfold impl_Tree_itemsOk.f; rw [if_pos HWF.out, e5])
   have HT2 := Aside0.mk (show r = tailB l0_0 l0_1 (l0_1.length - (kk + 1).toNat) kk (S ++ b.f2.take (0 : Int).toNat) (b.f2.drop (0 : Int).toNat) from by rw [HT1.out, HBK.out, if_pos (by simp [e1, e0, e3, e4, e5])]; simp)
   have he4 := eq_true e4
   clear e1 e3 e5 HT1 HBK he4 e0
   refine start_ (n := 38) (S := fun w' => w'.cell? ⟨gb, 0, none⟩ = some (.int .i64 b.f0) ∧ w'.cell? ⟨gb, 1, none⟩ = some (.int .i64 b.f1) ∧ w'.cell? ⟨gb, 2, none⟩ = some (.slice A2 b.f2.length c2) ∧ w'.cell? ⟨gt, 0, none⟩ = some (.slice A0_0 l0_0.length c0_0) ∧ w'.cell? ⟨gt, 1, none⟩ = some (.slice (some ad) l0_1.length c0_1) ∧ w'.heap[gb]? = some (.cells #[.int .i64 b.f0, .int .i64 b.f1, .slice A2 b.f2.length c2] 49 (0, 0)) ∧ w'.heap[gt]? = some (.cells #[.slice A0_0 l0_0.length c0_0, .slice (some ad) l0_1.length c0_1] 25 (0, 0)) ∧ OwnSet w' mb S.length S ∧ Below w.heap.size w w') (ds := []) mz14_0 (by kernel_rfl) rfl rfl ⟨hb0, hb1, hb2, ht0, ht1, blk_drew HG.out, blk_drew HX3.out, OwnSet.drew1 HS3.out, below_drew1 HB3.out⟩ (fun hHeld => ?_)
   refine pu 0 (some 26) mz14_1 (by kernel_rfl) ?_
   refine tk 1 (some 27) mz14_2 hHeld (by kernel_rfl) ?_
   refine one_ (i := 2) (N := some 28) mz14_3 rfl rfl (by kernel_rfl) (by decide) (fun K hK => ?_)
   obtain ⟨t0, t1, t2, t3, t4, t5, t6, t7, t8⟩ := hHeld
   refine goes_ Tryz.func33 (by kernel_rfl) rfl #[.int .i64 b.f0, .int .i64 (-12), .int .i64 (-1)] (by rfl) rfl rfl (by simp only [List.map_toArray, List.map_cons, List.map_nil]; rfl) ?_
   with_reducible refine (impl_between.calls _ _ _ true _ g1.out).mono ?_
   rintro e w3 ⟨rfl, hd⟩
   refine ⟨_, rfl, ?_⟩
   have hb := hd.below
   clear hd
   have u0 := (hb.cell (blk_lt t5)).trans t0
   have u1 := (hb.cell (blk_lt t5)).trans t1
   have u2 := (hb.cell (blk_lt t5)).trans t2
   have u3 := (hb.cell (blk_lt t6)).trans t3
   have u4 := (hb.cell (blk_lt t6)).trans t4
   have u5 := (hb.block _ (blk_lt t5)).trans t5
   have u6 := (hb.block _ (blk_lt t6)).trans t6
   have u7 := OwnSet.below t7 hb
   have u8 := below_step t8 hb
   clear t0 t1 t2 t3 t4 t5 t6 t7 t8 hb
   refine hK.out _ _ ⟨u0, u1, u2, u3, u4, u5, u6, u7, u8⟩ (fun hHeld => ?_)
   clear hK K
   refine norm_ (a' := ?_) ?_ ?_
   (rotate_left; ·(show Act.put _ (some 28) _ = _; simp only [Act.put, pq_z14]; rfl))
   refine pu 3 (some 29) mz14_4 (by kernel_rfl) ?_
   refine pu 4 (some 30) mz14_5 (by kernel_rfl) ?_
   refine pu 5 (some 31) mz14_6 (by kernel_rfl) ?_
   refine pu 6 (some 32) mz14_7 (by kernel_rfl) ?_
   refine pu 7 (some 33) mz14_8 (by kernel_rfl) ?_
   refine po 8 (some 34) mz14_9 (by kernel_rfl) ?_
   refine po 9 (some 35) mz14_10 (by kernel_rfl) ?_
   refine po 10 (some 36) mz14_11 (by kernel_rfl) ?_
   refine po 11 (some 37) mz14_12 (by kernel_rfl) ?_
   refine po 12 (some 38) mz14_13 (by kernel_rfl) ?_
   refine po 13 (some 39) mz14_14 (by kernel_rfl) ?_
   refine po 14 (some 40) mz14_15 (by kernel_rfl) ?_
   refine po 15 (some 41) mz14_16 (by kernel_rfl) ?_
   refine po 16 (some 42) mz14_17 (by kernel_rfl) ?_
   refine po 17 (some 43) mz14_18 (by kernel_rfl) ?_
   refine pu 18 (some 44) mz14_19 (by kernel_rfl) ?_
   refine pu 19 (some 45) mz14_20 (by kernel_rfl) ?_
   refine pu 20 (some 46) mz14_21 (by kernel_rfl) ?_
   refine pu 21 (some 47) mz14_22 (by kernel_rfl) ?_
   refine tk 22 (some 48) mz14_23 hHeld (by kernel_rfl) ?_
   refine one_ (i := 23) (N := some 49) mz14_24 rfl rfl (by kernel_rfl) (by decide) (fun K hK => ?_)
   obtain ⟨t0, t1, t2, t3, t4, t5, t6, t7, t8⟩ := hHeld
   refine goes_ Tryz.func33 (by kernel_rfl) rfl #[.int .i64 b.f1, .int .i64 1, .int .i64 3] (by rfl) rfl rfl (by simp only [List.map_toArray, List.map_cons, List.map_nil]; rfl) ?_
   with_reducible refine (impl_between.calls _ _ _ true _ g2.out).mono ?_
   rintro e w3 ⟨rfl, hd⟩
   refine ⟨_, rfl, ?_⟩
   have hb := hd.below
   clear hd
   have u0 := (hb.cell (blk_lt t5)).trans t0
   have u1 := (hb.cell (blk_lt t5)).trans t1
   have u2 := (hb.cell (blk_lt t5)).trans t2
   have u3 := (hb.cell (blk_lt t6)).trans t3
   have u4 := (hb.cell (blk_lt t6)).trans t4
   have u5 := (hb.block _ (blk_lt t5)).trans t5
   have u6 := (hb.block _ (blk_lt t6)).trans t6
   have u7 := OwnSet.below t7 hb
   have u8 := below_step t8 hb
   clear t0 t1 t2 t3 t4 t5 t6 t7 t8 hb
   refine hK.out _ _ ⟨u0, u1, u2, u3, u4, u5, u6, u7, u8⟩ (fun hHeld => ?_)
   clear hK K
   refine norm_ (a' := ?_) ?_ ?_
   (rotate_left; ·(show Act.put _ (some 49) _ = _; simp only [Act.put, pq_z14]; rfl))
   refine pu 24 (some 50) mz14_25 (by kernel_rfl) ?_
   refine pu 25 (some 51) mz14_26 (by kernel_rfl) ?_
   refine pu 26 (some 52) mz14_27 (by kernel_rfl) ?_
   refine pu 27 (some 53) mz14_28 (by kernel_rfl) ?_
   refine tk 28 (some 54) mz14_29 hHeld (by kernel_rfl) ?_
   refine pu 29 (some 55) mz14_30 (by kernel_rfl) ?_
   refine pu 30 (some 56) mz14_31 (by kernel_rfl) ?_
   refine pu 31 (some 57) mz14_32 (by kernel_rfl) ?_
   refine pu 32 (some 58) mz14_33 (by kernel_rfl) ?_
   refine tk 33 (some 59) mz14_34 hHeld (by kernel_rfl) ?_
   refine tk 34 (some 60) mz14_35 hHeld (by kernel_rfl) ?_
   refine one_ (i := 35) (N := some 61) mz14_36 rfl rfl (by kernel_rfl) (by decide) (fun K hK => ?_)
   obtain ⟨t0, t1, t2, t3, t4, t5, t6, t7, t8⟩ := hHeld
   refine goes_ Tryz.func34 (by kernel_rfl) rfl #[.agg #[.slice A0_0 l0_0.length c0_0, .slice (some ad) l0_1.length c0_1], .agg #[.int .i64 b.f0, .int .i64 b.f1, .slice A2 b.f2.length c2]] (by rfl) rfl rfl (by simp only [List.map_toArray, List.map_cons, List.map_nil]; rfl) ?_
   with_reducible refine (impl_Tree_itemsOk.calls A0_0 c0_0 l0_0 (some ad) c0_1 l0_1 b.f0 b.f1 A2 c2 b.f2 true _ (Kd.C_below HR0.out t8) HC0.out (Kd.C_below HR1.out t8) HC1.out (Kd.C_below HRI.out t8) hl2 g3.out).mono ?_
   rintro e w3 ⟨rfl, hb⟩
   refine ⟨_, rfl, ?_⟩
   have u0 := (hb.cell (blk_lt t5)).trans t0
   have u1 := (hb.cell (blk_lt t5)).trans t1
   have u2 := (hb.cell (blk_lt t5)).trans t2
   have u3 := (hb.cell (blk_lt t6)).trans t3
   have u4 := (hb.cell (blk_lt t6)).trans t4
   have u5 := (hb.block _ (blk_lt t5)).trans t5
   have u6 := (hb.block _ (blk_lt t6)).trans t6
   have u7 := OwnSet.below t7 hb
   have u8 := below_step t8 hb
   clear t0 t1 t2 t3 t4 t5 t6 t7 t8 hb
   refine hK.out _ _ ⟨u0, u1, u2, u3, u4, u5, u6, u7, u8⟩ (fun hHeld => ?_)
   clear hK K
   refine norm_ (a' := ?_) ?_ ?_
   (rotate_left; ·(show Act.put _ (some 61) _ = _; simp only [Act.put, pq_z14]; rfl))
   refine pu 36 (some 62) mz14_37 (by kernel_rfl) ?_
   refine pu 37 (some 63) mz14_38 (by kernel_rfl) ?_
   refine done_ (by kernel_rfl) ?_
   obtain ⟨t0, t1, t2, t3, t4, t5, t6, t7, t8⟩ := hHeld
   have HXF := Aside0.mk t6
   have HSF := Aside0.mk t7
   have HBF := Aside0.mk t8
   clear t0 t1 t3 t4 t5 t6 t7 t8 g1 g2 g3 HG HX3 HB3 HS3
   go_wp2_with fail
   clear t2
   go_loopg [67] b.f2.length (fun gg s67 wq => ∃ jj : Int, 0 ≤ jj ∧ jj ≤ b.f2.length ∧ (b.f2.length : Int) - jj ≤ gg ∧ s67 = .int .i64 jj ∧ Aside0 (Below w.heap.size w wq) ∧ Aside0 (OwnSet wq mb (S ++ b.f2.take jj.toNat).length (S ++ b.f2.take jj.toNat)) ∧ Aside0 (wq.heap[gt]? = some (.cells #[.slice A0_0 l0_0.length c0_0, .slice (some ad) l0_1.length c0_1] 25 (0, 0))) ∧ Aside0 (r = tailB l0_0 l0_1 (l0_1.length - (kk + 1).toNat) kk (S ++ b.f2.take jj.toNat) (b.f2.drop jj.toNat)))
   case atStart => exact ⟨0, by omega, by omega, by omega, rfl, HBF, by simpa using HSF, HXF, HT2⟩
   case round =>
    clear HBF HSF HXF HT2
    obtain ⟨jj, j0, hjj, hgj, rfl, BQ, SQ, XQ, TQ⟩ := hrel
    by_cases hlj : jj < (b.f2.length : Int)
    ·obtain ⟨ad2, rfl, hy0⟩ := Kd.at_int HRI.out jj j0 hlj
     replace hy0 := (BQ.out.cell (World.block_lt_of_cell? w _ hy0)).trans hy0
     have p0 := eq_true j0
     have p1 := eq_true hlj
     have hw := HWI.out jj j0 hlj
     have hlook := OwnSet.look SQ.out (rd b.f2 jj) hw
     have hsl : (S ++ b.f2.take jj.toNat).length = S.length + jj.toNat := by rw [List.length_append, List.length_take]; omega
     have hsn : (S ++ b.f2.take jj.toNat).length < 9223372036854775807 := by omega
     have HW2 := Aside0.mk hw
     have HTK := Aside0.mk (show S ++ b.f2.take (jj + 1).toNat = (S ++ b.f2.take jj.toNat) ++ [rd b.f2 jj] from by
      have := take_map_snoc id b.f2 jj j0 hlj 0
      simp only [List.map_id, id] at this
      rw [this, List.append_assoc]; rfl)
     cases hq : (S ++ b.f2.take jj.toNat).any (fun y => y == rd b.f2 jj) with
     | true =>
      rw [hq] at hlook
      have HF := Aside0.mk (show r = false from by rw [TQ.out]; exact tail_hit _ _ _ _ _ _ _ j0 hlj hq)
      clear hq hsl hsn TQ HTK hw
      go_wp2_with fail
      go_ret
      exact ⟨by rw [HF.out]; rfl, BQ.out⟩
     | false =>
      rw [hq] at hlook
      have HTN := Aside0.mk (show r = tailB l0_0 l0_1 (l0_1.length - (kk + 1).toNat) kk (S ++ b.f2.take (jj + 1).toNat) (b.f2.drop (jj + 1).toNat) from by rw [TQ.out, HTK.out]; exact tail_miss _ _ _ _ _ _ _ j0 hlj hq)
      have HSN := Aside0.mk hsn
      clear hq hsl hsn TQ hw
      go_wp2_with (at_mapUpdate; refine OwnSet.put rfl rfl _ _ _ rfl _ _ _ rfl SQ.out HSN.out _ rfl rfl HW2.out ?_; intro w5 hs5 hg5; have HS5 := Aside0.mk hs5; have HG5 := Aside0.mk hg5; clear hs5 hg5)
      go_roundg (gk - 1)
      case measure => omega
      case rel =>
       exact ⟨jj + 1, by omega, by omega, by omega, by go_num, ⟨pw_below_grown BQ.out (some mb) BQ.out.size HG5.out (by intro k hk; cases hk; exact HMB.out)⟩,
        ⟨by rw [HTK.out]; have := HS5.out; rw [List.length_append]; exact this⟩, ⟨(HG5.out.block _ (blk_lt XQ.out) (by simp; exact HNE.out)).trans XQ.out⟩, HTN⟩
    ·obtain rfl : jj = b.f2.length := by omega
     have HTE := Aside0.mk (show r = treeGo l0_0 l0_1 (l0_1.length - (kk + 1).toNat) (kk + 1) (S ++ b.f2) from by
      have := TQ.out
      rw [Int.toNat_natCast, List.take_length] at this
      rw [this]; exact tail_end _ _ _ _ _ _)
     have HSE := Aside0.mk (show OwnSet wr mb (S ++ b.f2).length (S ++ b.f2) from by have := SQ.out; rw [Int.toNat_natCast, List.take_length] at this; exact this)
     have hlen : (((S ++ b.f2).length : Nat) : Int) ≤ 8 * (kk + 1) := by rw [List.length_append]; omega
     clear TQ SQ
     go_wp2_with fail
     go_roundg (gko - 1)
     case measure => have := HGK.out; omega
     case rel => exact ⟨kk + 1, S ++ b.f2, by omega, by omega, by omega, by go_num, hlen, BQ, HSE, XQ, HTE⟩

end Go.Proofs.YtohjpgcmhihdhaaGreatDoor.Q
