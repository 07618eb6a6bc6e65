/- Walks of the Go functions that the laws call: each returns what a plain Lean function says. Written by a program for these claims. -/
import Derived.Test.YtkadeelplnkpgaaQ0
import Derived.Test.YtkadeelplnkpgaaQf50
import Derived.Test.YtkadeelplnkpgaaQf72
import Derived.Test.YtkadeelplnkpgaaQf79
import Derived.Test.YtkadeelplnkpgaaQf80
import Derived.Test.YtkadeelplnkpgaaQf81
import Derived.Test.YtkadeelplnkpgaaQf82
import Derived.Test.YtkadeelplnkpgaaQf83
namespace Go.Proofs.Ytkadeelplnkpgaa.Q
open Go.RowKit Go.Proofs.YtkadeelplnkpgaaW.PrintWords Go.Proofs.YtkadeelplnkpgaaW.PrintLast Go.Proofs.YtkadeelplnkpgaaW.PrintMore
attribute [local go_sem] max2_int min2_int max_two min_two max_three min_three max_four min_four   -- for this text's walks alone
set_option linter.unusedVariables false
set_option linter.unusedSimpArgs false

/-! ### spec_CanPlace: function 40 -/
mutual
def spec_CanPlace.j0 : Nat → List Int → Bool → List (S50) → List (S108) → Int → Int → Int → Bool → Option (Int × Bool)
  | 0, _, _, _, _, _, _, _, _ => none
  | k + 1, x2, x25, x823000, x823001, x824000, x824001, x824002, x824003 => if x25 = true then (some (0, false)) else ((spec_l06Under.f k x823000 x823001 x824001).bind fun t830 => (spec_CanPlace.l0 k x2 (([] : List Int)) t830 0 x823000 x823001 x824000 x824001 x824002 x824003))
def spec_CanPlace.l0 : Nat → List Int → List Int → List Int → Int → List (S50) → List (S108) → Int → Int → Int → Bool → Option (Int × Bool)
  | 0, _, _, _, _, _, _, _, _, _, _ => none
  | k + 1, x2, x8, x9, x10, x823000, x823001, x824000, x824001, x824002, x824003 => if x10 < (x9.length : Int) then (if 0 ≤ x10 then ((spec_l08Domain.f k x823000 x823001 x824002 (rd x9 x10)).bind fun t834 => ((spec_l06Device.f k x823000 x823001 (rd x9 x10)).bind fun t836 => (if 0 ≤ t836 then (if t836 < (x823000.length : Int) then (if ((rd_T50 x823000 t836).f1) > 0 then ((spec_l00Has.f k x2 (rd x9 x10)).bind fun t839 => (if t839 = true then (spec_CanPlace.l0 k x2 x8 x9 (wrap64 (x10 + 1)) x823000 x823001 x824000 x824001 x824002 x824003) else (if x824002 = 0 then ((spec_l00Has.f k x8 t834).bind fun t840 => (if t840 = true then (spec_CanPlace.l0 k x2 x8 x9 (wrap64 (x10 + 1)) x823000 x823001 x824000 x824001 x824002 x824003) else (if x8.length < 17592186044416 then (spec_CanPlace.l0 k x2 (x8 ++ [t834]) x9 (wrap64 (x10 + 1)) x823000 x823001 x824000 x824001 x824002 x824003) else (none)))) else (if t834 = 0 then (spec_CanPlace.l0 k x2 x8 x9 (wrap64 (x10 + 1)) x823000 x823001 x824000 x824001 x824002 x824003) else ((spec_l00Has.f k x8 t834).bind fun t844 => (if t844 = true then (spec_CanPlace.l0 k x2 x8 x9 (wrap64 (x10 + 1)) x823000 x823001 x824000 x824001 x824002 x824003) else (if x8.length < 17592186044416 then (spec_CanPlace.l0 k x2 (x8 ++ [t834]) x9 (wrap64 (x10 + 1)) x823000 x823001 x824000 x824001 x824002 x824003) else (none)))))))) else (spec_CanPlace.l0 k x2 x8 x9 (wrap64 (x10 + 1)) x823000 x823001 x824000 x824001 x824002 x824003)) else (none)) else (none)))) else (none)) else (some ((x8.length : Int), true))
end
def spec_CanPlace.f (k : Nat) (l0_0 : List (S50)) (l0_1 : List (S108)) (a1_0 : Int) (a1_1 : Int) (a1_2 : Int) (a1_3 : Bool) (l2 : List Int) : Option (Int × Bool) := (spec_l06OK.f k l0_0 l0_1).bind fun t824 => (if t824 = true then ((spec_l08OK.f k l0_0 l0_1 a1_0 a1_1 a1_2 a1_3).bind fun t825 => (if t825 = true then ((spec_l00Rises.f k l2 0 15).bind fun t826 => (spec_CanPlace.j0 k l2 (!t826) l0_0 l0_1 a1_0 a1_1 a1_2 a1_3)) else (spec_CanPlace.j0 k l2 true l0_0 l0_1 a1_0 a1_1 a1_2 a1_3))) else (spec_CanPlace.j0 k l2 true l0_0 l0_1 a1_0 a1_1 a1_2 a1_3))
def az_z40 (n m : Nat) : Array Bool := (List.replicate n true ++ List.replicate m false).toArray
def mz40_0 : Array Bool := az_z40 0 36
def mz40_1 : Array Bool := az_z40 1 35
def mz40_2 : Array Bool := #[true, false, false, true, false, false, false, false, false, false, false, false, false, false, false, false, false, false, false, false, false, false, false, false, false, false, false, false, false, false, false, false, false, false, false, false]
def mz40_3 : Array Bool := #[true, false, false, true, true, false, false, false, false, false, false, false, false, false, false, false, false, false, false, false, false, false, false, false, false, false, false, false, false, false, false, false, false, false, false, false]
def mz40_4 : Array Bool := #[true, false, false, true, true, true, false, false, false, false, false, false, false, false, false, false, false, false, false, false, false, false, false, false, false, false, false, false, false, false, false, false, false, false, false, false]
def mz40_5 : Array Bool := #[true, true, false, true, true, true, false, false, false, false, false, false, false, false, false, false, false, false, false, false, false, false, false, false, false, false, false, false, false, false, false, false, false, false, false, false]
def mz40_6 : Array Bool := az_z40 6 30
def mz40_7 : Array Bool := az_z40 7 29
def mz40_8 : Array Bool := az_z40 8 28
def mz40_9 : Array Bool := az_z40 9 27
def mz40_10 : Array Bool := az_z40 10 26
def mz40_11 : Array Bool := az_z40 11 25
def mz40_12 : Array Bool := az_z40 12 24
def mz40_13 : Array Bool := az_z40 13 23
def mz40_14 : Array Bool := az_z40 14 22
def mz40_15 : Array Bool := az_z40 15 21
def mz40_16 : Array Bool := az_z40 16 20
def mz40_17 : Array Bool := az_z40 17 19
def mz40_18 : Array Bool := az_z40 18 18
def mz40_19 : Array Bool := az_z40 19 17
def mz40_20 : Array Bool := az_z40 20 16
def mz40_21 : Array Bool := az_z40 21 15
def mz40_22 : Array Bool := az_z40 22 14
def mz40_23 : Array Bool := az_z40 23 13
def mz40_24 : Array Bool := az_z40 24 12
def mz40_25 : Array Bool := az_z40 25 11
def mz40_26 : Array Bool := az_z40 26 10
def mz40_27 : Array Bool := az_z40 27 9
def mz40_28 : Array Bool := az_z40 28 8
def mz40_29 : Array Bool := az_z40 29 7
def mz40_30 : Array Bool := az_z40 30 6
def mz40_31 : Array Bool := az_z40 31 5
def mz40_32 : Array Bool := az_z40 32 4
def mz40_33 : Array Bool := az_z40 33 3
def mz40_34 : Array Bool := az_z40 34 2
def mz40_35 : Array Bool := az_z40 35 1
def mz40_36 : Array Bool := az_z40 36 0
theorem pu_z40 {P : Program} {ops : Array Oper} {Q : Exit → Act → World → Prop} {md : Region.Mode} {S : World → Prop} {ds : List Nat} {oi : Oper} {fuel : Nat} {l : Array Bool} {a : Act} {w : World} (i : Nat) (N : Option Tmp) (v : Value) (l' : Array Bool) (hi : ops[i]? = some oi) (hN : oi.dst = N) (hc : anyB md ops l l' i = true)
    (hQ : ∀ c a w, Q (.panic c) (a.put oi.dst v) w → Q (.panic c) a w) (hy : Yields P ops oi v a) (a' : Act) (ha : a.put N v = a')
    (h : wpAnyLast P md ops Q S ds fuel l' a' w) : wpAnyLast P md ops Q S ds (fuel + 1) l a w := pure_ l' hi hN hc hQ hy ha h
theorem pq_z40 : (∀ (l : List Value) (i : Nat) (v : Value), l.toArray.setIfInBounds i v = (l.set i v).toArray) ∧ (∀ (x v : Value) (xs : List Value), (x :: xs).set 0 v = v :: xs) ∧ (∀ (x v : Value) (xs : List Value) (n : Nat), (x :: xs).set (n + 1) v = x :: xs.set n v) ∧ (∀ n : Int, IntKind.i64.wrap n = Go.RowKit.wrap64 n) ∧ (∀ n : Int, IntKind.i32.wrap n = Go.RowKit.wrap32 n) :=
  ⟨fun l i v => List.setIfInBounds_toArray l i v, fun _ _ _ => rfl, fun _ _ _ _ => rfl, i64_w, i32_w⟩
set_option maxHeartbeats 8000000 in
set_option maxRecDepth 100000 in
theorem spec_CanPlace.calls (k : Nat) (A0_0 : Option Addr) (c0_0 : Nat) (l0_0 : List (S50)) (A0_1 : Option Addr) (c0_1 : Nat) (l0_1 : List (S108)) (a1_0 : Int) (a1_1 : Int) (a1_2 : Int) (a1_3 : Bool) (A2 : Option Addr) (c2 : Nat) (l2 : List Int) (r1 : Int) (r2 : Bool) (w : World) (hr0_0 : Kd.C k50 w A0_0 l0_0.length l0_0) (hc0_0 : l0_0.length ≤ c0_0) (hr0_1 : Kd.C k108 w A0_1 l0_1.length l0_1) (hc0_1 : l0_1.length ≤ c0_1) (hr2 : Kd.C (Kd.int .i64) w A2 l2.length l2) (hc2 : l2.length ≤ c2) (h : spec_CanPlace.f k l0_0 l0_1 a1_0 a1_1 a1_2 a1_3 l2 = some (r1, r2)) :
  Calls Try.prog 40 #[.agg #[.slice A0_0 l0_0.length c0_0, .slice A0_1 l0_1.length c0_1], .agg #[.int .i64 a1_0, .int .i64 a1_1, .int .i64 a1_2, .bool a1_3], .slice A2 l2.length c2] w fun e w' => e = .returned (.tuple #[.int .i64 r1, .bool r2]) ∧ Below w.heap.size w w' := by
 have HA0 := Aside0.mk hr0_0
 have HA1 := Aside0.mk hr0_1
 have HC0 := Aside0.mk hc0_0
 have HC1 := Aside0.mk hc0_1
 have HL := Aside0.mk hr2
 have HD := Aside0.mk hc2
 have hm0 := Kd.C_max hr0_0
 clear hr0_0 hr0_1 hc0_0 hc0_1 hr2 hc2
 unfold spec_CanPlace.f at h
 have HF := Aside0.mk (fun (n : Nat) (h : spec_CanPlace.j0 n l2 true l0_0 l0_1 a1_0 a1_1 a1_2 a1_3 = some (r1, r2)) => (show r1 = 0 ∧ r2 = false from by
  cases n with
  | zero => exact absurd h (by simp [spec_CanPlace.j0])
  | succ n => rw [spec_CanPlace.j0, if_pos rfl] at h; have := (Option.some.inj h).symm; simpa using this))
 obtain ⟨t1, E1, h'⟩ := Option.bind_eq_some_iff.1 h
 clear h
 replace E1 := Aside0.mk E1
 have H := Aside0.mk h'
 clear h'
 go_enter Try.func40, Try.ntmps40
 go_wp2_with fail
 have BA := Aside0.mk (blk_alloc (blk_new w (.cells #[.slice A0_0 l0_0.length c0_0, .slice A0_1 l0_1.length c0_1] 31)) (.cells #[.int .i64 a1_0, .int .i64 a1_1, .int .i64 a1_2, .bool a1_3] 45))
 have BR := Aside0.mk (blk_new (w.alloc (.cells #[.slice A0_0 l0_0.length c0_0, .slice A0_1 l0_1.length c0_1] 31)) (.cells #[.int .i64 a1_0, .int .i64 a1_1, .int .i64 a1_2, .bool a1_3] 45))
 have HB := Aside0.mk (below_alloc (below_alloc (Below.refl w.heap.size w) (.cells #[.slice A0_0 l0_0.length c0_0, .slice A0_1 l0_1.length c0_1] 31)) (.cells #[.int .i64 a1_0, .int .i64 a1_1, .int .i64 a1_2, .bool a1_3] 45))
 have hs : (w.alloc (.cells #[.slice A0_0 l0_0.length c0_0, .slice A0_1 l0_1.length c0_1] 31)).heap.size = w.heap.size + 1 := by unfold World.alloc; exact Array.size_push _
 rw [hs] at BR
 try rw [hs]
 clear hs
 generalize ((w.alloc (.cells #[.slice A0_0 l0_0.length c0_0, .slice A0_1 l0_1.length c0_1] 31)).alloc (.cells #[.int .i64 a1_0, .int .i64 a1_1, .int .i64 a1_2, .bool a1_3] 45)) = w1 at BA BR HB ⊢
 obtain ⟨gt, hgt⟩ : ∃ g, g = w.heap.size := ⟨_, rfl⟩
 obtain ⟨gr, hgr⟩ : ∃ g, g = w.heap.size + 1 := ⟨_, rfl⟩
 rw [← hgr] at BR ⊢
 rw [← hgt] at BA ⊢
 clear hgr hgt
 have hBA0 := (blk_cell BA.out 0).trans rfl
 have hBA1 := (blk_cell BA.out 1).trans rfl
 have hBR0 := (blk_cell BR.out 0).trans rfl
 have hBR1 := (blk_cell BR.out 1).trans rfl
 have hBR2 := (blk_cell BR.out 2).trans rfl
 have hBR3 := (blk_cell BR.out 3).trans rfl
 (with_reducible refine (spec_l06OK.calls k A0_0 c0_0 l0_0 A0_1 c0_1 l0_1 t1 _ (Kd.C_below HA0.out HB.out) HC0.out (Kd.C_below HA1.out HB.out) HC1.out E1.out).mono ?_)
 rintro e w2 ⟨rfl, hb⟩
 clear hBA0 hBA1 hBR0 hBR1 hBR2 hBR3
 replace BA := Aside0.mk (blk_below BA.out hb)
 replace BR := Aside0.mk (blk_below BR.out hb)
 replace HB := Aside0.mk (below_step HB.out hb)
 clear hb
 have hBA0 := (blk_cell BA.out 0).trans rfl
 have hBA1 := (blk_cell BA.out 1).trans rfl
 have hBR0 := (blk_cell BR.out 0).trans rfl
 have hBR1 := (blk_cell BR.out 1).trans rfl
 have hBR2 := (blk_cell BR.out 2).trans rfl
 have hBR3 := (blk_cell BR.out 3).trans rfl
 cases t1 with
 | false =>
  obtain ⟨rfl, rfl⟩ := HF.out _ (by have := H.out; first | exact this | (rw [if_neg (by decide)] at this; exact this))
  go_wp2_with fail
  go_ret2
  exact ⟨rfl, HB.out⟩
 | true =>
 have h := H.out
 rw [if_pos rfl] at h
 clear H
 obtain ⟨t2, E2, h'⟩ := Option.bind_eq_some_iff.1 h
 clear h
 replace E2 := Aside0.mk E2
 have H := Aside0.mk h'
 clear h'
 go_wp2_with fail
 (with_reducible refine (spec_l08OK.calls k A0_0 c0_0 l0_0 A0_1 c0_1 l0_1 a1_0 a1_1 a1_2 a1_3 t2 _ (Kd.C_below HA0.out HB.out) HC0.out (Kd.C_below HA1.out HB.out) HC1.out E2.out).mono ?_)
 rintro e w3 ⟨rfl, hb⟩
 clear hBA0 hBA1 hBR0 hBR1 hBR2 hBR3
 replace BA := Aside0.mk (blk_below BA.out hb)
 replace BR := Aside0.mk (blk_below BR.out hb)
 replace HB := Aside0.mk (below_step HB.out hb)
 clear hb
 have hBA0 := (blk_cell BA.out 0).trans rfl
 have hBA1 := (blk_cell BA.out 1).trans rfl
 have hBR0 := (blk_cell BR.out 0).trans rfl
 have hBR1 := (blk_cell BR.out 1).trans rfl
 have hBR2 := (blk_cell BR.out 2).trans rfl
 have hBR3 := (blk_cell BR.out 3).trans rfl
 cases t2 with
 | false =>
  obtain ⟨rfl, rfl⟩ := HF.out _ (by have := H.out; first | exact this | (rw [if_neg (by decide)] at this; exact this))
  go_wp2_with fail
  go_ret2
  exact ⟨rfl, HB.out⟩
 | true =>
 have h := H.out
 rw [if_pos rfl] at h
 clear H
 obtain ⟨t3, E3, h'⟩ := Option.bind_eq_some_iff.1 h
 clear h
 replace E3 := Aside0.mk E3
 have H := Aside0.mk h'
 clear h'
 go_wp2_with fail
 (with_reducible refine (spec_l00Rises.calls k A2 c2 l2 0 15 t3 _ (Kd.C_below HL.out HB.out) HD.out E3.out).mono ?_)
 rintro e w4 ⟨rfl, hd⟩
 have hb := hd.below
 clear hd
 clear hBA0 hBA1 hBR0 hBR1 hBR2 hBR3
 replace BA := Aside0.mk (blk_below BA.out hb)
 replace BR := Aside0.mk (blk_below BR.out hb)
 replace HB := Aside0.mk (below_step HB.out hb)
 clear hb
 have hBA0 := (blk_cell BA.out 0).trans rfl
 have hBA1 := (blk_cell BA.out 1).trans rfl
 have hBR0 := (blk_cell BR.out 0).trans rfl
 have hBR1 := (blk_cell BR.out 1).trans rfl
 have hBR2 := (blk_cell BR.out 2).trans rfl
 have hBR3 := (blk_cell BR.out 3).trans rfl
 cases t3 with
 | false =>
  obtain ⟨rfl, rfl⟩ := HF.out _ (by have := H.out; first | exact this | (rw [if_neg (by decide)] at this; exact this))
  go_wp2_with fail
  go_ret2
  exact ⟨rfl, HB.out⟩
 | true =>
 obtain ⟨k1, S, E4, E5⟩ : ∃ k1 S, Aside0 (spec_l06Under.f k1 l0_0 l0_1 a1_1 = some S) ∧ Aside0 (spec_CanPlace.l0 k1 l2 [] S 0 l0_0 l0_1 a1_0 a1_1 a1_2 a1_3 = some (r1, r2)) := by
  have h := H.out
  cases k with
  | zero => exact absurd h (by simp [spec_CanPlace.j0])
  | succ k1 =>
   rw [spec_CanPlace.j0, if_neg (by decide)] at h
   obtain ⟨S, h1, h2⟩ := Option.bind_eq_some_iff.1 h
   exact ⟨k1, S, ⟨h1⟩, ⟨h2⟩⟩
 clear H E1 E2 E3 HF
 go_wp2_with (first | ((with_reducible refine gate_dst (N := 26) rfl ?_); refine Kd.R_lit (Kd.int .i64) _ 2 ?hg (N := 26) ?hd (xs := ([] : List Int)) (inner := []) (ok := fun _ => True) (okp := fun _ => True) ?hr ?hp (fun _ hk => hk) trivial (Below.refl _ _) (Nat.le_refl _) (by simp) ?_; (case hd => rfl); (case hg => rfl); (case hr => first | (go_simp; done) | (go_simp; rfl)); (case hp => exact (Reps.none _ _)); intro v8 w5 ho hb hg_ hnew_; clear hg_ hnew_; clear hBA0; clear hBA1; clear hBR0; clear hBR1; clear hBR2; clear hBR3; have HO8 := Aside0.mk (Kd.R_lower ho (below_size HB.out)); clear ho; replace BA := Aside0.mk (blk_below BA.out hb); replace BR := Aside0.mk (blk_below BR.out hb); replace HB := Aside0.mk (below_step HB.out hb); clear hb; have hBA0 := (blk_cell BA.out 0).trans rfl; have hBA1 := (blk_cell BA.out 1).trans rfl; have hBR0 := (blk_cell BR.out 0).trans rfl; have hBR1 := (blk_cell BR.out 1).trans rfl; have hBR2 := (blk_cell BR.out 2).trans rfl; have hBR3 := (blk_cell BR.out 3).trans rfl))
 have HZ := Aside0.mk (below_size HB.out)
 have hs5 : ∀ j, v8.ownBlock = some j → j < w5.heap.size := Kd.R_lt HO8.out
 have HO8b := HO8
 (with_reducible refine (spec_l06Under.calls k1 A0_0 c0_0 l0_0 A0_1 c0_1 l0_1 a1_1 S _ (Kd.C_below HA0.out HB.out) HC0.out (Kd.C_below HA1.out HB.out) HC1.out E4.out).mono ?_)
 rintro e w6 ⟨v9, rfl, ho9, hb⟩
 have HBc := Aside0.mk hb
 clear hBA0 hBA1 hBR0 hBR1 hBR2 hBR3
 replace BA := Aside0.mk (blk_below BA.out hb)
 replace BR := Aside0.mk (blk_below BR.out hb)
 replace HB := Aside0.mk (below_step HB.out hb)
 replace HO8 := Aside0.mk (Kd.R_below HO8.out hb)
 clear hb
 clear E4
 obtain ⟨Av, cv, rfl, hlv, hCv⟩ := Kd.R_reads ho9
 have HO9 := Aside0.mk (Kd.R_new' ho9 hs5)
 replace HO8 := Aside0.mk (Kd.R_elder' HO8b.out (fun j hj => Kd.R_base ho9 j hj) HBc.out)
 have hm9 := Kd.C_max hCv
 clear hlv hCv ho9 hs5 HO8b HBc
 have hBA0 := (blk_cell BA.out 0).trans rfl
 have hBA1 := (blk_cell BA.out 1).trans rfl
 have hBR0 := (blk_cell BR.out 0).trans rfl
 have hBR1 := (blk_cell BR.out 1).trans rfl
 have hBR2 := (blk_cell BR.out 2).trans rfl
 have hBR3 := (blk_cell BR.out 3).trans rfl
 go_wp2_with fail
 clear hBA0 hBA1 hBR0 hBR1 hBR2 hBR3
 go_loopg [8, 10] k1 (fun gg v8 v10 wr => ∃ (xs : List Int) (i : Int), v10 = .int .i64 i ∧ Aside0 (spec_CanPlace.l0 gg l2 xs S i l0_0 l0_1 a1_0 a1_1 a1_2 a1_3 = some (r1, r2)) ∧ Aside0 (Kd.R (Kd.int .i64) 2 wr w.heap.size (fun j => some j ≠ (Value.slice Av S.length cv).ownBlock) v8 xs) ∧ Aside0 (Kd.R (Kd.int .i64) 2 wr w.heap.size (fun j => some j ≠ v8.ownBlock) (Value.slice Av S.length cv) S) ∧ Aside0 (wr.heap[gt]? = some (.cells #[.slice A0_0 l0_0.length c0_0, .slice A0_1 l0_1.length c0_1] 31 (0, 0))) ∧ Aside0 (wr.heap[gr]? = some (.cells #[.int .i64 a1_0, .int .i64 a1_1, .int .i64 a1_2, .bool a1_3] 45 (0, 0))) ∧ Aside0 (Below w.heap.size w wr))
 case atStart => exact ⟨[], 0, rfl, E5, ⟨Kd.R_mono HO8.out (fun _ hk => hk.2)⟩, ⟨Kd.R_lower (Kd.R_mono HO9.out (fun _ hk => hk.2)) HZ.out⟩, BA, BR, HB⟩
 case round =>
  clear E5 HO8 HO9 BA BR HB HZ
  obtain ⟨xs, i, rfl, E5, HO8, HO9, BA, BR, HB⟩ := hrel
  cases gk with
  | zero => exact absurd E5.out (by simp [spec_CanPlace.l0])
  | succ k2 =>
  have H := E5.out
  clear E5
  simp only [spec_CanPlace.l0] at H
  obtain ⟨Aq, cq, rfl, hlq, hCq⟩ := Kd.R_reads HO8.out
  have hmq := Kd.C_max hCq
  have HCQ := Aside0.mk hCq
  have HLQ := Aside0.mk hlq
  clear hCq hlq
  have hBA0 := (blk_cell BA.out 0).trans rfl
  have hBA1 := (blk_cell BA.out 1).trans rfl
  have hBR0 := (blk_cell BR.out 0).trans rfl
  have hBR1 := (blk_cell BR.out 1).trans rfl
  have hBR2 := (blk_cell BR.out 2).trans rfl
  have hBR3 := (blk_cell BR.out 3).trans rfl
  by_cases c : i < (S.length : Int)
  case neg =>
   rw [if_neg c] at H
   obtain ⟨rfl, rfl⟩ := (show r1 = (xs.length : Int) ∧ r2 = true from by have := (Option.some.inj H).symm; simpa using this)
   have cb := decide_eq_false c
   clear H c
   go_wp2_with fail
   go_ret2
   exact ⟨rfl, HB.out⟩
  rw [if_pos c] at H
  by_cases c0 : 0 ≤ i
  case neg => rw [if_neg c0] at H; cases H
  rw [if_pos c0] at H
  obtain ⟨d, E8, H1⟩ := Option.bind_eq_some_iff.1 H
  clear H
  obtain ⟨j, E9, H⟩ := Option.bind_eq_some_iff.1 H1
  clear H1
  by_cases j0 : 0 ≤ j
  case neg => rw [if_neg j0] at H; cases H
  by_cases j1 : j < (l0_0.length : Int)
  case neg => rw [if_pos j0, if_neg j1] at H; cases H
  rw [if_pos j0, if_pos j1] at H
  replace E8 := Aside0.mk E8
  replace E9 := Aside0.mk E9
  obtain ⟨ae, rfl, hy0⟩ := Kd.at_int (Kd.R_reads' HO9.out).2.2 i c0 c
  obtain ⟨ad, rfl, hx0, hx1⟩ := at_T50 HA0.out j j0 j1
  replace hx1 := (HB.out.cell (World.block_lt_of_cell? w _ hx1)).trans hx1
  clear hx0
  have q0 := eq_true c0
  have q1 := eq_true c
  have q2 := eq_true j0
  have q3 := eq_true j1
  rw [show wrap64 (i + 1) = i + 1 from by unfold wrap64; omega] at H
  generalize hx : rd S i = x at hy0 E8 E9 H
  clear hx
  generalize hwt : (rd_T50 l0_0 j).f1 = wt at hx1 H
  clear hwt
  replace H := Aside0.mk H
  go_wp2_with fail
  have HK := Aside0.mk (show ∀ w', Below wr.heap.size wr w' → (fun w' => w'.cell? ⟨gt, 0, none⟩ = some (.slice (some ad) l0_0.length c0_0) ∧ w'.cell? ⟨gt, 1, none⟩ = some (.slice A0_1 l0_1.length c0_1) ∧ w'.cell? ⟨gr, 2, none⟩ = some (.int .i64 a1_2) ∧ w'.cell? (ae.add i.toNat) = some (.int .i64 x) ∧ w'.cell? ⟨(ad.add (j.toNat * 2)).block, (ad.add (j.toNat * 2)).off + 1, none⟩ = some (.int .i64 wt) ∧ Below wr.heap.size wr w') w' from fun w' h => ⟨(h.cell (World.block_lt_of_cell? _ _ hBA0)).trans hBA0, (h.cell (World.block_lt_of_cell? _ _ hBA1)).trans hBA1, (h.cell (World.block_lt_of_cell? _ _ hBR2)).trans hBR2, (h.cell (World.block_lt_of_cell? _ _ hy0)).trans hy0, (h.cell (World.block_lt_of_cell? _ _ hx1)).trans hx1, h⟩)
  go_region_held3 (fun w' => w'.cell? ⟨gt, 0, none⟩ = some (.slice (some ad) l0_0.length c0_0) ∧ w'.cell? ⟨gt, 1, none⟩ = some (.slice A0_1 l0_1.length c0_1) ∧ w'.cell? ⟨gr, 2, none⟩ = some (.int .i64 a1_2) ∧ w'.cell? (ae.add i.toNat) = some (.int .i64 x) ∧ w'.cell? ⟨(ad.add (j.toNat * 2)).block, (ad.add (j.toNat * 2)).off + 1, none⟩ = some (.int .i64 wt) ∧ Below wr.heap.size wr w') (first | exact HK.out _ hbb | exact HK.out _ (below_drew1 (Below.refl _ _)) | exact HK.out _ (Below.refl _ _)) (first | (go_at_call 81; go_split_ands; (with_reducible refine (spec_l08Domain.calls k2 (some ad) c0_0 l0_0 A0_1 c0_1 l0_1 a1_2 x d _ (Kd.C_below HA0.out (below_step HB.out (show Below wr.heap.size wr _ by assumption))) HC0.out (Kd.C_below HA1.out (below_step HB.out (show Below wr.heap.size wr _ by assumption))) HC1.out E8.out).mono ?_); rintro e w8 ⟨rfl, hb⟩; have hbb : Below wr.heap.size wr _ := below_step (by assumption) hb))
  have hb := hbb
  clear hBA0 hBA1 hBR0 hBR1 hBR2 hBR3
  replace BA := Aside0.mk (blk_below BA.out hb)
  replace BR := Aside0.mk (blk_below BR.out hb)
  replace HB := Aside0.mk (below_step HB.out hb)
  replace HO8 := Aside0.mk (Kd.R_below HO8.out hb)
  replace HO9 := Aside0.mk (Kd.R_below HO9.out hb)
  replace HCQ := Aside0.mk (Kd.C_below HCQ.out hb)
  have HY := Aside0.mk ((hb.cell (World.block_lt_of_cell? _ _ hy0)).trans hy0)
  have HX := Aside0.mk ((hb.cell (World.block_lt_of_cell? _ _ hx1)).trans hx1)
  clear hy0 hx1 HK hb hbb
  go_wp2_with fail
  have hBA0 := (blk_cell BA.out 0).trans rfl
  have hBA1 := (blk_cell BA.out 1).trans rfl
  have hBR0 := (blk_cell BR.out 0).trans rfl
  have hBR1 := (blk_cell BR.out 1).trans rfl
  have hBR2 := (blk_cell BR.out 2).trans rfl
  have hBR3 := (blk_cell BR.out 3).trans rfl
  have hy0 := HY.out
  have hx1 := HX.out
  clear HY HX
  by_cases z : wt > 0
  case neg =>
   have g := H.out
   clear H
   rw [if_neg z] at g
   have H := Aside0.mk g
   clear g
   have zb := decide_eq_false (show ¬ 0 < wt from z)
   clear z
   refine start_ (n := 36) (S := fun w' => w'.cell? ⟨gt, 0, none⟩ = some (.slice (some ad) l0_0.length c0_0) ∧ w'.cell? ⟨gt, 1, none⟩ = some (.slice A0_1 l0_1.length c0_1) ∧ w'.cell? ⟨gr, 2, none⟩ = some (.int .i64 a1_2) ∧ w'.cell? (ae.add i.toNat) = some (.int .i64 x) ∧ w'.cell? ⟨(ad.add (j.toNat * 2)).block, (ad.add (j.toNat * 2)).off + 1, none⟩ = some (.int .i64 wt) ∧ Below w8.heap.size w8 w') (ds := []) mz40_0 (by kernel_rfl) rfl rfl ⟨hBA0, hBA1, hBR2, hy0, hx1, below_drew1 (Below.refl _ _)⟩ (fun hHeld => ?_)
   refine pu_z40 0 (some 45) ?_ mz40_1 rfl rfl (by kernel_rfl) (fun _ _ _ h => h) (Or.inl ⟨by rfl, ?_⟩) ?_ ?_ ?_
   (rotate_left; ·(intro w'; go_simp; with_reducible rfl)); (rotate_left; ·(simp only [Act.put, pq_z40]; rfl))
   refine pu_z40 3 (some 48) ?_ mz40_2 rfl rfl (by kernel_rfl) (fun _ _ _ h => h) (Or.inl ⟨by rfl, ?_⟩) ?_ ?_ ?_
   (rotate_left; ·(intro w'; go_simp; with_reducible rfl)); (rotate_left; ·(simp only [Act.put, pq_z40]; rfl))
   refine pu_z40 4 (some 49) ?_ mz40_3 rfl rfl (by kernel_rfl) (fun _ _ _ h => h) (Or.inl ⟨by rfl, ?_⟩) ?_ ?_ ?_
   (rotate_left; ·(intro w'; go_simp; with_reducible rfl)); (rotate_left; ·(simp only [Act.put, pq_z40]; rfl))
   refine pu_z40 5 (some 50) ?_ mz40_4 rfl rfl (by kernel_rfl) (fun _ _ _ h => h) (Or.inl ⟨by rfl, ?_⟩) ?_ ?_ ?_
   (rotate_left; ·(intro w'; go_simp; with_reducible rfl)); (rotate_left; ·(simp only [Act.put, pq_z40]; rfl))
   refine take_ (i := 1) (N := some 46) (v := ?_) (a' := ?_) mz40_5 rfl rfl (by kernel_rfl) (fun _ _ _ h => h) (Or.inl ⟨by rfl, ?_⟩) hHeld ?_ ?_
   (rotate_left; ·(rintro w' ⟨s0, s1, s2, s3, s4, s5⟩; go_simp; with_reducible rfl)); (rotate_left; ·(simp only [Act.put, pq_z40]; rfl))
   refine take_ (i := 2) (N := some 47) (v := ?_) (a' := ?_) mz40_6 rfl rfl (by kernel_rfl) (fun _ _ _ h => h) (Or.inl ⟨by rfl, ?_⟩) hHeld ?_ ?_
   (rotate_left; ·(rintro w' ⟨s0, s1, s2, s3, s4, s5⟩; go_simp; with_reducible rfl)); (rotate_left; ·(simp only [Act.put, pq_z40]; rfl))
   refine take_ (i := 6) (N := some 51) (v := ?_) (a' := ?_) mz40_7 rfl rfl (by kernel_rfl) (fun _ _ _ h => h) (Or.inl ⟨by rfl, ?_⟩) hHeld ?_ ?_
   (rotate_left; ·(rintro w' ⟨s0, s1, s2, s3, s4, s5⟩; go_simp; with_reducible rfl)); (rotate_left; ·(simp only [Act.put, pq_z40]; rfl))
   refine one_ (i := 7) (N := some 52) mz40_8 rfl rfl (by kernel_rfl) (by decide) (fun K hK => ?_)
   obtain ⟨t0, t1, t2, t3, t4, t5⟩ := hHeld
   refine goes_ Try.func82 (by kernel_rfl) rfl #[.agg #[.slice (some ad) l0_0.length c0_0, .slice A0_1 l0_1.length c0_1], .int .i64 x] (by rfl) rfl rfl (by simp only [List.map_toArray, List.map_cons, List.map_nil]; rfl) ?_
   with_reducible refine (spec_l06Device.calls k2 (some ad) c0_0 l0_0 A0_1 c0_1 l0_1 x j _ (Kd.C_below HA0.out (below_step HB.out t5)) HC0.out (Kd.C_below HA1.out (below_step HB.out t5)) HC1.out E9.out).mono ?_
   rintro e w9 ⟨rfl, hb⟩
   refine ⟨_, rfl, ?_⟩
   have u0 := (hb.cell (World.block_lt_of_cell? _ _ t0)).trans t0
   have u1 := (hb.cell (World.block_lt_of_cell? _ _ t1)).trans t1
   have u2 := (hb.cell (World.block_lt_of_cell? _ _ t2)).trans t2
   have u3 := (hb.cell (World.block_lt_of_cell? _ _ t3)).trans t3
   have u4 := (hb.cell (World.block_lt_of_cell? _ _ t4)).trans t4
   have u5 := below_step t5 hb
   clear t0 t1 t2 t3 t4 t5 hb
   refine hK.out _ _ ⟨u0, u1, u2, u3, u4, u5⟩ (fun hHeld => ?_)
   clear hK K
   refine norm_ (a' := ?_) ?_ ?_
   (rotate_left; ·(show Act.put _ (some 52) _ = _; simp only [Act.put, pq_z40]; rfl))
   refine pu_z40 8 (some 53) ?_ mz40_9 rfl rfl (by kernel_rfl) (fun _ _ _ h => h) (Or.inl ⟨by rfl, ?_⟩) ?_ ?_ ?_
   (rotate_left; ·(intro w'; go_simp; with_reducible rfl)); (rotate_left; ·(simp only [Act.put, pq_z40]; rfl))
   refine pu_z40 9 (some 54) ?_ mz40_10 rfl rfl (by kernel_rfl) (fun _ _ _ h => h) (Or.inl ⟨by rfl, ?_⟩) ?_ ?_ ?_
   (rotate_left; ·(intro w'; go_simp; with_reducible rfl)); (rotate_left; ·(simp only [Act.put, pq_z40]; rfl))
   refine take_ (i := 10) (N := some 55) (v := ?_) (a' := ?_) mz40_11 rfl rfl (by kernel_rfl) (fun _ _ _ h => h) (Or.inl ⟨by rfl, ?_⟩) hHeld ?_ ?_
   (rotate_left; ·(rintro w' ⟨s0, s1, s2, s3, s4, s5⟩; go_simp; with_reducible rfl)); (rotate_left; ·(simp only [Act.put, pq_z40]; rfl))
   refine pu_z40 11 (some 56) ?_ mz40_12 rfl rfl (by kernel_rfl) (fun _ _ _ h => h) (Or.inl ⟨by rfl, ?_⟩) ?_ ?_ ?_
   (rotate_left; ·(intro w'; go_simp; with_reducible rfl)); (rotate_left; ·(simp only [Act.put, pq_z40]; rfl))
   refine pu_z40 12 (some 57) ?_ mz40_13 rfl rfl (by kernel_rfl) (fun _ _ _ h => h) (Or.inl ⟨by rfl, ?_⟩) ?_ ?_ ?_
   (rotate_left; ·(intro w'; go_simp; with_reducible rfl)); (rotate_left; ·(simp only [Act.put, pq_z40]; rfl))
   refine pu_z40 13 (some 58) undef mz40_14 rfl rfl (by kernel_rfl) (fun _ _ _ h => h) (Or.inr ⟨by rfl, rfl⟩) ?_ ?_ ?_
   (rotate_left; ·(simp only [Act.put, pq_z40]; rfl))
   refine pu_z40 14 (some 59) undef mz40_15 rfl rfl (by kernel_rfl) (fun _ _ _ h => h) (Or.inr ⟨by rfl, rfl⟩) ?_ ?_ ?_
   (rotate_left; ·(simp only [Act.put, pq_z40]; rfl))
   refine pu_z40 15 (some 60) undef mz40_16 rfl rfl (by kernel_rfl) (fun _ _ _ h => h) (Or.inr ⟨by rfl, rfl⟩) ?_ ?_ ?_
   (rotate_left; ·(simp only [Act.put, pq_z40]; rfl))
   refine pu_z40 16 (some 61) undef mz40_17 rfl rfl (by kernel_rfl) (fun _ _ _ h => h) (Or.inr ⟨by rfl, rfl⟩) ?_ ?_ ?_
   (rotate_left; ·(simp only [Act.put, pq_z40]; rfl))
   refine pu_z40 17 (some 62) undef mz40_18 rfl rfl (by kernel_rfl) (fun _ _ _ h => h) (Or.inr ⟨by rfl, rfl⟩) ?_ ?_ ?_
   (rotate_left; ·(simp only [Act.put, pq_z40]; rfl))
   refine pu_z40 18 (some 63) undef mz40_19 rfl rfl (by kernel_rfl) (fun _ _ _ h => h) (Or.inr ⟨by rfl, rfl⟩) ?_ ?_ ?_
   (rotate_left; ·(simp only [Act.put, pq_z40]; rfl))
   refine pu_z40 19 (some 64) undef mz40_20 rfl rfl (by kernel_rfl) (fun _ _ _ h => h) (Or.inr ⟨by rfl, rfl⟩) ?_ ?_ ?_
   (rotate_left; ·(simp only [Act.put, pq_z40]; rfl))
   refine pu_z40 20 (some 65) ?_ mz40_21 rfl rfl (by kernel_rfl) (fun _ _ _ h => h) (Or.inl ⟨by rfl, ?_⟩) ?_ ?_ ?_
   (rotate_left; ·(intro w'; go_simp; with_reducible rfl)); (rotate_left; ·(simp only [Act.put, pq_z40]; rfl))
   refine pu_z40 21 (some 66) ?_ mz40_22 rfl rfl (by kernel_rfl) (fun _ _ _ h => h) (Or.inl ⟨by rfl, ?_⟩) ?_ ?_ ?_
   (rotate_left; ·(intro w'; go_simp; with_reducible rfl)); (rotate_left; ·(simp only [Act.put, pq_z40]; rfl))
   refine pu_z40 22 (some 67) undef mz40_23 rfl rfl (by kernel_rfl) (fun _ _ _ h => h) (Or.inr ⟨by rfl, rfl⟩) ?_ ?_ ?_
   (rotate_left; ·(simp only [Act.put, pq_z40]; rfl))
   refine pu_z40 23 (some 68) undef mz40_24 rfl rfl (by kernel_rfl) (fun _ _ _ h => h) (Or.inr ⟨by rfl, rfl⟩) ?_ ?_ ?_
   (rotate_left; ·(simp only [Act.put, pq_z40]; rfl))
   refine pu_z40 24 (some 69) undef mz40_25 rfl rfl (by kernel_rfl) (fun _ _ _ h => h) (Or.inr ⟨by rfl, rfl⟩) ?_ ?_ ?_
   (rotate_left; ·(simp only [Act.put, pq_z40]; rfl))
   refine pu_z40 25 (some 70) undef mz40_26 rfl rfl (by kernel_rfl) (fun _ _ _ h => h) (Or.inr ⟨by rfl, rfl⟩) ?_ ?_ ?_
   (rotate_left; ·(simp only [Act.put, pq_z40]; rfl))
   refine pu_z40 26 (some 71) undef mz40_27 rfl rfl (by kernel_rfl) (fun _ _ _ h => h) (Or.inr ⟨by rfl, rfl⟩) ?_ ?_ ?_
   (rotate_left; ·(simp only [Act.put, pq_z40]; rfl))
   refine pu_z40 27 (some 72) undef mz40_28 rfl rfl (by kernel_rfl) (fun _ _ _ h => h) (Or.inr ⟨by rfl, rfl⟩) ?_ ?_ ?_
   (rotate_left; ·(simp only [Act.put, pq_z40]; rfl))
   refine pu_z40 28 (some 73) undef mz40_29 rfl rfl (by kernel_rfl) (fun _ _ _ h => h) (Or.inr ⟨by rfl, rfl⟩) ?_ ?_ ?_
   (rotate_left; ·(simp only [Act.put, pq_z40]; rfl))
   refine pu_z40 29 (some 74) ?_ mz40_30 rfl rfl (by kernel_rfl) (fun _ _ _ h => h) (Or.inl ⟨by rfl, ?_⟩) ?_ ?_ ?_
   (rotate_left; ·(intro w'; go_simp; with_reducible rfl)); (rotate_left; ·(simp only [Act.put, pq_z40]; rfl))
   refine pu_z40 30 (some 75) ?_ mz40_31 rfl rfl (by kernel_rfl) (fun _ _ _ h => h) (Or.inl ⟨by rfl, ?_⟩) ?_ ?_ ?_
   (rotate_left; ·(intro w'; go_simp; with_reducible rfl)); (rotate_left; ·(simp only [Act.put, pq_z40]; rfl))
   refine pu_z40 31 (some 76) undef mz40_32 rfl rfl (by kernel_rfl) (fun _ _ _ h => h) (Or.inr ⟨by rfl, rfl⟩) ?_ ?_ ?_
   (rotate_left; ·(simp only [Act.put, pq_z40]; rfl))
   refine pu_z40 32 (some 77) undef mz40_33 rfl rfl (by kernel_rfl) (fun _ _ _ h => h) (Or.inr ⟨by rfl, rfl⟩) ?_ ?_ ?_
   (rotate_left; ·(simp only [Act.put, pq_z40]; rfl))
   refine pu_z40 33 (some 78) undef mz40_34 rfl rfl (by kernel_rfl) (fun _ _ _ h => h) (Or.inr ⟨by rfl, rfl⟩) ?_ ?_ ?_
   (rotate_left; ·(simp only [Act.put, pq_z40]; rfl))
   refine pu_z40 34 (some 79) undef mz40_35 rfl rfl (by kernel_rfl) (fun _ _ _ h => h) (Or.inr ⟨by rfl, rfl⟩) ?_ ?_ ?_
   (rotate_left; ·(simp only [Act.put, pq_z40]; rfl))
   refine pu_z40 35 (some 80) ?_ mz40_36 rfl rfl (by kernel_rfl) (fun _ _ _ h => h) (Or.inl ⟨by rfl, ?_⟩) ?_ ?_ ?_
   (rotate_left; ·(intro w'; go_simp; with_reducible rfl)); (rotate_left; ·(simp only [Act.put, pq_z40]; rfl))
   refine done_ (by kernel_rfl) ?_
   obtain ⟨t0, t1, t2, t3, t4, t5⟩ := hHeld
   have hb := t5
   clear t0 t1 t2 t3 t4 t5
   clear hBA0 hBA1 hBR0 hBR1 hBR2 hBR3
   replace BA := Aside0.mk (blk_below BA.out hb)
   replace BR := Aside0.mk (blk_below BR.out hb)
   replace HB := Aside0.mk (below_step HB.out hb)
   replace HO8 := Aside0.mk (Kd.R_below HO8.out hb)
   replace HO9 := Aside0.mk (Kd.R_below HO9.out hb)
   clear hb hy0 hx1
   go_wp2_with fail
   go_roundg k2
   case measure => omega
   case rel => exact ⟨xs, i + 1, rfl, H, HO8, HO9, BA, BR, HB⟩
  have g := H.out
  clear H
  rw [if_pos z] at g
  have H := Aside0.mk g
  clear g
  have zb := decide_eq_true (show 0 < wt from z)
  clear z
  have h := H.out
  clear H
  obtain ⟨h1, E10, h'⟩ := Option.bind_eq_some_iff.1 h
  clear h
  replace E10 := Aside0.mk E10
  have H := Aside0.mk h'
  clear h'
  cases h1 with
  | true =>
   have g := H.out
   clear H
   rw [if_pos rfl] at g
   have H := Aside0.mk g
   clear g
   refine start_ (n := 36) (S := fun w' => w'.cell? ⟨gt, 0, none⟩ = some (.slice (some ad) l0_0.length c0_0) ∧ w'.cell? ⟨gt, 1, none⟩ = some (.slice A0_1 l0_1.length c0_1) ∧ w'.cell? ⟨gr, 2, none⟩ = some (.int .i64 a1_2) ∧ w'.cell? (ae.add i.toNat) = some (.int .i64 x) ∧ w'.cell? ⟨(ad.add (j.toNat * 2)).block, (ad.add (j.toNat * 2)).off + 1, none⟩ = some (.int .i64 wt) ∧ Below w8.heap.size w8 w') (ds := []) mz40_0 (by kernel_rfl) rfl rfl ⟨hBA0, hBA1, hBR2, hy0, hx1, below_drew1 (Below.refl _ _)⟩ (fun hHeld => ?_)
   refine pu_z40 0 (some 45) ?_ mz40_1 rfl rfl (by kernel_rfl) (fun _ _ _ h => h) (Or.inl ⟨by rfl, ?_⟩) ?_ ?_ ?_
   (rotate_left; ·(intro w'; go_simp; with_reducible rfl)); (rotate_left; ·(simp only [Act.put, pq_z40]; rfl))
   refine pu_z40 3 (some 48) ?_ mz40_2 rfl rfl (by kernel_rfl) (fun _ _ _ h => h) (Or.inl ⟨by rfl, ?_⟩) ?_ ?_ ?_
   (rotate_left; ·(intro w'; go_simp; with_reducible rfl)); (rotate_left; ·(simp only [Act.put, pq_z40]; rfl))
   refine pu_z40 4 (some 49) ?_ mz40_3 rfl rfl (by kernel_rfl) (fun _ _ _ h => h) (Or.inl ⟨by rfl, ?_⟩) ?_ ?_ ?_
   (rotate_left; ·(intro w'; go_simp; with_reducible rfl)); (rotate_left; ·(simp only [Act.put, pq_z40]; rfl))
   refine pu_z40 5 (some 50) ?_ mz40_4 rfl rfl (by kernel_rfl) (fun _ _ _ h => h) (Or.inl ⟨by rfl, ?_⟩) ?_ ?_ ?_
   (rotate_left; ·(intro w'; go_simp; with_reducible rfl)); (rotate_left; ·(simp only [Act.put, pq_z40]; rfl))
   refine take_ (i := 1) (N := some 46) (v := ?_) (a' := ?_) mz40_5 rfl rfl (by kernel_rfl) (fun _ _ _ h => h) (Or.inl ⟨by rfl, ?_⟩) hHeld ?_ ?_
   (rotate_left; ·(rintro w' ⟨s0, s1, s2, s3, s4, s5⟩; go_simp; with_reducible rfl)); (rotate_left; ·(simp only [Act.put, pq_z40]; rfl))
   refine take_ (i := 2) (N := some 47) (v := ?_) (a' := ?_) mz40_6 rfl rfl (by kernel_rfl) (fun _ _ _ h => h) (Or.inl ⟨by rfl, ?_⟩) hHeld ?_ ?_
   (rotate_left; ·(rintro w' ⟨s0, s1, s2, s3, s4, s5⟩; go_simp; with_reducible rfl)); (rotate_left; ·(simp only [Act.put, pq_z40]; rfl))
   refine take_ (i := 6) (N := some 51) (v := ?_) (a' := ?_) mz40_7 rfl rfl (by kernel_rfl) (fun _ _ _ h => h) (Or.inl ⟨by rfl, ?_⟩) hHeld ?_ ?_
   (rotate_left; ·(rintro w' ⟨s0, s1, s2, s3, s4, s5⟩; go_simp; with_reducible rfl)); (rotate_left; ·(simp only [Act.put, pq_z40]; rfl))
   refine one_ (i := 7) (N := some 52) mz40_8 rfl rfl (by kernel_rfl) (by decide) (fun K hK => ?_)
   obtain ⟨t0, t1, t2, t3, t4, t5⟩ := hHeld
   refine goes_ Try.func82 (by kernel_rfl) rfl #[.agg #[.slice (some ad) l0_0.length c0_0, .slice A0_1 l0_1.length c0_1], .int .i64 x] (by rfl) rfl rfl (by simp only [List.map_toArray, List.map_cons, List.map_nil]; rfl) ?_
   with_reducible refine (spec_l06Device.calls k2 (some ad) c0_0 l0_0 A0_1 c0_1 l0_1 x j _ (Kd.C_below HA0.out (below_step HB.out t5)) HC0.out (Kd.C_below HA1.out (below_step HB.out t5)) HC1.out E9.out).mono ?_
   rintro e w9 ⟨rfl, hb⟩
   refine ⟨_, rfl, ?_⟩
   have u0 := (hb.cell (World.block_lt_of_cell? _ _ t0)).trans t0
   have u1 := (hb.cell (World.block_lt_of_cell? _ _ t1)).trans t1
   have u2 := (hb.cell (World.block_lt_of_cell? _ _ t2)).trans t2
   have u3 := (hb.cell (World.block_lt_of_cell? _ _ t3)).trans t3
   have u4 := (hb.cell (World.block_lt_of_cell? _ _ t4)).trans t4
   have u5 := below_step t5 hb
   clear t0 t1 t2 t3 t4 t5 hb
   refine hK.out _ _ ⟨u0, u1, u2, u3, u4, u5⟩ (fun hHeld => ?_)
   clear hK K
   refine norm_ (a' := ?_) ?_ ?_
   (rotate_left; ·(show Act.put _ (some 52) _ = _; simp only [Act.put, pq_z40]; rfl))
   refine pu_z40 8 (some 53) ?_ mz40_9 rfl rfl (by kernel_rfl) (fun _ _ _ h => h) (Or.inl ⟨by rfl, ?_⟩) ?_ ?_ ?_
   (rotate_left; ·(intro w'; go_simp; with_reducible rfl)); (rotate_left; ·(simp only [Act.put, pq_z40]; rfl))
   refine pu_z40 9 (some 54) ?_ mz40_10 rfl rfl (by kernel_rfl) (fun _ _ _ h => h) (Or.inl ⟨by rfl, ?_⟩) ?_ ?_ ?_
   (rotate_left; ·(intro w'; go_simp; with_reducible rfl)); (rotate_left; ·(simp only [Act.put, pq_z40]; rfl))
   refine take_ (i := 10) (N := some 55) (v := ?_) (a' := ?_) mz40_11 rfl rfl (by kernel_rfl) (fun _ _ _ h => h) (Or.inl ⟨by rfl, ?_⟩) hHeld ?_ ?_
   (rotate_left; ·(rintro w' ⟨s0, s1, s2, s3, s4, s5⟩; go_simp; with_reducible rfl)); (rotate_left; ·(simp only [Act.put, pq_z40]; rfl))
   refine pu_z40 11 (some 56) ?_ mz40_12 rfl rfl (by kernel_rfl) (fun _ _ _ h => h) (Or.inl ⟨by rfl, ?_⟩) ?_ ?_ ?_
   (rotate_left; ·(intro w'; go_simp; with_reducible rfl)); (rotate_left; ·(simp only [Act.put, pq_z40]; rfl))
   refine pu_z40 12 (some 57) ?_ mz40_13 rfl rfl (by kernel_rfl) (fun _ _ _ h => h) (Or.inl ⟨by rfl, ?_⟩) ?_ ?_ ?_
   (rotate_left; ·(intro w'; go_simp; with_reducible rfl)); (rotate_left; ·(simp only [Act.put, pq_z40]; rfl))
   refine pu_z40 13 (some 58) ?_ mz40_14 rfl rfl (by kernel_rfl) (fun _ _ _ h => h) (Or.inl ⟨by rfl, ?_⟩) ?_ ?_ ?_
   (rotate_left; ·(intro w'; go_simp; with_reducible rfl)); (rotate_left; ·(simp only [Act.put, pq_z40]; rfl))
   refine pu_z40 14 (some 59) ?_ mz40_15 rfl rfl (by kernel_rfl) (fun _ _ _ h => h) (Or.inl ⟨by rfl, ?_⟩) ?_ ?_ ?_
   (rotate_left; ·(intro w'; go_simp; with_reducible rfl)); (rotate_left; ·(simp only [Act.put, pq_z40]; rfl))
   refine pu_z40 15 (some 60) ?_ mz40_16 rfl rfl (by kernel_rfl) (fun _ _ _ h => h) (Or.inl ⟨by rfl, ?_⟩) ?_ ?_ ?_
   (rotate_left; ·(intro w'; go_simp; with_reducible rfl)); (rotate_left; ·(simp only [Act.put, pq_z40]; rfl))
   refine pu_z40 16 (some 61) ?_ mz40_17 rfl rfl (by kernel_rfl) (fun _ _ _ h => h) (Or.inl ⟨by rfl, ?_⟩) ?_ ?_ ?_
   (rotate_left; ·(intro w'; go_simp; with_reducible rfl)); (rotate_left; ·(simp only [Act.put, pq_z40]; rfl))
   refine take_ (i := 17) (N := some 62) (v := ?_) (a' := ?_) mz40_18 rfl rfl (by kernel_rfl) (fun _ _ _ h => h) (Or.inl ⟨by rfl, ?_⟩) hHeld ?_ ?_
   (rotate_left; ·(rintro w' ⟨s0, s1, s2, s3, s4, s5⟩; go_simp; with_reducible rfl)); (rotate_left; ·(simp only [Act.put, pq_z40]; rfl))
   refine one_ (i := 18) (N := some 63) mz40_19 rfl rfl (by kernel_rfl) (by decide) (fun K hK => ?_)
   obtain ⟨t0, t1, t2, t3, t4, t5⟩ := hHeld
   refine goes_ Try.func83 (by kernel_rfl) rfl #[.slice A2 l2.length c2, .int .i64 x] (by rfl) rfl rfl (by simp only [List.map_toArray, List.map_cons, List.map_nil]; rfl) ?_
   with_reducible refine (spec_l00Has.calls k2 A2 c2 l2 x true _ (Kd.C_below HL.out (below_step HB.out t5)) HD.out E10.out).mono ?_
   rintro e w10 ⟨rfl, hd⟩
   refine ⟨_, rfl, ?_⟩
   have hb := hd.below
   clear hd
   have u0 := (hb.cell (World.block_lt_of_cell? _ _ t0)).trans t0
   have u1 := (hb.cell (World.block_lt_of_cell? _ _ t1)).trans t1
   have u2 := (hb.cell (World.block_lt_of_cell? _ _ t2)).trans t2
   have u3 := (hb.cell (World.block_lt_of_cell? _ _ t3)).trans t3
   have u4 := (hb.cell (World.block_lt_of_cell? _ _ t4)).trans t4
   have u5 := below_step t5 hb
   clear t0 t1 t2 t3 t4 t5 hb
   refine hK.out _ _ ⟨u0, u1, u2, u3, u4, u5⟩ (fun hHeld => ?_)
   clear hK K
   refine norm_ (a' := ?_) ?_ ?_
   (rotate_left; ·(show Act.put _ (some 63) _ = _; simp only [Act.put, pq_z40]; rfl))
   refine pu_z40 19 (some 64) ?_ mz40_20 rfl rfl (by kernel_rfl) (fun _ _ _ h => h) (Or.inl ⟨by rfl, ?_⟩) ?_ ?_ ?_
   (rotate_left; ·(intro w'; go_simp; with_reducible rfl)); (rotate_left; ·(simp only [Act.put, pq_z40]; rfl))
   refine pu_z40 20 (some 65) ?_ mz40_21 rfl rfl (by kernel_rfl) (fun _ _ _ h => h) (Or.inl ⟨by rfl, ?_⟩) ?_ ?_ ?_
   (rotate_left; ·(intro w'; go_simp; with_reducible rfl)); (rotate_left; ·(simp only [Act.put, pq_z40]; rfl))
   refine pu_z40 21 (some 66) ?_ mz40_22 rfl rfl (by kernel_rfl) (fun _ _ _ h => h) (Or.inl ⟨by rfl, ?_⟩) ?_ ?_ ?_
   (rotate_left; ·(intro w'; go_simp; with_reducible rfl)); (rotate_left; ·(simp only [Act.put, pq_z40]; rfl))
   refine pu_z40 22 (some 67) undef mz40_23 rfl rfl (by kernel_rfl) (fun _ _ _ h => h) (Or.inr ⟨by rfl, rfl⟩) ?_ ?_ ?_
   (rotate_left; ·(simp only [Act.put, pq_z40]; rfl))
   refine pu_z40 23 (some 68) undef mz40_24 rfl rfl (by kernel_rfl) (fun _ _ _ h => h) (Or.inr ⟨by rfl, rfl⟩) ?_ ?_ ?_
   (rotate_left; ·(simp only [Act.put, pq_z40]; rfl))
   refine pu_z40 24 (some 69) undef mz40_25 rfl rfl (by kernel_rfl) (fun _ _ _ h => h) (Or.inr ⟨by rfl, rfl⟩) ?_ ?_ ?_
   (rotate_left; ·(simp only [Act.put, pq_z40]; rfl))
   refine pu_z40 25 (some 70) undef mz40_26 rfl rfl (by kernel_rfl) (fun _ _ _ h => h) (Or.inr ⟨by rfl, rfl⟩) ?_ ?_ ?_
   (rotate_left; ·(simp only [Act.put, pq_z40]; rfl))
   refine pu_z40 26 (some 71) undef mz40_27 rfl rfl (by kernel_rfl) (fun _ _ _ h => h) (Or.inr ⟨by rfl, rfl⟩) ?_ ?_ ?_
   (rotate_left; ·(simp only [Act.put, pq_z40]; rfl))
   refine pu_z40 27 (some 72) undef mz40_28 rfl rfl (by kernel_rfl) (fun _ _ _ h => h) (Or.inr ⟨by rfl, rfl⟩) ?_ ?_ ?_
   (rotate_left; ·(simp only [Act.put, pq_z40]; rfl))
   refine pu_z40 28 (some 73) undef mz40_29 rfl rfl (by kernel_rfl) (fun _ _ _ h => h) (Or.inr ⟨by rfl, rfl⟩) ?_ ?_ ?_
   (rotate_left; ·(simp only [Act.put, pq_z40]; rfl))
   refine pu_z40 29 (some 74) ?_ mz40_30 rfl rfl (by kernel_rfl) (fun _ _ _ h => h) (Or.inl ⟨by rfl, ?_⟩) ?_ ?_ ?_
   (rotate_left; ·(intro w'; go_simp; with_reducible rfl)); (rotate_left; ·(simp only [Act.put, pq_z40]; rfl))
   refine pu_z40 30 (some 75) ?_ mz40_31 rfl rfl (by kernel_rfl) (fun _ _ _ h => h) (Or.inl ⟨by rfl, ?_⟩) ?_ ?_ ?_
   (rotate_left; ·(intro w'; go_simp; with_reducible rfl)); (rotate_left; ·(simp only [Act.put, pq_z40]; rfl))
   refine pu_z40 31 (some 76) undef mz40_32 rfl rfl (by kernel_rfl) (fun _ _ _ h => h) (Or.inr ⟨by rfl, rfl⟩) ?_ ?_ ?_
   (rotate_left; ·(simp only [Act.put, pq_z40]; rfl))
   refine pu_z40 32 (some 77) undef mz40_33 rfl rfl (by kernel_rfl) (fun _ _ _ h => h) (Or.inr ⟨by rfl, rfl⟩) ?_ ?_ ?_
   (rotate_left; ·(simp only [Act.put, pq_z40]; rfl))
   refine pu_z40 33 (some 78) undef mz40_34 rfl rfl (by kernel_rfl) (fun _ _ _ h => h) (Or.inr ⟨by rfl, rfl⟩) ?_ ?_ ?_
   (rotate_left; ·(simp only [Act.put, pq_z40]; rfl))
   refine pu_z40 34 (some 79) undef mz40_35 rfl rfl (by kernel_rfl) (fun _ _ _ h => h) (Or.inr ⟨by rfl, rfl⟩) ?_ ?_ ?_
   (rotate_left; ·(simp only [Act.put, pq_z40]; rfl))
   refine pu_z40 35 (some 80) ?_ mz40_36 rfl rfl (by kernel_rfl) (fun _ _ _ h => h) (Or.inl ⟨by rfl, ?_⟩) ?_ ?_ ?_
   (rotate_left; ·(intro w'; go_simp; with_reducible rfl)); (rotate_left; ·(simp only [Act.put, pq_z40]; rfl))
   refine done_ (by kernel_rfl) ?_
   obtain ⟨t0, t1, t2, t3, t4, t5⟩ := hHeld
   have hb := t5
   clear t0 t1 t2 t3 t4 t5
   clear hBA0 hBA1 hBR0 hBR1 hBR2 hBR3
   replace BA := Aside0.mk (blk_below BA.out hb)
   replace BR := Aside0.mk (blk_below BR.out hb)
   replace HB := Aside0.mk (below_step HB.out hb)
   replace HO8 := Aside0.mk (Kd.R_below HO8.out hb)
   replace HO9 := Aside0.mk (Kd.R_below HO9.out hb)
   clear hb hy0 hx1
   go_wp2_with fail
   go_roundg k2
   case measure => omega
   case rel => exact ⟨xs, i + 1, rfl, H, HO8, HO9, BA, BR, HB⟩
  | false =>
  have g := H.out
  clear H
  rw [if_neg (by decide)] at g
  have H := Aside0.mk g
  clear g
  by_cases m : a1_2 = 0
  case pos =>
   have g := H.out
   clear H
   rw [if_pos m] at g
   have H := Aside0.mk g
   clear g
   have mb : (a1_2 == 0) = true := by simpa using m
   have mc := decide_eq_true m
   have h := H.out
   clear H m
   obtain ⟨h2, E11, h'⟩ := Option.bind_eq_some_iff.1 h
   clear h
   replace E11 := Aside0.mk E11
   have H := Aside0.mk h'
   clear h'
   refine start_ (n := 36) (S := fun w' => w'.cell? ⟨gt, 0, none⟩ = some (.slice (some ad) l0_0.length c0_0) ∧ w'.cell? ⟨gt, 1, none⟩ = some (.slice A0_1 l0_1.length c0_1) ∧ w'.cell? ⟨gr, 2, none⟩ = some (.int .i64 a1_2) ∧ w'.cell? (ae.add i.toNat) = some (.int .i64 x) ∧ w'.cell? ⟨(ad.add (j.toNat * 2)).block, (ad.add (j.toNat * 2)).off + 1, none⟩ = some (.int .i64 wt) ∧ Below w8.heap.size w8 w') (ds := []) mz40_0 (by kernel_rfl) rfl rfl ⟨hBA0, hBA1, hBR2, hy0, hx1, below_drew1 (Below.refl _ _)⟩ (fun hHeld => ?_)
   refine pu_z40 0 (some 45) ?_ mz40_1 rfl rfl (by kernel_rfl) (fun _ _ _ h => h) (Or.inl ⟨by rfl, ?_⟩) ?_ ?_ ?_
   (rotate_left; ·(intro w'; go_simp; with_reducible rfl)); (rotate_left; ·(simp only [Act.put, pq_z40]; rfl))
   refine pu_z40 3 (some 48) ?_ mz40_2 rfl rfl (by kernel_rfl) (fun _ _ _ h => h) (Or.inl ⟨by rfl, ?_⟩) ?_ ?_ ?_
   (rotate_left; ·(intro w'; go_simp; with_reducible rfl)); (rotate_left; ·(simp only [Act.put, pq_z40]; rfl))
   refine pu_z40 4 (some 49) ?_ mz40_3 rfl rfl (by kernel_rfl) (fun _ _ _ h => h) (Or.inl ⟨by rfl, ?_⟩) ?_ ?_ ?_
   (rotate_left; ·(intro w'; go_simp; with_reducible rfl)); (rotate_left; ·(simp only [Act.put, pq_z40]; rfl))
   refine pu_z40 5 (some 50) ?_ mz40_4 rfl rfl (by kernel_rfl) (fun _ _ _ h => h) (Or.inl ⟨by rfl, ?_⟩) ?_ ?_ ?_
   (rotate_left; ·(intro w'; go_simp; with_reducible rfl)); (rotate_left; ·(simp only [Act.put, pq_z40]; rfl))
   refine take_ (i := 1) (N := some 46) (v := ?_) (a' := ?_) mz40_5 rfl rfl (by kernel_rfl) (fun _ _ _ h => h) (Or.inl ⟨by rfl, ?_⟩) hHeld ?_ ?_
   (rotate_left; ·(rintro w' ⟨s0, s1, s2, s3, s4, s5⟩; go_simp; with_reducible rfl)); (rotate_left; ·(simp only [Act.put, pq_z40]; rfl))
   refine take_ (i := 2) (N := some 47) (v := ?_) (a' := ?_) mz40_6 rfl rfl (by kernel_rfl) (fun _ _ _ h => h) (Or.inl ⟨by rfl, ?_⟩) hHeld ?_ ?_
   (rotate_left; ·(rintro w' ⟨s0, s1, s2, s3, s4, s5⟩; go_simp; with_reducible rfl)); (rotate_left; ·(simp only [Act.put, pq_z40]; rfl))
   refine take_ (i := 6) (N := some 51) (v := ?_) (a' := ?_) mz40_7 rfl rfl (by kernel_rfl) (fun _ _ _ h => h) (Or.inl ⟨by rfl, ?_⟩) hHeld ?_ ?_
   (rotate_left; ·(rintro w' ⟨s0, s1, s2, s3, s4, s5⟩; go_simp; with_reducible rfl)); (rotate_left; ·(simp only [Act.put, pq_z40]; rfl))
   refine one_ (i := 7) (N := some 52) mz40_8 rfl rfl (by kernel_rfl) (by decide) (fun K hK => ?_)
   obtain ⟨t0, t1, t2, t3, t4, t5⟩ := hHeld
   refine goes_ Try.func82 (by kernel_rfl) rfl #[.agg #[.slice (some ad) l0_0.length c0_0, .slice A0_1 l0_1.length c0_1], .int .i64 x] (by rfl) rfl rfl (by simp only [List.map_toArray, List.map_cons, List.map_nil]; rfl) ?_
   with_reducible refine (spec_l06Device.calls k2 (some ad) c0_0 l0_0 A0_1 c0_1 l0_1 x j _ (Kd.C_below HA0.out (below_step HB.out t5)) HC0.out (Kd.C_below HA1.out (below_step HB.out t5)) HC1.out E9.out).mono ?_
   rintro e w9 ⟨rfl, hb⟩
   refine ⟨_, rfl, ?_⟩
   have u0 := (hb.cell (World.block_lt_of_cell? _ _ t0)).trans t0
   have u1 := (hb.cell (World.block_lt_of_cell? _ _ t1)).trans t1
   have u2 := (hb.cell (World.block_lt_of_cell? _ _ t2)).trans t2
   have u3 := (hb.cell (World.block_lt_of_cell? _ _ t3)).trans t3
   have u4 := (hb.cell (World.block_lt_of_cell? _ _ t4)).trans t4
   have u5 := below_step t5 hb
   clear t0 t1 t2 t3 t4 t5 hb
   refine hK.out _ _ ⟨u0, u1, u2, u3, u4, u5⟩ (fun hHeld => ?_)
   clear hK K
   refine norm_ (a' := ?_) ?_ ?_
   (rotate_left; ·(show Act.put _ (some 52) _ = _; simp only [Act.put, pq_z40]; rfl))
   refine pu_z40 8 (some 53) ?_ mz40_9 rfl rfl (by kernel_rfl) (fun _ _ _ h => h) (Or.inl ⟨by rfl, ?_⟩) ?_ ?_ ?_
   (rotate_left; ·(intro w'; go_simp; with_reducible rfl)); (rotate_left; ·(simp only [Act.put, pq_z40]; rfl))
   refine pu_z40 9 (some 54) ?_ mz40_10 rfl rfl (by kernel_rfl) (fun _ _ _ h => h) (Or.inl ⟨by rfl, ?_⟩) ?_ ?_ ?_
   (rotate_left; ·(intro w'; go_simp; with_reducible rfl)); (rotate_left; ·(simp only [Act.put, pq_z40]; rfl))
   refine take_ (i := 10) (N := some 55) (v := ?_) (a' := ?_) mz40_11 rfl rfl (by kernel_rfl) (fun _ _ _ h => h) (Or.inl ⟨by rfl, ?_⟩) hHeld ?_ ?_
   (rotate_left; ·(rintro w' ⟨s0, s1, s2, s3, s4, s5⟩; go_simp; with_reducible rfl)); (rotate_left; ·(simp only [Act.put, pq_z40]; rfl))
   refine pu_z40 11 (some 56) ?_ mz40_12 rfl rfl (by kernel_rfl) (fun _ _ _ h => h) (Or.inl ⟨by rfl, ?_⟩) ?_ ?_ ?_
   (rotate_left; ·(intro w'; go_simp; with_reducible rfl)); (rotate_left; ·(simp only [Act.put, pq_z40]; rfl))
   refine pu_z40 12 (some 57) ?_ mz40_13 rfl rfl (by kernel_rfl) (fun _ _ _ h => h) (Or.inl ⟨by rfl, ?_⟩) ?_ ?_ ?_
   (rotate_left; ·(intro w'; go_simp; with_reducible rfl)); (rotate_left; ·(simp only [Act.put, pq_z40]; rfl))
   refine pu_z40 13 (some 58) ?_ mz40_14 rfl rfl (by kernel_rfl) (fun _ _ _ h => h) (Or.inl ⟨by rfl, ?_⟩) ?_ ?_ ?_
   (rotate_left; ·(intro w'; go_simp; with_reducible rfl)); (rotate_left; ·(simp only [Act.put, pq_z40]; rfl))
   refine pu_z40 14 (some 59) ?_ mz40_15 rfl rfl (by kernel_rfl) (fun _ _ _ h => h) (Or.inl ⟨by rfl, ?_⟩) ?_ ?_ ?_
   (rotate_left; ·(intro w'; go_simp; with_reducible rfl)); (rotate_left; ·(simp only [Act.put, pq_z40]; rfl))
   refine pu_z40 15 (some 60) ?_ mz40_16 rfl rfl (by kernel_rfl) (fun _ _ _ h => h) (Or.inl ⟨by rfl, ?_⟩) ?_ ?_ ?_
   (rotate_left; ·(intro w'; go_simp; with_reducible rfl)); (rotate_left; ·(simp only [Act.put, pq_z40]; rfl))
   refine pu_z40 16 (some 61) ?_ mz40_17 rfl rfl (by kernel_rfl) (fun _ _ _ h => h) (Or.inl ⟨by rfl, ?_⟩) ?_ ?_ ?_
   (rotate_left; ·(intro w'; go_simp; with_reducible rfl)); (rotate_left; ·(simp only [Act.put, pq_z40]; rfl))
   refine take_ (i := 17) (N := some 62) (v := ?_) (a' := ?_) mz40_18 rfl rfl (by kernel_rfl) (fun _ _ _ h => h) (Or.inl ⟨by rfl, ?_⟩) hHeld ?_ ?_
   (rotate_left; ·(rintro w' ⟨s0, s1, s2, s3, s4, s5⟩; go_simp; with_reducible rfl)); (rotate_left; ·(simp only [Act.put, pq_z40]; rfl))
   refine one_ (i := 18) (N := some 63) mz40_19 rfl rfl (by kernel_rfl) (by decide) (fun K hK => ?_)
   obtain ⟨t0, t1, t2, t3, t4, t5⟩ := hHeld
   refine goes_ Try.func83 (by kernel_rfl) rfl #[.slice A2 l2.length c2, .int .i64 x] (by rfl) rfl rfl (by simp only [List.map_toArray, List.map_cons, List.map_nil]; rfl) ?_
   with_reducible refine (spec_l00Has.calls k2 A2 c2 l2 x false _ (Kd.C_below HL.out (below_step HB.out t5)) HD.out E10.out).mono ?_
   rintro e w10 ⟨rfl, hd⟩
   refine ⟨_, rfl, ?_⟩
   have hb := hd.below
   clear hd
   have u0 := (hb.cell (World.block_lt_of_cell? _ _ t0)).trans t0
   have u1 := (hb.cell (World.block_lt_of_cell? _ _ t1)).trans t1
   have u2 := (hb.cell (World.block_lt_of_cell? _ _ t2)).trans t2
   have u3 := (hb.cell (World.block_lt_of_cell? _ _ t3)).trans t3
   have u4 := (hb.cell (World.block_lt_of_cell? _ _ t4)).trans t4
   have u5 := below_step t5 hb
   clear t0 t1 t2 t3 t4 t5 hb
   refine hK.out _ _ ⟨u0, u1, u2, u3, u4, u5⟩ (fun hHeld => ?_)
   clear hK K
   refine norm_ (a' := ?_) ?_ ?_
   (rotate_left; ·(show Act.put _ (some 63) _ = _; simp only [Act.put, pq_z40]; rfl))
   refine pu_z40 19 (some 64) ?_ mz40_20 rfl rfl (by kernel_rfl) (fun _ _ _ h => h) (Or.inl ⟨by rfl, ?_⟩) ?_ ?_ ?_
   (rotate_left; ·(intro w'; go_simp; with_reducible rfl)); (rotate_left; ·(simp only [Act.put, pq_z40]; rfl))
   refine pu_z40 20 (some 65) ?_ mz40_21 rfl rfl (by kernel_rfl) (fun _ _ _ h => h) (Or.inl ⟨by rfl, ?_⟩) ?_ ?_ ?_
   (rotate_left; ·(intro w'; go_simp; with_reducible rfl)); (rotate_left; ·(simp only [Act.put, pq_z40]; rfl))
   refine pu_z40 21 (some 66) ?_ mz40_22 rfl rfl (by kernel_rfl) (fun _ _ _ h => h) (Or.inl ⟨by rfl, ?_⟩) ?_ ?_ ?_
   (rotate_left; ·(intro w'; go_simp; with_reducible rfl)); (rotate_left; ·(simp only [Act.put, pq_z40]; rfl))
   refine pu_z40 22 (some 67) ?_ mz40_23 rfl rfl (by kernel_rfl) (fun _ _ _ h => h) (Or.inl ⟨by rfl, ?_⟩) ?_ ?_ ?_
   (rotate_left; ·(intro w'; go_simp; with_reducible rfl)); (rotate_left; ·(simp only [Act.put, pq_z40]; rfl))
   refine take_ (i := 23) (N := some 68) (v := ?_) (a' := ?_) mz40_24 rfl rfl (by kernel_rfl) (fun _ _ _ h => h) (Or.inl ⟨by rfl, ?_⟩) hHeld ?_ ?_
   (rotate_left; ·(rintro w' ⟨s0, s1, s2, s3, s4, s5⟩; go_simp; with_reducible rfl)); (rotate_left; ·(simp only [Act.put, pq_z40]; rfl))
   refine pu_z40 24 (some 69) ?_ mz40_25 rfl rfl (by kernel_rfl) (fun _ _ _ h => h) (Or.inl ⟨by rfl, ?_⟩) ?_ ?_ ?_
   (rotate_left; ·(intro w'; go_simp; with_reducible rfl)); (rotate_left; ·(simp only [Act.put, pq_z40]; rfl))
   refine pu_z40 25 (some 70) ?_ mz40_26 rfl rfl (by kernel_rfl) (fun _ _ _ h => h) (Or.inl ⟨by rfl, ?_⟩) ?_ ?_ ?_
   (rotate_left; ·(intro w'; go_simp; with_reducible rfl)); (rotate_left; ·(simp only [Act.put, pq_z40]; rfl))
   refine pu_z40 26 (some 71) undef mz40_27 rfl rfl (by kernel_rfl) (fun _ _ _ h => h) (Or.inr ⟨by rfl, rfl⟩) ?_ ?_ ?_
   (rotate_left; ·(simp only [Act.put, pq_z40]; rfl))
   refine pu_z40 27 (some 72) undef mz40_28 rfl rfl (by kernel_rfl) (fun _ _ _ h => h) (Or.inr ⟨by rfl, rfl⟩) ?_ ?_ ?_
   (rotate_left; ·(simp only [Act.put, pq_z40]; rfl))
   refine pu_z40 28 (some 73) ?_ mz40_29 rfl rfl (by kernel_rfl) (fun _ _ _ h => h) (Or.inl ⟨by rfl, ?_⟩) ?_ ?_ ?_
   (rotate_left; ·(intro w'; go_simp; with_reducible rfl)); (rotate_left; ·(simp only [Act.put, pq_z40]; rfl))
   refine pu_z40 29 (some 74) ?_ mz40_30 rfl rfl (by kernel_rfl) (fun _ _ _ h => h) (Or.inl ⟨by rfl, ?_⟩) ?_ ?_ ?_
   (rotate_left; ·(intro w'; go_simp; with_reducible rfl)); (rotate_left; ·(simp only [Act.put, pq_z40]; rfl))
   refine pu_z40 30 (some 75) ?_ mz40_31 rfl rfl (by kernel_rfl) (fun _ _ _ h => h) (Or.inl ⟨by rfl, ?_⟩) ?_ ?_ ?_
   (rotate_left; ·(intro w'; go_simp; with_reducible rfl)); (rotate_left; ·(simp only [Act.put, pq_z40]; rfl))
   refine pu_z40 31 (some 76) ?_ mz40_32 rfl rfl (by kernel_rfl) (fun _ _ _ h => h) (Or.inl ⟨by rfl, ?_⟩) ?_ ?_ ?_
   (rotate_left; ·(intro w'; go_simp; with_reducible rfl)); (rotate_left; ·(simp only [Act.put, pq_z40]; rfl))
   refine pu_z40 32 (some 77) ?_ mz40_33 rfl rfl (by kernel_rfl) (fun _ _ _ h => h) (Or.inl ⟨by rfl, ?_⟩) ?_ ?_ ?_
   (rotate_left; ·(intro w'; go_simp; with_reducible rfl)); (rotate_left; ·(simp only [Act.put, pq_z40]; rfl))
   refine one_ (i := 33) (N := some 78) mz40_34 rfl rfl (by kernel_rfl) (by decide) (fun K hK => ?_)
   obtain ⟨t0, t1, t2, t3, t4, t5⟩ := hHeld
   refine goes_ Try.func83 (by kernel_rfl) rfl #[.slice Aq xs.length cq, .int .i64 d] (by rfl) rfl rfl (by simp only [List.map_toArray, List.map_cons, List.map_nil]; rfl) ?_
   with_reducible refine (spec_l00Has.calls k2 Aq cq xs d h2 _ (Kd.C_below HCQ.out t5) HLQ.out E11.out).mono ?_
   rintro e w11 ⟨rfl, hd⟩
   refine ⟨_, rfl, ?_⟩
   have hb := hd.below
   clear hd
   have u0 := (hb.cell (World.block_lt_of_cell? _ _ t0)).trans t0
   have u1 := (hb.cell (World.block_lt_of_cell? _ _ t1)).trans t1
   have u2 := (hb.cell (World.block_lt_of_cell? _ _ t2)).trans t2
   have u3 := (hb.cell (World.block_lt_of_cell? _ _ t3)).trans t3
   have u4 := (hb.cell (World.block_lt_of_cell? _ _ t4)).trans t4
   have u5 := below_step t5 hb
   clear t0 t1 t2 t3 t4 t5 hb
   refine hK.out _ _ ⟨u0, u1, u2, u3, u4, u5⟩ (fun hHeld => ?_)
   clear hK K
   refine norm_ (a' := ?_) ?_ ?_
   (rotate_left; ·(show Act.put _ (some 78) _ = _; simp only [Act.put, pq_z40]; rfl))
   refine pu_z40 34 (some 79) ?_ mz40_35 rfl rfl (by kernel_rfl) (fun _ _ _ h => h) (Or.inl ⟨by rfl, ?_⟩) ?_ ?_ ?_
   (rotate_left; ·(intro w'; go_simp; with_reducible rfl)); (rotate_left; ·(simp only [Act.put, pq_z40]; rfl))
   refine pu_z40 35 (some 80) ?_ mz40_36 rfl rfl (by kernel_rfl) (fun _ _ _ h => h) (Or.inl ⟨by rfl, ?_⟩) ?_ ?_ ?_
   (rotate_left; ·(intro w'; go_simp; with_reducible rfl)); (rotate_left; ·(simp only [Act.put, pq_z40]; rfl))
   refine done_ (by kernel_rfl) ?_
   obtain ⟨t0, t1, t2, t3, t4, t5⟩ := hHeld
   have hb := t5
   clear t0 t1 t2 t3 t4 t5
   cases h2 with
   | true =>
    have g := H.out
    clear H
    rw [if_pos rfl] at g
    have H := Aside0.mk g
    clear g
    clear hBA0 hBA1 hBR0 hBR1 hBR2 hBR3
    replace BA := Aside0.mk (blk_below BA.out hb)
    replace BR := Aside0.mk (blk_below BR.out hb)
    replace HB := Aside0.mk (below_step HB.out hb)
    replace HO8 := Aside0.mk (Kd.R_below HO8.out hb)
    replace HO9 := Aside0.mk (Kd.R_below HO9.out hb)
    clear hb hy0 hx1
    go_wp2_with fail
    go_roundg k2
    case measure => omega
    case rel => exact ⟨xs, i + 1, rfl, H, HO8, HO9, BA, BR, HB⟩
   | false =>
    have g := H.out
    clear H
    rw [if_neg (by decide)] at g
    have H := Aside0.mk g
    clear g
    clear hBA0 hBA1 hBR0 hBR1 hBR2 hBR3
    replace BA := Aside0.mk (blk_below BA.out hb)
    replace BR := Aside0.mk (blk_below BR.out hb)
    replace HB := Aside0.mk (below_step HB.out hb)
    replace HO8 := Aside0.mk (Kd.R_below HO8.out hb)
    replace HO9 := Aside0.mk (Kd.R_below HO9.out hb)
    clear hb hy0 hx1
    have hsm : xs.length < 17592186044416 := by
     by_cases hs : xs.length < 17592186044416
     case pos => exact hs
     have := H.out
     rw [if_neg hs] at this
     cases this
    have g := H.out
    clear H
    rw [if_pos hsm] at g
    have H := Aside0.mk g
    clear g
    go_wp2_with (first | ((with_reducible refine gate_builtin (b := .append) (xs := #[.tmp 81, .tmp 83]) rfl ?_); at_builtin; refine Kd.R_append (Kd.int .i64) (w0 := w) w.heap.size rfl (.tmp 81) (.tmp 83) 34 2 (.int .i64 0) 8 rfl Try.underlying34 info2 rfl (by decide) (by omega) (.slice Aq xs.length cq) xs d [.int .i64 d] (fun j => some j ≠ (Value.slice (some ae) S.length cv).ownBlock) (fun _ => False) rfl rfl ?aP (fun _ hk => hk.elim) ?aF ?aO ?aB ?aS ?aL ?_; (case aP => exact rfl); (case aB => exact HB.out); (case aF => exact (fun j hk => Kd.fresh' (Kd.R_lt HO9.out) j hk)); (case aO => exact HO8.out); (case aS => exact below_size HB.out); (case aL => omega); intro v3 w13 ho hb hg hat; have n1 := Aside0.mk (Kd.R_after (ok := (fun _ => True)) (Kd.R_mono HO9.out (fun _ hk => ⟨trivial, hk⟩)) hg hat); have n2 := Aside0.mk (blk_grown BA.out hg (Kd.R_ne HO8.out BA.out (by decide))); have n3 := Aside0.mk (blk_grown BR.out hg (Kd.R_ne HO8.out BR.out (by decide))); have n4 := Aside0.mk hb; have n5 := Aside0.mk ho; clear HO8 HO9 BA BR HB ho hb hg hat))
    go_roundg k2
    case measure => omega
    case rel => exact ⟨xs ++ [d], i + 1, rfl, H, n5, ⟨Kd.R_mono n1.out (fun _ hk => hk.2)⟩, n2, n3, n4⟩
  have g := H.out
  clear H
  rw [if_neg m] at g
  have H := Aside0.mk g
  clear g
  have mb : (a1_2 == 0) = false := by simpa using m
  have mc := decide_eq_false m
  clear m
  by_cases y : d = 0
  case pos =>
   have g := H.out
   clear H
   rw [if_pos y] at g
   have H := Aside0.mk g
   clear g
   have yb : (d != 0) = false := by simpa using y
   have yc : (d == 0) = true := by simpa using y
   have yd := decide_eq_true y
   clear y
   refine start_ (n := 36) (S := fun w' => w'.cell? ⟨gt, 0, none⟩ = some (.slice (some ad) l0_0.length c0_0) ∧ w'.cell? ⟨gt, 1, none⟩ = some (.slice A0_1 l0_1.length c0_1) ∧ w'.cell? ⟨gr, 2, none⟩ = some (.int .i64 a1_2) ∧ w'.cell? (ae.add i.toNat) = some (.int .i64 x) ∧ w'.cell? ⟨(ad.add (j.toNat * 2)).block, (ad.add (j.toNat * 2)).off + 1, none⟩ = some (.int .i64 wt) ∧ Below w8.heap.size w8 w') (ds := []) mz40_0 (by kernel_rfl) rfl rfl ⟨hBA0, hBA1, hBR2, hy0, hx1, below_drew1 (Below.refl _ _)⟩ (fun hHeld => ?_)
   refine pu_z40 0 (some 45) ?_ mz40_1 rfl rfl (by kernel_rfl) (fun _ _ _ h => h) (Or.inl ⟨by rfl, ?_⟩) ?_ ?_ ?_
   (rotate_left; ·(intro w'; go_simp; with_reducible rfl)); (rotate_left; ·(simp only [Act.put, pq_z40]; rfl))
   refine pu_z40 3 (some 48) ?_ mz40_2 rfl rfl (by kernel_rfl) (fun _ _ _ h => h) (Or.inl ⟨by rfl, ?_⟩) ?_ ?_ ?_
   (rotate_left; ·(intro w'; go_simp; with_reducible rfl)); (rotate_left; ·(simp only [Act.put, pq_z40]; rfl))
   refine pu_z40 4 (some 49) ?_ mz40_3 rfl rfl (by kernel_rfl) (fun _ _ _ h => h) (Or.inl ⟨by rfl, ?_⟩) ?_ ?_ ?_
   (rotate_left; ·(intro w'; go_simp; with_reducible rfl)); (rotate_left; ·(simp only [Act.put, pq_z40]; rfl))
   refine pu_z40 5 (some 50) ?_ mz40_4 rfl rfl (by kernel_rfl) (fun _ _ _ h => h) (Or.inl ⟨by rfl, ?_⟩) ?_ ?_ ?_
   (rotate_left; ·(intro w'; go_simp; with_reducible rfl)); (rotate_left; ·(simp only [Act.put, pq_z40]; rfl))
   refine take_ (i := 1) (N := some 46) (v := ?_) (a' := ?_) mz40_5 rfl rfl (by kernel_rfl) (fun _ _ _ h => h) (Or.inl ⟨by rfl, ?_⟩) hHeld ?_ ?_
   (rotate_left; ·(rintro w' ⟨s0, s1, s2, s3, s4, s5⟩; go_simp; with_reducible rfl)); (rotate_left; ·(simp only [Act.put, pq_z40]; rfl))
   refine take_ (i := 2) (N := some 47) (v := ?_) (a' := ?_) mz40_6 rfl rfl (by kernel_rfl) (fun _ _ _ h => h) (Or.inl ⟨by rfl, ?_⟩) hHeld ?_ ?_
   (rotate_left; ·(rintro w' ⟨s0, s1, s2, s3, s4, s5⟩; go_simp; with_reducible rfl)); (rotate_left; ·(simp only [Act.put, pq_z40]; rfl))
   refine take_ (i := 6) (N := some 51) (v := ?_) (a' := ?_) mz40_7 rfl rfl (by kernel_rfl) (fun _ _ _ h => h) (Or.inl ⟨by rfl, ?_⟩) hHeld ?_ ?_
   (rotate_left; ·(rintro w' ⟨s0, s1, s2, s3, s4, s5⟩; go_simp; with_reducible rfl)); (rotate_left; ·(simp only [Act.put, pq_z40]; rfl))
   refine one_ (i := 7) (N := some 52) mz40_8 rfl rfl (by kernel_rfl) (by decide) (fun K hK => ?_)
   obtain ⟨t0, t1, t2, t3, t4, t5⟩ := hHeld
   refine goes_ Try.func82 (by kernel_rfl) rfl #[.agg #[.slice (some ad) l0_0.length c0_0, .slice A0_1 l0_1.length c0_1], .int .i64 x] (by rfl) rfl rfl (by simp only [List.map_toArray, List.map_cons, List.map_nil]; rfl) ?_
   with_reducible refine (spec_l06Device.calls k2 (some ad) c0_0 l0_0 A0_1 c0_1 l0_1 x j _ (Kd.C_below HA0.out (below_step HB.out t5)) HC0.out (Kd.C_below HA1.out (below_step HB.out t5)) HC1.out E9.out).mono ?_
   rintro e w9 ⟨rfl, hb⟩
   refine ⟨_, rfl, ?_⟩
   have u0 := (hb.cell (World.block_lt_of_cell? _ _ t0)).trans t0
   have u1 := (hb.cell (World.block_lt_of_cell? _ _ t1)).trans t1
   have u2 := (hb.cell (World.block_lt_of_cell? _ _ t2)).trans t2
   have u3 := (hb.cell (World.block_lt_of_cell? _ _ t3)).trans t3
   have u4 := (hb.cell (World.block_lt_of_cell? _ _ t4)).trans t4
   have u5 := below_step t5 hb
   clear t0 t1 t2 t3 t4 t5 hb
   refine hK.out _ _ ⟨u0, u1, u2, u3, u4, u5⟩ (fun hHeld => ?_)
   clear hK K
   refine norm_ (a' := ?_) ?_ ?_
   (rotate_left; ·(show Act.put _ (some 52) _ = _; simp only [Act.put, pq_z40]; rfl))
   refine pu_z40 8 (some 53) ?_ mz40_9 rfl rfl (by kernel_rfl) (fun _ _ _ h => h) (Or.inl ⟨by rfl, ?_⟩) ?_ ?_ ?_
   (rotate_left; ·(intro w'; go_simp; with_reducible rfl)); (rotate_left; ·(simp only [Act.put, pq_z40]; rfl))
   refine pu_z40 9 (some 54) ?_ mz40_10 rfl rfl (by kernel_rfl) (fun _ _ _ h => h) (Or.inl ⟨by rfl, ?_⟩) ?_ ?_ ?_
   (rotate_left; ·(intro w'; go_simp; with_reducible rfl)); (rotate_left; ·(simp only [Act.put, pq_z40]; rfl))
   refine take_ (i := 10) (N := some 55) (v := ?_) (a' := ?_) mz40_11 rfl rfl (by kernel_rfl) (fun _ _ _ h => h) (Or.inl ⟨by rfl, ?_⟩) hHeld ?_ ?_
   (rotate_left; ·(rintro w' ⟨s0, s1, s2, s3, s4, s5⟩; go_simp; with_reducible rfl)); (rotate_left; ·(simp only [Act.put, pq_z40]; rfl))
   refine pu_z40 11 (some 56) ?_ mz40_12 rfl rfl (by kernel_rfl) (fun _ _ _ h => h) (Or.inl ⟨by rfl, ?_⟩) ?_ ?_ ?_
   (rotate_left; ·(intro w'; go_simp; with_reducible rfl)); (rotate_left; ·(simp only [Act.put, pq_z40]; rfl))
   refine pu_z40 12 (some 57) ?_ mz40_13 rfl rfl (by kernel_rfl) (fun _ _ _ h => h) (Or.inl ⟨by rfl, ?_⟩) ?_ ?_ ?_
   (rotate_left; ·(intro w'; go_simp; with_reducible rfl)); (rotate_left; ·(simp only [Act.put, pq_z40]; rfl))
   refine pu_z40 13 (some 58) ?_ mz40_14 rfl rfl (by kernel_rfl) (fun _ _ _ h => h) (Or.inl ⟨by rfl, ?_⟩) ?_ ?_ ?_
   (rotate_left; ·(intro w'; go_simp; with_reducible rfl)); (rotate_left; ·(simp only [Act.put, pq_z40]; rfl))
   refine pu_z40 14 (some 59) ?_ mz40_15 rfl rfl (by kernel_rfl) (fun _ _ _ h => h) (Or.inl ⟨by rfl, ?_⟩) ?_ ?_ ?_
   (rotate_left; ·(intro w'; go_simp; with_reducible rfl)); (rotate_left; ·(simp only [Act.put, pq_z40]; rfl))
   refine pu_z40 15 (some 60) ?_ mz40_16 rfl rfl (by kernel_rfl) (fun _ _ _ h => h) (Or.inl ⟨by rfl, ?_⟩) ?_ ?_ ?_
   (rotate_left; ·(intro w'; go_simp; with_reducible rfl)); (rotate_left; ·(simp only [Act.put, pq_z40]; rfl))
   refine pu_z40 16 (some 61) ?_ mz40_17 rfl rfl (by kernel_rfl) (fun _ _ _ h => h) (Or.inl ⟨by rfl, ?_⟩) ?_ ?_ ?_
   (rotate_left; ·(intro w'; go_simp; with_reducible rfl)); (rotate_left; ·(simp only [Act.put, pq_z40]; rfl))
   refine take_ (i := 17) (N := some 62) (v := ?_) (a' := ?_) mz40_18 rfl rfl (by kernel_rfl) (fun _ _ _ h => h) (Or.inl ⟨by rfl, ?_⟩) hHeld ?_ ?_
   (rotate_left; ·(rintro w' ⟨s0, s1, s2, s3, s4, s5⟩; go_simp; with_reducible rfl)); (rotate_left; ·(simp only [Act.put, pq_z40]; rfl))
   refine one_ (i := 18) (N := some 63) mz40_19 rfl rfl (by kernel_rfl) (by decide) (fun K hK => ?_)
   obtain ⟨t0, t1, t2, t3, t4, t5⟩ := hHeld
   refine goes_ Try.func83 (by kernel_rfl) rfl #[.slice A2 l2.length c2, .int .i64 x] (by rfl) rfl rfl (by simp only [List.map_toArray, List.map_cons, List.map_nil]; rfl) ?_
   with_reducible refine (spec_l00Has.calls k2 A2 c2 l2 x false _ (Kd.C_below HL.out (below_step HB.out t5)) HD.out E10.out).mono ?_
   rintro e w10 ⟨rfl, hd⟩
   refine ⟨_, rfl, ?_⟩
   have hb := hd.below
   clear hd
   have u0 := (hb.cell (World.block_lt_of_cell? _ _ t0)).trans t0
   have u1 := (hb.cell (World.block_lt_of_cell? _ _ t1)).trans t1
   have u2 := (hb.cell (World.block_lt_of_cell? _ _ t2)).trans t2
   have u3 := (hb.cell (World.block_lt_of_cell? _ _ t3)).trans t3
   have u4 := (hb.cell (World.block_lt_of_cell? _ _ t4)).trans t4
   have u5 := below_step t5 hb
   clear t0 t1 t2 t3 t4 t5 hb
   refine hK.out _ _ ⟨u0, u1, u2, u3, u4, u5⟩ (fun hHeld => ?_)
   clear hK K
   refine norm_ (a' := ?_) ?_ ?_
   (rotate_left; ·(show Act.put _ (some 63) _ = _; simp only [Act.put, pq_z40]; rfl))
   refine pu_z40 19 (some 64) ?_ mz40_20 rfl rfl (by kernel_rfl) (fun _ _ _ h => h) (Or.inl ⟨by rfl, ?_⟩) ?_ ?_ ?_
   (rotate_left; ·(intro w'; go_simp; with_reducible rfl)); (rotate_left; ·(simp only [Act.put, pq_z40]; rfl))
   refine pu_z40 20 (some 65) ?_ mz40_21 rfl rfl (by kernel_rfl) (fun _ _ _ h => h) (Or.inl ⟨by rfl, ?_⟩) ?_ ?_ ?_
   (rotate_left; ·(intro w'; go_simp; with_reducible rfl)); (rotate_left; ·(simp only [Act.put, pq_z40]; rfl))
   refine pu_z40 21 (some 66) ?_ mz40_22 rfl rfl (by kernel_rfl) (fun _ _ _ h => h) (Or.inl ⟨by rfl, ?_⟩) ?_ ?_ ?_
   (rotate_left; ·(intro w'; go_simp; with_reducible rfl)); (rotate_left; ·(simp only [Act.put, pq_z40]; rfl))
   refine pu_z40 22 (some 67) ?_ mz40_23 rfl rfl (by kernel_rfl) (fun _ _ _ h => h) (Or.inl ⟨by rfl, ?_⟩) ?_ ?_ ?_
   (rotate_left; ·(intro w'; go_simp; with_reducible rfl)); (rotate_left; ·(simp only [Act.put, pq_z40]; rfl))
   refine take_ (i := 23) (N := some 68) (v := ?_) (a' := ?_) mz40_24 rfl rfl (by kernel_rfl) (fun _ _ _ h => h) (Or.inl ⟨by rfl, ?_⟩) hHeld ?_ ?_
   (rotate_left; ·(rintro w' ⟨s0, s1, s2, s3, s4, s5⟩; go_simp; with_reducible rfl)); (rotate_left; ·(simp only [Act.put, pq_z40]; rfl))
   refine pu_z40 24 (some 69) ?_ mz40_25 rfl rfl (by kernel_rfl) (fun _ _ _ h => h) (Or.inl ⟨by rfl, ?_⟩) ?_ ?_ ?_
   (rotate_left; ·(intro w'; go_simp; with_reducible rfl)); (rotate_left; ·(simp only [Act.put, pq_z40]; rfl))
   refine pu_z40 25 (some 70) ?_ mz40_26 rfl rfl (by kernel_rfl) (fun _ _ _ h => h) (Or.inl ⟨by rfl, ?_⟩) ?_ ?_ ?_
   (rotate_left; ·(intro w'; go_simp; with_reducible rfl)); (rotate_left; ·(simp only [Act.put, pq_z40]; rfl))
   refine pu_z40 26 (some 71) ?_ mz40_27 rfl rfl (by kernel_rfl) (fun _ _ _ h => h) (Or.inl ⟨by rfl, ?_⟩) ?_ ?_ ?_
   (rotate_left; ·(intro w'; go_simp; with_reducible rfl)); (rotate_left; ·(simp only [Act.put, pq_z40]; rfl))
   refine pu_z40 27 (some 72) ?_ mz40_28 rfl rfl (by kernel_rfl) (fun _ _ _ h => h) (Or.inl ⟨by rfl, ?_⟩) ?_ ?_ ?_
   (rotate_left; ·(intro w'; go_simp; with_reducible rfl)); (rotate_left; ·(simp only [Act.put, pq_z40]; rfl))
   refine pu_z40 28 (some 73) ?_ mz40_29 rfl rfl (by kernel_rfl) (fun _ _ _ h => h) (Or.inl ⟨by rfl, ?_⟩) ?_ ?_ ?_
   (rotate_left; ·(intro w'; go_simp; with_reducible rfl)); (rotate_left; ·(simp only [Act.put, pq_z40]; rfl))
   refine pu_z40 29 (some 74) ?_ mz40_30 rfl rfl (by kernel_rfl) (fun _ _ _ h => h) (Or.inl ⟨by rfl, ?_⟩) ?_ ?_ ?_
   (rotate_left; ·(intro w'; go_simp; with_reducible rfl)); (rotate_left; ·(simp only [Act.put, pq_z40]; rfl))
   refine pu_z40 30 (some 75) ?_ mz40_31 rfl rfl (by kernel_rfl) (fun _ _ _ h => h) (Or.inl ⟨by rfl, ?_⟩) ?_ ?_ ?_
   (rotate_left; ·(intro w'; go_simp; with_reducible rfl)); (rotate_left; ·(simp only [Act.put, pq_z40]; rfl))
   refine pu_z40 31 (some 76) undef mz40_32 rfl rfl (by kernel_rfl) (fun _ _ _ h => h) (Or.inr ⟨by rfl, rfl⟩) ?_ ?_ ?_
   (rotate_left; ·(simp only [Act.put, pq_z40]; rfl))
   refine pu_z40 32 (some 77) undef mz40_33 rfl rfl (by kernel_rfl) (fun _ _ _ h => h) (Or.inr ⟨by rfl, rfl⟩) ?_ ?_ ?_
   (rotate_left; ·(simp only [Act.put, pq_z40]; rfl))
   refine pu_z40 33 (some 78) undef mz40_34 rfl rfl (by kernel_rfl) (fun _ _ _ h => h) (Or.inr ⟨by rfl, rfl⟩) ?_ ?_ ?_
   (rotate_left; ·(simp only [Act.put, pq_z40]; rfl))
   refine pu_z40 34 (some 79) undef mz40_35 rfl rfl (by kernel_rfl) (fun _ _ _ h => h) (Or.inr ⟨by rfl, rfl⟩) ?_ ?_ ?_
   (rotate_left; ·(simp only [Act.put, pq_z40]; rfl))
   refine pu_z40 35 (some 80) ?_ mz40_36 rfl rfl (by kernel_rfl) (fun _ _ _ h => h) (Or.inl ⟨by rfl, ?_⟩) ?_ ?_ ?_
   (rotate_left; ·(intro w'; go_simp; with_reducible rfl)); (rotate_left; ·(simp only [Act.put, pq_z40]; rfl))
   refine done_ (by kernel_rfl) ?_
   obtain ⟨t0, t1, t2, t3, t4, t5⟩ := hHeld
   have hb := t5
   clear t0 t1 t2 t3 t4 t5
   clear hBA0 hBA1 hBR0 hBR1 hBR2 hBR3
   replace BA := Aside0.mk (blk_below BA.out hb)
   replace BR := Aside0.mk (blk_below BR.out hb)
   replace HB := Aside0.mk (below_step HB.out hb)
   replace HO8 := Aside0.mk (Kd.R_below HO8.out hb)
   replace HO9 := Aside0.mk (Kd.R_below HO9.out hb)
   clear hb hy0 hx1
   go_wp2_with fail
   go_roundg k2
   case measure => omega
   case rel => exact ⟨xs, i + 1, rfl, H, HO8, HO9, BA, BR, HB⟩
  have g := H.out
  clear H
  rw [if_neg y] at g
  have H := Aside0.mk g
  clear g
  have yb : (d != 0) = true := by simpa using y
  have yc : (d == 0) = false := by simpa using y
  have yd := decide_eq_false y
  clear y
  have h := H.out
  clear H
  obtain ⟨h2, E11, h'⟩ := Option.bind_eq_some_iff.1 h
  clear h
  replace E11 := Aside0.mk E11
  have H := Aside0.mk h'
  clear h'
  refine start_ (n := 36) (S := fun w' => w'.cell? ⟨gt, 0, none⟩ = some (.slice (some ad) l0_0.length c0_0) ∧ w'.cell? ⟨gt, 1, none⟩ = some (.slice A0_1 l0_1.length c0_1) ∧ w'.cell? ⟨gr, 2, none⟩ = some (.int .i64 a1_2) ∧ w'.cell? (ae.add i.toNat) = some (.int .i64 x) ∧ w'.cell? ⟨(ad.add (j.toNat * 2)).block, (ad.add (j.toNat * 2)).off + 1, none⟩ = some (.int .i64 wt) ∧ Below w8.heap.size w8 w') (ds := []) mz40_0 (by kernel_rfl) rfl rfl ⟨hBA0, hBA1, hBR2, hy0, hx1, below_drew1 (Below.refl _ _)⟩ (fun hHeld => ?_)
  refine pu_z40 0 (some 45) ?_ mz40_1 rfl rfl (by kernel_rfl) (fun _ _ _ h => h) (Or.inl ⟨by rfl, ?_⟩) ?_ ?_ ?_
  (rotate_left; ·(intro w'; go_simp; with_reducible rfl)); (rotate_left; ·(simp only [Act.put, pq_z40]; rfl))
  refine pu_z40 3 (some 48) ?_ mz40_2 rfl rfl (by kernel_rfl) (fun _ _ _ h => h) (Or.inl ⟨by rfl, ?_⟩) ?_ ?_ ?_
  (rotate_left; ·(intro w'; go_simp; with_reducible rfl)); (rotate_left; ·(simp only [Act.put, pq_z40]; rfl))
  refine pu_z40 4 (some 49) ?_ mz40_3 rfl rfl (by kernel_rfl) (fun _ _ _ h => h) (Or.inl ⟨by rfl, ?_⟩) ?_ ?_ ?_
  (rotate_left; ·(intro w'; go_simp; with_reducible rfl)); (rotate_left; ·(simp only [Act.put, pq_z40]; rfl))
  refine pu_z40 5 (some 50) ?_ mz40_4 rfl rfl (by kernel_rfl) (fun _ _ _ h => h) (Or.inl ⟨by rfl, ?_⟩) ?_ ?_ ?_
  (rotate_left; ·(intro w'; go_simp; with_reducible rfl)); (rotate_left; ·(simp only [Act.put, pq_z40]; rfl))
  refine take_ (i := 1) (N := some 46) (v := ?_) (a' := ?_) mz40_5 rfl rfl (by kernel_rfl) (fun _ _ _ h => h) (Or.inl ⟨by rfl, ?_⟩) hHeld ?_ ?_
  (rotate_left; ·(rintro w' ⟨s0, s1, s2, s3, s4, s5⟩; go_simp; with_reducible rfl)); (rotate_left; ·(simp only [Act.put, pq_z40]; rfl))
  refine take_ (i := 2) (N := some 47) (v := ?_) (a' := ?_) mz40_6 rfl rfl (by kernel_rfl) (fun _ _ _ h => h) (Or.inl ⟨by rfl, ?_⟩) hHeld ?_ ?_
  (rotate_left; ·(rintro w' ⟨s0, s1, s2, s3, s4, s5⟩; go_simp; with_reducible rfl)); (rotate_left; ·(simp only [Act.put, pq_z40]; rfl))
  refine take_ (i := 6) (N := some 51) (v := ?_) (a' := ?_) mz40_7 rfl rfl (by kernel_rfl) (fun _ _ _ h => h) (Or.inl ⟨by rfl, ?_⟩) hHeld ?_ ?_
  (rotate_left; ·(rintro w' ⟨s0, s1, s2, s3, s4, s5⟩; go_simp; with_reducible rfl)); (rotate_left; ·(simp only [Act.put, pq_z40]; rfl))
  refine one_ (i := 7) (N := some 52) mz40_8 rfl rfl (by kernel_rfl) (by decide) (fun K hK => ?_)
  obtain ⟨t0, t1, t2, t3, t4, t5⟩ := hHeld
  refine goes_ Try.func82 (by kernel_rfl) rfl #[.agg #[.slice (some ad) l0_0.length c0_0, .slice A0_1 l0_1.length c0_1], .int .i64 x] (by rfl) rfl rfl (by simp only [List.map_toArray, List.map_cons, List.map_nil]; rfl) ?_
  with_reducible refine (spec_l06Device.calls k2 (some ad) c0_0 l0_0 A0_1 c0_1 l0_1 x j _ (Kd.C_below HA0.out (below_step HB.out t5)) HC0.out (Kd.C_below HA1.out (below_step HB.out t5)) HC1.out E9.out).mono ?_
  rintro e w9 ⟨rfl, hb⟩
  refine ⟨_, rfl, ?_⟩
  have u0 := (hb.cell (World.block_lt_of_cell? _ _ t0)).trans t0
  have u1 := (hb.cell (World.block_lt_of_cell? _ _ t1)).trans t1
  have u2 := (hb.cell (World.block_lt_of_cell? _ _ t2)).trans t2
  have u3 := (hb.cell (World.block_lt_of_cell? _ _ t3)).trans t3
  have u4 := (hb.cell (World.block_lt_of_cell? _ _ t4)).trans t4
  have u5 := below_step t5 hb
  clear t0 t1 t2 t3 t4 t5 hb
  refine hK.out _ _ ⟨u0, u1, u2, u3, u4, u5⟩ (fun hHeld => ?_)
  clear hK K
  refine norm_ (a' := ?_) ?_ ?_
  (rotate_left; ·(show Act.put _ (some 52) _ = _; simp only [Act.put, pq_z40]; rfl))
  refine pu_z40 8 (some 53) ?_ mz40_9 rfl rfl (by kernel_rfl) (fun _ _ _ h => h) (Or.inl ⟨by rfl, ?_⟩) ?_ ?_ ?_
  (rotate_left; ·(intro w'; go_simp; with_reducible rfl)); (rotate_left; ·(simp only [Act.put, pq_z40]; rfl))
  refine pu_z40 9 (some 54) ?_ mz40_10 rfl rfl (by kernel_rfl) (fun _ _ _ h => h) (Or.inl ⟨by rfl, ?_⟩) ?_ ?_ ?_
  (rotate_left; ·(intro w'; go_simp; with_reducible rfl)); (rotate_left; ·(simp only [Act.put, pq_z40]; rfl))
  refine take_ (i := 10) (N := some 55) (v := ?_) (a' := ?_) mz40_11 rfl rfl (by kernel_rfl) (fun _ _ _ h => h) (Or.inl ⟨by rfl, ?_⟩) hHeld ?_ ?_
  (rotate_left; ·(rintro w' ⟨s0, s1, s2, s3, s4, s5⟩; go_simp; with_reducible rfl)); (rotate_left; ·(simp only [Act.put, pq_z40]; rfl))
  refine pu_z40 11 (some 56) ?_ mz40_12 rfl rfl (by kernel_rfl) (fun _ _ _ h => h) (Or.inl ⟨by rfl, ?_⟩) ?_ ?_ ?_
  (rotate_left; ·(intro w'; go_simp; with_reducible rfl)); (rotate_left; ·(simp only [Act.put, pq_z40]; rfl))
  refine pu_z40 12 (some 57) ?_ mz40_13 rfl rfl (by kernel_rfl) (fun _ _ _ h => h) (Or.inl ⟨by rfl, ?_⟩) ?_ ?_ ?_
  (rotate_left; ·(intro w'; go_simp; with_reducible rfl)); (rotate_left; ·(simp only [Act.put, pq_z40]; rfl))
  refine pu_z40 13 (some 58) ?_ mz40_14 rfl rfl (by kernel_rfl) (fun _ _ _ h => h) (Or.inl ⟨by rfl, ?_⟩) ?_ ?_ ?_
  (rotate_left; ·(intro w'; go_simp; with_reducible rfl)); (rotate_left; ·(simp only [Act.put, pq_z40]; rfl))
  refine pu_z40 14 (some 59) ?_ mz40_15 rfl rfl (by kernel_rfl) (fun _ _ _ h => h) (Or.inl ⟨by rfl, ?_⟩) ?_ ?_ ?_
  (rotate_left; ·(intro w'; go_simp; with_reducible rfl)); (rotate_left; ·(simp only [Act.put, pq_z40]; rfl))
  refine pu_z40 15 (some 60) ?_ mz40_16 rfl rfl (by kernel_rfl) (fun _ _ _ h => h) (Or.inl ⟨by rfl, ?_⟩) ?_ ?_ ?_
  (rotate_left; ·(intro w'; go_simp; with_reducible rfl)); (rotate_left; ·(simp only [Act.put, pq_z40]; rfl))
  refine pu_z40 16 (some 61) ?_ mz40_17 rfl rfl (by kernel_rfl) (fun _ _ _ h => h) (Or.inl ⟨by rfl, ?_⟩) ?_ ?_ ?_
  (rotate_left; ·(intro w'; go_simp; with_reducible rfl)); (rotate_left; ·(simp only [Act.put, pq_z40]; rfl))
  refine take_ (i := 17) (N := some 62) (v := ?_) (a' := ?_) mz40_18 rfl rfl (by kernel_rfl) (fun _ _ _ h => h) (Or.inl ⟨by rfl, ?_⟩) hHeld ?_ ?_
  (rotate_left; ·(rintro w' ⟨s0, s1, s2, s3, s4, s5⟩; go_simp; with_reducible rfl)); (rotate_left; ·(simp only [Act.put, pq_z40]; rfl))
  refine one_ (i := 18) (N := some 63) mz40_19 rfl rfl (by kernel_rfl) (by decide) (fun K hK => ?_)
  obtain ⟨t0, t1, t2, t3, t4, t5⟩ := hHeld
  refine goes_ Try.func83 (by kernel_rfl) rfl #[.slice A2 l2.length c2, .int .i64 x] (by rfl) rfl rfl (by simp only [List.map_toArray, List.map_cons, List.map_nil]; rfl) ?_
  with_reducible refine (spec_l00Has.calls k2 A2 c2 l2 x false _ (Kd.C_below HL.out (below_step HB.out t5)) HD.out E10.out).mono ?_
  rintro e w10 ⟨rfl, hd⟩
  refine ⟨_, rfl, ?_⟩
  have hb := hd.below
  clear hd
  have u0 := (hb.cell (World.block_lt_of_cell? _ _ t0)).trans t0
  have u1 := (hb.cell (World.block_lt_of_cell? _ _ t1)).trans t1
  have u2 := (hb.cell (World.block_lt_of_cell? _ _ t2)).trans t2
  have u3 := (hb.cell (World.block_lt_of_cell? _ _ t3)).trans t3
  have u4 := (hb.cell (World.block_lt_of_cell? _ _ t4)).trans t4
  have u5 := below_step t5 hb
  clear t0 t1 t2 t3 t4 t5 hb
  refine hK.out _ _ ⟨u0, u1, u2, u3, u4, u5⟩ (fun hHeld => ?_)
  clear hK K
  refine norm_ (a' := ?_) ?_ ?_
  (rotate_left; ·(show Act.put _ (some 63) _ = _; simp only [Act.put, pq_z40]; rfl))
  refine pu_z40 19 (some 64) ?_ mz40_20 rfl rfl (by kernel_rfl) (fun _ _ _ h => h) (Or.inl ⟨by rfl, ?_⟩) ?_ ?_ ?_
  (rotate_left; ·(intro w'; go_simp; with_reducible rfl)); (rotate_left; ·(simp only [Act.put, pq_z40]; rfl))
  refine pu_z40 20 (some 65) ?_ mz40_21 rfl rfl (by kernel_rfl) (fun _ _ _ h => h) (Or.inl ⟨by rfl, ?_⟩) ?_ ?_ ?_
  (rotate_left; ·(intro w'; go_simp; with_reducible rfl)); (rotate_left; ·(simp only [Act.put, pq_z40]; rfl))
  refine pu_z40 21 (some 66) ?_ mz40_22 rfl rfl (by kernel_rfl) (fun _ _ _ h => h) (Or.inl ⟨by rfl, ?_⟩) ?_ ?_ ?_
  (rotate_left; ·(intro w'; go_simp; with_reducible rfl)); (rotate_left; ·(simp only [Act.put, pq_z40]; rfl))
  refine pu_z40 22 (some 67) ?_ mz40_23 rfl rfl (by kernel_rfl) (fun _ _ _ h => h) (Or.inl ⟨by rfl, ?_⟩) ?_ ?_ ?_
  (rotate_left; ·(intro w'; go_simp; with_reducible rfl)); (rotate_left; ·(simp only [Act.put, pq_z40]; rfl))
  refine take_ (i := 23) (N := some 68) (v := ?_) (a' := ?_) mz40_24 rfl rfl (by kernel_rfl) (fun _ _ _ h => h) (Or.inl ⟨by rfl, ?_⟩) hHeld ?_ ?_
  (rotate_left; ·(rintro w' ⟨s0, s1, s2, s3, s4, s5⟩; go_simp; with_reducible rfl)); (rotate_left; ·(simp only [Act.put, pq_z40]; rfl))
  refine pu_z40 24 (some 69) ?_ mz40_25 rfl rfl (by kernel_rfl) (fun _ _ _ h => h) (Or.inl ⟨by rfl, ?_⟩) ?_ ?_ ?_
  (rotate_left; ·(intro w'; go_simp; with_reducible rfl)); (rotate_left; ·(simp only [Act.put, pq_z40]; rfl))
  refine pu_z40 25 (some 70) ?_ mz40_26 rfl rfl (by kernel_rfl) (fun _ _ _ h => h) (Or.inl ⟨by rfl, ?_⟩) ?_ ?_ ?_
  (rotate_left; ·(intro w'; go_simp; with_reducible rfl)); (rotate_left; ·(simp only [Act.put, pq_z40]; rfl))
  refine pu_z40 26 (some 71) ?_ mz40_27 rfl rfl (by kernel_rfl) (fun _ _ _ h => h) (Or.inl ⟨by rfl, ?_⟩) ?_ ?_ ?_
  (rotate_left; ·(intro w'; go_simp; with_reducible rfl)); (rotate_left; ·(simp only [Act.put, pq_z40]; rfl))
  refine pu_z40 27 (some 72) ?_ mz40_28 rfl rfl (by kernel_rfl) (fun _ _ _ h => h) (Or.inl ⟨by rfl, ?_⟩) ?_ ?_ ?_
  (rotate_left; ·(intro w'; go_simp; with_reducible rfl)); (rotate_left; ·(simp only [Act.put, pq_z40]; rfl))
  refine pu_z40 28 (some 73) ?_ mz40_29 rfl rfl (by kernel_rfl) (fun _ _ _ h => h) (Or.inl ⟨by rfl, ?_⟩) ?_ ?_ ?_
  (rotate_left; ·(intro w'; go_simp; with_reducible rfl)); (rotate_left; ·(simp only [Act.put, pq_z40]; rfl))
  refine pu_z40 29 (some 74) ?_ mz40_30 rfl rfl (by kernel_rfl) (fun _ _ _ h => h) (Or.inl ⟨by rfl, ?_⟩) ?_ ?_ ?_
  (rotate_left; ·(intro w'; go_simp; with_reducible rfl)); (rotate_left; ·(simp only [Act.put, pq_z40]; rfl))
  refine pu_z40 30 (some 75) ?_ mz40_31 rfl rfl (by kernel_rfl) (fun _ _ _ h => h) (Or.inl ⟨by rfl, ?_⟩) ?_ ?_ ?_
  (rotate_left; ·(intro w'; go_simp; with_reducible rfl)); (rotate_left; ·(simp only [Act.put, pq_z40]; rfl))
  refine pu_z40 31 (some 76) ?_ mz40_32 rfl rfl (by kernel_rfl) (fun _ _ _ h => h) (Or.inl ⟨by rfl, ?_⟩) ?_ ?_ ?_
  (rotate_left; ·(intro w'; go_simp; with_reducible rfl)); (rotate_left; ·(simp only [Act.put, pq_z40]; rfl))
  refine pu_z40 32 (some 77) ?_ mz40_33 rfl rfl (by kernel_rfl) (fun _ _ _ h => h) (Or.inl ⟨by rfl, ?_⟩) ?_ ?_ ?_
  (rotate_left; ·(intro w'; go_simp; with_reducible rfl)); (rotate_left; ·(simp only [Act.put, pq_z40]; rfl))
  refine one_ (i := 33) (N := some 78) mz40_34 rfl rfl (by kernel_rfl) (by decide) (fun K hK => ?_)
  obtain ⟨t0, t1, t2, t3, t4, t5⟩ := hHeld
  refine goes_ Try.func83 (by kernel_rfl) rfl #[.slice Aq xs.length cq, .int .i64 d] (by rfl) rfl rfl (by simp only [List.map_toArray, List.map_cons, List.map_nil]; rfl) ?_
  with_reducible refine (spec_l00Has.calls k2 Aq cq xs d h2 _ (Kd.C_below HCQ.out t5) HLQ.out E11.out).mono ?_
  rintro e w11 ⟨rfl, hd⟩
  refine ⟨_, rfl, ?_⟩
  have hb := hd.below
  clear hd
  have u0 := (hb.cell (World.block_lt_of_cell? _ _ t0)).trans t0
  have u1 := (hb.cell (World.block_lt_of_cell? _ _ t1)).trans t1
  have u2 := (hb.cell (World.block_lt_of_cell? _ _ t2)).trans t2
  have u3 := (hb.cell (World.block_lt_of_cell? _ _ t3)).trans t3
  have u4 := (hb.cell (World.block_lt_of_cell? _ _ t4)).trans t4
  have u5 := below_step t5 hb
  clear t0 t1 t2 t3 t4 t5 hb
  refine hK.out _ _ ⟨u0, u1, u2, u3, u4, u5⟩ (fun hHeld => ?_)
  clear hK K
  refine norm_ (a' := ?_) ?_ ?_
  (rotate_left; ·(show Act.put _ (some 78) _ = _; simp only [Act.put, pq_z40]; rfl))
  refine pu_z40 34 (some 79) ?_ mz40_35 rfl rfl (by kernel_rfl) (fun _ _ _ h => h) (Or.inl ⟨by rfl, ?_⟩) ?_ ?_ ?_
  (rotate_left; ·(intro w'; go_simp; with_reducible rfl)); (rotate_left; ·(simp only [Act.put, pq_z40]; rfl))
  refine pu_z40 35 (some 80) ?_ mz40_36 rfl rfl (by kernel_rfl) (fun _ _ _ h => h) (Or.inl ⟨by rfl, ?_⟩) ?_ ?_ ?_
  (rotate_left; ·(intro w'; go_simp; with_reducible rfl)); (rotate_left; ·(simp only [Act.put, pq_z40]; rfl))
  refine done_ (by kernel_rfl) ?_
  obtain ⟨t0, t1, t2, t3, t4, t5⟩ := hHeld
  have hb := t5
  clear t0 t1 t2 t3 t4 t5
  cases h2 with
  | true =>
   have g := H.out
   clear H
   rw [if_pos rfl] at g
   have H := Aside0.mk g
   clear g
   clear hBA0 hBA1 hBR0 hBR1 hBR2 hBR3
   replace BA := Aside0.mk (blk_below BA.out hb)
   replace BR := Aside0.mk (blk_below BR.out hb)
   replace HB := Aside0.mk (below_step HB.out hb)
   replace HO8 := Aside0.mk (Kd.R_below HO8.out hb)
   replace HO9 := Aside0.mk (Kd.R_below HO9.out hb)
   clear hb hy0 hx1
   go_wp2_with fail
   go_roundg k2
   case measure => omega
   case rel => exact ⟨xs, i + 1, rfl, H, HO8, HO9, BA, BR, HB⟩
  | false =>
   have g := H.out
   clear H
   rw [if_neg (by decide)] at g
   have H := Aside0.mk g
   clear g
   clear hBA0 hBA1 hBR0 hBR1 hBR2 hBR3
   replace BA := Aside0.mk (blk_below BA.out hb)
   replace BR := Aside0.mk (blk_below BR.out hb)
   replace HB := Aside0.mk (below_step HB.out hb)
   replace HO8 := Aside0.mk (Kd.R_below HO8.out hb)
   replace HO9 := Aside0.mk (Kd.R_below HO9.out hb)
   clear hb hy0 hx1
   have hsm : xs.length < 17592186044416 := by
    by_cases hs : xs.length < 17592186044416
    case pos => exact hs
    have := H.out
    rw [if_neg hs] at this
    cases this
   have g := H.out
   clear H
   rw [if_pos hsm] at g
   have H := Aside0.mk g
   clear g
   go_wp2_with (first | ((with_reducible refine gate_builtin (b := .append) (xs := #[.tmp 81, .tmp 83]) rfl ?_); at_builtin; refine Kd.R_append (Kd.int .i64) (w0 := w) w.heap.size rfl (.tmp 81) (.tmp 83) 34 2 (.int .i64 0) 8 rfl Try.underlying34 info2 rfl (by decide) (by omega) (.slice Aq xs.length cq) xs d [.int .i64 d] (fun j => some j ≠ (Value.slice (some ae) S.length cv).ownBlock) (fun _ => False) rfl rfl ?aP (fun _ hk => hk.elim) ?aF ?aO ?aB ?aS ?aL ?_; (case aP => exact rfl); (case aB => exact HB.out); (case aF => exact (fun j hk => Kd.fresh' (Kd.R_lt HO9.out) j hk)); (case aO => exact HO8.out); (case aS => exact below_size HB.out); (case aL => omega); intro v3 w13 ho hb hg hat; have n1 := Aside0.mk (Kd.R_after (ok := (fun _ => True)) (Kd.R_mono HO9.out (fun _ hk => ⟨trivial, hk⟩)) hg hat); have n2 := Aside0.mk (blk_grown BA.out hg (Kd.R_ne HO8.out BA.out (by decide))); have n3 := Aside0.mk (blk_grown BR.out hg (Kd.R_ne HO8.out BR.out (by decide))); have n4 := Aside0.mk hb; have n5 := Aside0.mk ho; clear HO8 HO9 BA BR HB ho hb hg hat))
   go_roundg k2
   case measure => omega
   case rel => exact ⟨xs ++ [d], i + 1, rfl, H, n5, ⟨Kd.R_mono n1.out (fun _ hk => hk.2)⟩, n2, n3, n4⟩
end Go.Proofs.Ytkadeelplnkpgaa.Q
