/- Walks and plain laws of one claim, several texts in one. -/
import Derived.Test.YtkadeelplnkpgaaGreatQ0
import Derived.Test.YtkadeelplnkpgaaGreatQf45
import Derived.Test.YtkadeelplnkpgaaGreatQf24
import Derived.Test.YtkadeelplnkpgaaGreatQf16
import Derived.Test.YtkadeelplnkpgaaGreatWBMore
namespace Go.Proofs.YtkadeelplnkpgaaGreat.Q
open Go.RowKit Go.Proofs.YtkadeelplnkpgaaGreatW.PrintWords Go.Proofs.YtkadeelplnkpgaaGreatW.PrintLast Go.Proofs.YtkadeelplnkpgaaGreatW.PrintMore
attribute [local go_sem] max2_int min2_int max_two min_two max_three min_three max_four min_four   -- for this text's walks alone
set_option linter.unusedVariables false
set_option linter.unusedSimpArgs false
/-! ### laws_toBucketS: function 25 -/
def laws_toBucketS.l0 : Nat → List (S66) → List (S68) → Int → Option ((List (S68)))
 | 0, _, _, _ => none
 | k + 1, x0, x3, x4 => if x4 < (x0.length : Int) then (if 0 ≤ x4 then ((laws_toBucket.f k ((rd_T66 x0 x4).f0) ((rd_T66 x0 x4).f1) ((rd_T66 x0 x4).f2)).bind fun bt309 => (if x4 < (x3.length : Int) then (laws_toBucketS.l0 k x0 (x3.set (x4 : Int).toNat (⟨bt309.1, bt309.2.1, bt309.2.2⟩ : S68)) (wrap64 (x4 + 1))) else (none))) else (none)) else (some x3)
def laws_toBucketS.f (k : Nat) (l0 : List (S66)) : Option ((List (S68))) := if 0 ≤ (l0.length : Int) then (if ((l0.length : Int) : Int).toNat ≤ 7036874417766 then (laws_toBucketS.l0 k l0 (List.replicate ((l0.length : Int) : Int).toNat z68) 0) else (none)) else (none)
set_option maxHeartbeats 8000000 in
set_option maxRecDepth 100000 in
theorem laws_toBucketS.calls (k : Nat) (A0 : Option Addr) (c0 : Nat) (l0 : List (S66)) (r : List (S68)) (w : World) (hr0 : Kd.C k66 w A0 l0.length l0) (hc0 : l0.length ≤ c0) (h : laws_toBucketS.f k l0 = some r) :
  Calls Tryz.prog 25 #[.slice A0 l0.length c0] w fun e w' => ∃ v0_ : Value, e = .returned (v0_) ∧ Kd.S k68 68 w' w.heap.size (fun _ => True) v0_ r ∧ Below w.heap.size w w' := by
 have hu66 := Tryz.underlying66
 have hu68 := Tryz.underlying68
 have HR0 := Aside0.mk hr0
 have HC0 := Aside0.mk hc0
 clear hr0 hc0
 have HB := Aside0.mk (Below.refl w.heap.size w)
 have H : (if 0 ≤ (l0.length : Int) then (if ((l0.length : Int) : Int).toNat ≤ 7036874417766 then (laws_toBucketS.l0 k l0 (List.replicate ((l0.length : Int) : Int).toNat z68) 0) else (none)) else (none)) = some r := h
 clear h
 by_cases c2 : 0 ≤ (l0.length : Int)
 ·rw [if_pos c2] at H
  have c2b0 := eq_true c2
  have c2b1 : decide (0 ≤ (l0.length : Int)) = true := decide_eq_true c2
  clear c2
  by_cases c3 : ((l0.length : Int) : Int).toNat ≤ 7036874417766
  ·rw [if_pos c3] at H
   have c3b0 := eq_true c3
   have c3b1 : decide (((l0.length : Int) : Int).toNat ≤ 7036874417766) = true := decide_eq_true c3
   clear c3
   obtain ⟨y305, hy305⟩ : ∃ y_ : List (S68), y_ = (List.replicate ((l0.length : Int) : Int).toNat z68) := ⟨_, rfl⟩
   replace H : (laws_toBucketS.l0 k l0 y305 0) = some r := by first | (rw [hy305]; with_reducible exact H) | (have H2_ := (Option.bind_some _ _).symm.trans H; rw [hy305]; with_reducible exact H2_) | (have H2_ := (Option.bind_some _ _).symm.trans H; with_reducible exact H2_) | with_reducible exact H | (rw [hy305]; exact H) | exact H
   have Ny305 := Aside0.mk hy305
   clear hy305
   have H' := Aside0.mk H
   clear H
   go_enter Tryz.func25, Tryz.ntmps25
   go_wp2_with (first | ((with_reducible refine gate_dst (N := 7) rfl ?_); refine Kd.S_make k68 _ 68 rfl (N := 7) rfl 33 _ _ rfl (l0.length : Int) rfl rfl Tryz.underlying33 (.agg #[(.int .i64 0), (.int .i64 0), (.slice none 0 0)]) 40 info68 rfl (by decide) (by omega) z68 (ok := fun _ => True) (okp := fun _ => True) (k68_mkM _ _ _ z68 (Kd.R_nil _ _ _ _ _)) (fun _ hk => hk) trivial (of_decide_eq_true (by assumption)) (Nat.le_trans (Nat.mul_le_mul_right _ (of_decide_eq_true (by assumption) : (l0.length : Int).toNat ≤ 7036874417766)) (by omega)) (Below.refl _ _) (Nat.le_refl _) ?_; intro v306 w4 ho5 hb hg_ hnew_; clear hg_ hnew_; (first | rw [← Ny305.out] at ho5 | (simp only [Int.reduceToNat] at ho5; rw [← Ny305.out] at ho5)); have n0_ := Aside0.mk (Kd.S_lower ho5 (below_size (by repeat first | exact HB.out | apply below_alloc | apply pw_below_drewN | apply below_drew1))); have n1_ := Aside0.mk (below_step (by repeat first | exact HB.out | apply below_alloc | apply pw_below_drewN | apply below_drew1) hb); clear HB; have HO307 := n0_; have HB := n1_; clear n0_ n1_; clear hb ho5))
   go_loopg [4] k (fun kq v4 w' => ∃ (x3_1 : List (S68)) (x4_1 : Int), v4 = .int .i64 x4_1 ∧ Aside0 (laws_toBucketS.l0 kq l0 x3_1 x4_1 = some r) ∧ Aside0 (kq ≤ k) ∧ Aside0 (Kd.S k68 68 w' w.heap.size (fun _ => True) v306 x3_1) ∧ Aside0 (Below w.heap.size w w'))
   case atStart => exact ⟨(y305), (0), (by first | rfl | (simp; done) | (simp [*]; done)), H', ⟨Nat.le_refl _⟩, ⟨by (with_reducible repeat (first | apply Kd.S_alloc | apply Kd.S_drewN | apply Kd.S_drew)); exact HO307.out⟩, ⟨by repeat first | exact HB.out | apply below_alloc | apply pw_below_drewN | apply below_drew1⟩⟩
   case round =>
    clear H'
    try clear c2
    try clear c2b0
    try clear c2b1
    try clear p2
    try clear c3
    try clear c3b0
    try clear c3b1
    obtain ⟨x3_1, x4_1, rfl, HA, HK1, HO_3, HB⟩ := hrel
    cases gk with
    | zero => exact absurd HA.out (by simp [laws_toBucketS.l0])
    | succ k1 =>
     have H := HA.out
     clear HA
     simp only [laws_toBucketS.l0] at H
     by_cases c6 : x4_1 < (l0.length : Int)
     ·rw [if_pos c6] at H
      have c6b0 : decide (x4_1 < (l0.length : Int)) = true := decide_eq_true c6
      clear c6
      by_cases c7 : 0 ≤ x4_1
      ·rw [if_pos c7] at H
       have c7b0 : decide (0 ≤ x4_1) = true := decide_eq_true c7
       clear c7
       replace H := Option.bind_eq_some_iff.mp H
       obtain ⟨⟨t309, t310, t311⟩, A80, H⟩ := H
       replace H : (if x4_1 < (x3_1.length : Int) then (laws_toBucketS.l0 k1 l0 (x3_1.set (x4_1 : Int).toNat (⟨t309, t310, t311⟩ : S68)) (wrap64 (x4_1 + 1))) else (none)) = some r := H
       have A8 := Aside0.mk A80
       clear A80
       by_cases c9 : x4_1 < (x3_1.length : Int)
       ·rw [if_pos c9] at H
        have c9b0 : decide (x4_1 < (x3_1.length : Int)) = true := decide_eq_true c9
        clear c9
        obtain ⟨y314, hy314⟩ : ∃ y_ : List (S68), y_ = (x3_1.set (x4_1 : Int).toNat (⟨t309, t310, t311⟩ : S68)) := ⟨_, rfl⟩
        replace H : (laws_toBucketS.l0 k1 l0 y314 (wrap64 (x4_1 + 1))) = some r := by first | (rw [hy314]; with_reducible exact H) | (have H2_ := (Option.bind_some _ _).symm.trans H; rw [hy314]; with_reducible exact H2_) | (have H2_ := (Option.bind_some _ _).symm.trans H; with_reducible exact H2_) | with_reducible exact H | (rw [hy314]; exact H) | exact H
        have Ny314 := Aside0.mk hy314
        clear hy314
        have H' := Aside0.mk H
        clear H
        have p308 : 0 ≤ (x4_1 : Int) := of_decide_eq_true (by assumption)
        have q308 : x4_1 < (l0.length : Int) := of_decide_eq_true (by assumption)
        obtain ⟨ad308, A308_2, c308_2, e308, hx308_0, hx308_1, hx308_2, hl308_2, hi308_2⟩ := at_T66 HR0.out x4_1 p308 q308
        cases e308
        replace hx308_0 := (HB.out.cell (World.block_lt_of_cell? w _ hx308_0)).trans hx308_0
        replace hx308_1 := (HB.out.cell (World.block_lt_of_cell? w _ hx308_1)).trans hx308_1
        replace hx308_2 := (HB.out.cell (World.block_lt_of_cell? w _ hx308_2)).trans hx308_2
        have HR308_2 := Aside0.mk hi308_2
        have HC308_2 := Aside0.mk hl308_2
        clear hi308_2 hl308_2
        replace p308 := eq_true p308
        replace q308 := eq_true q308
        go_wp2_with (first | ((with_reducible refine gate_callee (f := 45) rfl ?_); refine goesL_ (some 20) rfl rfl Tryz.func45 (by kernel_rfl) rfl #[.agg #[.int .i64 ((rd_T66 l0 x4_1).f0), .int .i64 ((rd_T66 l0 x4_1).f1), .slice A308_2 ((rd_T66 l0 x4_1).f2).length c308_2]] rfl (by (try simp only [List.map_toArray, List.map_cons, List.map_nil]); first | done | rfl | (simp only [List.length_drop, List.length_take]; rfl)) ?_; (with_reducible refine (laws_toBucket.calls k1 ((rd_T66 l0 x4_1).f0) ((rd_T66 l0 x4_1).f1) _ _ ((rd_T66 l0 x4_1).f2) t309 t310 t311 _ ?side1 ?side2 A8.out).mono ?_); (case side1 => repeat (first | exact (Kd.C_below HR308_2.out HB.out) | (with_reducible refine Kd.C_alloc ?_ _) | (with_reducible refine Kd.C_drewN ?_ _) | (with_reducible refine Kd.C_drew ?_))); (case side2 => exact HC308_2.out); rintro e w11 ⟨v312, rfl, ho0, hb⟩; refine ⟨_, rfl, ?_⟩; have n0_ := Aside0.mk (Kd.S_elder' (by (with_reducible repeat (first | apply Kd.S_alloc | apply Kd.S_drewN | apply Kd.S_drew)); exact HO_3.out) (Kd.R_base ho0) hb); have n1_ := Aside0.mk (Kd.R_lower ho0 (below_size (by repeat first | exact HB.out | apply below_alloc | apply pw_below_drewN | apply below_drew1))); have n2_ := Aside0.mk (below_step (by repeat first | exact HB.out | apply below_alloc | apply pw_below_drewN | apply below_drew1) hb); clear HO_3; clear HB; have HO_3 := n0_; have HO313 := n1_; have HB := n2_; clear n0_ n1_ n2_; (try clear hb); (try clear hb2); (try clear hk); (try clear hi); (try clear ho0); have p10 : 0 ≤ (x4_1 : Int) := of_decide_eq_true (by assumption); have q10 : (x4_1 : Int) < ((x3_1.length : Int) : Int) := of_decide_eq_true (by assumption); obtain ⟨go10, co10, eo10, gb10, gl10, cl10, HG10⟩ := Kd.S_form HO_3.out (by omega); (first | cases eo10 | (injection eo10 with ea_ en_ ec_; (first | subst ea_ | (injection ea_ with ea_; subst ea_)); subst ec_; clear en_)); have GB10 := Aside0.mk gb10; have GG10 := Aside0.mk HG10; clear gb10 gl10 HG10; obtain ⟨_, ce10, hcl10, hM10, hcc10, hfr10, _, _⟩ := Kd.S_elem HO_3.out z68 (x4_1 : Int) p10 q10; obtain ⟨ve10_2, rfl, ge10_2⟩ := k68_openM hM10; have hx10_0 : w11.cell? ⟨go10, (x4_1 : Int).toNat * 3, none⟩ = some (.int .i64 ((rd_T68 x3_1 x4_1).f0)) := hcc10 0 _ rfl; have hx10_1 : w11.cell? ⟨go10, (x4_1 : Int).toNat * 3 + 1, none⟩ = some (.int .i64 ((rd_T68 x3_1 x4_1).f1)) := hcc10 1 _ rfl; have hx10_2 : w11.cell? ⟨go10, (x4_1 : Int).toNat * 3 + 2, none⟩ = some (ve10_2) := hcc10 2 _ rfl; have hf10_0 : w11.frozen? ⟨go10, (x4_1 : Int).toNat * 3, none⟩ = false := hfr10 0; have hf10_1 : w11.frozen? ⟨go10, (x4_1 : Int).toNat * 3 + 1, none⟩ = false := hfr10 1; have hf10_2 : w11.frozen? ⟨go10, (x4_1 : Int).toNat * 3 + 2, none⟩ = false := hfr10 2; clear hcl10 hcc10 hfr10 hM10; replace p10 := eq_true p10; replace q10 := eq_true q10; have n_ := Aside0.mk (Kd.S_mono (ok' := (fun k_ => some k_ ≠ (v312 : Value).ownBlock)) HO_3.out (fun k_ hk => hk.2)); clear HO_3; have HO_3 := n_; clear n_; have HX12 := Aside0.mk (show Kd.S k68 68 w11 w.heap.size (fun k_ => ((fun _ => True)) k_ ∧ ¬ ((fun k_ => some k_ = (v312 : Value).ownBlock)) k_) (.slice (some ⟨go10, 0, none⟩) x3_1.length co10) x3_1 from (by (with_reducible repeat (first | apply Kd.S_alloc | apply Kd.S_drewN | apply Kd.S_drew)); exact Kd.S_mono HO_3.out (fun k_ hk => ⟨trivial, fun e_ => hk e_⟩))); obtain ⟨oki12, ce12, hcl12, hM12, hcc12, hfr12, hoki12, hH12⟩ := Kd.S_elem HX12.out z68 (x4_1 : Int) (of_decide_eq_true (by assumption)) (by have h_ : (x4_1 : Int) < ((x3_1.length : Int) : Int) := of_decide_eq_true (by assumption); first | exact h_ | (have e_ := (Kd.S_reads' HO_3.out).1; omega) | simpa using h_); obtain ⟨ve12_2, rfl, ge12_2⟩ := k68_openM hM12; have HP12 := Kd.S_seg hH12 (of_decide_eq_true (by assumption)) (by have h_ : (x4_1 : Int) < ((x3_1.length : Int) : Int) := of_decide_eq_true (by assumption); first | exact h_ | (have e_ := (Kd.S_reads' HO_3.out).1; omega) | simpa using h_) (seg := [.int .i64 t309, .int .i64 t310, v312]) (j := 0) (show 3 ≤ 3 from by decide) (x' := (⟨t309, t310, t311⟩ : S68)) (k68_mkM _ _ _ (⟨t309, t310, t311⟩ : S68) (Kd.R_mono (Kd.R_tight rfl (Kd.R_mono (ok' := fun k_ => ((fun _ => True)) k_ ∧ k_ ≠ go10) (Kd.R_apart' (HO313.out) (Kd.S_typed HO_3.out) (by decide)) (fun k_ hk => ⟨trivial, fun e_ => (hk.2) (by rw [e_]; rfl)⟩))) (fun _ h_ => Or.inr (h_)))) (fun _ hk => hk) (fun k_ hk_ => ((Kd.R_mono (ok' := fun k_ => ((fun _ => True)) k_ ∧ k_ ≠ go10) (Kd.R_apart' (HO313.out) (Kd.S_typed HO_3.out) (by decide)) (fun k_ hk => ⟨trivial, fun e_ => (hk.2) (by rw [e_]; rfl)⟩))).1 k_ hk_.symm); have hx12_0 := hcc12 0 _ rfl; (try simp only [show (k68).sz = 3 from rfl, Nat.mul_one, Nat.add_zero] at hx12_0); have hf12_0 := hfr12 0; (try simp only [show (k68).sz = 3 from rfl, Nat.mul_one, Nat.add_zero] at hf12_0); have hx12_1 := hcc12 1 _ rfl; (try simp only [show (k68).sz = 3 from rfl, Nat.mul_one, Nat.add_zero] at hx12_1); have hf12_1 := hfr12 1; (try simp only [show (k68).sz = 3 from rfl, Nat.mul_one, Nat.add_zero] at hf12_1); have hx12_2 := hcc12 2 _ rfl; (try simp only [show (k68).sz = 3 from rfl, Nat.mul_one, Nat.add_zero] at hx12_2); have hf12_2 := hfr12 2; (try simp only [show (k68).sz = 3 from rfl, Nat.mul_one, Nat.add_zero] at hf12_2); clear hcl12 hcc12 hfr12 hM12 hoki12 hH12) | ((with_reducible refine gate_store (t := 68) (p := 21) rfl ?_); refine store_event (t := 68) (p := 21) (v := ?vo_w13) (w1 := (((w11.setCell ⟨go10, (x4_1 : Int).toNat * 3, none⟩ (.int .i64 t309)).setCell ⟨go10, (x4_1 : Int).toNat * 3 + 1, none⟩ (.int .i64 t310)).setCell ⟨go10, (x4_1 : Int).toNat * 3 + 2, none⟩ (v312))) ?hg ?ho ?hn ?hr ?_; (case ho => rfl); (case hg => rfl); (case hn => rfl); (case hr => first | (go_simp; done) | (go_simp; rfl) | (obtain ⟨va_, vc_, ev_⟩ := Kd.R_slice HO313.out; subst ev_; go_simp; done) | (obtain ⟨va_, vc_, ev_⟩ := Kd.R_slice HO313.out; subst ev_; go_simp; rfl)); intro w13 hw; have hg : w11.grownBy w13 (some go10) := (by rw [hw]; exact HP12.2); have hp_ : Kd.S k68 68 w13 w.heap.size (fun _ => True) (.slice (some ⟨go10, 0, none⟩) x3_1.length co10) y314 := (by rw [hw, Ny314.out]; exact HP12.1); clear HP12; have n0_ := Aside0.mk (hp_); have n1_ := Aside0.mk ((by rw [hw]; exact below_set (below_set (below_set (HB.out) GB10.out) GB10.out) GB10.out : Below w.heap.size w w13)); clear HO_3; clear HB; clear HO313; have HO_3 := n0_; have HB := n1_; clear n0_ n1_; clear hg hw hp_))
        go_roundg k1
        case measure => have := HK1.out; omega
        case rel => exact ⟨(y314), (wrap64 (x4_1 + 1)), (by first | rfl | (simp; done) | (simp [*]; done)), H', ⟨by have := HK1.out; omega⟩, ⟨by (with_reducible repeat (first | apply Kd.S_alloc | apply Kd.S_drewN | apply Kd.S_drew)); exact HO_3.out⟩, ⟨by repeat first | exact HB.out | apply below_alloc | apply pw_below_drewN | apply below_drew1⟩⟩
       ·rw [if_neg c9] at H
        exact absurd H (by simp)
      ·rw [if_neg c7] at H
       exact absurd H (by simp)
     ·rw [if_neg c6] at H
      have c6b0 : decide (x4_1 < (l0.length : Int)) = false := decide_eq_false c6
      clear c6
      obtain rfl := Option.some.inj H
      go_wp2
      go_ret
      exact ⟨_, by first | rfl | (simp [*, errW_none, errW_some] <;> rfl), by (with_reducible repeat (first | apply Kd.S_alloc | apply Kd.S_drewN | apply Kd.S_drew)); exact HO_3.out, by repeat first | exact HB.out | apply below_alloc | apply pw_below_drewN | apply below_drew1⟩
  ·rw [if_neg c3] at H
   exact absurd H (by simp)
 ·rw [if_neg c2] at H
  exact absurd H (by simp)

/-! ### laws_toTree: function 7 -/
def laws_toTree.f (k : Nat) (l0_0 : List (S74)) (l0_1 : List (S66)) : Option ((List (S72)) × (List (S68))) := (laws_toDeviceS.f k l0_0).bind fun t318 => ((laws_toBucketS.f k l0_1).bind fun t321 => (some (t318, t321)))
set_option maxHeartbeats 8000000 in
set_option maxRecDepth 100000 in
theorem laws_toTree.calls (k : Nat) (A0_0 : Option Addr) (c0_0 : Nat) (l0_0 : List (S74)) (A0_1 : Option Addr) (c0_1 : Nat) (l0_1 : List (S66)) (r1 : List (S72)) (r2 : List (S68)) (w : World) (hr0_0 : Kd.C k74 w A0_0 l0_0.length l0_0) (hc0_0 : l0_0.length ≤ c0_0) (hr0_1 : Kd.C k66 w A0_1 l0_1.length l0_1) (hc0_1 : l0_1.length ≤ c0_1) (h : laws_toTree.f k l0_0 l0_1 = some (r1, r2)) :
  Calls Tryz.prog 7 #[.agg #[.slice A0_0 l0_0.length c0_0, .slice A0_1 l0_1.length c0_1]] w fun e w' => ∃ v0_ v1_ : Value, e = .returned (.agg #[v0_, v1_]) ∧ Kd.R k72 72 w' w.heap.size (fun _ => True) v0_ r1 ∧ Kd.S k68 68 w' w.heap.size (fun _ => True) v1_ r2 ∧ Below w.heap.size w w' := by
 have hu25 := Tryz.underlying25
 have hu35 := Tryz.underlying35
 have HR0_0 := Aside0.mk hr0_0
 have HC0_0 := Aside0.mk hc0_0
 clear hr0_0 hc0_0
 have HR0_1 := Aside0.mk hr0_1
 have HC0_1 := Aside0.mk hc0_1
 clear hr0_1 hc0_1
 have HB := Aside0.mk (Below.refl w.heap.size w)
 have H : ((laws_toDeviceS.f k l0_0).bind fun t318 => ((laws_toBucketS.f k l0_1).bind fun t321 => (some (t318, t321)))) = some (r1, r2) := h
 clear h
 replace H := Option.bind_eq_some_iff.mp H
 obtain ⟨t318, A20, H⟩ := H
 replace H : ((laws_toBucketS.f k l0_1).bind fun t321 => (some (t318, t321))) = some (r1, r2) := H
 have A2 := Aside0.mk A20
 clear A20
 replace H := Option.bind_eq_some_iff.mp H
 obtain ⟨t321, A30, H⟩ := H
 replace H : (some (t318, t321)) = some (r1, r2) := H
 have A3 := Aside0.mk A30
 clear A30
 simp only [Option.some.injEq, Prod.mk.injEq] at H
 obtain ⟨rfl, rfl⟩ := H
 go_enter Tryz.func7, Tryz.ntmps7
 go_wp2_with (first | ((with_reducible refine gate_dst (N := 1) rfl ?_); refine box_event ?hg (N := 1) ?hd (cs := #[.slice A0_0 l0_0.length c0_0, .slice A0_1 l0_1.length c0_1]) (t := 25) ?hr ?_; (case hd => rfl); (case hg => rfl); (case hr => first | (go_simp; done) | (go_simp; rfl)); intro gb315 hg w4 hbox hb; have n0_ := Aside0.mk (below_step (by repeat first | exact HB.out | apply below_alloc | apply pw_below_drewN | apply below_drew1) hb); have n1_ := Aside0.mk (hbox); have n2_ := Aside0.mk ((by rw [hg]; exact (below_size (by repeat first | exact HB.out | apply below_alloc | apply pw_below_drewN | apply below_drew1)) : w.heap.size ≤ gb315)); have n3_ := Aside0.mk ((by rw [hg]; exact (below_size (by repeat first | exact HB.out | apply below_alloc | apply pw_below_drewN | apply below_drew1)) : w.heap.size ≤ gb315)); clear HB; have HB := n0_; have BK315 := n1_; have GW315 := n2_; have GE315 := n3_; clear n0_ n1_ n2_ n3_; clear hb hbox hg) | ((with_reducible refine gate_dst (N := 2) rfl ?_); refine box_event ?hg (N := 2) ?hd (cs := #[.slice none 0 0, .slice none 0 0]) (t := 35) ?hr ?_; (case hd => rfl); (case hg => rfl); (case hr => first | (go_simp; done) | (go_simp; rfl)); intro gb316 hg w5 hbox hb; have n0_ := Aside0.mk (blk_below (g := gb315) (o := .cells #[.slice A0_0 l0_0.length c0_0, .slice A0_1 l0_1.length c0_1] 25 (0, 0)) (by (with_reducible repeat first | apply blk_drewN | apply blk_drew | apply blk_alloc); exact BK315.out) hb); have n1_ := Aside0.mk (below_step (by repeat (first | (with_reducible first | exact HB.out | apply below_alloc | apply pw_below_drewN | apply below_drew1 | refine below_set ?_ GE315.out) | exact HB.out)) hb); have n2_ := Aside0.mk (hbox); have n3_ := Aside0.mk ((by rw [hg]; exact (below_size (by repeat (first | (with_reducible first | exact HB.out | apply below_alloc | apply pw_below_drewN | apply below_drew1 | refine below_set ?_ GE315.out) | exact HB.out))) : w.heap.size ≤ gb316)); have n4_ := Aside0.mk ((by rw [hg]; exact (below_size (by repeat (first | (with_reducible first | exact HB.out | apply below_alloc | apply pw_below_drewN | apply below_drew1 | refine below_set ?_ GE315.out) | exact HB.out))) : w.heap.size ≤ gb316)); have n5_ := Aside0.mk ((by rw [hg]; exact Nat.ne_of_lt (blk_lt (g := gb315) (o := .cells #[.slice A0_0 l0_0.length c0_0, .slice A0_1 l0_1.length c0_1] 25 (0, 0)) (by (with_reducible repeat first | apply blk_drewN | apply blk_drew | apply blk_alloc); exact BK315.out)) : gb315 ≠ gb316)); have n6_ := Aside0.mk ((by rw [hg]; exact Nat.ne_of_gt (blk_lt (g := gb315) (o := .cells #[.slice A0_0 l0_0.length c0_0, .slice A0_1 l0_1.length c0_1] 25 (0, 0)) (by (with_reducible repeat first | apply blk_drewN | apply blk_drew | apply blk_alloc); exact BK315.out)) : gb316 ≠ gb315)); clear BK315; clear HB; have BK315 := n0_; have HB := n1_; have BK316 := n2_; have GW316 := n3_; have GE316 := n4_; have NB315_316 := n5_; have NB316_315 := n6_; clear n0_ n1_ n2_ n3_ n4_ n5_ n6_; clear hb hbox hg) | ((with_reducible refine gate_dst (N := 3) rfl ?_); refine box_event ?hg (N := 3) ?hd (cs := #[.slice none 0 0, .slice none 0 0]) (t := 35) ?hr ?_; (case hd => rfl); (case hg => rfl); (case hr => first | (go_simp; done) | (go_simp; rfl)); intro gb317 hg w6 hbox hb; have n0_ := Aside0.mk (blk_below (g := gb315) (o := .cells #[.slice A0_0 l0_0.length c0_0, .slice A0_1 l0_1.length c0_1] 25 (0, 0)) (by (with_reducible repeat first | apply blk_drewN | apply blk_drew | apply blk_alloc); exact BK315.out) hb); have n1_ := Aside0.mk (blk_below (g := gb316) (o := .cells #[.slice none 0 0, .slice none 0 0] 35 (0, 0)) (by (with_reducible repeat first | apply blk_drewN | apply blk_drew | apply blk_alloc); exact BK316.out) hb); have n2_ := Aside0.mk (below_step (by repeat (first | (with_reducible first | exact HB.out | apply below_alloc | apply pw_below_drewN | apply below_drew1 | refine below_set ?_ GE315.out | refine below_set ?_ GE316.out) | exact HB.out)) hb); have n3_ := Aside0.mk (hbox); have n4_ := Aside0.mk ((by rw [hg]; exact (below_size (by repeat (first | (with_reducible first | exact HB.out | apply below_alloc | apply pw_below_drewN | apply below_drew1 | refine below_set ?_ GE315.out | refine below_set ?_ GE316.out) | exact HB.out))) : w.heap.size ≤ gb317)); have n5_ := Aside0.mk ((by rw [hg]; exact (below_size (by repeat (first | (with_reducible first | exact HB.out | apply below_alloc | apply pw_below_drewN | apply below_drew1 | refine below_set ?_ GE315.out | refine below_set ?_ GE316.out) | exact HB.out))) : w.heap.size ≤ gb317)); have n6_ := Aside0.mk ((by rw [hg]; exact Nat.ne_of_lt (blk_lt (g := gb315) (o := .cells #[.slice A0_0 l0_0.length c0_0, .slice A0_1 l0_1.length c0_1] 25 (0, 0)) (by (with_reducible repeat first | apply blk_drewN | apply blk_drew | apply blk_alloc); exact BK315.out)) : gb315 ≠ gb317)); have n7_ := Aside0.mk ((by rw [hg]; exact Nat.ne_of_gt (blk_lt (g := gb315) (o := .cells #[.slice A0_0 l0_0.length c0_0, .slice A0_1 l0_1.length c0_1] 25 (0, 0)) (by (with_reducible repeat first | apply blk_drewN | apply blk_drew | apply blk_alloc); exact BK315.out)) : gb317 ≠ gb315)); have n8_ := Aside0.mk ((by rw [hg]; exact Nat.ne_of_lt (blk_lt (g := gb316) (o := .cells #[.slice none 0 0, .slice none 0 0] 35 (0, 0)) (by (with_reducible repeat first | apply blk_drewN | apply blk_drew | apply blk_alloc); exact BK316.out)) : gb316 ≠ gb317)); have n9_ := Aside0.mk ((by rw [hg]; exact Nat.ne_of_gt (blk_lt (g := gb316) (o := .cells #[.slice none 0 0, .slice none 0 0] 35 (0, 0)) (by (with_reducible repeat first | apply blk_drewN | apply blk_drew | apply blk_alloc); exact BK316.out)) : gb317 ≠ gb316)); clear BK315; clear BK316; clear HB; have BK315 := n0_; have BK316 := n1_; have HB := n2_; have BK317 := n3_; have GW317 := n4_; have GE317 := n5_; have NB315_317 := n6_; have NB317_315 := n7_; have NB316_317 := n8_; have NB317_316 := n9_; clear n0_ n1_ n2_ n3_ n4_ n5_ n6_ n7_ n8_ n9_; clear hb hbox hg; have hnb7 := NB315_316.out; have hnc7 := NB316_315.out; have hnb8 := NB315_317.out; have hnc8 := NB317_315.out; have hcz9_0 : w6.cell? ⟨gb315, 0, none⟩ = some (.slice A0_0 l0_0.length c0_0) := (blk_cell BK315.out 0).trans rfl; have hcz9_1 : w6.cell? ⟨gb315, 1, none⟩ = some (.slice A0_1 l0_1.length c0_1) := (blk_cell BK315.out 1).trans rfl; have hfz9_0 := blk_frozen BK315.out 0; have hfz9_1 := blk_frozen BK315.out 1) | ((with_reducible refine gate_callee (f := 24) rfl ?_); refine goesL_ (some 6) rfl rfl Tryz.func24 (by kernel_rfl) rfl #[.slice A0_0 l0_0.length c0_0] rfl (by (try simp only [List.map_toArray, List.map_cons, List.map_nil]); first | done | rfl | (simp only [List.length_drop, List.length_take]; rfl)) ?_; (with_reducible refine (laws_toDeviceS.calls k _ _ l0_0 t318 _ ?side1 ?side2 A2.out).mono ?_); (case side1 => repeat (first | exact (Kd.C_below HR0_0.out HB.out) | (with_reducible refine Kd.C_alloc ?_ _) | (with_reducible refine Kd.C_drewN ?_ _) | (with_reducible refine Kd.C_drew ?_))); (case side2 => exact HC0_0.out); rintro e w10 ⟨v319, rfl, ho0, hb⟩; refine ⟨_, rfl, ?_⟩; have n0_ := Aside0.mk (Kd.R_lower ho0 (below_size (by repeat (first | (with_reducible first | exact HB.out | apply below_alloc | apply pw_below_drewN | apply below_drew1 | refine below_set ?_ GE315.out | refine below_set ?_ GE316.out | refine below_set ?_ GE317.out) | exact HB.out)))); have n1_ := Aside0.mk (blk_below (g := gb315) (o := .cells #[.slice A0_0 l0_0.length c0_0, .slice A0_1 l0_1.length c0_1] 25 (0, 0)) (by (with_reducible repeat first | apply blk_drewN | apply blk_drew | apply blk_alloc); exact BK315.out) hb); have n2_ := Aside0.mk (blk_below (g := gb316) (o := .cells #[.slice none 0 0, .slice none 0 0] 35 (0, 0)) (by (with_reducible repeat first | apply blk_drewN | apply blk_drew | apply blk_alloc); exact BK316.out) hb); have n3_ := Aside0.mk (blk_below (g := gb317) (o := .cells #[.slice none 0 0, .slice none 0 0] 35 (0, 0)) (by (with_reducible repeat first | apply blk_drewN | apply blk_drew | apply blk_alloc); exact BK317.out) hb); have n4_ := Aside0.mk (below_step (by repeat (first | (with_reducible first | exact HB.out | apply below_alloc | apply pw_below_drewN | apply below_drew1 | refine below_set ?_ GE315.out | refine below_set ?_ GE316.out | refine below_set ?_ GE317.out) | exact HB.out)) hb); clear BK315; clear BK316; clear BK317; clear HB; have HO320 := n0_; have BK315 := n1_; have BK316 := n2_; have BK317 := n3_; have HB := n4_; clear n0_ n1_ n2_ n3_ n4_; (try clear hb); (try clear hb2); (try clear hk); (try clear hi); (try clear ho0); obtain ⟨Ao11, co11, eo11⟩ := Kd.R_slice HO320.out; subst eo11; have hnb12 := NB317_316.out; have hnc12 := NB316_317.out; have hcz13_0 : w10.cell? ⟨gb317, 0, none⟩ = some (.slice none 0 0) := (blk_cell BK317.out 0).trans rfl; have hcz13_1 : w10.cell? ⟨gb317, 1, none⟩ = some (.slice none 0 0) := (blk_cell BK317.out 1).trans rfl; have hfz13_0 := blk_frozen BK317.out 0; have hfz13_1 := blk_frozen BK317.out 1; have hcz14_0 : w10.cell? ⟨gb315, 0, none⟩ = some (.slice A0_0 l0_0.length c0_0) := (blk_cell BK315.out 0).trans rfl; have hcz14_1 : w10.cell? ⟨gb315, 1, none⟩ = some (.slice A0_1 l0_1.length c0_1) := (blk_cell BK315.out 1).trans rfl; have hfz14_0 := blk_frozen BK315.out 0; have hfz14_1 := blk_frozen BK315.out 1) | ((with_reducible refine gate_callee (f := 25) rfl ?_); refine goesL_ (some 10) rfl rfl Tryz.func25 (by kernel_rfl) rfl #[.slice A0_1 l0_1.length c0_1] rfl (by (try simp only [List.map_toArray, List.map_cons, List.map_nil]); first | done | rfl | (simp only [List.length_drop, List.length_take]; rfl)) ?_; (with_reducible refine (laws_toBucketS.calls k _ _ l0_1 t321 _ ?side1 ?side2 A3.out).mono ?_); (case side1 => exact Kd.C_below HR0_1.out (by repeat (first | (with_reducible first | exact HB.out | apply below_alloc | apply pw_below_drewN | apply below_drew1 | refine below_set ?_ GE315.out | refine below_set ?_ GE316.out | refine below_set ?_ GE317.out) | exact HB.out))); (case side2 => exact HC0_1.out); rintro e w15 ⟨v322, rfl, ho0, hb⟩; refine ⟨_, rfl, ?_⟩; have n0_ := Aside0.mk (Kd.R_below (by (with_reducible repeat (first | apply Kd.R_alloc | apply Kd.R_drewN | apply Kd.R_drew)); exact (Kd.R_mono (Kd.R_far (p := ⟨gb317, 0, none⟩) (Kd.R_types HO320.out BK317.out (by decide)) (fun _ hk => hk.2) (.slice Ao11 t318.length co11)) (fun _ h_ => h_.1))) hb); have n1_ := Aside0.mk (Kd.S_lower ho0 (below_size (by repeat (first | (with_reducible first | exact HB.out | apply below_alloc | apply pw_below_drewN | apply below_drew1 | refine below_set ?_ GE315.out | refine below_set ?_ GE316.out | refine below_set ?_ GE317.out) | exact HB.out)))); have n2_ := Aside0.mk (blk_below (g := gb315) (o := .cells #[.slice A0_0 l0_0.length c0_0, .slice A0_1 l0_1.length c0_1] 25 (0, 0)) (by (with_reducible repeat first | apply blk_drewN | apply blk_drew | apply blk_alloc); refine blk_far ?_ NB315_317.out _; (with_reducible repeat first | apply blk_drewN | apply blk_drew | apply blk_alloc); exact BK315.out) hb); have n3_ := Aside0.mk (blk_below (g := gb316) (o := .cells #[.slice none 0 0, .slice none 0 0] 35 (0, 0)) (by (with_reducible repeat first | apply blk_drewN | apply blk_drew | apply blk_alloc); refine blk_far ?_ NB316_317.out _; (with_reducible repeat first | apply blk_drewN | apply blk_drew | apply blk_alloc); exact BK316.out) hb); have n4_ := Aside0.mk (blk_below (g := gb317) (o := .cells #[.slice Ao11 t318.length co11, .slice none 0 0] 35 (0, 0)) (by (with_reducible repeat first | apply blk_drewN | apply blk_drew | apply blk_alloc); refine blk_put (cs := #[.slice none 0 0, .slice none 0 0]) ?_ 0 _ rfl; (with_reducible repeat first | apply blk_drewN | apply blk_drew | apply blk_alloc); exact BK317.out) hb); have n5_ := Aside0.mk (below_step (by repeat (first | (with_reducible first | exact HB.out | apply below_alloc | apply pw_below_drewN | apply below_drew1 | refine below_set ?_ GE315.out | refine below_set ?_ GE316.out | refine below_set ?_ GE317.out) | exact HB.out)) hb); clear HO320; clear BK315; clear BK316; clear BK317; clear HB; have HO320 := n0_; have HO323 := n1_; have BK315 := n2_; have BK316 := n3_; have BK317 := n4_; have HB := n5_; clear n0_ n1_ n2_ n3_ n4_ n5_; (try clear hb); (try clear hb2); (try clear hk); (try clear hi); (try clear ho0); obtain ⟨Ao16, co16, eo16⟩ := Kd.S_slice HO323.out; subst eo16; have hcz17_0 : w15.cell? ⟨gb317, 0, none⟩ = some (.slice Ao11 t318.length co11) := (blk_cell BK317.out 0).trans rfl; have hcz17_1 : w15.cell? ⟨gb317, 1, none⟩ = some (.slice none 0 0) := (blk_cell BK317.out 1).trans rfl; have hfz17_0 := blk_frozen BK317.out 0; have hfz17_1 := blk_frozen BK317.out 1; have hcz18_0 : w15.cell? ⟨gb316, 0, none⟩ = some (.slice none 0 0) := (blk_cell BK316.out 0).trans rfl; have hcz18_1 : w15.cell? ⟨gb316, 1, none⟩ = some (.slice none 0 0) := (blk_cell BK316.out 1).trans rfl; have hfz18_0 := blk_frozen BK316.out 0; have hfz18_1 := blk_frozen BK316.out 1))
 refine bodyPost_ret (results_cell_row rfl _ _ gb316 35 #[.slice Ao11 t318.length co11, .slice Ao16 t321.length co16] (0, 0) _ rfl (by (with_reducible repeat first | apply blk_drewN | apply blk_drew | apply blk_alloc); refine blk_put (cs := #[.slice Ao11 t318.length co11, .slice none 0 0]) ?_ 1 _ rfl; (with_reducible repeat first | apply blk_drewN | apply blk_drew | apply blk_alloc); refine blk_put (cs := #[.slice none 0 0, .slice none 0 0]) ?_ 0 _ rfl; (with_reducible repeat first | apply blk_drewN | apply blk_drew | apply blk_alloc); refine blk_far ?_ NB316_317.out _; (with_reducible repeat first | apply blk_drewN | apply blk_drew | apply blk_alloc); exact BK316.out) Tryz.underlying35 rfl (by kernel_rfl)) rfl ?_
 exact ⟨_, _, by first | rfl | (simp [*, errW_none, errW_some] <;> rfl), by (with_reducible repeat (first | apply Kd.R_alloc | apply Kd.R_drewN | apply Kd.R_drew)); exact Kd.R_mono (Kd.R_far (p := ⟨gb316, 1, none⟩) (Kd.R_far (p := ⟨gb316, 0, none⟩) (Kd.R_far (p := ⟨gb317, 1, none⟩) (Kd.R_types (Kd.R_types HO320.out BK317.out (by decide)) BK316.out (by decide)) (fun _ hk => hk.1.2) (.slice Ao16 t321.length co16)) (fun _ hk => hk.2) (.slice Ao11 t318.length co11)) (fun _ hk => hk.2) (.slice Ao16 t321.length co16)) (fun _ hk => trivial), by (with_reducible repeat (first | apply Kd.S_alloc | apply Kd.S_drewN | apply Kd.S_drew)); exact Kd.S_mono (Kd.S_far (p := ⟨gb316, 1, none⟩) (Kd.S_far (p := ⟨gb316, 0, none⟩) (Kd.S_far (p := ⟨gb317, 1, none⟩) (Kd.S_types (Kd.S_types HO323.out BK317.out (by decide)) BK316.out (by decide)) (fun _ hk => hk.1.2) (.slice Ao16 t321.length co16)) (fun _ hk => hk.2) (.slice Ao11 t318.length co11)) (fun _ hk => hk.2) (.slice Ao16 t321.length co16)) (fun _ hk => trivial), by repeat (first | (with_reducible first | exact HB.out | apply below_alloc | apply pw_below_drewN | apply below_drew1 | refine below_set ?_ GE315.out | refine below_set ?_ GE316.out | refine below_set ?_ GE317.out) | exact HB.out)⟩

end Go.Proofs.YtkadeelplnkpgaaGreat.Q

namespace Go.Proofs.YtkadeelplnkpgaaGreat.Q
open Go.RowKit Go.Proofs.YtkadeelplnkpgaaGreatW.PrintWords Go.Proofs.YtkadeelplnkpgaaGreatW.PrintLast Go.Proofs.YtkadeelplnkpgaaGreatW.PrintMore
set_option linter.unusedVariables false
/-- a topology that reads so -/
structure TreeC (w : World) (A0 : Option Addr) (c0 : Nat) (D : List (S72)) (A1 : Option Addr) (c1 : Nat) (B : List (S68)) : Prop where
 d : Kd.C k72 w A0 D.length D
 hd : D.length ≤ c0
 b : Kd.C k68 w A1 B.length B
 hb : B.length ≤ c1
theorem TreeC.below {w w' : World} {A0 A1 : Option Addr} {c0 c1 : Nat} {D : List (S72)} {B : List (S68)} (h : TreeC w A0 c0 D A1 c1 B) (hb : Below w.heap.size w w') : TreeC w' A0 c0 D A1 c1 B :=
 ⟨Kd.C_below h.d hb, h.hd, Kd.C_below h.b hb, h.hb⟩
theorem toTreeC.calls (k : Nat) (A0_0 : Option Addr) (c0_0 : Nat) (l0_0 : List (S74)) (A0_1 : Option Addr) (c0_1 : Nat) (l0_1 : List (S66)) (r1 : List (S72)) (r2 : List (S68)) (w : World) (hr0_0 : Kd.C k74 w A0_0 l0_0.length l0_0) (hc0_0 : l0_0.length ≤ c0_0) (hr0_1 : Kd.C k66 w A0_1 l0_1.length l0_1) (hc0_1 : l0_1.length ≤ c0_1) (h : laws_toTree.f k l0_0 l0_1 = some (r1, r2)) :
  Calls Tryz.prog 7 #[.agg #[.slice A0_0 l0_0.length c0_0, .slice A0_1 l0_1.length c0_1]] w fun e w' => ∃ (A0 : Option Addr) (c0 : Nat) (A1 : Option Addr) (c1 : Nat), e = .returned (.agg #[.slice A0 r1.length c0, .slice A1 r2.length c1]) ∧ TreeC w' A0 c0 r1 A1 c1 r2 ∧ Below w.heap.size w w' :=
 (laws_toTree.calls k A0_0 c0_0 l0_0 A0_1 c0_1 l0_1 r1 r2 w hr0_0 hc0_0 hr0_1 hc0_1 h).mono fun e w' ⟨v0, v1, he, h0, h1, hb⟩ => by
  obtain ⟨A0, c0, e0, hl0, hC0⟩ := Kd.R_reads h0
  obtain ⟨A1, c1, e1⟩ := Kd.S_slice h1
  subst e0 e1
  obtain ⟨-, hl1, hC1⟩ := Kd.S_reads' h1
  exact ⟨A0, c0, A1, c1, he, ⟨hC0, hl0, hC1, hl1⟩, hb⟩
/-- whole numbers that read so -/
structure IntsC (w : World) (A : Option Addr) (c : Nat) (l : List Int) : Prop where
 r : Kd.C (Kd.int .i64) w A l.length l
 h : l.length ≤ c
theorem IntsC.below {w w' : World} {A : Option Addr} {c : Nat} {l : List Int} (h : IntsC w A c l) (hb : Below w.heap.size w w') : IntsC w' A c l := ⟨Kd.C_below h.r hb, h.h⟩
theorem toIntsC.calls (k : Nat) (A0 : Option Addr) (c0 : Nat) (l0 : List Int) (r1 : List Int) (w : World) (hr0 : Kd.C (Kd.int .i64) w A0 l0.length l0) (hc0 : l0.length ≤ c0) (h : laws_toInt64S.f k l0 = some r1) :
  Calls Tryz.prog 16 #[.slice A0 l0.length c0] w fun e w' => ∃ (A : Option Addr) (c : Nat), e = .returned (.slice A r1.length c) ∧ IntsC w' A c r1 ∧ Below w.heap.size w w' :=
 (laws_toInt64S.calls k A0 c0 l0 r1 w hr0 hc0 h).mono fun e w' ⟨v0, he, h0, hb⟩ => by
  obtain ⟨A, c, e0, hl0, hC0⟩ := Kd.R_reads h0
  subst e0
  exact ⟨A, c, he, ⟨hC0, hl0⟩, hb⟩

end Go.Proofs.YtkadeelplnkpgaaGreat.Q

namespace Go.Proofs.YtkadeelplnkpgaaGreat.Q
open Go.RowKit Go.Proofs.YtkadeelplnkpgaaGreatW.PrintWords Go.Proofs.YtkadeelplnkpgaaGreatW.PrintLast Go.Proofs.YtkadeelplnkpgaaGreatW.PrintMore
attribute [local go_sem] max2_int min2_int max_two min_two max_three min_three max_four min_four   -- for this text's walks alone
set_option linter.unusedVariables false
set_option linter.unusedSimpArgs false
/-! ### laws_eqInt64S: function 10 -/
def laws_eqInt64S.l0 : Nat → List Int → List Int → Int → Option (Bool)
 | 0, _, _, _ => none
 | k + 1, x0, x1, x5 => if x5 < (x0.length : Int) then (if 0 ≤ x5 then (if x5 < (x1.length : Int) then (if (rd x0 x5) = (rd x1 x5) then (laws_eqInt64S.l0 k x0 x1 (wrap64 (x5 + 1))) else (some false)) else (none)) else (none)) else (some true)
def laws_eqInt64S.f (k : Nat) (l0 : List Int) (l1 : List Int) : Option (Bool) := if (l0.length : Int) = (l1.length : Int) then (laws_eqInt64S.l0 k l0 l1 0) else (some false)
set_option maxHeartbeats 8000000 in
set_option maxRecDepth 100000 in
theorem laws_eqInt64S.calls (k : Nat) (A0 : Option Addr) (c0 : Nat) (l0 : List Int) (A1 : Option Addr) (c1 : Nat) (l1 : List Int) (r : Bool) (w : World) (hr0 : Kd.C (Kd.int .i64) w A0 l0.length l0) (hc0 : l0.length ≤ c0) (hr1 : Kd.C (Kd.int .i64) w A1 l1.length l1) (hc1 : l1.length ≤ c1) (h : laws_eqInt64S.f k l0 l1 = some r) :
  Calls Tryz.prog 10 #[.slice A0 l0.length c0, .slice A1 l1.length c1] w fun e w' => e = .returned (.bool r) ∧ Drawn0 w w' := by
 have HR0 := Aside0.mk hr0
 have HC0 := Aside0.mk hc0
 clear hr0 hc0
 have HR1 := Aside0.mk hr1
 have HC1 := Aside0.mk hc1
 clear hr1 hc1
 have H : (if (l0.length : Int) = (l1.length : Int) then (laws_eqInt64S.l0 k l0 l1 0) else (some false)) = some r := h
 clear h
 by_cases c3 : (l0.length : Int) = (l1.length : Int)
 ·rw [if_pos c3] at H
  have c3b0 : ((l0.length : Int) == (l1.length : Int)) = true := beq_iff_eq.mpr c3
  have c3b1 : ((l0.length : Int) != (l1.length : Int)) = false := bne_eq_false_iff_eq.mpr c3
  have c3b2 : (l0.length == l1.length) = true := by first | simpa using c3 | (simp at c3 ⊢; omega)
  clear c3
  have H' := Aside0.mk H
  clear H
  go_enter Tryz.func10, Tryz.ntmps10
  go_wp2
  repeat (go_quiet (fail); try go_wp2)
  go_loopg [5] k (fun kq v5 w' => ∃ (x5_1 : Int), v5 = .int .i64 x5_1 ∧ Aside0 (laws_eqInt64S.l0 kq l0 l1 x5_1 = some r) ∧ Aside0 (kq ≤ k) ∧ Drawn0 w w')
  case atStart => exact ⟨(0), (by first | rfl | (simp; done) | (simp [*]; done)), H', ⟨Nat.le_refl _⟩, by repeat (first | exact Drawn0.refl _ | apply Drawn0.step)⟩
  case round =>
   clear H'
   try clear c1
   try clear p2
   try clear c3
   try clear c3b0
   try clear c3b1
   try clear c3b2
   obtain ⟨x5_1, rfl, HA, HK1, ⟨m1, rfl⟩⟩ := hrel
   cases gk with
   | zero => exact absurd HA.out (by simp [laws_eqInt64S.l0])
   | succ k1 =>
    have H := HA.out
    clear HA
    simp only [laws_eqInt64S.l0] at H
    by_cases c4 : x5_1 < (l0.length : Int)
    ·rw [if_pos c4] at H
     have c4b0 : decide (x5_1 < (l0.length : Int)) = true := decide_eq_true c4
     clear c4
     by_cases c5 : 0 ≤ x5_1
     ·rw [if_pos c5] at H
      have c5b0 : decide (0 ≤ x5_1) = true := decide_eq_true c5
      clear c5
      by_cases c6 : x5_1 < (l1.length : Int)
      ·rw [if_pos c6] at H
       have c6b0 : decide (x5_1 < (l1.length : Int)) = true := decide_eq_true c6
       clear c6
       by_cases c7 : (rd l0 x5_1) = (rd l1 x5_1)
       ·rw [if_pos c7] at H
        have c7b0 : ((rd l0 x5_1) == (rd l1 x5_1)) = true := beq_iff_eq.mpr c7
        have c7b1 : ((rd l0 x5_1) != (rd l1 x5_1)) = false := bne_eq_false_iff_eq.mpr c7
        clear c7
        have H' := Aside0.mk H
        clear H
        have p412 : 0 ≤ (x5_1 : Int) := of_decide_eq_true (by assumption)
        have q412 : x5_1 < (l0.length : Int) := of_decide_eq_true (by assumption)
        obtain ⟨ad412, e412, hx412_0⟩ := Kd.at_int HR0.out x5_1 p412 q412
        cases e412
        replace p412 := eq_true p412
        replace q412 := eq_true q412
        have p413 : 0 ≤ (x5_1 : Int) := of_decide_eq_true (by assumption)
        have q413 : x5_1 < (l1.length : Int) := of_decide_eq_true (by assumption)
        obtain ⟨ad413, e413, hx413_0⟩ := Kd.at_int HR1.out x5_1 p413 q413
        cases e413
        replace p413 := eq_true p413
        replace q413 := eq_true q413
        go_wp2
        repeat (go_quiet (fail); try go_wp2)
        go_roundg k1
        case measure => have := HK1.out; omega
        case rel => exact ⟨(wrap64 (x5_1 + 1)), (by first | rfl | (simp; done) | (simp [*]; done)), H', ⟨by have := HK1.out; omega⟩, by repeat (first | exact Drawn0.refl _ | apply Drawn0.step)⟩
       ·rw [if_neg c7] at H
        have c7b0 : ((rd l0 x5_1) == (rd l1 x5_1)) = false := beq_eq_false_iff_ne.mpr c7
        have c7b1 : ((rd l0 x5_1) != (rd l1 x5_1)) = true := bne_iff_ne.mpr c7
        obtain rfl := Option.some.inj H
        have p412 : 0 ≤ (x5_1 : Int) := of_decide_eq_true (by assumption)
        have q412 : x5_1 < (l0.length : Int) := of_decide_eq_true (by assumption)
        obtain ⟨ad412, e412, hx412_0⟩ := Kd.at_int HR0.out x5_1 p412 q412
        cases e412
        replace p412 := eq_true p412
        replace q412 := eq_true q412
        have p413 : 0 ≤ (x5_1 : Int) := of_decide_eq_true (by assumption)
        have q413 : x5_1 < (l1.length : Int) := of_decide_eq_true (by assumption)
        obtain ⟨ad413, e413, hx413_0⟩ := Kd.at_int HR1.out x5_1 p413 q413
        cases e413
        replace p413 := eq_true p413
        replace q413 := eq_true q413
        go_wp2
        repeat (go_quiet (fail); try go_wp2)
        go_ret
        exact ⟨by first | rfl | (simp; done) | (simp [*]; done), by repeat (first | exact Drawn0.refl _ | apply Drawn0.step)⟩
      ·rw [if_neg c6] at H
       exact absurd H (by simp)
     ·rw [if_neg c5] at H
      exact absurd H (by simp)
    ·rw [if_neg c4] at H
     have c4b0 : decide (x5_1 < (l0.length : Int)) = false := decide_eq_false c4
     clear c4
     obtain rfl := Option.some.inj H
     go_wp2
     repeat (go_quiet (fail); try go_wp2)
     go_ret
     exact ⟨by first | rfl | (simp; done) | (simp [*]; done), by repeat (first | exact Drawn0.refl _ | apply Drawn0.step)⟩
 ·rw [if_neg c3] at H
  have c3b0 : ((l0.length : Int) == (l1.length : Int)) = false := beq_eq_false_iff_ne.mpr c3
  have c3b1 : ((l0.length : Int) != (l1.length : Int)) = true := bne_iff_ne.mpr c3
  have c3b2 : (l0.length == l1.length) = false := by first | simpa using c3 | (simp at c3 ⊢; omega)
  obtain rfl := Option.some.inj H
  go_enter Tryz.func10, Tryz.ntmps10
  go_wp2
  repeat (go_quiet (fail); try go_wp2)
  go_ret
  exact ⟨by first | rfl | (simp; done) | (simp [*]; done), by repeat (first | exact Drawn0.refl _ | apply Drawn0.step)⟩

/-! ### laws_eqDevice: function 50 -/
def laws_eqDevice.f (a0_0 : Int) (a0_1 : Int) (a1_0 : Int) (a1_1 : Int) : Option (Bool) := if a0_0 = a1_0 then (if a0_1 = a1_1 then (some true) else (some false)) else (some false)
set_option maxHeartbeats 8000000 in
set_option maxRecDepth 100000 in
theorem laws_eqDevice.calls (a0_0 : Int) (a0_1 : Int) (a1_0 : Int) (a1_1 : Int) (r : Bool) (w : World) (h : laws_eqDevice.f a0_0 a0_1 a1_0 a1_1 = some r) :
  Calls Tryz.prog 50 #[.agg #[.int .i64 a0_0, .int .i64 a0_1], .agg #[.int .i64 a1_0, .int .i64 a1_1]] w fun e w' => e = .returned (.bool r) ∧ Below w.heap.size w w' := by
 unfold laws_eqDevice.f at h
 by_cases c : a0_0 = a1_0
 case neg =>
  rw [if_neg c] at h
  obtain rfl := Option.some.inj h
  have eb : (a0_0 != a1_0) = true := by simpa using c
  have ec : (a0_0 == a1_0) = false := by simpa using c
  clear c h
  go_enter Tryz.func50, Tryz.ntmps50
  go_wp2_with fail
  go_ret
  exact ⟨rfl, below_alloc (below_alloc (Below.refl _ _) _) _⟩
 rw [if_pos c] at h
 have eb0 : (a0_0 != a1_0) = false := by simpa using c
 have ec0 : (a0_0 == a1_0) = true := by simpa using c
 clear c
 by_cases c : a0_1 = a1_1
 case neg =>
  rw [if_neg c] at h
  obtain rfl := Option.some.inj h
  have eb : (a0_1 != a1_1) = true := by simpa using c
  have ec : (a0_1 == a1_1) = false := by simpa using c
  clear c h
  go_enter Tryz.func50, Tryz.ntmps50
  go_wp2_with fail
  go_ret
  exact ⟨rfl, below_alloc (below_alloc (Below.refl _ _) _) _⟩
 rw [if_pos c] at h
 have eb1 : (a0_1 != a1_1) = false := by simpa using c
 have ec1 : (a0_1 == a1_1) = true := by simpa using c
 clear c
 obtain rfl := Option.some.inj h
 clear h
 go_enter Tryz.func50, Tryz.ntmps50
 go_wp2_with fail
 go_ret
 exact ⟨rfl, below_alloc (below_alloc (Below.refl _ _) _) _⟩

/-! ### laws_eqDeviceS: function 29 -/
def laws_eqDeviceS.l0 : Nat → List (S72) → List (S72) → Int → Option (Bool)
 | 0, _, _, _ => none
 | k + 1, x0, x1, x5 => if x5 < (x0.length : Int) then (if 0 ≤ x5 then (if x5 < (x1.length : Int) then ((laws_eqDevice.f ((rd_T72 x0 x5).f0) ((rd_T72 x0 x5).f1) ((rd_T72 x1 x5).f0) ((rd_T72 x1 x5).f1)).bind fun t418 => (if t418 = true then (laws_eqDeviceS.l0 k x0 x1 (wrap64 (x5 + 1))) else (some false))) else (none)) else (none)) else (some true)
def laws_eqDeviceS.f (k : Nat) (l0 : List (S72)) (l1 : List (S72)) : Option (Bool) := if (l0.length : Int) = (l1.length : Int) then (laws_eqDeviceS.l0 k l0 l1 0) else (some false)
set_option maxHeartbeats 8000000 in
set_option maxRecDepth 100000 in
theorem laws_eqDeviceS.calls (k : Nat) (A0 : Option Addr) (c0 : Nat) (l0 : List (S72)) (A1 : Option Addr) (c1 : Nat) (l1 : List (S72)) (r : Bool) (w : World) (hr0 : Kd.C k72 w A0 l0.length l0) (hc0 : l0.length ≤ c0) (hr1 : Kd.C k72 w A1 l1.length l1) (hc1 : l1.length ≤ c1) (h : laws_eqDeviceS.f k l0 l1 = some r) :
  Calls Tryz.prog 29 #[.slice A0 l0.length c0, .slice A1 l1.length c1] w fun e w' => e = .returned (.bool r) ∧ Below w.heap.size w w' := by
 have HR0 := Aside0.mk hr0
 have HR1 := Aside0.mk hr1
 have hm := Kd.C_max hr0
 clear hr0 hc0 hr1 hc1
 unfold laws_eqDeviceS.f at h
 by_cases cl : (l0.length : Int) = (l1.length : Int)
 case neg =>
  rw [if_neg cl] at h
  obtain rfl := Option.some.inj h
  have cb : ((l0.length : Int) != (l1.length : Int)) = true := by simpa using cl
  have cn : (l0.length == l1.length) = false := by simp; omega
  clear h cl
  go_enter Tryz.func29, Tryz.ntmps29
  go_wp2_with fail
  go_ret
  exact ⟨rfl, Below.refl _ _⟩
 rw [if_pos cl] at h
 have cb : ((l0.length : Int) != (l1.length : Int)) = false := by simpa using cl
 have cn : (l0.length == l1.length) = true := by simp; omega
 have H0 := Aside0.mk h
 clear h
 go_enter Tryz.func29, Tryz.ntmps29
 go_wp2_with fail
 clear cb cn
 go_loopg [5] k (fun gg s5 wr => ∃ x : Int, s5 = .int .i64 x ∧ Aside0 (laws_eqDeviceS.l0 gg l0 l1 x = some r) ∧ Aside0 (gg ≤ k) ∧ Aside0 (Below w.heap.size w wr))
 case atStart => exact ⟨0, rfl, H0, ⟨Nat.le_refl _⟩, ⟨Below.refl _ _⟩⟩
 case round =>
  clear H0
  obtain ⟨x, rfl, H1, HGG, HB⟩ := hrel
  cases gk with
  | zero => exact absurd H1.out (by simp [laws_eqDeviceS.l0])
  | succ k1 =>
  have H := H1.out
  clear H1
  simp only [laws_eqDeviceS.l0] at H
  by_cases c : x < (l0.length : Int)
  case neg =>
   rw [if_neg c] at H
   have HF := Aside0.mk (Option.some.inj H)
   have cb := decide_eq_false c
   clear H c cl
   go_wp2_with fail
   go_ret
   exact ⟨by rw [← HF.out]; rfl, HB.out⟩
  rw [if_pos c] at H
  by_cases c0 : 0 ≤ x
  case neg => rw [if_neg c0] at H; cases H
  by_cases c2 : x < (l1.length : Int)
  case neg => omega
  rw [if_pos c0, if_pos c2] at H
  obtain ⟨da, rfl, ha0, ha1⟩ := at_T72 HR0.out x c0 c
  obtain ⟨db, rfl, hb0, hb1⟩ := at_T72 HR1.out x c0 c2
  replace ha0 := (HB.out.cell (World.block_lt_of_cell? w _ ha0)).trans ha0
  replace ha1 := (HB.out.cell (World.block_lt_of_cell? w _ ha1)).trans ha1
  replace hb0 := (HB.out.cell (World.block_lt_of_cell? w _ hb0)).trans hb0
  replace hb1 := (HB.out.cell (World.block_lt_of_cell? w _ hb1)).trans hb1
  rw [show wrap64 (x + 1) = x + 1 from by unfold wrap64; omega] at H
  have q0 := eq_true c0
  have q1 := eq_true c
  have q2 := eq_true c2
  generalize rd_T72 l0 x = a at H ha0 ha1
  generalize rd_T72 l1 x = b at H hb0 hb1
  obtain ⟨t, E, H'⟩ := Option.bind_eq_some_iff.1 H
  clear H
  replace E := Aside0.mk E
  have H := Aside0.mk H'
  clear H' cl c2
  go_wp2_with fail
  have HK := Aside0.mk (show ∀ w', Below wr.heap.size wr w' → (fun w' => w'.cell? (da.add (x.toNat * 2)) = some (.int .i64 a.f0) ∧ w'.cell? ⟨(da.add (x.toNat * 2)).block, (da.add (x.toNat * 2)).off + 1, none⟩ = some (.int .i64 a.f1) ∧ w'.cell? (db.add (x.toNat * 2)) = some (.int .i64 b.f0) ∧ w'.cell? ⟨(db.add (x.toNat * 2)).block, (db.add (x.toNat * 2)).off + 1, none⟩ = some (.int .i64 b.f1) ∧ Below wr.heap.size wr w') w' from fun w' h => ⟨(h.cell (World.block_lt_of_cell? _ _ ha0)).trans ha0, (h.cell (World.block_lt_of_cell? _ _ ha1)).trans ha1, (h.cell (World.block_lt_of_cell? _ _ hb0)).trans hb0, (h.cell (World.block_lt_of_cell? _ _ hb1)).trans hb1, h⟩)
  go_region_held3 (fun w' => w'.cell? (da.add (x.toNat * 2)) = some (.int .i64 a.f0) ∧ w'.cell? ⟨(da.add (x.toNat * 2)).block, (da.add (x.toNat * 2)).off + 1, none⟩ = some (.int .i64 a.f1) ∧ w'.cell? (db.add (x.toNat * 2)) = some (.int .i64 b.f0) ∧ w'.cell? ⟨(db.add (x.toNat * 2)).block, (db.add (x.toNat * 2)).off + 1, none⟩ = some (.int .i64 b.f1) ∧ Below wr.heap.size wr w') (first | exact HK.out _ hbb | exact HK.out _ (below_drew1 (Below.refl _ _)) | exact HK.out _ (Below.refl _ _)) (first | (go_at_call 50; go_split_ands; (with_reducible refine (laws_eqDevice.calls a.f0 a.f1 b.f0 b.f1 t _ E.out).mono ?_); rintro e w3 ⟨rfl, hb⟩; have hbb : Below wr.heap.size wr _ := below_step (by assumption) hb))
  replace HB := Aside0.mk (below_step HB.out hbb)
  clear HK hbb ha0 ha1 hb0 hb1
  cases t with
  | false =>
   have HF := Aside0.mk (show r = false from by have := H.out; rw [if_neg (by decide)] at this; exact (Option.some.inj this).symm)
   go_wp2_with fail
   go_ret
   exact ⟨by rw [HF.out]; rfl, HB.out⟩
  | true =>
  have h := H.out
  clear H
  rw [if_pos rfl] at h
  have H := Aside0.mk h
  clear h
  go_wp2_with fail
  go_roundg k1
  case measure => omega
  case rel => exact ⟨x + 1, by first | rfl | go_num, H, ⟨Nat.le_trans (Nat.le_succ _) HGG.out⟩, HB⟩

/-! ### laws_eqBucket: function 51 -/
def laws_eqBucket.f (k : Nat) (a0_0 : Int) (a0_1 : Int) (l0_2 : List Int) (a1_0 : Int) (a1_1 : Int) (l1_2 : List Int) : Option (Bool) := if a0_0 = a1_0 then (if a0_1 = a1_1 then ((laws_eqInt64S.f k l0_2 l1_2).bind fun t421 => (if t421 = true then (some true) else (some false))) else (some false)) else (some false)
set_option maxHeartbeats 8000000 in
set_option maxRecDepth 100000 in
theorem laws_eqBucket.calls (k : Nat) (a0_0 : Int) (a0_1 : Int) (A0_2 : Option Addr) (c0_2 : Nat) (l0_2 : List Int) (a1_0 : Int) (a1_1 : Int) (A1_2 : Option Addr) (c1_2 : Nat) (l1_2 : List Int) (r : Bool) (w : World) (hr0_2 : Kd.C (Kd.int .i64) w A0_2 l0_2.length l0_2) (hc0_2 : l0_2.length ≤ c0_2) (hr1_2 : Kd.C (Kd.int .i64) w A1_2 l1_2.length l1_2) (hc1_2 : l1_2.length ≤ c1_2) (h : laws_eqBucket.f k a0_0 a0_1 l0_2 a1_0 a1_1 l1_2 = some r) :
  Calls Tryz.prog 51 #[.agg #[.int .i64 a0_0, .int .i64 a0_1, .slice A0_2 l0_2.length c0_2], .agg #[.int .i64 a1_0, .int .i64 a1_1, .slice A1_2 l1_2.length c1_2]] w fun e w' => e = .returned (.bool r) ∧ Below w.heap.size w w' := by
 have HA := Aside0.mk hr0_2
 have HCA := Aside0.mk hc0_2
 have HE := Aside0.mk hr1_2
 have HCE := Aside0.mk hc1_2
 clear hr0_2 hc0_2 hr1_2 hc1_2
 unfold laws_eqBucket.f at h
 by_cases c : a0_0 = a1_0
 case neg =>
  rw [if_neg c] at h
  obtain rfl := Option.some.inj h
  have eb : (a0_0 != a1_0) = true := by simpa using c
  have ec : (a0_0 == a1_0) = false := by simpa using c
  clear c h
  go_enter Tryz.func51, Tryz.ntmps51
  go_wp2_with fail
  go_ret
  exact ⟨rfl, below_alloc (below_alloc (Below.refl _ _) _) _⟩
 rw [if_pos c] at h
 have eb0 : (a0_0 != a1_0) = false := by simpa using c
 have ec0 : (a0_0 == a1_0) = true := by simpa using c
 clear c
 by_cases c : a0_1 = a1_1
 case neg =>
  rw [if_neg c] at h
  obtain rfl := Option.some.inj h
  have eb : (a0_1 != a1_1) = true := by simpa using c
  have ec : (a0_1 == a1_1) = false := by simpa using c
  clear c h
  go_enter Tryz.func51, Tryz.ntmps51
  go_wp2_with fail
  go_ret
  exact ⟨rfl, below_alloc (below_alloc (Below.refl _ _) _) _⟩
 rw [if_pos c] at h
 have eb1 : (a0_1 != a1_1) = false := by simpa using c
 have ec1 : (a0_1 == a1_1) = true := by simpa using c
 clear c
 have H := Aside0.mk h
 clear h
 have h := H.out
 clear H
 obtain ⟨t, E, h'⟩ := Option.bind_eq_some_iff.1 h
 clear h
 replace E := Aside0.mk E
 have H := Aside0.mk h'
 clear h'
 go_enter Tryz.func51, Tryz.ntmps51
 go_wp2_with fail
 have BA := Aside0.mk (blk_alloc (blk_new w (.cells #[.int .i64 a0_0, .int .i64 a0_1, .slice A0_2 l0_2.length c0_2] 68)) (.cells #[.int .i64 a1_0, .int .i64 a1_1, .slice A1_2 l1_2.length c1_2] 68))
 have BB := Aside0.mk (blk_new (w.alloc (.cells #[.int .i64 a0_0, .int .i64 a0_1, .slice A0_2 l0_2.length c0_2] 68)) (.cells #[.int .i64 a1_0, .int .i64 a1_1, .slice A1_2 l1_2.length c1_2] 68))
 have HB := Aside0.mk (below_alloc (below_alloc (Below.refl w.heap.size w) (.cells #[.int .i64 a0_0, .int .i64 a0_1, .slice A0_2 l0_2.length c0_2] 68)) (.cells #[.int .i64 a1_0, .int .i64 a1_1, .slice A1_2 l1_2.length c1_2] 68))
 have hs : (w.alloc (.cells #[.int .i64 a0_0, .int .i64 a0_1, .slice A0_2 l0_2.length c0_2] 68)).heap.size = w.heap.size + 1 := by unfold World.alloc; exact Array.size_push _
 rw [hs] at BB
 try rw [hs]
 clear hs
 generalize ((w.alloc (.cells #[.int .i64 a0_0, .int .i64 a0_1, .slice A0_2 l0_2.length c0_2] 68)).alloc (.cells #[.int .i64 a1_0, .int .i64 a1_1, .slice A1_2 l1_2.length c1_2] 68)) = w1 at BA BB HB ⊢
 generalize w.heap.size + 1 = gb at BB ⊢
 (with_reducible refine (laws_eqInt64S.calls k A0_2 c0_2 l0_2 A1_2 c1_2 l1_2 t _ (Kd.C_below HA.out HB.out) HCA.out (Kd.C_below HE.out HB.out) HCE.out E.out).mono ?_)
 rintro e w2 ⟨rfl, hd⟩
 have hb := hd.below
 clear hd
 replace BA := Aside0.mk (blk_below BA.out hb)
 replace BB := Aside0.mk (blk_below BB.out hb)
 replace HB := Aside0.mk (below_step HB.out hb)
 clear hb
 have hBA0 := (blk_cell BA.out 0).trans rfl
 have hBA1 := (blk_cell BA.out 1).trans rfl
 have hBA2 := (blk_cell BA.out 2).trans rfl
 have hBB0 := (blk_cell BB.out 0).trans rfl
 have hBB1 := (blk_cell BB.out 1).trans rfl
 have hBB2 := (blk_cell BB.out 2).trans rfl
 cases t with
 | false =>
  have HF := Aside0.mk (show r = false from by have := H.out; rw [if_neg (by decide)] at this; exact (Option.some.inj this).symm)
  go_wp2_with fail
  go_ret
  exact ⟨by rw [HF.out]; rfl, HB.out⟩
 | true =>
 have h := H.out
 clear H
 rw [if_pos rfl] at h
 have H := Aside0.mk h
 clear h
 have HF := Aside0.mk (Option.some.inj H.out)
 go_wp2_with fail
 go_ret
 exact ⟨by rw [← HF.out]; rfl, HB.out⟩

/-! ### laws_eqBucketS: function 30 -/
def laws_eqBucketS.l0 : Nat → List (S68) → List (S68) → Int → Option (Bool)
 | 0, _, _, _ => none
 | k + 1, x0, x1, x5 => if x5 < (x0.length : Int) then (if 0 ≤ x5 then (if x5 < (x1.length : Int) then ((laws_eqBucket.f k ((rd_T68 x0 x5).f0) ((rd_T68 x0 x5).f1) ((rd_T68 x0 x5).f2) ((rd_T68 x1 x5).f0) ((rd_T68 x1 x5).f1) ((rd_T68 x1 x5).f2)).bind fun t424 => (if t424 = true then (laws_eqBucketS.l0 k x0 x1 (wrap64 (x5 + 1))) else (some false))) else (none)) else (none)) else (some true)
def laws_eqBucketS.f (k : Nat) (l0 : List (S68)) (l1 : List (S68)) : Option (Bool) := if (l0.length : Int) = (l1.length : Int) then (laws_eqBucketS.l0 k l0 l1 0) else (some false)
set_option maxHeartbeats 8000000 in
set_option maxRecDepth 100000 in
theorem laws_eqBucketS.calls (k : Nat) (A0 : Option Addr) (c0 : Nat) (l0 : List (S68)) (A1 : Option Addr) (c1 : Nat) (l1 : List (S68)) (r : Bool) (w : World) (hr0 : Kd.C k68 w A0 l0.length l0) (hc0 : l0.length ≤ c0) (hr1 : Kd.C k68 w A1 l1.length l1) (hc1 : l1.length ≤ c1) (h : laws_eqBucketS.f k l0 l1 = some r) :
  Calls Tryz.prog 30 #[.slice A0 l0.length c0, .slice A1 l1.length c1] w fun e w' => e = .returned (.bool r) ∧ Below w.heap.size w w' := by
 have HR0 := Aside0.mk hr0
 have HR1 := Aside0.mk hr1
 have hm := Kd.C_max hr0
 clear hr0 hc0 hr1 hc1
 unfold laws_eqBucketS.f at h
 by_cases cl : (l0.length : Int) = (l1.length : Int)
 case neg =>
  rw [if_neg cl] at h
  obtain rfl := Option.some.inj h
  have cb : ((l0.length : Int) != (l1.length : Int)) = true := by simpa using cl
  have cn : (l0.length == l1.length) = false := by simp; omega
  clear h cl
  go_enter Tryz.func30, Tryz.ntmps30
  go_wp2_with fail
  go_ret
  exact ⟨rfl, Below.refl _ _⟩
 rw [if_pos cl] at h
 have cb : ((l0.length : Int) != (l1.length : Int)) = false := by simpa using cl
 have cn : (l0.length == l1.length) = true := by simp; omega
 have H0 := Aside0.mk h
 clear h
 go_enter Tryz.func30, Tryz.ntmps30
 go_wp2_with fail
 clear cb cn
 go_loopg [5] k (fun gg s5 wr => ∃ x : Int, s5 = .int .i64 x ∧ Aside0 (laws_eqBucketS.l0 gg l0 l1 x = some r) ∧ Aside0 (gg ≤ k) ∧ Aside0 (Below w.heap.size w wr))
 case atStart => exact ⟨0, rfl, H0, ⟨Nat.le_refl _⟩, ⟨Below.refl _ _⟩⟩
 case round =>
  clear H0
  obtain ⟨x, rfl, H1, HGG, HB⟩ := hrel
  cases gk with
  | zero => exact absurd H1.out (by simp [laws_eqBucketS.l0])
  | succ k1 =>
  have H := H1.out
  clear H1
  simp only [laws_eqBucketS.l0] at H
  by_cases c : x < (l0.length : Int)
  case neg =>
   rw [if_neg c] at H
   have HF := Aside0.mk (Option.some.inj H)
   have cb := decide_eq_false c
   clear H c cl
   go_wp2_with fail
   go_ret
   exact ⟨by rw [← HF.out]; rfl, HB.out⟩
  rw [if_pos c] at H
  by_cases c0 : 0 ≤ x
  case neg => rw [if_neg c0] at H; cases H
  by_cases c2 : x < (l1.length : Int)
  case neg => omega
  rw [if_pos c0, if_pos c2] at H
  obtain ⟨da, Sa, sa, rfl, ha0, ha1, ha2, hla, hga⟩ := at_T68 HR0.out x c0 c
  obtain ⟨db, Sb, sb, rfl, hb0, hb1, hb2, hlb, hgb⟩ := at_T68 HR1.out x c0 c2
  replace ha0 := (HB.out.cell (World.block_lt_of_cell? w _ ha0)).trans ha0
  replace ha1 := (HB.out.cell (World.block_lt_of_cell? w _ ha1)).trans ha1
  replace ha2 := (HB.out.cell (World.block_lt_of_cell? w _ ha2)).trans ha2
  replace hb0 := (HB.out.cell (World.block_lt_of_cell? w _ hb0)).trans hb0
  replace hb1 := (HB.out.cell (World.block_lt_of_cell? w _ hb1)).trans hb1
  replace hb2 := (HB.out.cell (World.block_lt_of_cell? w _ hb2)).trans hb2
  have HLa := Aside0.mk hla
  have HGa := Aside0.mk hga
  have HLb := Aside0.mk hlb
  have HGb := Aside0.mk hgb
  clear hla hga hlb hgb
  rw [show wrap64 (x + 1) = x + 1 from by unfold wrap64; omega] at H
  have q0 := eq_true c0
  have q1 := eq_true c
  have q2 := eq_true c2
  generalize rd_T68 l0 x = a at H ha0 ha1 ha2 HLa HGa
  generalize rd_T68 l1 x = b at H hb0 hb1 hb2 HLb HGb
  obtain ⟨t, E, H'⟩ := Option.bind_eq_some_iff.1 H
  clear H
  replace E := Aside0.mk E
  have H := Aside0.mk H'
  clear H' cl c2
  go_wp2_with fail
  have HK := Aside0.mk (show ∀ w', Below wr.heap.size wr w' → (fun w' => w'.cell? (da.add (x.toNat * 3)) = some (.int .i64 a.f0) ∧ w'.cell? ⟨(da.add (x.toNat * 3)).block, (da.add (x.toNat * 3)).off + 1, none⟩ = some (.int .i64 a.f1) ∧ w'.cell? ⟨(da.add (x.toNat * 3)).block, (da.add (x.toNat * 3)).off + 2, none⟩ = some (.slice Sa a.f2.length sa) ∧ w'.cell? (db.add (x.toNat * 3)) = some (.int .i64 b.f0) ∧ w'.cell? ⟨(db.add (x.toNat * 3)).block, (db.add (x.toNat * 3)).off + 1, none⟩ = some (.int .i64 b.f1) ∧ w'.cell? ⟨(db.add (x.toNat * 3)).block, (db.add (x.toNat * 3)).off + 2, none⟩ = some (.slice Sb b.f2.length sb) ∧ Below wr.heap.size wr w') w' from fun w' h => ⟨(h.cell (World.block_lt_of_cell? _ _ ha0)).trans ha0, (h.cell (World.block_lt_of_cell? _ _ ha1)).trans ha1, (h.cell (World.block_lt_of_cell? _ _ ha2)).trans ha2, (h.cell (World.block_lt_of_cell? _ _ hb0)).trans hb0, (h.cell (World.block_lt_of_cell? _ _ hb1)).trans hb1, (h.cell (World.block_lt_of_cell? _ _ hb2)).trans hb2, h⟩)
  go_region_held3 (fun w' => w'.cell? (da.add (x.toNat * 3)) = some (.int .i64 a.f0) ∧ w'.cell? ⟨(da.add (x.toNat * 3)).block, (da.add (x.toNat * 3)).off + 1, none⟩ = some (.int .i64 a.f1) ∧ w'.cell? ⟨(da.add (x.toNat * 3)).block, (da.add (x.toNat * 3)).off + 2, none⟩ = some (.slice Sa a.f2.length sa) ∧ w'.cell? (db.add (x.toNat * 3)) = some (.int .i64 b.f0) ∧ w'.cell? ⟨(db.add (x.toNat * 3)).block, (db.add (x.toNat * 3)).off + 1, none⟩ = some (.int .i64 b.f1) ∧ w'.cell? ⟨(db.add (x.toNat * 3)).block, (db.add (x.toNat * 3)).off + 2, none⟩ = some (.slice Sb b.f2.length sb) ∧ Below wr.heap.size wr w') (first | exact HK.out _ hbb | exact HK.out _ (below_drew1 (Below.refl _ _)) | exact HK.out _ (Below.refl _ _)) (first | (go_at_call 51; go_split_ands; (with_reducible refine (laws_eqBucket.calls k1 a.f0 a.f1 Sa sa a.f2 b.f0 b.f1 Sb sb b.f2 t _ (Kd.C_below HGa.out (below_step HB.out (show Below wr.heap.size wr _ by assumption))) HLa.out (Kd.C_below HGb.out (below_step HB.out (show Below wr.heap.size wr _ by assumption))) HLb.out E.out).mono ?_); rintro e w3 ⟨rfl, hb⟩; have hbb : Below wr.heap.size wr _ := below_step (by assumption) hb))
  replace HB := Aside0.mk (below_step HB.out hbb)
  clear HK hbb ha0 ha1 ha2 hb0 hb1 hb2
  cases t with
  | false =>
   have HF := Aside0.mk (show r = false from by have := H.out; rw [if_neg (by decide)] at this; exact (Option.some.inj this).symm)
   go_wp2_with fail
   go_ret
   exact ⟨by rw [HF.out]; rfl, HB.out⟩
  | true =>
  have h := H.out
  clear H
  rw [if_pos rfl] at h
  have H := Aside0.mk h
  clear h
  go_wp2_with fail
  go_roundg k1
  case measure => omega
  case rel => exact ⟨x + 1, by first | rfl | go_num, H, ⟨Nat.le_trans (Nat.le_succ _) HGG.out⟩, HB⟩

/-! ### laws_eqTree: function 11 -/
def laws_eqTree.f (k : Nat) (l0_0 : List (S72)) (l0_1 : List (S68)) (l1_0 : List (S72)) (l1_1 : List (S68)) : Option (Bool) := (laws_eqDeviceS.f k l0_0 l1_0).bind fun t427 => (if t427 = true then ((laws_eqBucketS.f k l0_1 l1_1).bind fun t428 => (if t428 = true then (some true) else (some false))) else (some false))
set_option maxHeartbeats 8000000 in
set_option maxRecDepth 100000 in
theorem laws_eqTree.calls (k : Nat) (A0_0 : Option Addr) (c0_0 : Nat) (l0_0 : List (S72)) (A0_1 : Option Addr) (c0_1 : Nat) (l0_1 : List (S68)) (A1_0 : Option Addr) (c1_0 : Nat) (l1_0 : List (S72)) (A1_1 : Option Addr) (c1_1 : Nat) (l1_1 : List (S68)) (r : Bool) (w : World) (hr0_0 : Kd.C k72 w A0_0 l0_0.length l0_0) (hc0_0 : l0_0.length ≤ c0_0) (hr0_1 : Kd.C k68 w A0_1 l0_1.length l0_1) (hc0_1 : l0_1.length ≤ c0_1) (hr1_0 : Kd.C k72 w A1_0 l1_0.length l1_0) (hc1_0 : l1_0.length ≤ c1_0) (hr1_1 : Kd.C k68 w A1_1 l1_1.length l1_1) (hc1_1 : l1_1.length ≤ c1_1) (h : laws_eqTree.f k l0_0 l0_1 l1_0 l1_1 = some r) :
  Calls Tryz.prog 11 #[.agg #[.slice A0_0 l0_0.length c0_0, .slice A0_1 l0_1.length c0_1], .agg #[.slice A1_0 l1_0.length c1_0, .slice A1_1 l1_1.length c1_1]] w fun e w' => e = .returned (.bool r) ∧ Below w.heap.size w w' := by
 have HA0_0 := Aside0.mk hr0_0
 have HC0_0 := Aside0.mk hc0_0
 clear hr0_0 hc0_0
 have HA0_1 := Aside0.mk hr0_1
 have HC0_1 := Aside0.mk hc0_1
 clear hr0_1 hc0_1
 have HA1_0 := Aside0.mk hr1_0
 have HC1_0 := Aside0.mk hc1_0
 clear hr1_0 hc1_0
 have HA1_1 := Aside0.mk hr1_1
 have HC1_1 := Aside0.mk hc1_1
 clear hr1_1 hc1_1
 unfold laws_eqTree.f at h
 have H := Aside0.mk h
 clear h
 go_enter Tryz.func11, Tryz.ntmps11
 go_wp2_with fail
 have BA := Aside0.mk (blk_alloc (blk_new w (.cells #[.slice A0_0 l0_0.length c0_0, .slice A0_1 l0_1.length c0_1] 35)) (.cells #[.slice A1_0 l1_0.length c1_0, .slice A1_1 l1_1.length c1_1] 35))
 have BB := Aside0.mk (blk_new (w.alloc (.cells #[.slice A0_0 l0_0.length c0_0, .slice A0_1 l0_1.length c0_1] 35)) (.cells #[.slice A1_0 l1_0.length c1_0, .slice A1_1 l1_1.length c1_1] 35))
 have HB := Aside0.mk (below_alloc (below_alloc (Below.refl w.heap.size w) (.cells #[.slice A0_0 l0_0.length c0_0, .slice A0_1 l0_1.length c0_1] 35)) (.cells #[.slice A1_0 l1_0.length c1_0, .slice A1_1 l1_1.length c1_1] 35))
 have hs : (w.alloc (.cells #[.slice A0_0 l0_0.length c0_0, .slice A0_1 l0_1.length c0_1] 35)).heap.size = w.heap.size + 1 := by unfold World.alloc; exact Array.size_push _
 rw [hs] at BB
 try rw [hs]
 clear hs
 generalize ((w.alloc (.cells #[.slice A0_0 l0_0.length c0_0, .slice A0_1 l0_1.length c0_1] 35)).alloc (.cells #[.slice A1_0 l1_0.length c1_0, .slice A1_1 l1_1.length c1_1] 35)) = w1 at BA BB HB ⊢
 generalize w.heap.size + 1 = gb at BB ⊢
 have hBA0 := (blk_cell BA.out 0).trans rfl
 have hBA1 := (blk_cell BA.out 1).trans rfl
 have hBB0 := (blk_cell BB.out 0).trans rfl
 have hBB1 := (blk_cell BB.out 1).trans rfl
 have h := H.out
 clear H
 obtain ⟨t0, E0, h'⟩ := Option.bind_eq_some_iff.1 h
 clear h
 replace E0 := Aside0.mk E0
 have H := Aside0.mk h'
 clear h'
 go_wp2_with fail
 (with_reducible refine (laws_eqDeviceS.calls k A0_0 c0_0 l0_0 A1_0 c1_0 l1_0 t0 _ (Kd.C_below HA0_0.out HB.out) HC0_0.out (Kd.C_below HA1_0.out HB.out) HC1_0.out E0.out).mono ?_)
 rintro e w2 ⟨rfl, hb⟩
 clear hBA0 hBA1 hBB0 hBB1
 replace BA := Aside0.mk (blk_below BA.out hb)
 replace BB := Aside0.mk (blk_below BB.out hb)
 replace HB := Aside0.mk (below_step HB.out hb)
 clear hb
 have hBA0 := (blk_cell BA.out 0).trans rfl
 have hBA1 := (blk_cell BA.out 1).trans rfl
 have hBB0 := (blk_cell BB.out 0).trans rfl
 have hBB1 := (blk_cell BB.out 1).trans rfl
 cases t0 with
 | false =>
  have HF := Aside0.mk (show r = false from by have := H.out; rw [if_neg (by decide)] at this; exact (Option.some.inj this).symm)
  go_wp2_with fail
  go_ret
  exact ⟨by rw [HF.out]; rfl, HB.out⟩
 | true =>
 have h := H.out
 clear H
 rw [if_pos rfl] at h
 have H := Aside0.mk h
 clear h
 have h := H.out
 clear H
 obtain ⟨t1, E1, h'⟩ := Option.bind_eq_some_iff.1 h
 clear h
 replace E1 := Aside0.mk E1
 have H := Aside0.mk h'
 clear h'
 go_wp2_with fail
 (with_reducible refine (laws_eqBucketS.calls k A0_1 c0_1 l0_1 A1_1 c1_1 l1_1 t1 _ (Kd.C_below HA0_1.out HB.out) HC0_1.out (Kd.C_below HA1_1.out HB.out) HC1_1.out E1.out).mono ?_)
 rintro e w3 ⟨rfl, hb⟩
 clear hBA0 hBA1 hBB0 hBB1
 replace BA := Aside0.mk (blk_below BA.out hb)
 replace BB := Aside0.mk (blk_below BB.out hb)
 replace HB := Aside0.mk (below_step HB.out hb)
 clear hb
 have hBA0 := (blk_cell BA.out 0).trans rfl
 have hBA1 := (blk_cell BA.out 1).trans rfl
 have hBB0 := (blk_cell BB.out 0).trans rfl
 have hBB1 := (blk_cell BB.out 1).trans rfl
 cases t1 with
 | false =>
  have HF := Aside0.mk (show r = false from by have := H.out; rw [if_neg (by decide)] at this; exact (Option.some.inj this).symm)
  go_wp2_with fail
  go_ret
  exact ⟨by rw [HF.out]; rfl, HB.out⟩
 | true =>
 have h := H.out
 clear H
 rw [if_pos rfl] at h
 have H := Aside0.mk h
 clear h
 have HF := Aside0.mk (Option.some.inj H.out)
 go_wp2_with fail
 go_ret
 exact ⟨by rw [← HF.out]; rfl, HB.out⟩

/-! ### laws_markDeviceS: function 31 -/
def laws_markDeviceS.l0 : Nat → List (S72) → Int → Int → Option (Int × (List (S72)))
 | 0, _, _, _ => none
 | k + 1, x0, x1, x5 => if x5 < (x0.length : Int) then (if 0 ≤ x5 then ((some (x0.set (x5 : Int).toNat (⟨x1, (rd_T72 x0 x5).f1⟩ : S72) : List (S72))).bind fun y429 => (laws_markDeviceS.l0 k (y429.set (x5 : Int).toNat (⟨(rd_T72 y429 x5).f0, wrap64 (x1 + 1)⟩ : S72)) (wrap64 ((wrap64 (x1 + 1)) + 1)) (wrap64 (x5 + 1)))) else (none)) else (some (x1, x0))
def laws_markDeviceS.f (k : Nat) (l0 : List (S72)) (a1 : Int) : Option (Int × (List (S72))) := laws_markDeviceS.l0 k l0 a1 0
set_option maxHeartbeats 8000000 in
set_option maxRecDepth 100000 in
theorem laws_markDeviceS.calls (k : Nat) (P0_ : Nat → Prop) (u9000_ : Value) (l0 : List (S72)) (a1 : Int) (r1 : Int) (r2 : List (S72)) (w0 w : World) (hB : Below w0.heap.size w0 w) (ho0 : Kd.R k72 72 w w0.heap.size P0_ u9000_ l0) (h : laws_markDeviceS.f k l0 a1 = some (r1, r2)) :
  Calls Tryz.prog 31 #[u9000_, .int .i64 a1] w fun e w' => e = .returned (.int .i64 r1) ∧ Kd.R k72 72 w' w0.heap.size (fun k_ => (P0_ k_ ∨ w.heap.size ≤ k_)) u9000_ r2 ∧ Below w0.heap.size w0 w' ∧ Kept w w' (fun k_ => P0_ k_) := by
 have HO0 := Aside0.mk (show Kd.R k72 72 w w0.heap.size (fun k_ => (P0_ k_ ∨ w.heap.size ≤ k_)) u9000_ l0 from Kd.R_mono ho0 (fun k_ hk => (.inl hk)))
 have HK := Aside0.mk (Kept.refl w (fun k_ => P0_ k_))
 have HW0 := Aside0.mk hB.size
 have HB := Aside0.mk hB
 clear hB
 have H : (laws_markDeviceS.l0 k l0 a1 0) = some (r1, r2) := h
 clear h
 have H' := Aside0.mk H
 clear H
 go_enter Tryz.func31, Tryz.ntmps31
 go_wp2
 go_loopg [1, 5] k (fun kq v1 v5 w' => ∃ (x0_1 : List (S72)) (x1_1 : Int) (x5_1 : Int), v1 = .int .i64 x1_1 ∧ v5 = .int .i64 x5_1 ∧ Aside0 (laws_markDeviceS.l0 kq x0_1 x1_1 x5_1 = some (r1, r2)) ∧ Aside0 (kq ≤ k) ∧ Aside0 (Kd.R k72 72 w' w0.heap.size (fun k_ => (P0_ k_ ∨ w.heap.size ≤ k_)) u9000_ x0_1) ∧ Aside0 (Kept w w' (fun k_ => P0_ k_)) ∧ Aside0 (Below w0.heap.size w0 w'))
 case atStart => exact ⟨(l0), (a1), (0), (by first | rfl | (simp; done) | (simp [*]; done)), (by first | rfl | (simp; done) | (simp [*]; done)), H', ⟨Nat.le_refl _⟩, ⟨by (with_reducible repeat (first | apply Kd.R_alloc | apply Kd.R_drewN | apply Kd.R_drew)); exact HO0.out⟩, ⟨by repeat (first | (with_reducible first | exact HK.out | apply Kept.alloc | apply Kept.drewN | apply Kept.drew) | exact HK.out)⟩, ⟨by repeat first | exact HB.out | apply pw_below_drewN⟩⟩
 case round =>
  clear H'
  try clear p2
  obtain ⟨x0_1, x1_1, x5_1, rfl, rfl, HA, HK1, HO_0, HK, HB⟩ := hrel
  cases gk with
  | zero => exact absurd HA.out (by simp [laws_markDeviceS.l0])
  | succ k1 =>
   have H := HA.out
   clear HA
   simp only [laws_markDeviceS.l0] at H
   by_cases c3 : x5_1 < (x0_1.length : Int)
   ·rw [if_pos c3] at H
    have c3b0 : decide (x5_1 < (x0_1.length : Int)) = true := decide_eq_true c3
    clear c3
    by_cases c4 : 0 ≤ x5_1
    ·rw [if_pos c4] at H
     have c4b0 : decide (0 ≤ x5_1) = true := decide_eq_true c4
     clear c4
     obtain ⟨y429, hy429⟩ : ∃ y_ : List (S72), y_ = (x0_1.set (x5_1 : Int).toNat (⟨x1_1, (rd_T72 x0_1 x5_1).f1⟩ : S72)) := ⟨_, rfl⟩
     replace H : (laws_markDeviceS.l0 k1 (y429.set (x5_1 : Int).toNat (⟨(rd_T72 y429 x5_1).f0, wrap64 (x1_1 + 1)⟩ : S72)) (wrap64 ((wrap64 (x1_1 + 1)) + 1)) (wrap64 (x5_1 + 1))) = some (r1, r2) := by first | (rw [hy429]; with_reducible exact H) | (have H2_ := (Option.bind_some _ _).symm.trans H; rw [hy429]; with_reducible exact H2_) | (have H2_ := (Option.bind_some _ _).symm.trans H; with_reducible exact H2_) | with_reducible exact H | (rw [hy429]; exact H) | exact H
     have Ny429 := Aside0.mk hy429
     clear hy429
     obtain ⟨y430, hy430⟩ : ∃ y_ : List (S72), y_ = (y429.set (x5_1 : Int).toNat (⟨(rd_T72 y429 x5_1).f0, wrap64 (x1_1 + 1)⟩ : S72)) := ⟨_, rfl⟩
     replace H : (laws_markDeviceS.l0 k1 y430 (wrap64 ((wrap64 (x1_1 + 1)) + 1)) (wrap64 (x5_1 + 1))) = some (r1, r2) := by first | (rw [hy430]; with_reducible exact H) | (have H2_ := (Option.bind_some _ _).symm.trans H; rw [hy430]; with_reducible exact H2_) | (have H2_ := (Option.bind_some _ _).symm.trans H; with_reducible exact H2_) | with_reducible exact H | (rw [hy430]; exact H) | exact H
     have Ny430 := Aside0.mk hy430
     clear hy430
     have H' := Aside0.mk H
     clear H
     obtain ⟨Ao7, co7, eo7⟩ := Kd.R_slice HO_0.out
     subst eo7
     have p5 : 0 ≤ (x5_1 : Int) := of_decide_eq_true (by assumption)
     have q5 : (x5_1 : Int) < ((x0_1.length : Int) : Int) := of_decide_eq_true (by assumption)
     obtain ⟨go5, co5, eo5, gb5, gl5, cl5, HG5⟩ := Kd.R_form HO_0.out (by omega)
     (first | cases eo5 | (injection eo5 with ea_ en_ ec_; (first | subst ea_ | (injection ea_ with ea_; subst ea_)); subst ec_; clear en_))
     have GB5 := Aside0.mk gb5
     have GG5 := Aside0.mk HG5
     clear gb5 gl5 HG5
     have HMgo5 := Aside0.mk (show (P0_ go5 ∨ w.heap.size ≤ go5) from (HO_0.out.1 _ rfl))
     obtain ⟨ce5, hcl5, hM5, hcc5, hfr5⟩ := Kd.R_elem HO_0.out z72 (x5_1 : Int) p5 q5
     obtain rfl := k72_openM hM5
     have hx5_0 : wr.cell? ⟨go5, (x5_1 : Int).toNat * 2, none⟩ = some (.int .i64 ((rd_T72 x0_1 x5_1).f0)) := hcc5 0 _ rfl
     have hx5_1 : wr.cell? ⟨go5, (x5_1 : Int).toNat * 2 + 1, none⟩ = some (.int .i64 ((rd_T72 x0_1 x5_1).f1)) := hcc5 1 _ rfl
     have hf5_0 : wr.frozen? ⟨go5, (x5_1 : Int).toNat * 2, none⟩ = false := hfr5 0
     have hf5_1 : wr.frozen? ⟨go5, (x5_1 : Int).toNat * 2 + 1, none⟩ = false := hfr5 1
     clear hcl5 hcc5 hfr5 hM5
     replace p5 := eq_true p5
     replace q5 := eq_true q5
     have HX8 := Aside0.mk (show Kd.R k72 72 wr w0.heap.size (fun k_ => (P0_ k_ ∨ w.heap.size ≤ k_)) (.slice (some ⟨go5, 0, none⟩) x0_1.length co7) x0_1 from (by (with_reducible repeat (first | apply Kd.R_alloc | apply Kd.R_drewN | apply Kd.R_drew)); exact HO_0.out))
     obtain ⟨ce8, hcl8, hM8, hcc8, hfr8⟩ := Kd.R_elem HX8.out z72 (x5_1 : Int) (of_decide_eq_true (by assumption)) (by have h_ : (x5_1 : Int) < ((x0_1.length : Int) : Int) := of_decide_eq_true (by assumption); first | exact h_ | (have e_ := (Kd.R_reads' HO_0.out).1; omega) | simpa using h_)
     obtain rfl := k72_openM hM8
     have HP8 := Kd.R_seg HX8.out (x5_1 : Int) (of_decide_eq_true (by assumption)) (by have h_ : (x5_1 : Int) < ((x0_1.length : Int) : Int) := of_decide_eq_true (by assumption); first | exact h_ | (have e_ := (Kd.R_reads' HO_0.out).1; omega) | simpa using h_) (seg := [.int .i64 x1_1]) (j := 0) hcl8 hcc8 (show 1 ≤ 2 from by decide) (x' := (⟨x1_1, (rd_T72 x0_1 x5_1).f1⟩ : S72)) (k72_mkM _ _ _ (⟨x1_1, (rd_T72 x0_1 x5_1).f1⟩ : S72) ) (fun _ hk => hk)
     have hx8_0 := hcc8 0 _ rfl
     (try simp only [show (k72).sz = 2 from rfl, Nat.mul_one, Nat.add_zero] at hx8_0)
     have hf8_0 := hfr8 0
     (try simp only [show (k72).sz = 2 from rfl, Nat.mul_one, Nat.add_zero] at hf8_0)
     clear hcl8 hcc8 hfr8 hM8
     go_wp2_with (first | ((with_reducible refine gate_store (t := 2) (p := 16) rfl ?_); refine store_event (t := 2) (p := 16) (v := ?vo_w9) (w1 := (wr.setCell ⟨go5, (x5_1 : Int).toNat * 2, none⟩ (.int .i64 x1_1))) ?hg ?ho ?hn ?hr ?_; (case ho => rfl); (case hg => rfl); (case hn => rfl); (case hr => first | (go_simp; done) | (go_simp; rfl)); intro w9 hw; have hg : wr.grownBy w9 (some go5) := (by rw [hw]; exact HP8.2); have hp_ : Kd.R k72 72 w9 w0.heap.size (fun k_ => (P0_ k_ ∨ w.heap.size ≤ k_)) (.slice (some ⟨go5, 0, none⟩) x0_1.length co7) y429 := (by rw [hw, Ny429.out]; exact HP8.1); clear HP8; have n0_ := Aside0.mk (hp_); have n1_ := Aside0.mk ((by rw [hw]; exact below_set (HB.out) GB5.out : Below w0.heap.size w0 w9)); have n2_ := Aside0.mk (Kept.of_grown (S := (fun k_ => P0_ k_)) hg (by repeat (first | (with_reducible first | exact HK.out | apply Kept.alloc | apply Kept.drewN | apply Kept.drew) | exact HK.out)) (fun k_ e_ => (HO_0.out.1 k_ e_))); clear HO_0; clear HB; clear HK; have HO_0 := n0_; have HB := n1_; have HK := n2_; clear n0_ n1_ n2_; clear hg hw hp_; have p6 : 0 ≤ (x5_1 : Int) := of_decide_eq_true (by assumption); have q6 : (x5_1 : Int) < ((x0_1.length : Int) : Int) := of_decide_eq_true (by assumption); obtain ⟨ce6, hcl6, hM6, hcc6, hfr6⟩ := Kd.R_elem HO_0.out z72 (x5_1 : Int) p6 q6; obtain rfl := k72_openM hM6; have hx6_0 : w9.cell? ⟨go5, (x5_1 : Int).toNat * 2, none⟩ = some (.int .i64 ((rd_T72 y429 x5_1).f0)) := hcc6 0 _ rfl; have hx6_1 : w9.cell? ⟨go5, (x5_1 : Int).toNat * 2 + 1, none⟩ = some (.int .i64 ((rd_T72 y429 x5_1).f1)) := hcc6 1 _ rfl; have hf6_0 : w9.frozen? ⟨go5, (x5_1 : Int).toNat * 2, none⟩ = false := hfr6 0; have hf6_1 : w9.frozen? ⟨go5, (x5_1 : Int).toNat * 2 + 1, none⟩ = false := hfr6 1; clear hcl6 hcc6 hfr6 hM6; replace p6 := eq_true p6; replace q6 := eq_true q6; have HX10 := Aside0.mk (show Kd.R k72 72 w9 w0.heap.size (fun k_ => (P0_ k_ ∨ w.heap.size ≤ k_)) (.slice (some ⟨go5, 0, none⟩) x0_1.length co7) y429 from (by (with_reducible repeat (first | apply Kd.R_alloc | apply Kd.R_drewN | apply Kd.R_drew)); exact HO_0.out)); obtain ⟨ce10, hcl10, hM10, hcc10, hfr10⟩ := Kd.R_elem HX10.out z72 (x5_1 : Int) (of_decide_eq_true (by assumption)) (by have h_ : (x5_1 : Int) < ((x0_1.length : Int) : Int) := of_decide_eq_true (by assumption); first | exact h_ | (have e_ := (Kd.R_reads' HO_0.out).1; omega) | simpa using h_); obtain rfl := k72_openM hM10; have HP10 := Kd.R_seg HX10.out (x5_1 : Int) (of_decide_eq_true (by assumption)) (by have h_ : (x5_1 : Int) < ((x0_1.length : Int) : Int) := of_decide_eq_true (by assumption); first | exact h_ | (have e_ := (Kd.R_reads' HO_0.out).1; omega) | simpa using h_) (seg := [.int .i64 (wrap64 (x1_1 + 1))]) (j := 1) hcl10 hcc10 (show 2 ≤ 2 from by decide) (x' := (⟨(rd_T72 y429 x5_1).f0, wrap64 (x1_1 + 1)⟩ : S72)) (k72_mkM _ _ _ (⟨(rd_T72 y429 x5_1).f0, wrap64 (x1_1 + 1)⟩ : S72) ) (fun _ hk => hk); have hx10_1 := hcc10 1 _ rfl; (try simp only [show (k72).sz = 2 from rfl, Nat.mul_one, Nat.add_zero] at hx10_1); have hf10_1 := hfr10 1; (try simp only [show (k72).sz = 2 from rfl, Nat.mul_one, Nat.add_zero] at hf10_1); clear hcl10 hcc10 hfr10 hM10) | ((with_reducible refine gate_store (t := 2) (p := 23) rfl ?_); refine store_event (t := 2) (p := 23) (v := ?vo_w11) (w1 := (w9.setCell ⟨go5, (x5_1 : Int).toNat * 2 + 1, none⟩ (.int .i64 (wrap64 (x1_1 + 1))))) ?hg ?ho ?hn ?hr ?_; (case ho => rfl); (case hg => rfl); (case hn => rfl); (case hr => first | (go_simp; done) | (go_simp; rfl)); intro w11 hw; have hg : w9.grownBy w11 (some go5) := (by rw [hw]; exact HP10.2); have hp_ : Kd.R k72 72 w11 w0.heap.size (fun k_ => (P0_ k_ ∨ w.heap.size ≤ k_)) (.slice (some ⟨go5, 0, none⟩) x0_1.length co7) y430 := (by rw [hw, Ny430.out]; exact HP10.1); clear HP10; have n0_ := Aside0.mk (hp_); have n1_ := Aside0.mk ((by rw [hw]; exact below_set (HB.out) GB5.out : Below w0.heap.size w0 w11)); have n2_ := Aside0.mk (Kept.of_grown (S := (fun k_ => P0_ k_)) hg (by repeat (first | (with_reducible first | exact HK.out | apply Kept.alloc | apply Kept.drewN | apply Kept.drew) | exact HK.out)) (fun k_ e_ => (HO_0.out.1 k_ e_))); clear HO_0; clear HB; clear HK; have HO_0 := n0_; have HB := n1_; have HK := n2_; clear n0_ n1_ n2_; clear hg hw hp_))
     go_roundg k1
     case measure => have := HK1.out; omega
     case rel => exact ⟨(y430), (wrap64 ((wrap64 (x1_1 + 1)) + 1)), (wrap64 (x5_1 + 1)), (by first | rfl | (simp; done) | (simp [*]; done)), (by first | rfl | (simp; done) | (simp [*]; done)), H', ⟨by have := HK1.out; omega⟩, ⟨by (with_reducible repeat (first | apply Kd.R_alloc | apply Kd.R_drewN | apply Kd.R_drew)); exact HO_0.out⟩, ⟨by repeat (first | (with_reducible first | exact HK.out | apply Kept.alloc | apply Kept.drewN | apply Kept.drew) | exact HK.out)⟩, ⟨by repeat first | exact HB.out | apply pw_below_drewN⟩⟩
    ·rw [if_neg c4] at H
     exact absurd H (by simp)
   ·rw [if_neg c3] at H
    have c3b0 : decide (x5_1 < (x0_1.length : Int)) = false := decide_eq_false c3
    clear c3
    simp only [Option.some.injEq, Prod.mk.injEq] at H
    obtain ⟨rfl, rfl⟩ := H
    obtain ⟨Ao12, co12, eo12⟩ := Kd.R_slice HO_0.out
    subst eo12
    go_wp2
    go_ret
    exact ⟨by first | rfl | (simp [*, errW_none, errW_some] <;> rfl), by (with_reducible repeat (first | apply Kd.R_alloc | apply Kd.R_drewN | apply Kd.R_drew)); exact HO_0.out, by repeat first | exact HB.out | apply pw_below_drewN, by repeat (first | (with_reducible first | exact HK.out | apply Kept.alloc | apply Kept.drewN | apply Kept.drew) | exact HK.out)⟩

/-! ### laws_markInt64S: function 13 -/
def laws_markInt64S.l0 : Nat → List Int → Int → Int → Option (Int × List Int)
 | 0, _, _, _ => none
 | k + 1, x0, x1, x5 => if x5 < (x0.length : Int) then (if 0 ≤ x5 then (laws_markInt64S.l0 k (x0.set (x5 : Int).toNat x1) (wrap64 (x1 + 1)) (wrap64 (x5 + 1))) else (none)) else (some (x1, x0))
def laws_markInt64S.f (k : Nat) (l0 : List Int) (a1 : Int) : Option (Int × List Int) := laws_markInt64S.l0 k l0 a1 0
set_option maxHeartbeats 8000000 in
set_option maxRecDepth 100000 in
theorem laws_markInt64S.calls (k : Nat) (P0_ : Nat → Prop) (u9000_ : Value) (l0 : List Int) (a1 : Int) (r1 : Int) (r2 : List Int) (w0 w : World) (hB : Below w0.heap.size w0 w) (ho0 : Kd.R (Kd.int .i64) 2 w w0.heap.size P0_ u9000_ l0) (h : laws_markInt64S.f k l0 a1 = some (r1, r2)) :
  Calls Tryz.prog 13 #[u9000_, .int .i64 a1] w fun e w' => e = .returned (.int .i64 r1) ∧ Kd.R (Kd.int .i64) 2 w' w0.heap.size (fun k_ => (P0_ k_ ∨ w.heap.size ≤ k_)) u9000_ r2 ∧ Below w0.heap.size w0 w' ∧ Kept w w' (fun k_ => P0_ k_) := by
 have HO0 := Aside0.mk (show Kd.R (Kd.int .i64) 2 w w0.heap.size (fun k_ => (P0_ k_ ∨ w.heap.size ≤ k_)) u9000_ l0 from Kd.R_mono ho0 (fun k_ hk => (.inl hk)))
 have HK := Aside0.mk (Kept.refl w (fun k_ => P0_ k_))
 have HW0 := Aside0.mk hB.size
 have HB := Aside0.mk hB
 clear hB
 have H : (laws_markInt64S.l0 k l0 a1 0) = some (r1, r2) := h
 clear h
 have H' := Aside0.mk H
 clear H
 go_enter Tryz.func13, Tryz.ntmps13
 go_wp2
 go_loopg [1, 5] k (fun kq v1 v5 w' => ∃ (x0_1 : List Int) (x1_1 : Int) (x5_1 : Int), v1 = .int .i64 x1_1 ∧ v5 = .int .i64 x5_1 ∧ Aside0 (laws_markInt64S.l0 kq x0_1 x1_1 x5_1 = some (r1, r2)) ∧ Aside0 (kq ≤ k) ∧ Aside0 (Kd.R (Kd.int .i64) 2 w' w0.heap.size (fun k_ => (P0_ k_ ∨ w.heap.size ≤ k_)) u9000_ x0_1) ∧ Aside0 (Kept w w' (fun k_ => P0_ k_)) ∧ Aside0 (Below w0.heap.size w0 w'))
 case atStart => exact ⟨(l0), (a1), (0), (by first | rfl | (simp; done) | (simp [*]; done)), (by first | rfl | (simp; done) | (simp [*]; done)), H', ⟨Nat.le_refl _⟩, ⟨by (with_reducible repeat (first | apply Kd.R_alloc | apply Kd.R_drewN | apply Kd.R_drew)); exact HO0.out⟩, ⟨by repeat (first | (with_reducible first | exact HK.out | apply Kept.alloc | apply Kept.drewN | apply Kept.drew) | exact HK.out)⟩, ⟨by repeat first | exact HB.out | apply pw_below_drewN⟩⟩
 case round =>
  clear H'
  try clear c1
  try clear p2
  obtain ⟨x0_1, x1_1, x5_1, rfl, rfl, HA, HK1, HO_0, HK, HB⟩ := hrel
  cases gk with
  | zero => exact absurd HA.out (by simp [laws_markInt64S.l0])
  | succ k1 =>
   have H := HA.out
   clear HA
   simp only [laws_markInt64S.l0] at H
   by_cases c3 : x5_1 < (x0_1.length : Int)
   ·rw [if_pos c3] at H
    have c3b0 : decide (x5_1 < (x0_1.length : Int)) = true := decide_eq_true c3
    clear c3
    by_cases c4 : 0 ≤ x5_1
    ·rw [if_pos c4] at H
     have c4b0 : decide (0 ≤ x5_1) = true := decide_eq_true c4
     clear c4
     obtain ⟨y431, hy431⟩ : ∃ y_ : List Int, y_ = (x0_1.set (x5_1 : Int).toNat x1_1) := ⟨_, rfl⟩
     replace H : (laws_markInt64S.l0 k1 y431 (wrap64 (x1_1 + 1)) (wrap64 (x5_1 + 1))) = some (r1, r2) := by first | (rw [hy431]; with_reducible exact H) | (have H2_ := (Option.bind_some _ _).symm.trans H; rw [hy431]; with_reducible exact H2_) | (have H2_ := (Option.bind_some _ _).symm.trans H; with_reducible exact H2_) | with_reducible exact H | (rw [hy431]; exact H) | exact H
     have Ny431 := Aside0.mk hy431
     clear hy431
     have H' := Aside0.mk H
     clear H
     obtain ⟨Ao6, co6, eo6⟩ := Kd.R_slice HO_0.out
     subst eo6
     have p5 : 0 ≤ (x5_1 : Int) := of_decide_eq_true (by assumption)
     have q5 : (x5_1 : Int) < ((x0_1.length : Int) : Int) := of_decide_eq_true (by assumption)
     obtain ⟨go5, co5, eo5, gb5, gl5, cl5, HG5⟩ := Kd.R_form HO_0.out (by omega)
     (first | cases eo5 | (injection eo5 with ea_ en_ ec_; (first | subst ea_ | (injection ea_ with ea_; subst ea_)); subst ec_; clear en_))
     have GB5 := Aside0.mk gb5
     have GG5 := Aside0.mk HG5
     clear gb5 gl5 HG5
     have HMgo5 := Aside0.mk (show (P0_ go5 ∨ w.heap.size ≤ go5) from (HO_0.out.1 _ rfl))
     obtain ⟨hx5_0, hf5_0⟩ := Kd.R_celln 0 HO_0.out (x5_1 : Int) p5 q5
     replace p5 := eq_true p5
     replace q5 := eq_true q5
     have HP7 := Kd.R_putg HO_0.out (x5_1 : Int) x1_1
     go_wp2_with (first | ((with_reducible refine gate_store (t := 2) (p := 15) rfl ?_); refine store_event (t := 2) (p := 15) (v := ?vo_w8) (w1 := (wr.setCell ⟨go5, (x5_1 : Int).toNat, none⟩ (.int .i64 x1_1))) ?hg ?ho ?hn ?hr ?_; (case ho => rfl); (case hg => rfl); (case hn => rfl); (case hr => first | (go_simp; done) | (go_simp; rfl)); intro w8 hw; have hg : wr.grownBy w8 (some go5) := (by rw [hw]; exact HP7.2); have hp_ : Kd.R (Kd.int .i64) 2 w8 w0.heap.size (fun k_ => (P0_ k_ ∨ w.heap.size ≤ k_)) (.slice (some ⟨go5, 0, none⟩) x0_1.length co6) y431 := (by rw [hw, Ny431.out]; exact HP7.1); clear HP7; have n0_ := Aside0.mk (hp_); have n1_ := Aside0.mk ((by rw [hw]; exact below_set (HB.out) GB5.out : Below w0.heap.size w0 w8)); have n2_ := Aside0.mk (Kept.of_grown (S := (fun k_ => P0_ k_)) hg (by repeat (first | (with_reducible first | exact HK.out | apply Kept.alloc | apply Kept.drewN | apply Kept.drew) | exact HK.out)) (fun k_ e_ => (HO_0.out.1 k_ e_))); clear HO_0; clear HB; clear HK; have HO_0 := n0_; have HB := n1_; have HK := n2_; clear n0_ n1_ n2_; clear hg hw hp_))
     go_roundg k1
     case measure => have := HK1.out; omega
     case rel => exact ⟨(y431), (wrap64 (x1_1 + 1)), (wrap64 (x5_1 + 1)), (by first | rfl | (simp; done) | (simp [*]; done)), (by first | rfl | (simp; done) | (simp [*]; done)), H', ⟨by have := HK1.out; omega⟩, ⟨by (with_reducible repeat (first | apply Kd.R_alloc | apply Kd.R_drewN | apply Kd.R_drew)); exact HO_0.out⟩, ⟨by repeat (first | (with_reducible first | exact HK.out | apply Kept.alloc | apply Kept.drewN | apply Kept.drew) | exact HK.out)⟩, ⟨by repeat first | exact HB.out | apply pw_below_drewN⟩⟩
    ·rw [if_neg c4] at H
     exact absurd H (by simp)
   ·rw [if_neg c3] at H
    have c3b0 : decide (x5_1 < (x0_1.length : Int)) = false := decide_eq_false c3
    clear c3
    simp only [Option.some.injEq, Prod.mk.injEq] at H
    obtain ⟨rfl, rfl⟩ := H
    obtain ⟨Ao9, co9, eo9⟩ := Kd.R_slice HO_0.out
    subst eo9
    go_wp2
    go_ret
    exact ⟨by first | rfl | (simp [*, errW_none, errW_some] <;> rfl), by (with_reducible repeat (first | apply Kd.R_alloc | apply Kd.R_drewN | apply Kd.R_drew)); exact HO_0.out, by repeat first | exact HB.out | apply pw_below_drewN, by repeat (first | (with_reducible first | exact HK.out | apply Kept.alloc | apply Kept.drewN | apply Kept.drew) | exact HK.out)⟩

/-! ### laws_markBucketS: function 32 -/
theorem rd_setB (xs : List S68) (i : Int) (h0 : 0 ≤ i) (h1 : i < (xs.length : Int)) (x : S68) : rd_T68 (xs.set i.toNat x) i = x := by
 unfold rd_T68
 rw [List.getD_eq_getElem?_getD, List.getElem?_set_self (by omega)]
 rfl
section
variable {W : World} {base g n cap : Nat} {ok : Nat → Prop} {xs : List S68} {i : Int}
theorem S_setB (h : Kd.S k68 68 W base ok (.slice (some ⟨g, 0, none⟩) n cap) xs) (h0 : 0 ≤ i) (h1 : i < n) (j : Nat) (y : Int) (x' : S68) (hj : j = 0 ∧ x' = ⟨y, (rd_T68 xs i).f1, (rd_T68 xs i).f2⟩ ∨ j = 1 ∧ x' = ⟨(rd_T68 xs i).f0, y, (rd_T68 xs i).f2⟩) :
  Kd.S k68 68 (W.setCells g (i.toNat * 3 + j) [.int .i64 y]) base ok (.slice (some ⟨g, 0, none⟩) n cap) (xs.set i.toNat x') ∧ W.grownBy (W.setCells g (i.toNat * 3 + j) [.int .i64 y]) (some g) := by
 obtain ⟨oki, c, hcl, hM, hcc, hfr, hoki, hH⟩ := Kd.S_elem h z68 i h0 h1
 obtain ⟨v2, rfl, hR2⟩ := k68_openM hM
 rcases hj with ⟨rfl, rfl⟩ | ⟨rfl, rfl⟩
 ·obtain ⟨h2, h3⟩ := Kd.H_seg hH h0 h1 (seg := [.int .i64 y]) (j := 0) (show 0 + 1 ≤ 3 by decide) (fun q hq => by simp at hq; subst hq; rfl)
  exact ⟨Kd.H_back h2 (k68_mkM _ base oki ⟨y, (rd_T68 xs i).f1, (rd_T68 xs i).f2⟩ (Kd.R_step hR2 (fun k hk hlt => h3.block k hlt (fun he => (hoki k hk).2 (by injection he))))) (fun _ hk => hk), h3⟩
 ·obtain ⟨h2, h3⟩ := Kd.H_seg hH h0 h1 (seg := [.int .i64 y]) (j := 1) (show 1 + 1 ≤ 3 by decide) (fun q hq => by simp at hq; subst hq; rfl)
  exact ⟨Kd.H_back h2 (k68_mkM _ base oki ⟨(rd_T68 xs i).f0, y, (rd_T68 xs i).f2⟩ (Kd.R_step hR2 (fun k hk hlt => h3.block k hlt (fun he => (hoki k hk).2 (by injection he))))) (fun _ hk => hk), h3⟩
theorem S_cellsB (h : Kd.S k68 68 W base ok (.slice (some ⟨g, 0, none⟩) n cap) xs) (h0 : 0 ≤ i) (h1 : i < n) :
  W.cell? ⟨g, i.toNat * 3, none⟩ = some (.int .i64 (rd_T68 xs i).f0) ∧ W.cell? ⟨g, i.toNat * 3 + 1, none⟩ = some (.int .i64 (rd_T68 xs i).f1) ∧ W.frozen? ⟨g, i.toNat * 3, none⟩ = false ∧ W.frozen? ⟨g, i.toNat * 3 + 1, none⟩ = false := by
 obtain ⟨oki, c, hcl, hM, hcc, hfr, hoki, hH⟩ := Kd.S_elem h z68 i h0 h1
 obtain ⟨v2, rfl, hR2⟩ := k68_openM hM
 exact ⟨hcc 0 _ rfl, hcc 1 _ rfl, hfr 0, hfr 1⟩
theorem S_itemsB (h : Kd.S k68 68 W base ok (.slice (some ⟨g, 0, none⟩) n cap) xs) (h0 : 0 ≤ i) (h1 : i < n) :
  ∃ (oki : Nat → Prop) (v2 : Value), W.cell? ⟨g, i.toNat * 3 + 2, none⟩ = some v2 ∧ (Kd.int .i64).R 2 W base oki v2 (rd_T68 xs i).f2 ∧ (∀ k, oki k → ok k) ∧ ∀ (W2 : World) (okr : Nat → Prop) (l : List Int), Kept W W2 oki → (Kd.int .i64).R 2 W2 base okr v2 l → Kd.S k68 68 W2 base ok (.slice (some ⟨g, 0, none⟩) n cap) (xs.set i.toNat ⟨(rd_T68 xs i).f0, (rd_T68 xs i).f1, l⟩) := by
 obtain ⟨oki, c, hcl, hM, hcc, hfr, hoki, hH⟩ := Kd.S_elem h z68 i h0 h1
 obtain ⟨v2, rfl, hR2⟩ := k68_openM hM
 refine ⟨oki, v2, hcc 2 _ rfl, hR2, fun k hk => (hoki k hk).1, fun W2 okr l hK hR => ?_⟩
 have hH2 := (show Kd.H k68 68 W2 base ok (.slice (some ⟨g, 0, none⟩) n cap) xs i oki _ from ⟨hH.1, hH.2.choose, Kd.R_step hH.2.choose_spec (fun k hk hlt => hK.2 k hlt hk.2)⟩)
 have hRt := Kd.R_tight rfl hR
 exact Kd.H_back hH2 (k68_mkM _ base _ ⟨(rd_T68 xs i).f0, (rd_T68 xs i).f1, l⟩ hRt) (fun k hk => hR2.1 k hk.symm)
end
def laws_markBucketS.l0 : Nat → List S68 → Int → Int → Option Int
 | 0, _, _, _ => none
 | k + 1, x0, x1, x5 => if x5 < (x0.length : Int) then (if 0 ≤ x5 then (laws_markInt64S.f k (rd_T68 x0 x5).f2 (wrap64 (wrap64 (x1 + 1) + 1))).bind fun m => laws_markBucketS.l0 k (x0.set x5.toNat ⟨x1, wrap64 (x1 + 1), m.2⟩) m.1 (wrap64 (x5 + 1)) else none) else some x1
def laws_markBucketS.f (k : Nat) (l : List S68) (a1 : Int) : Option Int := laws_markBucketS.l0 k l a1 0
set_option maxHeartbeats 4000000 in
set_option maxRecDepth 100000 in
theorem laws_markBucketS.calls (k : Nat) (P0_ : Nat → Prop) (v_ : Value) (l : List S68) (a1 r : Int) (w0 w : World) (hB : Below w0.heap.size w0 w) (ho : Kd.S k68 68 w w0.heap.size P0_ v_ l) (h : laws_markBucketS.f k l a1 = some r) :
  Calls Tryz.prog 32 #[v_, .int .i64 a1] w fun e w' => e = .returned (.int .i64 r) ∧ Below w0.heap.size w0 w' ∧ Kept w w' (fun k_ => P0_ k_) := by
 obtain ⟨A0, c0, ev⟩ := Kd.S_slice ho
 subst ev
 have HO := Aside0.mk ho
 have HB := Aside0.mk hB
 have HK := Aside0.mk (Kept.refl w (fun k_ => P0_ k_))
 have HA := Aside0.mk (show laws_markBucketS.l0 k l a1 0 = some r from h)
 clear hB ho h
 go_enter Tryz.func32, Tryz.ntmps32
 go_wp2_with fail
 go_loopg [1, 5] k (fun kq v1 v5 w' => ∃ (xs : List S68) (x1 x5 : Int), v1 = .int .i64 x1 ∧ v5 = .int .i64 x5 ∧ Aside0 (xs.length = l.length) ∧ Aside0 (laws_markBucketS.l0 kq xs x1 x5 = some r) ∧ Aside0 (kq ≤ k) ∧ Aside0 (Kd.S k68 68 w' w0.heap.size P0_ (.slice A0 l.length c0) xs) ∧ Aside0 (Kept w w' (fun k_ => P0_ k_)) ∧ Aside0 (Below w0.heap.size w0 w'))
 case atStart => exact ⟨l, a1, 0, rfl, rfl, ⟨rfl⟩, HA, ⟨Nat.le_refl _⟩, HO, HK, HB⟩
 case round =>
  clear HA HO HK HB
  obtain ⟨xs, x1, x5, rfl, rfl, HL, HA, HK1, HO, HK, HB⟩ := hrel
  cases gk with
  | zero => exact absurd HA.out (by simp [laws_markBucketS.l0])
  | succ k1 =>
   have H := HA.out
   clear HA
   simp only [laws_markBucketS.l0] at H
   rw [HL.out] at H
   by_cases c3 : x5 < (l.length : Int)
   ·rw [if_pos c3] at H
    by_cases c4 : 0 ≤ x5
    case neg => rw [if_neg c4] at H; cases H
    rw [if_pos c4] at H
    obtain ⟨m, hm, H⟩ := Option.bind_eq_some_iff.1 H
    have HM := Aside0.mk hm
    have HN := Aside0.mk H
    clear hm H
    obtain ⟨go5, co5, eo5, gb5, gl5, cl5, HG5⟩ := Kd.S_form HO.out (by rw [HL.out]; omega)
    rw [HL.out] at eo5
    injection eo5 with ea _ ec
    subst ea
    subst ec
    have GB5 := Aside0.mk gb5
    have HP5 := Aside0.mk (show P0_ go5 from (Kd.S_R HO.out).1 _ rfl)
    clear gb5 gl5 HG5
    have C3 := Aside0.mk c3
    have C4 := Aside0.mk c4
    have C5 := Aside0.mk (show x5 < (xs.length : Int) by rw [HL.out]; exact c3)
    obtain ⟨hx0, hx1, hf0, hf1⟩ := S_cellsB HO.out c4 c3
    have q0 := eq_true c4
    have q1 := eq_true c3
    clear c3 c4 H
    go_wp2_with (first | ((with_reducible refine gate_store (t := 2) (p := 16) rfl ?_); refine store_event (t := 2) (p := 16) (v := ?vo_w8) (w1 := (wr.setCell ⟨go5, x5.toNat * 3, none⟩ (.int .i64 x1))) ?hg ?ho ?hn ?hr ?_; (case ho => rfl); (case hg => rfl); (case hn => rfl); (case hr => first | (go_simp; done) | (go_simp; rfl)); intro w8 hw; have hg : wr.grownBy w8 (some go5) := (by rw [hw]; exact (S_setB HO.out C4.out C3.out 0 x1 _ (.inl ⟨rfl, rfl⟩)).2); have n0 := Aside0.mk (show Kd.S k68 68 w8 w0.heap.size P0_ (.slice (some ⟨go5, 0, none⟩) l.length c0) _ from (by rw [hw]; exact (S_setB HO.out C4.out C3.out 0 x1 _ (.inl ⟨rfl, rfl⟩)).1)); have n1 := Aside0.mk (show Below w0.heap.size w0 w8 from (by rw [hw]; exact below_set HB.out GB5.out)); have n2 := Aside0.mk (Kept.of_grown (S := (fun k_ => P0_ k_)) hg HK.out (fun k_ e_ => .inl (by injection e_ with e_; subst e_; exact HP5.out))); clear HO HB HK hx0 hx1 hf0 hf1; have HO := n0; have HB := n1; have HK := n2; clear n0 n1 n2 hg hw; obtain ⟨hx0, hx1, hf0, hf1⟩ := S_cellsB HO.out C4.out C3.out) | ((with_reducible refine gate_store (t := 2) (p := 23) rfl ?_); refine store_event (t := 2) (p := 23) (v := ?vo_w9) (w1 := (w8.setCell ⟨go5, x5.toNat * 3 + 1, none⟩ (.int .i64 (wrap64 (x1 + 1))))) ?hg ?ho ?hn ?hr ?_; (case ho => rfl); (case hg => rfl); (case hn => rfl); (case hr => first | (go_simp; done) | (go_simp; rfl)); intro w9 hw; have hg : w8.grownBy w9 (some go5) := (by rw [hw]; exact (S_setB HO.out C4.out C3.out 1 (wrap64 (x1 + 1)) _ (.inr ⟨rfl, rfl⟩)).2); have n0 := Aside0.mk (show Kd.S k68 68 w9 w0.heap.size P0_ (.slice (some ⟨go5, 0, none⟩) l.length c0) _ from (by rw [hw]; exact (S_setB HO.out C4.out C3.out 1 (wrap64 (x1 + 1)) _ (.inr ⟨rfl, rfl⟩)).1)); have n1 := Aside0.mk (show Below w0.heap.size w0 w9 from (by rw [hw]; exact below_set HB.out GB5.out)); have n2 := Aside0.mk (Kept.of_grown (S := (fun k_ => P0_ k_)) hg HK.out (fun k_ e_ => .inl (by injection e_ with e_; subst e_; exact HP5.out))); clear HO HB HK hx0 hx1 hf0 hf1; have HO := n0; have HB := n1; have HK := n2; clear n0 n1 n2 hg hw; obtain ⟨oki, v2, hx2, hR2, hoki, hback⟩ := S_itemsB HO.out C4.out C3.out; have HR2 := Aside0.mk hR2; have HOK := Aside0.mk hoki; have HBK := Aside0.mk hback; clear hR2 hoki hback))
    have e1 := fun x => rd_setB xs x5 C4.out C5.out x
    have hR2 := HR2.out
    have hback := HBK.out
    simp only [List.set_set, e1] at hR2 hback
    clear HR2 HBK hx2
    refine (laws_markInt64S.calls k1 oki v2 _ _ m.1 m.2 w0 w9 HB.out hR2 HM.out).mono ?_
    rintro e w10 ⟨rfl, hr, hb, hk⟩
    replace HO := Aside0.mk (hback w10 _ m.2 hk hr)
    replace HB := Aside0.mk hb
    replace HK := Aside0.mk (HK.out.then_ hk (fun k_ hk2 => .inl (HOK.out k_ hk2)))
    clear hback hR2 hr hb hk e1
    go_wp2_with fail
    go_roundg k1
    case measure => have := HK1.out; omega
    case rel => exact ⟨_, m.1, wrap64 (x5 + 1), rfl, by go_num, ⟨by rw [List.length_set]; exact HL.out⟩, HN, ⟨by have := HK1.out; omega⟩, HO, HK, HB⟩
   ·rw [if_neg c3] at H
    obtain rfl := Option.some.inj H
    clear H
    go_wp2_with fail
    go_ret
    exact ⟨rfl, HB.out, HK.out⟩

/-! ### laws_markTree: function 12 -/
def laws_markTree.f (k : Nat) (D : List S72) (B : List S68) (a1 : Int) : Option Int := (laws_markDeviceS.f k D a1).bind fun m => laws_markBucketS.f k B m.1
set_option maxHeartbeats 4000000 in
set_option maxRecDepth 100000 in
theorem laws_markTree.calls (k : Nat) (P0_ P1_ : Nat → Prop) (v0 v1 : Value) (D : List S72) (B : List S68) (a1 r : Int) (w0 w : World) (hB : Below w0.heap.size w0 w) (ho0 : Kd.R k72 72 w w0.heap.size P0_ v0 D) (ho1 : Kd.S k68 68 w w0.heap.size P1_ v1 B) (hne : ∀ k, P1_ k → ¬ P0_ k) (h : laws_markTree.f k D B a1 = some r) :
  Calls Tryz.prog 12 #[.agg #[v0, v1], .int .i64 a1] w fun e w' => e = .returned (.int .i64 r) ∧ Below w0.heap.size w0 w' ∧ Kept w w' (fun k_ => P0_ k_ ∨ P1_ k_) := by
 obtain ⟨A0, c0, e0⟩ := Kd.R_slice ho0
 obtain ⟨A1, c1, e1⟩ := Kd.S_slice ho1
 subst e0 e1
 obtain ⟨m, hm, h2⟩ := Option.bind_eq_some_iff.1 h
 have HM := Aside0.mk hm
 have HN := Aside0.mk h2
 have HR := Aside0.mk (Kd.R_mono (Kd.R_bound ho0) (ok' := fun k => P0_ k ∧ k < w.heap.size) (fun k hk => ⟨hk.1, hk.2.2.1⟩))
 have HS := Aside0.mk (Kd.S_mono (Kd.S_bound ho1) (ok' := fun k => P1_ k ∧ k < w.heap.size) (fun k hk => ⟨hk.1, hk.2.2.1⟩))
 have HE := Aside0.mk hne
 have HB0 := Aside0.mk hB
 clear ho0 ho1 h hm h2 hne hB
 go_enter Tryz.func12, Tryz.ntmps12
 go_wp2_with fail
 have BK := Aside0.mk (blk_new w (.cells #[.slice A0 D.length c0, .slice A1 B.length c1] 35))
 have HK := Aside0.mk (Kept.alloc (Kept.refl w (fun k_ => P0_ k_ ∨ P1_ k_)) (.cells #[.slice A0 D.length c0, .slice A1 B.length c1] 35))
 replace HB0 := Aside0.mk (below_alloc HB0.out (.cells #[.slice A0 D.length c0, .slice A1 B.length c1] 35))
 replace HR := Aside0.mk (Kd.R_alloc HR.out (.cells #[.slice A0 D.length c0, .slice A1 B.length c1] 35))
 replace HS := Aside0.mk (Kd.S_alloc HS.out (.cells #[.slice A0 D.length c0, .slice A1 B.length c1] 35))
 generalize (w.alloc (.cells #[.slice A0 D.length c0, .slice A1 B.length c1] 35)) = w1 at BK HK HB0 HR HS ⊢
 refine (laws_markDeviceS.calls k _ _ D a1 m.1 m.2 w0 w1 HB0.out HR.out HM.out).mono ?_
 rintro e w2 ⟨rfl, hr, hb, hk⟩
 replace BK := Aside0.mk (blk_kept BK.out hk (fun hx => absurd hx.2 (Nat.lt_irrefl _)))
 replace HK := Aside0.mk (HK.out.then_ hk (fun k_ hx => .inl (.inl hx.1)))
 replace HB0 := Aside0.mk hb
 replace HS := Aside0.mk (Kd.S_step HS.out (fun k_ h1 hlt => hk.2 k_ hlt (fun h2 => HE.out k_ h1.1 h2.1)))
 clear hr hb hk HR HM
 have hx0 := (blk_cell BK.out 0).trans rfl
 have hx1 := (blk_cell BK.out 1).trans rfl
 go_wp2_with fail
 refine (laws_markBucketS.calls k _ _ B m.1 r w0 w2 HB0.out HS.out HN.out).mono ?_
 rintro e w3 ⟨rfl, hb, hk⟩
 replace HK := Aside0.mk (HK.out.then_ hk (fun k_ hx => .inl (.inr hx.1)))
 replace HB0 := Aside0.mk hb
 clear hb hk hx0 hx1 BK HS
 go_wp2_with fail
 go_ret
 exact ⟨rfl, HB0.out, HK.out⟩

/-! ### laws_heldInt64S: function 14 -/
def laws_heldInt64S.l0 : Nat → List Int → Int → Int → Option (Int)
 | 0, _, _, _ => none
 | k + 1, x0, x1, x5 => if x5 < (x0.length : Int) then (if 0 ≤ x5 then (if (rd x0 x5) = x1 then (laws_heldInt64S.l0 k x0 (wrap64 (x1 + 1)) (wrap64 (x5 + 1))) else (some (-1))) else (none)) else (some x1)
def laws_heldInt64S.f (k : Nat) (l0 : List Int) (a1 : Int) : Option (Int) := laws_heldInt64S.l0 k l0 a1 0
set_option maxHeartbeats 8000000 in
set_option maxRecDepth 100000 in
theorem laws_heldInt64S.calls (k : Nat) (A0 : Option Addr) (c0 : Nat) (l0 : List Int) (a1 : Int) (r : Int) (w : World) (hr0 : Kd.C (Kd.int .i64) w A0 l0.length l0) (hc0 : l0.length ≤ c0) (h : laws_heldInt64S.f k l0 a1 = some r) :
  Calls Tryz.prog 14 #[.slice A0 l0.length c0, .int .i64 a1] w fun e w' => e = .returned (.int .i64 r) ∧ Drawn0 w w' := by
 have HR0 := Aside0.mk hr0
 have HC0 := Aside0.mk hc0
 clear hr0 hc0
 have H : (laws_heldInt64S.l0 k l0 a1 0) = some r := h
 clear h
 have H' := Aside0.mk H
 clear H
 go_enter Tryz.func14, Tryz.ntmps14
 go_wp2
 go_loopg [1, 5] k (fun kq v1 v5 w' => ∃ (x1_1 : Int) (x5_1 : Int), v1 = .int .i64 x1_1 ∧ v5 = .int .i64 x5_1 ∧ Aside0 (laws_heldInt64S.l0 kq l0 x1_1 x5_1 = some r) ∧ Aside0 (kq ≤ k) ∧ Drawn0 w w')
 case atStart => exact ⟨(a1), (0), (by first | rfl | (simp; done) | (simp [*]; done)), (by first | rfl | (simp; done) | (simp [*]; done)), H', ⟨Nat.le_refl _⟩, by repeat (first | exact Drawn0.refl _ | apply Drawn0.step)⟩
 case round =>
  clear H'
  try clear c1
  try clear p2
  obtain ⟨x1_1, x5_1, rfl, rfl, HA, HK1, ⟨m1, rfl⟩⟩ := hrel
  cases gk with
  | zero => exact absurd HA.out (by simp [laws_heldInt64S.l0])
  | succ k1 =>
   have H := HA.out
   clear HA
   simp only [laws_heldInt64S.l0] at H
   by_cases c3 : x5_1 < (l0.length : Int)
   ·rw [if_pos c3] at H
    have c3b0 : decide (x5_1 < (l0.length : Int)) = true := decide_eq_true c3
    clear c3
    by_cases c4 : 0 ≤ x5_1
    ·rw [if_pos c4] at H
     have c4b0 : decide (0 ≤ x5_1) = true := decide_eq_true c4
     clear c4
     by_cases c5 : (rd l0 x5_1) = x1_1
     ·rw [if_pos c5] at H
      have c5b0 : ((rd l0 x5_1) == x1_1) = true := beq_iff_eq.mpr c5
      have c5b1 : ((rd l0 x5_1) != x1_1) = false := bne_eq_false_iff_eq.mpr c5
      clear c5
      have H' := Aside0.mk H
      clear H
      have p432 : 0 ≤ (x5_1 : Int) := of_decide_eq_true (by assumption)
      have q432 : x5_1 < (l0.length : Int) := of_decide_eq_true (by assumption)
      obtain ⟨ad432, e432, hx432_0⟩ := Kd.at_int HR0.out x5_1 p432 q432
      cases e432
      replace p432 := eq_true p432
      replace q432 := eq_true q432
      go_wp2
      go_roundg k1
      case measure => have := HK1.out; omega
      case rel => exact ⟨(wrap64 (x1_1 + 1)), (wrap64 (x5_1 + 1)), (by first | rfl | (simp; done) | (simp [*]; done)), (by first | rfl | (simp; done) | (simp [*]; done)), H', ⟨by have := HK1.out; omega⟩, by repeat (first | exact Drawn0.refl _ | apply Drawn0.step)⟩
     ·rw [if_neg c5] at H
      have c5b0 : ((rd l0 x5_1) == x1_1) = false := beq_eq_false_iff_ne.mpr c5
      have c5b1 : ((rd l0 x5_1) != x1_1) = true := bne_iff_ne.mpr c5
      obtain rfl := Option.some.inj H
      have p432 : 0 ≤ (x5_1 : Int) := of_decide_eq_true (by assumption)
      have q432 : x5_1 < (l0.length : Int) := of_decide_eq_true (by assumption)
      obtain ⟨ad432, e432, hx432_0⟩ := Kd.at_int HR0.out x5_1 p432 q432
      cases e432
      replace p432 := eq_true p432
      replace q432 := eq_true q432
      go_wp2
      go_ret
      exact ⟨by first | rfl | (simp; done) | (simp [*]; done), by repeat (first | exact Drawn0.refl _ | apply Drawn0.step)⟩
    ·rw [if_neg c4] at H
     exact absurd H (by simp)
   ·rw [if_neg c3] at H
    have c3b0 : decide (x5_1 < (l0.length : Int)) = false := decide_eq_false c3
    clear c3
    obtain rfl := Option.some.inj H
    go_wp2
    go_ret
    exact ⟨by first | rfl | (simp; done) | (simp [*]; done), by repeat (first | exact Drawn0.refl _ | apply Drawn0.step)⟩

end Go.Proofs.YtkadeelplnkpgaaGreat.Q

namespace Go.Proofs.YtkadeelplnkpgaaGreatW.PrintMore
open Go.RowKit Go.Proofs.YtkadeelplnkpgaaGreatW.PrintWords Go.Proofs.YtkadeelplnkpgaaGreatW.PrintLast
theorem pq_o : (∀ (l : List Value) (i : Nat) (v : Value), l.toArray.setIfInBounds i v = (l.set i v).toArray) ∧ (∀ (x v : Value) (xs : List Value), (x :: xs).set 0 v = v :: xs) ∧ (∀ (x v : Value) (xs : List Value) (n : Nat), (x :: xs).set (n + 1) v = x :: xs.set n v) ∧ (∀ n : Int, IntKind.i64.wrap n = Go.RowKit.wrap64 n) ∧ (∀ n : Int, IntKind.i32.wrap n = Go.RowKit.wrap32 n) :=
 ⟨fun l i v => List.setIfInBounds_toArray l i v, fun _ _ _ => rfl, fun _ _ _ _ => rfl, i64_w, i32_w⟩
/-- so many true, so many false -/
def az (n m : Nat) : Array Bool := (List.replicate n true ++ List.replicate m false).toArray
section
variable {P : Program} {ops : Array Oper} {Q : Exit → Act → World → Prop} {md : Region.Mode} {S : World → Prop} {ds : List Nat} {oi : Oper} {fuel : Nat} {l : Array Bool} {a : Act} {w : World} {N : Option Tmp} {v : Value} {a' : Act}
/-- an operation that yields in every world -/
theorem pu (i : Nat) (N : Option Tmp) (l' : Array Bool) (hc : anyB md ops l l' i = true) (h : wpAnyLast P md ops Q S ds fuel l' a' w) (hi : ops[i]? = some oi := by rfl) (hN : oi.dst = N := by rfl) (hQ : ∀ c a w, Q (.panic c) (a.put oi.dst v) w → Q (.panic c) a w := by exact fun _ _ _ h => h) (hw : Region.wanted oi (yielded ops a.tmps) = true := by rfl) (hy : ∀ w, (execOp a.eval oi).run P w = .ok (.value v) w := by intro w'; go_simp; with_reducible rfl) (ha : a.put N v = a' := by simp only [Act.put, pq_o]; rfl) : wpAnyLast P md ops Q S ds (fuel + 1) l a w := pure_ l' hi hN hc hQ (Or.inl ⟨hw, hy⟩) ha h
/-- an operation that is not carried out -/
theorem po (i : Nat) (N : Option Tmp) (l' : Array Bool) (hc : anyB md ops l l' i = true) (h : wpAnyLast P md ops Q S ds fuel l' a' w) (hi : ops[i]? = some oi := by rfl) (hN : oi.dst = N := by rfl) (hQ : ∀ c a w, Q (.panic c) (a.put oi.dst undef) w → Q (.panic c) a w := by exact fun _ _ _ h => h) (hw : Region.wanted oi (yielded ops a.tmps) = false := by rfl) (ha : a.put N undef = a' := by simp only [Act.put, pq_o]; rfl) : wpAnyLast P md ops Q S ds (fuel + 1) l a w := pure_ l' hi hN hc hQ (Or.inr ⟨hw, rfl⟩) ha h
/-- a load, its cell told by what is held -/
theorem tk (i : Nat) (N : Option Tmp) (l' : Array Bool) (hS : S w) (hc : takeB md ops ds l l' i = true) (h : wpAnyLast P md ops Q S ds fuel l' a' w) (hi : ops[i]? = some oi := by rfl) (hN : oi.dst = N := by rfl) (hQ : ∀ c a w, Q (.panic c) (a.put oi.dst v) w → Q (.panic c) a w := by exact fun _ _ _ h => h) (hw : Region.wanted oi (yielded ops a.tmps) = true := by rfl) (hy : ∀ w, S w → (execOp a.eval oi).run P w = .ok (.value v) w := by (intro w' hs; (repeat' (first | cases hs with | intro x hs => skip)); go_simp; with_reducible rfl)) (ha : a.put N v = a' := by simp only [Act.put, pq_o]; rfl) : wpAnyLast P md ops Q S ds (fuel + 1) l a w := take_ l' hi hN hc hQ (Or.inl ⟨hw, hy⟩) hS ha h
/-- the frame written out behind a call -/
theorem nr (h : wpAnyLast P md ops Q S ds fuel l a' w) (ha : a = a' := by first | (simp only [Act.put, pq_o]; rfl) | rfl) : wpAnyLast P md ops Q S ds fuel l a w := norm_ ha h
/-- a call of a Go function in a region that keeps its order -/
theorem gl {rest : List Oper} {f : FuncId} {fn : Func} {aS : Array Operand} {ts : Array TypeId} (N : Option Tmp) (hf : P.funcs[f]? = some fn) (args : Array Value) (h : Calls P f args w fun e w' => ∃ v, e = .returned v ∧ wpList P ops Q rest (a.put N v) w') (hd : oi.dst = N := by rfl) (hg : oi.guard = none := by rfl) (hname : (fn.name == "runtime.NumGoroutine") = false := by kernel_rfl) (hb : fn.body.isSome = true := by rfl) (hop : oi.op = .call { callee := .value (.func f), args := aS, argTypes := ts } := by rfl) (hargs : aS.map a.eval = args := by (try simp only [List.map_toArray, List.map_cons, List.map_nil]); first | done | rfl) : wpList P ops Q (oi :: rest) a w := goesL_ N hd hg hf hname hb args hop hargs h
end

end Go.Proofs.YtkadeelplnkpgaaGreatW.PrintMore

namespace Go.Proofs.YtkadeelplnkpgaaGreat.Q
open Go.RowKit Go.Proofs.YtkadeelplnkpgaaGreatW.PrintWords Go.Proofs.YtkadeelplnkpgaaGreatW.PrintLast Go.Proofs.YtkadeelplnkpgaaGreatW.PrintMore
attribute [local go_sem] max2_int min2_int max_two min_two max_three min_three max_four min_four   -- for this text's walks alone
set_option linter.unusedVariables false
set_option linter.unusedSimpArgs false
/-! ### spec_l00In: function 22 -/
def spec_l00In.f (a0 : Int) (a1 : Int) (a2 : Int) : Option (Bool) := if a0 ≥ a1 then (some (decide (a0 ≤ a2))) else (some false)
set_option maxHeartbeats 8000000 in
set_option maxRecDepth 100000 in
theorem spec_l00In.calls (a0 : Int) (a1 : Int) (a2 : Int) (r : Bool) (w : World) (h : spec_l00In.f a0 a1 a2 = some r) :
  Calls Tryz.prog 22 #[.int .i64 a0, .int .i64 a1, .int .i64 a2] w fun e w' => e = .returned (.bool r) ∧ Drawn0 w w' := by
 have H : (if a0 ≥ a1 then (some (decide (a0 ≤ a2))) else (some false)) = some r := h
 clear h
 by_cases c4 : a0 ≥ a1
 ·rw [if_pos c4] at H
  have c4b0 : decide (a1 ≤ a0) = true := decide_eq_true c4
  clear c4
  obtain rfl := Option.some.inj H
  go_enter Tryz.func22, Tryz.ntmps22
  go_wp2
  go_ret
  exact ⟨by first | rfl | (simp; done) | (simp [*]; done), by repeat (first | exact Drawn0.refl _ | apply Drawn0.step)⟩
 ·rw [if_neg c4] at H
  have c4b0 : decide (a1 ≤ a0) = false := decide_eq_false c4
  clear c4
  obtain rfl := Option.some.inj H
  go_enter Tryz.func22, Tryz.ntmps22
  go_wp2
  go_ret
  exact ⟨by first | rfl | (simp; done) | (simp [*]; done), by repeat (first | exact Drawn0.refl _ | apply Drawn0.step)⟩

/-! ### spec_l06Devices: function 38 -/
def spec_l06Devices.l0 : Nat → Int → List (S72) → List (S68) → Option (Bool)
 | 0, _, _, _ => none
 | k + 1, x3, x109000, x109001 => if x3 < (x109000.length : Int) then (if 0 ≤ x3 then ((spec_l00In.f ((rd_T72 x109000 x3).f0) 0 15).bind fun t111 => (if t111 = true then ((spec_l00In.f ((rd_T72 x109000 x3).f1) 0 8).bind fun t112 => (if t112 = true then (if x3 > 0 then (if 0 ≤ (wrap64 (x3 - 1)) then (if (wrap64 (x3 - 1)) < (x109000.length : Int) then (if ((rd_T72 x109000 x3).f0) ≤ ((rd_T72 x109000 (wrap64 (x3 - 1))).f0) then (some false) else (spec_l06Devices.l0 k (wrap64 (x3 + 1)) x109000 x109001)) else (none)) else (none)) else (spec_l06Devices.l0 k (wrap64 (x3 + 1)) x109000 x109001)) else (some false))) else (some false))) else (none)) else (some true)
def spec_l06Devices.f (k : Nat) (l0_0 : List (S72)) (l0_1 : List (S68)) : Option (Bool) := if (l0_0.length : Int) > 16 then (some false) else (spec_l06Devices.l0 k 0 l0_0 l0_1)
set_option maxHeartbeats 8000000 in
set_option maxRecDepth 100000 in
theorem spec_l06Devices.calls (k : Nat) (A0_0 : Option Addr) (c0_0 : Nat) (l0_0 : List (S72)) (A0_1 : Option Addr) (c0_1 : Nat) (l0_1 : List (S68)) (r : Bool) (w : World) (hr0_0 : Kd.C k72 w A0_0 l0_0.length l0_0) (hc0_0 : l0_0.length ≤ c0_0) (hr0_1 : Kd.C k68 w A0_1 l0_1.length l0_1) (hc0_1 : l0_1.length ≤ c0_1) (h : spec_l06Devices.f k l0_0 l0_1 = some r) :
  Calls Tryz.prog 38 #[.agg #[.slice A0_0 l0_0.length c0_0, .slice A0_1 l0_1.length c0_1]] w fun e w' => e = .returned (.bool r) ∧ Below w.heap.size w w' := by
 have hm := Kd.C_max hr0_0
 have HR := Aside0.mk hr0_0
 clear hr0_1 hc0_1 hr0_0 hc0_0
 unfold spec_l06Devices.f at h
 by_cases c2 : (l0_0.length : Int) > 16
 ·rw [if_pos c2] at h
  have c2b := decide_eq_true (show 16 < (l0_0.length : Int) by omega)
  have c2n := decide_eq_true (show 16 < l0_0.length by omega)
  obtain rfl := Option.some.inj h
  clear h c2
  go_enter Tryz.func38, Tryz.ntmps38
  go_wp2_with fail
  go_ret
  exact ⟨rfl, below_alloc (Below.refl _ _) _⟩
 rw [if_neg c2] at h
 have c2b := decide_eq_false (show ¬ 16 < (l0_0.length : Int) by omega)
 have c2n := decide_eq_false (show ¬ 16 < l0_0.length by omega)
 have H0 := Aside0.mk h
 clear h c2
 go_enter Tryz.func38, Tryz.ntmps38
 go_wp2_with fail
 have BK := Aside0.mk (blk_new w (.cells #[.slice A0_0 l0_0.length c0_0, .slice A0_1 l0_1.length c0_1] 35))
 have HB := Aside0.mk (below_alloc (Below.refl w.heap.size w) (.cells #[.slice A0_0 l0_0.length c0_0, .slice A0_1 l0_1.length c0_1] 35))
 generalize (w.alloc (.cells #[.slice A0_0 l0_0.length c0_0, .slice A0_1 l0_1.length c0_1] 35)) = w1 at BK HB ⊢
 obtain ⟨gt, hgt⟩ : ∃ g, g = w.heap.size := ⟨_, rfl⟩
 rw [← hgt] at BK ⊢
 have HGT := Aside0.mk hgt
 clear hgt c2b c2n
 go_loopg [3] k (fun gg s3 wr => ∃ x : Int, s3 = .int .i64 x ∧ Aside0 (spec_l06Devices.l0 gg x l0_0 l0_1 = some r) ∧ Aside0 (wr.heap[gt]? = some (.cells #[.slice A0_0 l0_0.length c0_0, .slice A0_1 l0_1.length c0_1] 35 (0, 0))) ∧ Aside0 (Below w.heap.size w wr))
 case atStart => exact ⟨0, rfl, H0, BK, HB⟩
 case round =>
  clear H0 BK HB
  obtain ⟨x, rfl, HA, BK, HB⟩ := hrel
  have ht0 := (blk_cell BK.out 0).trans rfl
  have ht1 := (blk_cell BK.out 1).trans rfl
  cases gk with
  | zero => exact absurd HA.out (by simp [spec_l06Devices.l0])
  | succ k1 =>
  have H := HA.out
  clear HA
  simp only [spec_l06Devices.l0] at H
  by_cases c : x < (l0_0.length : Int)
  case neg =>
   rw [if_neg c] at H
   obtain rfl := Option.some.inj H
   have cb := decide_eq_false c
   clear H c
   go_wp2_with fail
   go_ret
   exact ⟨rfl, HB.out⟩
  rw [if_pos c] at H
  by_cases c0 : 0 ≤ x
  case neg => rw [if_neg c0] at H; cases H
  rw [if_pos c0] at H
  obtain ⟨t1, A1, H⟩ := Option.bind_eq_some_iff.1 H
  have A1 := Aside0.mk A1
  obtain ⟨ad, rfl, hx0, hx1⟩ := at_T72 HR.out x c0 c
  replace hx0 := (HB.out.cell (World.block_lt_of_cell? w _ hx0)).trans hx0
  replace hx1 := (HB.out.cell (World.block_lt_of_cell? w _ hx1)).trans hx1
  have HPV : Aside0 (∀ y, y = wrap64 (x - 1) → 0 ≤ y → y < (l0_0.length : Int) → w.cell? (ad.add (y.toNat * 2)) = some (.int .i64 (rd_T72 l0_0 y).f0)) := ⟨fun y _ h0 h1 => by
   obtain ⟨ad', e, hy, _⟩ := at_T72 HR.out y h0 h1
   cases e
   exact hy⟩
  have HH := Aside0.mk H
  have q0 := eq_true c0
  have q1 := eq_true c
  have hgl := blk_lt BK.out
  clear H
  generalize rd_T72 l0_0 x = b at A1 HH hx0 hx1
  go_wp2_with fail
  have HG := Aside0.mk (blk_new wr (.cells #[.int .i64 b.f0, .int .i64 b.f1] 72))
  have BK2 := Aside0.mk (blk_alloc BK.out (.cells #[.int .i64 b.f0, .int .i64 b.f1] 72))
  have HB2 := Aside0.mk (below_alloc HB.out (.cells #[.int .i64 b.f0, .int .i64 b.f1] 72))
  generalize (wr.alloc (.cells #[.int .i64 b.f0, .int .i64 b.f1] 72)) = W at HG BK2 HB2 ⊢
  generalize wr.heap.size = gb at HG ⊢
  clear BK HB hx0 hx1 ht0 ht1 hgl
  have hb0 := (blk_cell HG.out 0).trans rfl
  have hb1 := (blk_cell HG.out 1).trans rfl
  have ht1 := (blk_cell BK2.out 0).trans rfl
  cases t1 with
  | false =>
   have HF := Aside0.mk (Option.some.inj HH.out)
   clear HH
   go_quiet ((go_at_call 22; exact quietD (spec_l00In.calls _ _ _ _ _ A1.out)))
   go_wp2_with fail
   go_ret
   exact ⟨by rw [← HF.out]; rfl, pw_below_drewN HB2.out _⟩
  | true =>
  have H := HH.out
  clear HH
  rw [if_pos rfl] at H
  obtain ⟨t2, A2_, H⟩ := Option.bind_eq_some_iff.1 H
  have A2_ := Aside0.mk A2_
  have HH := Aside0.mk H
  clear H
  cases t2 with
  | false =>
   have HF := Aside0.mk (Option.some.inj HH.out)
   clear HH
   go_quiet ((go_at_call 22; first | exact quietD (spec_l00In.calls _ _ _ _ _ A1.out) | exact quietD (spec_l00In.calls _ _ _ _ _ A2_.out)))
   go_wp2_with fail
   go_ret
   exact ⟨by rw [← HF.out]; rfl, pw_below_drewN HB2.out _⟩
  | true =>
  have H := HH.out
  clear HH
  rw [if_pos rfl] at H
  have hwx : wrap64 (x - 1) = x - 1 := by unfold wrap64; omega
  rw [show wrap64 (x + 1) = x + 1 from by unfold wrap64; omega] at H
  have hww : IntKind.i64.wrap (x - 1) = x - 1 := (i64_w _).trans hwx
  by_cases c5 : x > 0
  ·rw [if_pos c5, hwx] at H
   have c5b := decide_eq_true (show 0 < x by omega)
   by_cases c6 : 0 ≤ x - 1
   case neg => omega
   by_cases c7 : x - 1 < (l0_0.length : Int)
   case neg => omega
   rw [if_pos c6, if_pos c7] at H
   have hp := HPV.out (x - 1) hwx.symm c6 c7
   replace hp := (HB2.out.cell (World.block_lt_of_cell? w _ hp)).trans hp
   have p6 := eq_true c6
   have p7 := eq_true c7
   clear hwx
   generalize rd_T72 l0_0 (x - 1) = pv at H hp
   have hpn := hp
   rw [show (x - 1).toNat = x.toNat - 1 from by omega] at hpn
   have p6n := eq_true (show 1 ≤ x by omega)
   have p7n := eq_true (show x ≤ (l0_0.length : Int) by omega)
   clear c5 c6 c7 HPV
   by_cases c9 : b.f0 ≤ pv.f0
   ·rw [if_pos c9] at H
    have HF := Aside0.mk (Option.some.inj H)
    have c9b := decide_eq_true (show b.f0 ≤ pv.f0 from c9)
    clear H c9
    go_quiet ((go_at_call 22; first | exact quietD (spec_l00In.calls _ _ _ _ _ A1.out) | exact quietD (spec_l00In.calls _ _ _ _ _ A2_.out)))
    go_wp2_with fail
    go_ret
    exact ⟨by rw [← HF.out]; rfl, pw_below_drewN HB2.out _⟩
   ·rw [if_neg c9] at H
    have HN := Aside0.mk H
    have c9b := decide_eq_false (show ¬ b.f0 ≤ pv.f0 from c9)
    clear H c9
    go_quiet ((go_at_call 22; first | exact quietD (spec_l00In.calls _ _ _ _ _ A1.out) | exact quietD (spec_l00In.calls _ _ _ _ _ A2_.out)))
    clear hp hpn hww
    go_wp2_with fail
    go_roundg k1
    case measure => omega
    case rel => exact ⟨x + 1, rfl, HN, ⟨blk_drewN BK2.out _⟩, ⟨pw_below_drewN HB2.out _⟩⟩
  ·rw [if_neg c5] at H
   have c5b := decide_eq_false (show ¬ 0 < x by omega)
   have HN := Aside0.mk H
   clear H c5 hwx hww HPV
   go_quiet ((go_at_call 22; first | exact quietD (spec_l00In.calls _ _ _ _ _ A1.out) | exact quietD (spec_l00In.calls _ _ _ _ _ A2_.out)))
   go_wp2_with fail
   go_roundg k1
   case measure => omega
   case rel => exact ⟨x + 1, rfl, HN, ⟨blk_drewN BK2.out _⟩, ⟨pw_below_drewN HB2.out _⟩⟩

/-! ### spec_l06Buckets: function 39 -/
def spec_l06Buckets.l0 : Nat → Int → List (S72) → List (S68) → Option (Bool)
 | 0, _, _, _ => none
 | k + 1, x3, x115000, x115001 => if x3 < (x115001.length : Int) then (if 0 ≤ x3 then ((spec_l00In.f ((rd_T68 x115001 x3).f0) (-12) (-1)).bind fun t117 => (if t117 = true then ((spec_l00In.f ((rd_T68 x115001 x3).f1) 1 3).bind fun t118 => (if t118 = true then (if (((rd_T68 x115001 x3).f2).length : Int) > 8 then (some false) else (if x3 > 0 then (if 0 ≤ (wrap64 (x3 - 1)) then (if (wrap64 (x3 - 1)) < (x115001.length : Int) then (if ((rd_T68 x115001 x3).f0) ≥ ((rd_T68 x115001 (wrap64 (x3 - 1))).f0) then (some false) else (spec_l06Buckets.l0 k (wrap64 (x3 + 1)) x115000 x115001)) else (none)) else (none)) else (spec_l06Buckets.l0 k (wrap64 (x3 + 1)) x115000 x115001))) else (some false))) else (some false))) else (none)) else (some true)
def spec_l06Buckets.f (k : Nat) (l0_0 : List (S72)) (l0_1 : List (S68)) : Option (Bool) := if (l0_1.length : Int) > 12 then (some false) else (spec_l06Buckets.l0 k 0 l0_0 l0_1)
set_option maxHeartbeats 8000000 in
set_option maxRecDepth 100000 in
theorem spec_l06Buckets.calls (k : Nat) (A0_0 : Option Addr) (c0_0 : Nat) (l0_0 : List (S72)) (A0_1 : Option Addr) (c0_1 : Nat) (l0_1 : List (S68)) (r : Bool) (w : World) (hr0_0 : Kd.C k72 w A0_0 l0_0.length l0_0) (hc0_0 : l0_0.length ≤ c0_0) (hr0_1 : Kd.C k68 w A0_1 l0_1.length l0_1) (hc0_1 : l0_1.length ≤ c0_1) (h : spec_l06Buckets.f k l0_0 l0_1 = some r) :
  Calls Tryz.prog 39 #[.agg #[.slice A0_0 l0_0.length c0_0, .slice A0_1 l0_1.length c0_1]] w fun e w' => e = .returned (.bool r) ∧ Below w.heap.size w w' := by
 have hm := Kd.C_max hr0_1
 have HR := Aside0.mk hr0_1
 clear hr0_0 hc0_0 hr0_1 hc0_1
 unfold spec_l06Buckets.f at h
 by_cases c2 : (l0_1.length : Int) > 12
 ·rw [if_pos c2] at h
  have c2b := decide_eq_true (show 12 < (l0_1.length : Int) by omega)
  have c2n := decide_eq_true (show 12 < l0_1.length by omega)
  obtain rfl := Option.some.inj h
  clear h c2
  go_enter Tryz.func39, Tryz.ntmps39
  go_wp2_with fail
  go_ret
  exact ⟨rfl, below_alloc (Below.refl _ _) _⟩
 rw [if_neg c2] at h
 have c2b := decide_eq_false (show ¬ 12 < (l0_1.length : Int) by omega)
 have c2n := decide_eq_false (show ¬ 12 < l0_1.length by omega)
 have H0 := Aside0.mk h
 clear h c2
 go_enter Tryz.func39, Tryz.ntmps39
 go_wp2_with fail
 have BK := Aside0.mk (blk_new w (.cells #[.slice A0_0 l0_0.length c0_0, .slice A0_1 l0_1.length c0_1] 35))
 have HB := Aside0.mk (below_alloc (Below.refl w.heap.size w) (.cells #[.slice A0_0 l0_0.length c0_0, .slice A0_1 l0_1.length c0_1] 35))
 generalize (w.alloc (.cells #[.slice A0_0 l0_0.length c0_0, .slice A0_1 l0_1.length c0_1] 35)) = w1 at BK HB ⊢
 obtain ⟨gt, hgt⟩ : ∃ g, g = w.heap.size := ⟨_, rfl⟩
 rw [← hgt] at BK ⊢
 have HGT := Aside0.mk hgt
 clear hgt c2b c2n
 go_loopg [3] k (fun gg s3 wr => ∃ x : Int, s3 = .int .i64 x ∧ Aside0 (spec_l06Buckets.l0 gg x l0_0 l0_1 = some r) ∧ Aside0 (wr.heap[gt]? = some (.cells #[.slice A0_0 l0_0.length c0_0, .slice A0_1 l0_1.length c0_1] 35 (0, 0))) ∧ Aside0 (Below w.heap.size w wr))
 case atStart => exact ⟨0, rfl, H0, BK, HB⟩
 case round =>
  clear H0 BK HB
  obtain ⟨x, rfl, HA, BK, HB⟩ := hrel
  have ht0 := (blk_cell BK.out 0).trans rfl
  have ht1 := (blk_cell BK.out 1).trans rfl
  cases gk with
  | zero => exact absurd HA.out (by simp [spec_l06Buckets.l0])
  | succ k1 =>
  have H := HA.out
  clear HA
  simp only [spec_l06Buckets.l0] at H
  by_cases c : x < (l0_1.length : Int)
  case neg =>
   rw [if_neg c] at H
   obtain rfl := Option.some.inj H
   have cb := decide_eq_false c
   clear H c
   go_wp2_with fail
   go_ret
   exact ⟨rfl, HB.out⟩
  rw [if_pos c] at H
  by_cases c0 : 0 ≤ x
  case neg => rw [if_neg c0] at H; cases H
  rw [if_pos c0] at H
  obtain ⟨t1, A1, H⟩ := Option.bind_eq_some_iff.1 H
  have A1 := Aside0.mk A1
  obtain ⟨ad, A2, c3, rfl, hx0, hx1, hx2, hl2, hg2⟩ := at_T68 HR.out x c0 c
  clear hl2 hg2
  replace hx0 := (HB.out.cell (World.block_lt_of_cell? w _ hx0)).trans hx0
  replace hx1 := (HB.out.cell (World.block_lt_of_cell? w _ hx1)).trans hx1
  replace hx2 := (HB.out.cell (World.block_lt_of_cell? w _ hx2)).trans hx2
  have HPV : Aside0 (∀ y, y = wrap64 (x - 1) → 0 ≤ y → y < (l0_1.length : Int) → w.cell? (ad.add (y.toNat * 3)) = some (.int .i64 (rd_T68 l0_1 y).f0)) := ⟨fun y _ h0 h1 => by
   obtain ⟨ad', _, _, e, hy, _⟩ := at_T68 HR.out y h0 h1
   cases e
   exact hy⟩
  have HH := Aside0.mk H
  have q0 := eq_true c0
  have q1 := eq_true c
  have hgl := blk_lt BK.out
  clear H
  generalize rd_T68 l0_1 x = b at A1 HH hx0 hx1 hx2
  go_wp2_with fail
  have HG := Aside0.mk (blk_new wr (.cells #[.int .i64 b.f0, .int .i64 b.f1, .slice A2 b.f2.length c3] 68))
  have BK2 := Aside0.mk (blk_alloc BK.out (.cells #[.int .i64 b.f0, .int .i64 b.f1, .slice A2 b.f2.length c3] 68))
  have HB2 := Aside0.mk (below_alloc HB.out (.cells #[.int .i64 b.f0, .int .i64 b.f1, .slice A2 b.f2.length c3] 68))
  generalize (wr.alloc (.cells #[.int .i64 b.f0, .int .i64 b.f1, .slice A2 b.f2.length c3] 68)) = W at HG BK2 HB2 ⊢
  generalize wr.heap.size = gb at HG ⊢
  clear BK HB hx0 hx1 hx2 ht0 ht1 hgl
  have hb0 := (blk_cell HG.out 0).trans rfl
  have hb1 := (blk_cell HG.out 1).trans rfl
  have hb2 := (blk_cell HG.out 2).trans rfl
  have ht1 := (blk_cell BK2.out 1).trans rfl
  cases t1 with
  | false =>
   have HF := Aside0.mk (Option.some.inj HH.out)
   clear HH
   go_quiet ((go_at_call 22; exact quietD (spec_l00In.calls _ _ _ _ _ A1.out)))
   go_wp2_with fail
   go_ret
   exact ⟨by rw [← HF.out]; rfl, pw_below_drewN HB2.out _⟩
  | true =>
  have H := HH.out
  clear HH
  rw [if_pos rfl] at H
  obtain ⟨t2, A2_, H⟩ := Option.bind_eq_some_iff.1 H
  have A2_ := Aside0.mk A2_
  have HH := Aside0.mk H
  clear H
  cases t2 with
  | false =>
   have HF := Aside0.mk (Option.some.inj HH.out)
   clear HH
   go_quiet ((go_at_call 22; first | exact quietD (spec_l00In.calls _ _ _ _ _ A1.out) | exact quietD (spec_l00In.calls _ _ _ _ _ A2_.out)))
   go_wp2_with fail
   go_ret
   exact ⟨by rw [← HF.out]; rfl, pw_below_drewN HB2.out _⟩
  | true =>
  have H := HH.out
  clear HH
  rw [if_pos rfl] at H
  by_cases c8 : (b.f2.length : Int) > 8
  ·rw [if_pos c8] at H
   have HF := Aside0.mk (Option.some.inj H)
   have c8b := decide_eq_true (show 8 < (b.f2.length : Int) by omega)
   have c8n := decide_eq_true (show 8 < b.f2.length by omega)
   clear H c8
   go_quiet ((go_at_call 22; first | exact quietD (spec_l00In.calls _ _ _ _ _ A1.out) | exact quietD (spec_l00In.calls _ _ _ _ _ A2_.out)))
   go_wp2_with fail
   go_ret
   exact ⟨by rw [← HF.out]; rfl, pw_below_drewN HB2.out _⟩
  rw [if_neg c8] at H
  have c8b := decide_eq_false (show ¬ 8 < (b.f2.length : Int) by omega)
  have c8n := decide_eq_false (show ¬ 8 < b.f2.length by omega)
  have hwx : wrap64 (x - 1) = x - 1 := by unfold wrap64; omega
  rw [show wrap64 (x + 1) = x + 1 from by unfold wrap64; omega] at H
  have hww : IntKind.i64.wrap (x - 1) = x - 1 := (i64_w _).trans hwx
  by_cases c5 : x > 0
  ·rw [if_pos c5, hwx] at H
   have c5b := decide_eq_true (show 0 < x by omega)
   by_cases c6 : 0 ≤ x - 1
   case neg => omega
   by_cases c7 : x - 1 < (l0_1.length : Int)
   case neg => omega
   rw [if_pos c6, if_pos c7] at H
   have hp := HPV.out (x - 1) hwx.symm c6 c7
   replace hp := (HB2.out.cell (World.block_lt_of_cell? w _ hp)).trans hp
   have p6 := eq_true c6
   have p7 := eq_true c7
   clear hwx
   generalize rd_T68 l0_1 (x - 1) = pv at H hp
   have hpn := hp
   rw [show (x - 1).toNat = x.toNat - 1 from by omega] at hpn
   have p6n := eq_true (show 1 ≤ x by omega)
   have p7n := eq_true (show x ≤ (l0_1.length : Int) by omega)
   clear c5 c6 c7 c8 HPV
   by_cases c9 : b.f0 ≥ pv.f0
   ·rw [if_pos c9] at H
    have HF := Aside0.mk (Option.some.inj H)
    have c9b := decide_eq_true (show pv.f0 ≤ b.f0 from c9)
    clear H c9
    go_quiet ((go_at_call 22; first | exact quietD (spec_l00In.calls _ _ _ _ _ A1.out) | exact quietD (spec_l00In.calls _ _ _ _ _ A2_.out)))
    go_wp2_with fail
    go_ret
    exact ⟨by rw [← HF.out]; rfl, pw_below_drewN HB2.out _⟩
   ·rw [if_neg c9] at H
    have HN := Aside0.mk H
    have c9b := decide_eq_false (show ¬ pv.f0 ≤ b.f0 from c9)
    clear H c9
    go_quiet ((go_at_call 22; first | exact quietD (spec_l00In.calls _ _ _ _ _ A1.out) | exact quietD (spec_l00In.calls _ _ _ _ _ A2_.out)))
    clear hp hpn hww
    go_wp2_with fail
    go_roundg k1
    case measure => omega
    case rel => exact ⟨x + 1, rfl, HN, ⟨blk_drewN BK2.out _⟩, ⟨pw_below_drewN HB2.out _⟩⟩
  ·rw [if_neg c5] at H
   have c5b := decide_eq_false (show ¬ 0 < x by omega)
   have HN := Aside0.mk H
   clear H c5 c8 hwx hww HPV
   go_quiet ((go_at_call 22; first | exact quietD (spec_l00In.calls _ _ _ _ _ A1.out) | exact quietD (spec_l00In.calls _ _ _ _ _ A2_.out)))
   go_wp2_with fail
   go_roundg k1
   case measure => omega
   case rel => exact ⟨x + 1, rfl, HN, ⟨blk_drewN BK2.out _⟩, ⟨pw_below_drewN HB2.out _⟩⟩

/-! ### spec_l00Has: function 60 -/
def spec_l00Has.l0 : Nat → List Int → Int → Int → Option (Bool)
 | 0, _, _, _ => none
 | k + 1, x0, x1, x5 => if x5 < (x0.length : Int) then (if 0 ≤ x5 then (if (rd x0 x5) = x1 then (some true) else (spec_l00Has.l0 k x0 x1 (wrap64 (x5 + 1)))) else (none)) else (some false)
def spec_l00Has.f (k : Nat) (l0 : List Int) (a1 : Int) : Option (Bool) := spec_l00Has.l0 k l0 a1 0
set_option maxHeartbeats 8000000 in
set_option maxRecDepth 100000 in
theorem spec_l00Has.calls (k : Nat) (A0 : Option Addr) (c0 : Nat) (l0 : List Int) (a1 : Int) (r : Bool) (w : World) (hr0 : Kd.C (Kd.int .i64) w A0 l0.length l0) (hc0 : l0.length ≤ c0) (h : spec_l00Has.f k l0 a1 = some r) :
  Calls Tryz.prog 60 #[.slice A0 l0.length c0, .int .i64 a1] w fun e w' => e = .returned (.bool r) ∧ Drawn0 w w' := by
 have HR0 := Aside0.mk hr0
 have HC0 := Aside0.mk hc0
 clear hr0 hc0
 have H : (spec_l00Has.l0 k l0 a1 0) = some r := h
 clear h
 have H' := Aside0.mk H
 clear H
 go_enter Tryz.func60, Tryz.ntmps60
 go_wp2
 go_loopg [5] k (fun kq v5 w' => ∃ (x5_1 : Int), v5 = .int .i64 x5_1 ∧ Aside0 (spec_l00Has.l0 kq l0 a1 x5_1 = some r) ∧ Aside0 (kq ≤ k) ∧ Drawn0 w w')
 case atStart => exact ⟨(0), (by first | rfl | (simp; done) | (simp [*]; done)), H', ⟨Nat.le_refl _⟩, by repeat (first | exact Drawn0.refl _ | apply Drawn0.step)⟩
 case round =>
  clear H'
  try clear p2
  obtain ⟨x5_1, rfl, HA, HK1, ⟨m1, rfl⟩⟩ := hrel
  cases gk with
  | zero => exact absurd HA.out (by simp [spec_l00Has.l0])
  | succ k1 =>
   have H := HA.out
   clear HA
   simp only [spec_l00Has.l0] at H
   by_cases c3 : x5_1 < (l0.length : Int)
   ·rw [if_pos c3] at H
    have c3b0 : decide (x5_1 < (l0.length : Int)) = true := decide_eq_true c3
    clear c3
    by_cases c4 : 0 ≤ x5_1
    ·rw [if_pos c4] at H
     have c4b0 : decide (0 ≤ x5_1) = true := decide_eq_true c4
     clear c4
     by_cases c5 : (rd l0 x5_1) = a1
     ·rw [if_pos c5] at H
      have c5b0 : ((rd l0 x5_1) == a1) = true := beq_iff_eq.mpr c5
      have c5b1 : ((rd l0 x5_1) != a1) = false := bne_eq_false_iff_eq.mpr c5
      clear c5
      obtain rfl := Option.some.inj H
      have p120 : 0 ≤ (x5_1 : Int) := of_decide_eq_true (by assumption)
      have q120 : x5_1 < (l0.length : Int) := of_decide_eq_true (by assumption)
      obtain ⟨ad120, e120, hx120_0⟩ := Kd.at_int HR0.out x5_1 p120 q120
      cases e120
      replace p120 := eq_true p120
      replace q120 := eq_true q120
      go_wp2
      go_ret
      exact ⟨by first | rfl | (simp; done) | (simp [*]; done), by repeat (first | exact Drawn0.refl _ | apply Drawn0.step)⟩
     ·rw [if_neg c5] at H
      have c5b0 : ((rd l0 x5_1) == a1) = false := beq_eq_false_iff_ne.mpr c5
      have c5b1 : ((rd l0 x5_1) != a1) = true := bne_iff_ne.mpr c5
      have H' := Aside0.mk H
      clear H
      have p120 : 0 ≤ (x5_1 : Int) := of_decide_eq_true (by assumption)
      have q120 : x5_1 < (l0.length : Int) := of_decide_eq_true (by assumption)
      obtain ⟨ad120, e120, hx120_0⟩ := Kd.at_int HR0.out x5_1 p120 q120
      cases e120
      replace p120 := eq_true p120
      replace q120 := eq_true q120
      go_wp2
      go_roundg k1
      case measure => have := HK1.out; omega
      case rel => exact ⟨(wrap64 (x5_1 + 1)), (by first | rfl | (simp; done) | (simp [*]; done)), H', ⟨by have := HK1.out; omega⟩, by repeat (first | exact Drawn0.refl _ | apply Drawn0.step)⟩
    ·rw [if_neg c4] at H
     exact absurd H (by simp)
   ·rw [if_neg c3] at H
    have c3b0 : decide (x5_1 < (l0.length : Int)) = false := decide_eq_false c3
    clear c3
    obtain rfl := Option.some.inj H
    go_wp2
    go_ret
    exact ⟨by first | rfl | (simp; done) | (simp [*]; done), by repeat (first | exact Drawn0.refl _ | apply Drawn0.step)⟩

/-! ### spec_l06Once: function 40 -/
mutual
def spec_l06Once.l0 : Nat → List Int → Int → List (S72) → List (S68) → Option (Bool)
 | 0, _, _, _, _ => none
 | k + 1, x3, x4, x122000, x122001 => if x4 < (x122001.length : Int) then (spec_l06Once.l1 k x3 x4 0 x122000 x122001) else (some true)
def spec_l06Once.l1 : Nat → List Int → Int → Int → List (S72) → List (S68) → Option (Bool)
 | 0, _, _, _, _, _ => none
 | k + 1, x3, x4, x5, x122000, x122001 => if 0 ≤ x4 then (if x4 < (x122001.length : Int) then (if x5 < (((rd_T68 x122001 x4).f2).length : Int) then (if 0 ≤ x5 then ((spec_l00Has.f k x3 (rd ((rd_T68 x122001 x4).f2) x5)).bind fun t128 => (if t128 = true then (some false) else (if x3.length < 17592186044416 then (spec_l06Once.l1 k (x3 ++ [rd ((rd_T68 x122001 x4).f2) x5]) x4 (wrap64 (x5 + 1)) x122000 x122001) else (none)))) else (none)) else (spec_l06Once.l0 k x3 (wrap64 (x4 + 1)) x122000 x122001)) else (none)) else (none)
end
def spec_l06Once.f (k : Nat) (l0_0 : List (S72)) (l0_1 : List (S68)) : Option (Bool) := spec_l06Once.l0 k (([] : List Int)) 0 l0_0 l0_1
set_option maxHeartbeats 8000000 in
set_option maxRecDepth 100000 in
theorem spec_l06Once.calls (k : Nat) (A0_0 : Option Addr) (c0_0 : Nat) (l0_0 : List (S72)) (A0_1 : Option Addr) (c0_1 : Nat) (l0_1 : List (S68)) (r : Bool) (w : World) (hr0_0 : Kd.C k72 w A0_0 l0_0.length l0_0) (hc0_0 : l0_0.length ≤ c0_0) (hr0_1 : Kd.C k68 w A0_1 l0_1.length l0_1) (hc0_1 : l0_1.length ≤ c0_1) (h : spec_l06Once.f k l0_0 l0_1 = some r) :
  Calls Tryz.prog 40 #[.agg #[.slice A0_0 l0_0.length c0_0, .slice A0_1 l0_1.length c0_1]] w fun e w' => e = .returned (.bool r) ∧ Below w.heap.size w w' := by
 have hu35 := Tryz.underlying35
 have HR0_0 := Aside0.mk hr0_0
 have HC0_0 := Aside0.mk hc0_0
 clear hr0_0 hc0_0
 have HR0_1 := Aside0.mk hr0_1
 have HC0_1 := Aside0.mk hc0_1
 clear hr0_1 hc0_1
 have HB := Aside0.mk (Below.refl w.heap.size w)
 have H : (spec_l06Once.l0 k (([] : List Int)) 0 l0_0 l0_1) = some r := h
 clear h
 obtain ⟨y122, hy122⟩ : ∃ y_ : List Int, y_ = (([] : List Int)) := ⟨_, rfl⟩
 replace H : (spec_l06Once.l0 k y122 0 l0_0 l0_1) = some r := by first | (rw [hy122]; with_reducible exact H) | (have H2_ := (Option.bind_some _ _).symm.trans H; rw [hy122]; with_reducible exact H2_) | (have H2_ := (Option.bind_some _ _).symm.trans H; with_reducible exact H2_) | with_reducible exact H | (rw [hy122]; exact H) | exact H
 have Ny122 := Aside0.mk hy122
 clear hy122
 have H' := Aside0.mk H
 clear H
 go_enter Tryz.func40, Tryz.ntmps40
 go_wp2_with (first | ((with_reducible refine gate_dst (N := 1) rfl ?_); refine box_event ?hg (N := 1) ?hd (cs := #[.slice A0_0 l0_0.length c0_0, .slice A0_1 l0_1.length c0_1]) (t := 35) ?hr ?_; (case hd => rfl); (case hg => rfl); (case hr => first | (go_simp; done) | (go_simp; rfl)); intro gb121 hg w2 hbox hb; have n0_ := Aside0.mk (below_step (by repeat first | exact HB.out | apply pw_below_drewN) hb); have n1_ := Aside0.mk (hbox); clear HB; have HB := n0_; have BK121 := n1_; clear n0_ n1_; clear hb hbox hg) | ((with_reducible refine gate_dst (N := 7) rfl ?_); refine Kd.R_lit (Kd.int .i64) _ 2 ?hg (N := 7) ?hd (xs := ([] : List Int)) (inner := []) (ok := fun _ => True) (okp := fun _ => True) ?hr ?hp (fun _ hk => hk) trivial (Below.refl _ _) (Nat.le_refl _) (by simp) ?_; (case hd => rfl); (case hg => rfl); (case hr => first | (go_simp; done) | (go_simp; rfl)); (case hp => exact (Reps.none _ _)); intro v123 w3 ho4 hb hg_ hnew_; clear hg_ hnew_; (first | rw [← Ny122.out] at ho4 | (simp only [Int.reduceToNat] at ho4; rw [← Ny122.out] at ho4)); have n0_ := Aside0.mk (Kd.R_lower ho4 (below_size (by repeat first | exact HB.out | apply pw_below_drewN))); have n1_ := Aside0.mk (blk_below (by exact BK121.out) hb); have n2_ := Aside0.mk (below_step (by repeat first | exact HB.out | apply pw_below_drewN) hb); clear BK121; clear HB; have HO124 := n0_; have BK121 := n1_; have HB := n2_; clear n0_ n1_ n2_; clear hb ho4))
 go_loopg [3, 4] k (fun kq v3 v4 w' => ∃ (x3_1 : List Int) (x4_1 : Int), v4 = .int .i64 x4_1 ∧ Aside0 (spec_l06Once.l0 kq x3_1 x4_1 l0_0 l0_1 = some r) ∧ Aside0 (kq ≤ k) ∧ Aside0 (Kd.R (Kd.int .i64) 2 w' w.heap.size (fun _ => True) v3 x3_1) ∧ Aside0 (w'.heap[gb121]? = some (.cells #[(.slice A0_0 l0_0.length c0_0), (.slice A0_1 l0_1.length c0_1)] 35 (0, 0))) ∧ Aside0 (Below w.heap.size w w'))
 case atStart => exact ⟨(y122), (0), (by first | rfl | (simp; done) | (simp [*]; done)), H', ⟨Nat.le_refl _⟩, ⟨by (with_reducible repeat (first | apply Kd.R_alloc | apply Kd.R_drewN | apply Kd.R_drew)); exact HO124.out⟩, ⟨by exact BK121.out⟩, ⟨by repeat first | exact HB.out | apply pw_below_drewN⟩⟩
 case round =>
  clear H'
  try clear p2
  try clear c4
  obtain ⟨x3_1, x4_1, rfl, HA, HK1, HO_3, BK121, HB⟩ := hrel
  cases gk with
  | zero => exact absurd HA.out (by simp [spec_l06Once.l0])
  | succ k1 =>
   have H := HA.out
   clear HA
   simp only [spec_l06Once.l0] at H
   by_cases c5 : x4_1 < (l0_1.length : Int)
   ·rw [if_pos c5] at H
    have c5b0 : decide (x4_1 < (l0_1.length : Int)) = true := decide_eq_true c5
    clear c5
    have H' := Aside0.mk H
    clear H
    have hcz6_0 := (blk_cell BK121.out 0).trans rfl
    have hcz6_1 := (blk_cell BK121.out 1).trans rfl
    go_wp2
    go_loopg [3, 5] k1 (fun kq v3 v5 w' => ∃ (x3_2 : List Int) (x5_2 : Int), v5 = .int .i64 x5_2 ∧ Aside0 (spec_l06Once.l1 kq x3_2 x4_1 x5_2 l0_0 l0_1 = some r) ∧ Aside0 (kq ≤ k1) ∧ Aside0 (Kd.R (Kd.int .i64) 2 w' w.heap.size (fun _ => True) v3 x3_2) ∧ Aside0 (w'.heap[gb121]? = some (.cells #[(.slice A0_0 l0_0.length c0_0), (.slice A0_1 l0_1.length c0_1)] 35 (0, 0))) ∧ Aside0 (Below w.heap.size w w'))
    case atStart => exact ⟨(x3_1), (0), (by first | rfl | (simp; done) | (simp [*]; done)), H', ⟨Nat.le_refl _⟩, ⟨by (with_reducible repeat (first | apply Kd.R_alloc | apply Kd.R_drewN | apply Kd.R_drew)); exact HO_3.out⟩, ⟨by exact BK121.out⟩, ⟨by repeat first | exact HB.out | apply pw_below_drewN⟩⟩
    case round =>
     clear H'
     try clear p2
     try clear c4
     try clear c5
     try clear c5b0
     try clear hcz6_0
     try clear hcz6_1
     try clear p2
     obtain ⟨x3_2, x5_2, rfl, HA, HK2, HO_3, BK121, HB⟩ := hrel
     cases gk with
     | zero => exact absurd HA.out (by simp [spec_l06Once.l1])
     | succ k2 =>
      have H := HA.out
      clear HA
      simp only [spec_l06Once.l1] at H
      by_cases c7 : 0 ≤ x4_1
      ·rw [if_pos c7] at H
       have c7b0 : decide (0 ≤ x4_1) = true := decide_eq_true c7
       clear c7
       by_cases c8 : x4_1 < (l0_1.length : Int)
       ·rw [if_pos c8] at H
        have c8b0 : decide (x4_1 < (l0_1.length : Int)) = true := decide_eq_true c8
        clear c8
        by_cases c9 : x5_2 < (((rd_T68 l0_1 x4_1).f2).length : Int)
        ·rw [if_pos c9] at H
         have c9b0 : decide (x5_2 < (((rd_T68 l0_1 x4_1).f2).length : Int)) = true := decide_eq_true c9
         clear c9
         by_cases c10 : 0 ≤ x5_2
         ·rw [if_pos c10] at H
          have c10b0 : decide (0 ≤ x5_2) = true := decide_eq_true c10
          clear c10
          replace H := Option.bind_eq_some_iff.mp H
          obtain ⟨t128, A110, H⟩ := H
          set_option simprocs false in try dsimp only at H
          have A11 := Aside0.mk A110
          clear A110
          by_cases c12 : t128 = true
          ·subst c12
           rw [if_pos rfl] at H
           obtain rfl := Option.some.inj H
           have hcz13_0 := (blk_cell BK121.out 0).trans rfl
           have hcz13_1 := (blk_cell BK121.out 1).trans rfl
           have p125 : 0 ≤ (x4_1 : Int) := of_decide_eq_true (by assumption)
           have q125 : x4_1 < (l0_1.length : Int) := of_decide_eq_true (by assumption)
           obtain ⟨ad125, A125_2, c125_2, e125, hx125_0, hx125_1, hx125_2, hl125_2, hi125_2⟩ := at_T68 HR0_1.out x4_1 p125 q125
           cases e125
           replace hx125_0 := (HB.out.cell (World.block_lt_of_cell? w _ hx125_0)).trans hx125_0
           replace hx125_1 := (HB.out.cell (World.block_lt_of_cell? w _ hx125_1)).trans hx125_1
           replace hx125_2 := (HB.out.cell (World.block_lt_of_cell? w _ hx125_2)).trans hx125_2
           have HR125_2 := Aside0.mk hi125_2
           have HC125_2 := Aside0.mk hl125_2
           clear hi125_2 hl125_2
           replace p125 := eq_true p125
           replace q125 := eq_true q125
           have p126 : 0 ≤ (x4_1 : Int) := of_decide_eq_true (by assumption)
           have q126 : x4_1 < (l0_1.length : Int) := of_decide_eq_true (by assumption)
           obtain ⟨ad126, A126_2, c126_2, e126, hx126_0, hx126_1, hx126_2, hl126_2, hi126_2⟩ := at_T68 HR0_1.out x4_1 p126 q126
           obtain rfl : ad125 = ad126 := (by injection e126)
           replace hx126_0 := (HB.out.cell (World.block_lt_of_cell? w _ hx126_0)).trans hx126_0
           replace hx126_1 := (HB.out.cell (World.block_lt_of_cell? w _ hx126_1)).trans hx126_1
           replace hx126_2 := (HB.out.cell (World.block_lt_of_cell? w _ hx126_2)).trans hx126_2
           have HR126_2 := Aside0.mk hi126_2
           have HC126_2 := Aside0.mk hl126_2
           clear hi126_2 hl126_2
           replace p126 := eq_true p126
           replace q126 := eq_true q126
           have ea_ := Option.some.inj (hx125_2.symm.trans hx126_2)
           injection ea_ with ea_ en_ ec_
           subst ea_
           subst ec_
           clear en_
           have p127 : 0 ≤ (x5_2 : Int) := of_decide_eq_true (by assumption)
           have q127 : x5_2 < (((rd_T68 l0_1 x4_1).f2).length : Int) := of_decide_eq_true (by assumption)
           obtain ⟨ad127, e127, hx127_0⟩ := Kd.at_int HR126_2.out x5_2 p127 q127
           cases e127
           replace hx127_0 := (HB.out.cell (World.block_lt_of_cell? w _ hx127_0)).trans hx127_0
           replace p127 := eq_true p127
           replace q127 := eq_true q127
           obtain ⟨Ao14, co14, eo14⟩ := Kd.R_slice HO_3.out
           subst eo14
           go_wp2_with (first | ((with_reducible refine gate_callee (f := 60) rfl ?_); refine gl (some 37) Tryz.func60 #[.slice Ao14 x3_2.length co14, .int .i64 (rd ((rd_T68 l0_1 x4_1).f2) x5_2)] ?_; (with_reducible refine (spec_l00Has.calls k2 _ _ x3_2 (rd ((rd_T68 l0_1 x4_1).f2) x5_2) true _ ?side1 ?side2 A11.out).mono ?_); (case side1 => exact (Kd.R_reads' HO_3.out).2.2); (case side2 => exact (Kd.R_reads' HO_3.out).2.1); rintro e w' ⟨rfl, ⟨nd, rfl⟩⟩; refine ⟨_, rfl, ?_⟩))
           go_ret
           exact ⟨by first | rfl | (simp [*, errW_none, errW_some] <;> rfl), by repeat first | exact HB.out | apply pw_below_drewN⟩
          ·replace c12 := Bool.eq_false_iff.mpr c12
           subst c12
           rw [if_neg (show ¬ (false = true) by decide)] at H
           by_cases c15 : x3_2.length < 17592186044416
           ·rw [if_pos c15] at H
            have LMc15 := Aside0.mk c15
            clear c15
            obtain ⟨y129, hy129⟩ : ∃ y_ : List Int, y_ = (x3_2 ++ [rd ((rd_T68 l0_1 x4_1).f2) x5_2]) := ⟨_, rfl⟩
            replace H : (spec_l06Once.l1 k2 y129 x4_1 (wrap64 (x5_2 + 1)) l0_0 l0_1) = some r := by first | (rw [hy129]; with_reducible exact H) | (have H2_ := (Option.bind_some _ _).symm.trans H; rw [hy129]; with_reducible exact H2_) | (have H2_ := (Option.bind_some _ _).symm.trans H; with_reducible exact H2_) | with_reducible exact H | (rw [hy129]; exact H) | exact H
            have Ny129 := Aside0.mk hy129
            clear hy129
            have H' := Aside0.mk H
            clear H
            have hcz16_0 := (blk_cell BK121.out 0).trans rfl
            have hcz16_1 := (blk_cell BK121.out 1).trans rfl
            have p125 : 0 ≤ (x4_1 : Int) := of_decide_eq_true (by assumption)
            have q125 : x4_1 < (l0_1.length : Int) := of_decide_eq_true (by assumption)
            obtain ⟨ad125, A125_2, c125_2, e125, hx125_0, hx125_1, hx125_2, hl125_2, hi125_2⟩ := at_T68 HR0_1.out x4_1 p125 q125
            cases e125
            replace hx125_0 := (HB.out.cell (World.block_lt_of_cell? w _ hx125_0)).trans hx125_0
            replace hx125_1 := (HB.out.cell (World.block_lt_of_cell? w _ hx125_1)).trans hx125_1
            replace hx125_2 := (HB.out.cell (World.block_lt_of_cell? w _ hx125_2)).trans hx125_2
            have HR125_2 := Aside0.mk hi125_2
            have HC125_2 := Aside0.mk hl125_2
            clear hi125_2 hl125_2
            replace p125 := eq_true p125
            replace q125 := eq_true q125
            have p126 : 0 ≤ (x4_1 : Int) := of_decide_eq_true (by assumption)
            have q126 : x4_1 < (l0_1.length : Int) := of_decide_eq_true (by assumption)
            obtain ⟨ad126, A126_2, c126_2, e126, hx126_0, hx126_1, hx126_2, hl126_2, hi126_2⟩ := at_T68 HR0_1.out x4_1 p126 q126
            obtain rfl : ad125 = ad126 := (by injection e126)
            replace hx126_0 := (HB.out.cell (World.block_lt_of_cell? w _ hx126_0)).trans hx126_0
            replace hx126_1 := (HB.out.cell (World.block_lt_of_cell? w _ hx126_1)).trans hx126_1
            replace hx126_2 := (HB.out.cell (World.block_lt_of_cell? w _ hx126_2)).trans hx126_2
            have HR126_2 := Aside0.mk hi126_2
            have HC126_2 := Aside0.mk hl126_2
            clear hi126_2 hl126_2
            replace p126 := eq_true p126
            replace q126 := eq_true q126
            have ea_ := Option.some.inj (hx125_2.symm.trans hx126_2)
            injection ea_ with ea_ en_ ec_
            subst ea_
            subst ec_
            clear en_
            have p127 : 0 ≤ (x5_2 : Int) := of_decide_eq_true (by assumption)
            have q127 : x5_2 < (((rd_T68 l0_1 x4_1).f2).length : Int) := of_decide_eq_true (by assumption)
            obtain ⟨ad127, e127, hx127_0⟩ := Kd.at_int HR126_2.out x5_2 p127 q127
            cases e127
            replace hx127_0 := (HB.out.cell (World.block_lt_of_cell? w _ hx127_0)).trans hx127_0
            replace p127 := eq_true p127
            replace q127 := eq_true q127
            obtain ⟨Ao17, co17, eo17⟩ := Kd.R_slice HO_3.out
            subst eo17
            go_wp2_with (first | ((with_reducible refine gate_callee (f := 60) rfl ?_); refine gl (some 37) Tryz.func60 #[.slice Ao17 x3_2.length co17, .int .i64 (rd ((rd_T68 l0_1 x4_1).f2) x5_2)] ?_; (with_reducible refine (spec_l00Has.calls k2 _ _ x3_2 (rd ((rd_T68 l0_1 x4_1).f2) x5_2) false _ ?side1 ?side2 A11.out).mono ?_); (case side1 => exact (Kd.R_reads' HO_3.out).2.2); (case side2 => exact (Kd.R_reads' HO_3.out).2.1); rintro e w' ⟨rfl, ⟨nd, rfl⟩⟩; refine ⟨_, rfl, ?_⟩) | ((with_reducible refine gate_builtin (b := .append) (xs := #[.tmp 38, .tmp 40]) rfl ?_); at_builtin; refine Kd.R_append (Kd.int .i64) (w0 := w) w.heap.size rfl (.tmp 38) (.tmp 40) 29 2 (.int .i64 0) 8 rfl Tryz.underlying29 info2 rfl (by decide) (by omega) (.slice Ao17 x3_2.length co17) x3_2 (rd ((rd_T68 l0_1 x4_1).f2) x5_2) [.int .i64 (rd ((rd_T68 l0_1 x4_1).f2) x5_2)] (fun _ => True) (fun _ => False) rfl rfl ?aP (fun _ hk => hk.elim) ?aF ?aO ?aB ?aS ?aL ?_; (case aP => exact rfl); (case aB => exact (by repeat first | exact HB.out | apply pw_below_drewN)); (case aF => exact (fun _ _ => trivial)); (case aO => exact (by (with_reducible repeat (first | apply Kd.R_alloc | apply Kd.R_drewN | apply Kd.R_drew)); exact HO_3.out)); (case aS => exact (below_size (by repeat first | exact HB.out | apply pw_below_drewN))); (case aL => have := LMc15.out; omega); intro v130 w18 ho hb hg hat; rw [← Ny129.out] at ho; have n0_ := Aside0.mk (blk_grown (g := gb121) (o := .cells #[.slice A0_0 l0_0.length c0_0, .slice (some ad125) l0_1.length c0_1] 35 (0, 0)) (by exact BK121.out) hg (Kd.R_ne HO_3.out BK121.out (by decide))); have n1_ := Aside0.mk (hb); have n2_ := Aside0.mk (ho); clear BK121; clear HB; clear HO_3; have BK121 := n0_; have HB := n1_; have HO131 := n2_; clear n0_ n1_ n2_; clear ho hb hg hat))
            go_roundg k2
            case measure => have := HK1.out; have := HK2.out; omega
            case rel => exact ⟨(y129), (wrap64 (x5_2 + 1)), (by first | rfl | (simp; done) | (simp [*]; done)), H', ⟨by have := HK1.out; have := HK2.out; omega⟩, ⟨by (with_reducible repeat (first | apply Kd.R_alloc | apply Kd.R_drewN | apply Kd.R_drew)); exact HO131.out⟩, ⟨by exact BK121.out⟩, ⟨by repeat first | exact HB.out | apply pw_below_drewN⟩⟩
           ·rw [if_neg c15] at H
            exact absurd H (by simp)
         ·rw [if_neg c10] at H
          exact absurd H (by simp)
        ·rw [if_neg c9] at H
         have c9b0 : decide (x5_2 < (((rd_T68 l0_1 x4_1).f2).length : Int)) = false := decide_eq_false c9
         clear c9
         have H' := Aside0.mk H
         clear H
         have hcz19_0 := (blk_cell BK121.out 0).trans rfl
         have hcz19_1 := (blk_cell BK121.out 1).trans rfl
         have p125 : 0 ≤ (x4_1 : Int) := of_decide_eq_true (by assumption)
         have q125 : x4_1 < (l0_1.length : Int) := of_decide_eq_true (by assumption)
         obtain ⟨ad125, A125_2, c125_2, e125, hx125_0, hx125_1, hx125_2, hl125_2, hi125_2⟩ := at_T68 HR0_1.out x4_1 p125 q125
         cases e125
         replace hx125_0 := (HB.out.cell (World.block_lt_of_cell? w _ hx125_0)).trans hx125_0
         replace hx125_1 := (HB.out.cell (World.block_lt_of_cell? w _ hx125_1)).trans hx125_1
         replace hx125_2 := (HB.out.cell (World.block_lt_of_cell? w _ hx125_2)).trans hx125_2
         have HR125_2 := Aside0.mk hi125_2
         have HC125_2 := Aside0.mk hl125_2
         clear hi125_2 hl125_2
         replace p125 := eq_true p125
         replace q125 := eq_true q125
         go_wp2
         go_roundg k2
         case measure => have := HK1.out; have := HK2.out; omega
         case rel => exact ⟨(x3_2), (wrap64 (x4_1 + 1)), (by first | rfl | (simp; done) | (simp [*]; done)), H', ⟨by have := HK1.out; have := HK2.out; omega⟩, ⟨by (with_reducible repeat (first | apply Kd.R_alloc | apply Kd.R_drewN | apply Kd.R_drew)); exact HO_3.out⟩, ⟨by exact BK121.out⟩, ⟨by repeat first | exact HB.out | apply pw_below_drewN⟩⟩
       ·rw [if_neg c8] at H
        exact absurd H (by simp)
      ·rw [if_neg c7] at H
       exact absurd H (by simp)
   ·rw [if_neg c5] at H
    have c5b0 : decide (x4_1 < (l0_1.length : Int)) = false := decide_eq_false c5
    clear c5
    obtain rfl := Option.some.inj H
    have hcz20_0 := (blk_cell BK121.out 0).trans rfl
    have hcz20_1 := (blk_cell BK121.out 1).trans rfl
    go_wp2
    go_ret
    exact ⟨by first | rfl | (simp [*, errW_none, errW_some] <;> rfl), by repeat first | exact HB.out | apply pw_below_drewN⟩

end Go.Proofs.YtkadeelplnkpgaaGreat.Q
