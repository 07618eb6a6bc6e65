/- Walks of the Go functions that the laws call: each returns what a plain Lean function says. Written by a program for these claims. -/
import Derived.Test.YtkadeelplnkpgaaQ0
import Derived.Test.YtkadeelplnkpgaaQf34
namespace Go.Proofs.Ytkadeelplnkpgaa.Q
open Go.RowKit Go.Proofs.YtkadeelplnkpgaaW.PrintWords Go.Proofs.YtkadeelplnkpgaaW.PrintLast Go.Proofs.YtkadeelplnkpgaaW.PrintMore
attribute [local go_sem] max2_int min2_int max_two min_two max_three min_three max_four min_four   -- for this text's walks alone
set_option linter.unusedVariables false
set_option linter.unusedSimpArgs false

/-! ### laws_markBucketS: function 75 -/
theorem rd_setB (xs : List S108) (i : Int) (h0 : 0 ≤ i) (h1 : i < (xs.length : Int)) (x : S108) : rd_T108 (xs.set i.toNat x) i = x := by
  unfold rd_T108
  rw [List.getD_eq_getElem?_getD, List.getElem?_set_self (by omega)]
  rfl
section
variable {W : World} {base g n cap : Nat} {ok : Nat → Prop} {xs : List S108} {i : Int}
theorem S_setB (h : Kd.S k108 108 W base ok (.slice (some ⟨g, 0, none⟩) n cap) xs) (h0 : 0 ≤ i) (h1 : i < n) (j : Nat) (y : Int) (x' : S108) (hj : j = 0 ∧ x' = ⟨y, (rd_T108 xs i).f1, (rd_T108 xs i).f2⟩ ∨ j = 1 ∧ x' = ⟨(rd_T108 xs i).f0, y, (rd_T108 xs i).f2⟩) :
    Kd.S k108 108 (W.setCells g (i.toNat * 3 + j) [.int .i64 y]) base ok (.slice (some ⟨g, 0, none⟩) n cap) (xs.set i.toNat x') ∧ W.grownBy (W.setCells g (i.toNat * 3 + j) [.int .i64 y]) (some g) := by
  obtain ⟨oki, c, hcl, hM, hcc, hfr, hoki, hH⟩ := Kd.S_elem h z108 i h0 h1
  obtain ⟨v2, rfl, hR2⟩ := k108_openM hM
  rcases hj with ⟨rfl, rfl⟩ | ⟨rfl, rfl⟩
  · obtain ⟨h2, h3⟩ := Kd.H_seg hH h0 h1 (seg := [.int .i64 y]) (j := 0) (show 0 + 1 ≤ 3 by decide) (fun q hq => by simp at hq; subst hq; rfl)
    exact ⟨Kd.H_back h2 (k108_mkM _ base oki ⟨y, (rd_T108 xs i).f1, (rd_T108 xs i).f2⟩ (Kd.R_step hR2 (fun k hk hlt => h3.block k hlt (fun he => (hoki k hk).2 (by injection he))))) (fun _ hk => hk), h3⟩
  · obtain ⟨h2, h3⟩ := Kd.H_seg hH h0 h1 (seg := [.int .i64 y]) (j := 1) (show 1 + 1 ≤ 3 by decide) (fun q hq => by simp at hq; subst hq; rfl)
    exact ⟨Kd.H_back h2 (k108_mkM _ base oki ⟨(rd_T108 xs i).f0, y, (rd_T108 xs i).f2⟩ (Kd.R_step hR2 (fun k hk hlt => h3.block k hlt (fun he => (hoki k hk).2 (by injection he))))) (fun _ hk => hk), h3⟩
theorem S_cellsB (h : Kd.S k108 108 W base ok (.slice (some ⟨g, 0, none⟩) n cap) xs) (h0 : 0 ≤ i) (h1 : i < n) :
    W.cell? ⟨g, i.toNat * 3, none⟩ = some (.int .i64 (rd_T108 xs i).f0) ∧ W.cell? ⟨g, i.toNat * 3 + 1, none⟩ = some (.int .i64 (rd_T108 xs i).f1) ∧ W.frozen? ⟨g, i.toNat * 3, none⟩ = false ∧ W.frozen? ⟨g, i.toNat * 3 + 1, none⟩ = false := by
  obtain ⟨oki, c, hcl, hM, hcc, hfr, hoki, hH⟩ := Kd.S_elem h z108 i h0 h1
  obtain ⟨v2, rfl, hR2⟩ := k108_openM hM
  exact ⟨hcc 0 _ rfl, hcc 1 _ rfl, hfr 0, hfr 1⟩
theorem S_itemsB (h : Kd.S k108 108 W base ok (.slice (some ⟨g, 0, none⟩) n cap) xs) (h0 : 0 ≤ i) (h1 : i < n) :
    ∃ (oki : Nat → Prop) (v2 : Value), W.cell? ⟨g, i.toNat * 3 + 2, none⟩ = some v2 ∧ (Kd.int .i64).R 2 W base oki v2 (rd_T108 xs i).f2 ∧ (∀ k, oki k → ok k) ∧ ∀ (W2 : World) (okr : Nat → Prop) (l : List Int), Kept W W2 oki → (Kd.int .i64).R 2 W2 base okr v2 l → Kd.S k108 108 W2 base ok (.slice (some ⟨g, 0, none⟩) n cap) (xs.set i.toNat ⟨(rd_T108 xs i).f0, (rd_T108 xs i).f1, l⟩) := by
  obtain ⟨oki, c, hcl, hM, hcc, hfr, hoki, hH⟩ := Kd.S_elem h z108 i h0 h1
  obtain ⟨v2, rfl, hR2⟩ := k108_openM hM
  refine ⟨oki, v2, hcc 2 _ rfl, hR2, fun k hk => (hoki k hk).1, fun W2 okr l hK hR => ?_⟩
  have hH2 := (show Kd.H k108 108 W2 base ok (.slice (some ⟨g, 0, none⟩) n cap) xs i oki _ from ⟨hH.1, hH.2.choose, Kd.R_step hH.2.choose_spec (fun k hk hlt => hK.2 k hlt hk.2)⟩)
  have hRt := Kd.R_tight rfl hR
  exact Kd.H_back hH2 (k108_mkM _ base _ ⟨(rd_T108 xs i).f0, (rd_T108 xs i).f1, l⟩ hRt) (fun k hk => hR2.1 k hk.symm)
end
def laws_markBucketS.l0 : Nat → List S108 → Int → Int → Option Int
  | 0, _, _, _ => none
  | k + 1, x0, x1, x5 => if x5 < (x0.length : Int) then (if 0 ≤ x5 then (laws_markInt64S.f k (rd_T108 x0 x5).f2 (wrap64 (wrap64 (x1 + 1) + 1))).bind fun m => laws_markBucketS.l0 k (x0.set x5.toNat ⟨x1, wrap64 (x1 + 1), m.2⟩) m.1 (wrap64 (x5 + 1)) else none) else some x1
def laws_markBucketS.f (k : Nat) (l : List S108) (a1 : Int) : Option Int := laws_markBucketS.l0 k l a1 0
set_option maxHeartbeats 4000000 in
set_option maxRecDepth 100000 in
theorem laws_markBucketS.calls (k : Nat) (P0_ : Nat → Prop) (v_ : Value) (l : List S108) (a1 r : Int) (w0 w : World) (hB : Below w0.heap.size w0 w) (ho : Kd.S k108 108 w w0.heap.size P0_ v_ l) (h : laws_markBucketS.f k l a1 = some r) :
    Calls Try.prog 75 #[v_, .int .i64 a1] w fun e w' => e = .returned (.int .i64 r) ∧ Below w0.heap.size w0 w' ∧ Kept w w' (fun k_ => P0_ k_) := by
  obtain ⟨A0, c0, ev⟩ := Kd.S_slice ho
  subst ev
  have HO := Aside0.mk ho
  have HB := Aside0.mk hB
  have HK := Aside0.mk (Kept.refl w (fun k_ => P0_ k_))
  have HA := Aside0.mk (show laws_markBucketS.l0 k l a1 0 = some r from h)
  clear hB ho h
  go_enter Try.func75, Try.ntmps75
  go_wp2_with fail
  go_loopg [1, 5] k (fun kq v1 v5 w' => ∃ (xs : List S108) (x1 x5 : Int), v1 = .int .i64 x1 ∧ v5 = .int .i64 x5 ∧ Aside0 (xs.length = l.length) ∧ Aside0 (laws_markBucketS.l0 kq xs x1 x5 = some r) ∧ Aside0 (kq ≤ k) ∧ Aside0 (Kd.S k108 108 w' w0.heap.size P0_ (.slice A0 l.length c0) xs) ∧ Aside0 (Kept w w' (fun k_ => P0_ k_)) ∧ Aside0 (Below w0.heap.size w0 w'))
  case atStart => exact ⟨l, a1, 0, rfl, rfl, ⟨rfl⟩, HA, ⟨Nat.le_refl _⟩, HO, HK, HB⟩
  case round =>
    clear HA HO HK HB
    obtain ⟨xs, x1, x5, rfl, rfl, HL, HA, HK1, HO, HK, HB⟩ := hrel
    cases gk with
    | zero => exact absurd HA.out (by simp [laws_markBucketS.l0])
    | succ k1 =>
      have H := HA.out
      clear HA
      simp only [laws_markBucketS.l0] at H
      rw [HL.out] at H
      by_cases c3 : x5 < (l.length : Int)
      · rw [if_pos c3] at H
        by_cases c4 : 0 ≤ x5
        case neg => rw [if_neg c4] at H; cases H
        rw [if_pos c4] at H
        obtain ⟨m, hm, H⟩ := Option.bind_eq_some_iff.1 H
        have HM := Aside0.mk hm
        have HN := Aside0.mk H
        clear hm H
        obtain ⟨go5, co5, eo5, gb5, gl5, cl5, HG5⟩ := Kd.S_form HO.out (by rw [HL.out]; omega)
        rw [HL.out] at eo5
        injection eo5 with ea _ ec
        subst ea
        subst ec
        have GB5 := Aside0.mk gb5
        have HP5 := Aside0.mk (show P0_ go5 from (Kd.S_R HO.out).1 _ rfl)
        clear gb5 gl5 HG5
        have C3 := Aside0.mk c3
        have C4 := Aside0.mk c4
        have C5 := Aside0.mk (show x5 < (xs.length : Int) by rw [HL.out]; exact c3)
        obtain ⟨hx0, hx1, hf0, hf1⟩ := S_cellsB HO.out c4 c3
        have q0 := eq_true c4
        have q1 := eq_true c3
        clear c3 c4 H
        go_wp2_with (first | ((with_reducible refine gate_store (t := 2) (p := 16) rfl ?_); refine store_event (t := 2) (p := 16) (v := ?vo_w8) (w1 := (wr.setCell ⟨go5, x5.toNat * 3, none⟩ (.int .i64 x1))) ?hg ?ho ?hn ?hr ?_; (case ho => rfl); (case hg => rfl); (case hn => rfl); (case hr => first | (go_simp; done) | (go_simp; rfl)); intro w8 hw; have hg : wr.grownBy w8 (some go5) := (by rw [hw]; exact (S_setB HO.out C4.out C3.out 0 x1 _ (.inl ⟨rfl, rfl⟩)).2); have n0 := Aside0.mk (show Kd.S k108 108 w8 w0.heap.size P0_ (.slice (some ⟨go5, 0, none⟩) l.length c0) _ from (by rw [hw]; exact (S_setB HO.out C4.out C3.out 0 x1 _ (.inl ⟨rfl, rfl⟩)).1)); have n1 := Aside0.mk (show Below w0.heap.size w0 w8 from (by rw [hw]; exact below_set HB.out GB5.out)); have n2 := Aside0.mk (Kept.of_grown (S := (fun k_ => P0_ k_)) hg HK.out (fun k_ e_ => .inl (by injection e_ with e_; subst e_; exact HP5.out))); clear HO HB HK hx0 hx1 hf0 hf1; have HO := n0; have HB := n1; have HK := n2; clear n0 n1 n2 hg hw; obtain ⟨hx0, hx1, hf0, hf1⟩ := S_cellsB HO.out C4.out C3.out) | ((with_reducible refine gate_store (t := 2) (p := 23) rfl ?_); refine store_event (t := 2) (p := 23) (v := ?vo_w9) (w1 := (w8.setCell ⟨go5, x5.toNat * 3 + 1, none⟩ (.int .i64 (wrap64 (x1 + 1))))) ?hg ?ho ?hn ?hr ?_; (case ho => rfl); (case hg => rfl); (case hn => rfl); (case hr => first | (go_simp; done) | (go_simp; rfl)); intro w9 hw; have hg : w8.grownBy w9 (some go5) := (by rw [hw]; exact (S_setB HO.out C4.out C3.out 1 (wrap64 (x1 + 1)) _ (.inr ⟨rfl, rfl⟩)).2); have n0 := Aside0.mk (show Kd.S k108 108 w9 w0.heap.size P0_ (.slice (some ⟨go5, 0, none⟩) l.length c0) _ from (by rw [hw]; exact (S_setB HO.out C4.out C3.out 1 (wrap64 (x1 + 1)) _ (.inr ⟨rfl, rfl⟩)).1)); have n1 := Aside0.mk (show Below w0.heap.size w0 w9 from (by rw [hw]; exact below_set HB.out GB5.out)); have n2 := Aside0.mk (Kept.of_grown (S := (fun k_ => P0_ k_)) hg HK.out (fun k_ e_ => .inl (by injection e_ with e_; subst e_; exact HP5.out))); clear HO HB HK hx0 hx1 hf0 hf1; have HO := n0; have HB := n1; have HK := n2; clear n0 n1 n2 hg hw; obtain ⟨oki, v2, hx2, hR2, hoki, hback⟩ := S_itemsB HO.out C4.out C3.out; have HR2 := Aside0.mk hR2; have HOK := Aside0.mk hoki; have HBK := Aside0.mk hback; clear hR2 hoki hback))
        have e1 := fun x => rd_setB xs x5 C4.out C5.out x
        have hR2 := HR2.out
        have hback := HBK.out
        simp only [List.set_set, e1] at hR2 hback
        clear HR2 HBK hx2
        refine (laws_markInt64S.calls k1 oki v2 _ _ m.1 m.2 w0 w9 HB.out hR2 HM.out).mono ?_
        rintro e w10 ⟨rfl, hr, hb, hk⟩
        replace HO := Aside0.mk (hback w10 _ m.2 hk hr)
        replace HB := Aside0.mk hb
        replace HK := Aside0.mk (HK.out.then_ hk (fun k_ hk2 => .inl (HOK.out k_ hk2)))
        clear hback hR2 hr hb hk e1
        go_wp2_with fail
        go_roundg k1
        case measure => have := HK1.out; omega
        case rel => exact ⟨_, m.1, wrap64 (x5 + 1), rfl, by go_num, ⟨by rw [List.length_set]; exact HL.out⟩, HN, ⟨by have := HK1.out; omega⟩, HO, HK, HB⟩
      · rw [if_neg c3] at H
        obtain rfl := Option.some.inj H
        clear H
        go_wp2_with fail
        go_ret
        exact ⟨rfl, HB.out, HK.out⟩

end Go.Proofs.Ytkadeelplnkpgaa.Q
