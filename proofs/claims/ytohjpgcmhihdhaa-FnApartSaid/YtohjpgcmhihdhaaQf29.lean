/- Walks of the Go functions that the laws call: each returns what a plain Lean function says. Written by a program for these claims. -/
import Derived.Test.YtohjpgcmhihdhaaQ0
import Derived.Test.YtohjpgcmhihdhaaOSort
import Derived.Test.YtohjpgcmhihdhaaQf48
import Derived.Test.YtohjpgcmhihdhaaQf55
namespace Go.Proofs.Ytohjpgcmhihdhaa.Q
open Go.RowKit Go.Proofs.YtohjpgcmhihdhaaW.PrintWords Go.Proofs.YtohjpgcmhihdhaaW.PrintLast Go.Proofs.YtohjpgcmhihdhaaW.PrintMore
attribute [local go_sem] max2_int min2_int max_two min_two max_three min_three max_four min_four   -- for this text's walks alone
set_option linter.unusedVariables false
set_option linter.unusedSimpArgs false

/-! ### impl_Tree_nodesUnder: function 29 -/
/-- the lists of some things, one behind the other -/
def underL (g : Int → Option (List Int)) : List Int → List Int → Option (List Int)
  | out, [] => some out
  | out, x :: xs => (g x).bind fun l => if out.length + l.length ≤ 1048576 then underL g (out ++ l) xs else none
theorem underL_here (g : Int → Option (List Int)) (out l : List Int) (i : Int) (h0 : 0 ≤ i) (h1 : i < (l.length : Int)) : underL g out (l.drop i.toNat) = (g (rd l i)).bind fun t => if out.length + t.length ≤ 1048576 then underL g (out ++ t) (l.drop (i + 1).toNat) else none := by
  obtain ⟨n, rfl⟩ := Int.eq_ofNat_of_zero_le h0
  have hl : n < l.length := by omega
  have e : ((n : Int) + 1).toNat = n + 1 := by omega
  have er : rd l (n : Int) = l[n] := by unfold rd; rw [Int.toNat_natCast, List.getD_eq_getElem?_getD, List.getElem?_eq_getElem hl]; rfl
  rw [e, Int.toNat_natCast, List.drop_eq_getElem_cons hl, er]
  rfl
theorem underL_length (g : Int → Option (List Int)) : ∀ l out t, out.length ≤ 1048576 → underL g out l = some t → t.length ≤ 1048576
  | [], out, t, h0, h => by
    obtain rfl := Option.some.inj h
    exact h0
  | x :: xs, out, t, h0, h => by
    obtain ⟨y, hy, h2⟩ := Option.bind_eq_some_iff.1 h
    by_cases c : out.length + y.length ≤ 1048576
    · rw [if_pos c] at h2
      exact underL_length g xs (out ++ y) t (by rw [List.length_append]; exact c) h2
    · rw [if_neg c] at h2; cases h2
def impl_Tree_nodesUnder.f : Nat → List (S34) → List (S70) → Int → Option (List Int)
  | 0, _, _, _ => none
  | k + 1, l0_0, l0_1, a1 => if bucketAt l0_1 a1 < 0 then some [a1] else (underL (fun x => impl_Tree_nodesUnder.f k l0_0 l0_1 x) [] (rd_T70 l0_1 (bucketAt l0_1 a1)).f2).map sortI
set_option maxHeartbeats 4000000 in
set_option maxRecDepth 100000 in
theorem impl_Tree_nodesUnder.calls : ∀ (k : Nat) (A0_0 : Option Addr) (c0_0 : Nat) (l0_0 : List (S34)) (A0_1 : Option Addr) (c0_1 : Nat) (l0_1 : List (S70)) (a1 : Int) (r : List Int) (w : World) (hr0_0 : Kd.C k34 w A0_0 l0_0.length l0_0) (hc0_0 : l0_0.length ≤ c0_0) (hr0_1 : Kd.C k70 w A0_1 l0_1.length l0_1) (hc0_1 : l0_1.length ≤ c0_1) (h : impl_Tree_nodesUnder.f k l0_0 l0_1 a1 = some r),
    Calls Try.prog 29 #[.agg #[.slice A0_0 l0_0.length c0_0, .slice A0_1 l0_1.length c0_1], .int .i64 a1] w fun e w' => ∃ v_ : Value, e = .returned v_ ∧ Kd.R (Kd.int .i64) 2 w' w.heap.size (fun _ => True) v_ r ∧ Below w.heap.size w w'
  | 0, _, _, _, _, _, _, _, _, _, _, _, _, _, h => by cases h
  | k + 1, A0_0, c0_0, l0_0, A0_1, c0_1, l0_1, a1, r, w, hr0_0, hc0_0, hr0_1, hc0_1, h => by
    have HR0 := Aside0.mk hr0_0
    have HR1 := Aside0.mk hr0_1
    have HC0 := Aside0.mk hc0_0
    have HC1 := Aside0.mk hc0_1
    have HIH := Aside0.mk (impl_Tree_nodesUnder.calls k)
    clear hr0_0 hr0_1 hc0_0 hc0_1
    unfold impl_Tree_nodesUnder.f at h
    by_cases hb : bucketAt l0_1 a1 < 0
    · rw [if_pos hb] at h
      obtain rfl := Option.some.inj h
      clear h
      go_enter Try.func29, Try.ntmps29
      go_wp2_with fail
      have HB := Aside0.mk (below_alloc (Below.refl w.heap.size w) (.cells #[.slice A0_0 l0_0.length c0_0, .slice A0_1 l0_1.length c0_1] 26))
      refine (bucket_none.calls A0_0 c0_0 l0_0 A0_1 c0_1 l0_1 a1 _ (Kd.C_below HR1.out HB.out) hb).mono ?_
      rintro e w1 ⟨rfl, hb1⟩
      replace HB := Aside0.mk (below_step HB.out hb1)
      clear hb1 hb
      go_wp2_with (first | ((with_reducible refine gate_dst (N := 15) rfl ?_); refine Kd.R_lit (Kd.int .i64) _ 2 ?hg (N := 15) ?hd (xs := ([a1] : List Int)) (inner := [.int .i64 a1]) (ok := fun _ => True) (okp := fun _ => True) ?hr ?hp (fun _ hk => hk) trivial (Below.refl _ _) (Nat.le_refl _) (by simp) ?_; (case hd => rfl); (case hg => rfl); (case hr => first | (go_simp; done) | (go_simp; rfl)); (case hp => exact (Reps.one (show Kd.M (Kd.int .i64) _ _ _ a1 [.int .i64 a1] from rfl) (Reps.none _ _))); intro v2 w2 ho hb2 hg_ hnew_; have HO := Aside0.mk (Kd.R_lower ho (below_size HB.out)); have HB2 := Aside0.mk (below_step HB.out hb2); clear ho hb2 hg_ hnew_))
      go_ret
      exact ⟨_, rfl, HO.out, HB2.out⟩
    · rw [if_neg hb] at h
      obtain ⟨tot, htot, rfl⟩ := Option.map_eq_some_iff.1 h
      have hb0 : 0 ≤ bucketAt l0_1 a1 := by omega
      have hlt := bucketAt_lt l0_1 a1 hb0
      obtain ⟨ad, A2, c2, rfl, hx0, hx1, hx2, hl2, hg2⟩ := at_T70 HR1.out _ hb0 hlt
      have HTL := Aside0.mk (underL_length _ _ _ _ (by simp) htot)
      have HT := Aside0.mk (show underL (fun x => impl_Tree_nodesUnder.f k l0_0 l0_1 x) [] ((rd_T70 l0_1 (bucketAt l0_1 a1)).f2.drop (0 : Int).toNat) = some tot from htot)
      have HX2 := Aside0.mk hx2
      have HG2 := Aside0.mk hg2
      clear h htot hb hx0 hx1 hx2 hl2 hg2
      go_enter Try.func29, Try.ntmps29
      go_wp2_with fail
      have BK := Aside0.mk (blk_new w (.cells #[.slice A0_0 l0_0.length c0_0, .slice (some ad) l0_1.length c0_1] 26))
      have HB := Aside0.mk (below_alloc (Below.refl w.heap.size w) (.cells #[.slice A0_0 l0_0.length c0_0, .slice (some ad) l0_1.length c0_1] 26))
      refine (bucket_some.calls A0_0 c0_0 l0_0 (some ad) c0_1 l0_1 a1 _ (Kd.C_below HR1.out HB.out) ad rfl hb0).mono ?_
      rintro e w1 ⟨rfl, hb1⟩
      replace BK := Aside0.mk (blk_below BK.out hb1)
      replace HB := Aside0.mk (below_step HB.out hb1)
      clear hb1
      have hx2 := (HB.out.cell (World.block_lt_of_cell? w _ HX2.out)).trans HX2.out
      clear HX2 hb0 hlt
      generalize bucketAt l0_1 a1 = j at hx2 HT HG2 ⊢
      generalize (rd_T70 l0_1 j).f2 = items at hx2 HT HG2
      have hmi := Kd.C_max HG2.out
      go_wp2_with fail
      clear hx2
      obtain ⟨gt, hgt⟩ : ∃ g, g = w.heap.size := ⟨_, rfl⟩
      have HGT := Aside0.mk hgt
      rw [← hgt] at BK ⊢
      clear hgt
      go_loopg [6, 21] items.length (fun gg s6 s21 wr => ∃ (kk : Int) (out : List Int), 0 ≤ kk ∧ kk ≤ items.length ∧ (items.length : Int) - kk ≤ gg ∧ s21 = .int .i64 kk ∧ out.length ≤ 1048576 ∧ Aside0 (Below w.heap.size w wr) ∧ Aside0 (wr.heap[gt]? = some (.cells #[.slice A0_0 l0_0.length c0_0, .slice (some ad) l0_1.length c0_1] 26 (0, 0))) ∧ Aside0 (Kd.R (Kd.int .i64) 2 wr w.heap.size (fun _ => True) s6 out) ∧ Aside0 (underL (fun x => impl_Tree_nodesUnder.f k l0_0 l0_1 x) out (items.drop kk.toNat) = some tot))
      case atStart => exact ⟨0, [], by omega, by omega, by omega, rfl, by simp, HB, BK, ⟨Kd.R_nil _ _ _ _ _⟩, HT⟩
      case round =>
        clear HB BK HT
        obtain ⟨kk, out, h0, hk, hg, rfl, hol, HB, BK, HO, HT⟩ := hrel
        have ht0 := (blk_cell BK.out 0).trans rfl
        have ht1 := (blk_cell BK.out 1).trans rfl
        by_cases hlt : kk < (items.length : Int)
        · obtain ⟨ae, rfl, hy0⟩ := Kd.at_int HG2.out kk h0 hlt
          replace hy0 := (HB.out.cell (World.block_lt_of_cell? w _ hy0)).trans hy0
          have q0 := eq_true h0
          have q1 := eq_true hlt
          have HN := Aside0.mk (by have := underL_here (fun x => impl_Tree_nodesUnder.f k l0_0 l0_1 x) out items kk h0 hlt; rw [HT.out] at this; exact this.symm)
          clear HT
          generalize rd items kk = x at hy0 HN
          obtain ⟨tl, htl, hn⟩ := Option.bind_eq_some_iff.1 HN.out
          have HTL2 := Aside0.mk htl
          by_cases hsm : out.length + tl.length ≤ 1048576
          case neg => rw [if_neg hsm] at hn; cases hn
          rw [if_pos hsm] at hn
          have HSM := Aside0.mk hsm
          replace HN := Aside0.mk hn
          clear htl hn hsm
          go_wp2_with fail
          refine (HIH.out A0_0 c0_0 l0_0 (some ad) c0_1 l0_1 x tl _ (Kd.C_below HR0.out HB.out) HC0.out (Kd.C_below HR1.out HB.out) HC1.out HTL2.out).mono ?_
          rintro e w2 ⟨v2, rfl, ho2, hb2⟩
          have HB2 := Aside0.mk (below_step HB.out hb2)
          have BK2 := Aside0.mk (blk_below BK.out hb2)
          have HO2 := Aside0.mk (Kd.R_below HO.out hb2)
          obtain ⟨Av, cv, ev, hlv, hCv⟩ := Kd.R_reads ho2
          subst ev
          have HCV := Aside0.mk hCv
          clear ho2 hb2 hlv hCv HB BK HO ht0 ht1 hy0
          go_wp2_with (first | ((with_reducible refine gate_builtin (b := .append) (xs := #[.tmp 25, .tmp 28]) rfl ?_); at_builtin; refine Kd.R_append_rows (Kd.int .i64) (w0 := w) w.heap.size rfl (.tmp 25) (.tmp 28) 36 2 (.int .i64 0) 8 rfl Try.underlying36 info2 rfl (by decide) (by omega) _ out tl _ _ _ (fun _ => True) (fun _ => False) rfl rfl ?aO ?aR (fun _ _ h => h) (fun _ h => h.elim) ?aF ?aB ?aS ?aL ?_; (case aR => exact HCV.out); (case aB => exact HB2.out); (case aF => exact (fun _ _ => trivial)); (case aO => exact HO2.out); (case aS => exact below_size HB2.out); (case aL => have := HSM.out; omega); intro v3 w3 ho3 hb3 hg3 hat3; have HO3 := Aside0.mk ho3; have HB3 := Aside0.mk hb3; have BK3 := Aside0.mk (hg3.block _ (blk_lt BK2.out) (Kd.R_ne HO2.out BK2.out (by decide)) |>.trans BK2.out); clear ho3 hb3 hg3 hat3))
          go_roundg (gk - 1)
          case measure => omega
          case rel => exact ⟨kk + 1, out ++ tl, by omega, by omega, by omega, by go_num, by rw [List.length_append]; exact HSM.out, HB3, BK3, HO3, HN⟩
        · obtain rfl : kk = items.length := by omega
          have HE := Aside0.mk (show out = tot from by have := HT.out; rw [Int.toNat_natCast, List.drop_length] at this; exact Option.some.inj this)
          clear HT
          go_wp2_with fail
          refine (sortOwn.calls wr HO.out hol).mono ?_
          rintro e w2 ⟨rfl, ho, hg2⟩
          have HO2 := Aside0.mk ho
          have HB2 := Aside0.mk (pw_below_grown HB.out _ HB.out.size hg2 (fun k hk => Kd.R_base HO.out k hk))
          clear ho hg2
          go_wp2_with fail
          go_ret
          exact ⟨_, rfl, by rw [← HE.out]; exact HO2.out, HB2.out⟩

end Go.Proofs.Ytohjpgcmhihdhaa.Q
