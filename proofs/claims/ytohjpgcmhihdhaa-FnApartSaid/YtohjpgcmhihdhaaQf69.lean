/- Walks of the Go functions that the laws call: each returns what a plain Lean function says. Written by a program for these claims. -/
import Derived.Test.YtohjpgcmhihdhaaQ0
import Derived.Test.YtohjpgcmhihdhaaQf32
import Derived.Test.YtohjpgcmhihdhaaQf48
import Derived.Test.YtohjpgcmhihdhaaQf55
import Derived.Test.YtohjpgcmhihdhaaQf82
namespace Go.Proofs.Ytohjpgcmhihdhaa.Q
open Go.RowKit Go.Proofs.YtohjpgcmhihdhaaW.PrintWords Go.Proofs.YtohjpgcmhihdhaaW.PrintLast Go.Proofs.YtohjpgcmhihdhaaW.PrintMore
attribute [local go_sem] max2_int min2_int max_two min_two max_three min_three max_four min_four   -- for this text's walks alone
set_option linter.unusedVariables false
set_option linter.unusedSimpArgs false

/-! ### impl_Tree_chooseIn: function 69 -/
/-- items with their weights, one behind the other -/
def itemsW (g : Int → Option Int) : List (S113) → List Int → Option (List (S113))
  | out, [] => some out
  | out, x :: xs => (g x).bind fun t => if out.length < 1048576 then itemsW g (out ++ [⟨x, t⟩]) xs else none
theorem itemsW_here (g : Int → Option Int) (out : List (S113)) (l : List Int) (i : Int) (h0 : 0 ≤ i) (h1 : i < (l.length : Int)) : itemsW g out (l.drop i.toNat) = (g (rd l i)).bind fun t => if out.length < 1048576 then itemsW g (out ++ [⟨rd l i, t⟩]) (l.drop (i + 1).toNat) else none := by
  obtain ⟨n, rfl⟩ := Int.eq_ofNat_of_zero_le h0
  have hl : n < l.length := by omega
  have e : ((n : Int) + 1).toNat = n + 1 := by omega
  have er : rd l (n : Int) = l[n] := by unfold rd; rw [Int.toNat_natCast, List.getD_eq_getElem?_getD, List.getElem?_eq_getElem hl]; rfl
  rw [e, Int.toNat_natCast, List.drop_eq_getElem_cons hl, er]
  rfl
def impl_Tree_chooseIn.f (k : Nat) (l0_0 : List (S34)) (l0_1 : List (S70)) (a1 a2 a3 : Int) : Option (Int × Bool) :=
  if bucketAt l0_1 a1 < 0 then some (0, false) else (itemsW (fun x => impl_Tree_weight.f k l0_0 l0_1 x) [] (rd_T70 l0_1 (bucketAt l0_1 a1)).f2).bind fun l => impl_choose.f k l a2 a3
set_option maxHeartbeats 4000000 in
set_option maxRecDepth 100000 in
theorem impl_Tree_chooseIn.calls (k : Nat) (A0_0 : Option Addr) (c0_0 : Nat) (l0_0 : List (S34)) (A0_1 : Option Addr) (c0_1 : Nat) (l0_1 : List (S70)) (a1 : Int) (a2 : Int) (a3 : Int) (r1 : Int) (r2 : Bool) (w : World) (hr0_0 : Kd.C k34 w A0_0 l0_0.length l0_0) (hc0_0 : l0_0.length ≤ c0_0) (hr0_1 : Kd.C k70 w A0_1 l0_1.length l0_1) (hc0_1 : l0_1.length ≤ c0_1) (h : impl_Tree_chooseIn.f k l0_0 l0_1 a1 a2 a3 = some (r1, r2)) :
    Calls Try.prog 69 #[.agg #[.slice A0_0 l0_0.length c0_0, .slice A0_1 l0_1.length c0_1], .int .i64 a1, .int .i64 a2, .int .i64 a3] w fun e w' => e = .returned (.tuple #[.int .i64 r1, .bool r2]) ∧ Below w.heap.size w w' := by
  have HR0 := Aside0.mk hr0_0
  have HR1 := Aside0.mk hr0_1
  have HC0 := Aside0.mk hc0_0
  have HC1 := Aside0.mk hc0_1
  clear hr0_0 hr0_1 hc0_0 hc0_1
  unfold impl_Tree_chooseIn.f at h
  by_cases hb : bucketAt l0_1 a1 < 0
  · rw [if_pos hb] at h
    obtain ⟨rfl, rfl⟩ := (show r1 = 0 ∧ r2 = false from by have := (Option.some.inj h).symm; simpa using this)
    clear h
    go_enter Try.func69, Try.ntmps69
    go_wp2_with fail
    have HB := Aside0.mk (below_alloc (Below.refl w.heap.size w) (.cells #[.slice A0_0 l0_0.length c0_0, .slice A0_1 l0_1.length c0_1] 26))
    refine (bucket_none.calls A0_0 c0_0 l0_0 A0_1 c0_1 l0_1 a1 _ (Kd.C_below HR1.out HB.out) hb).mono ?_
    rintro e w1 ⟨rfl, hb1⟩
    replace HB := Aside0.mk (below_step HB.out hb1)
    clear hb1 hb
    go_wp2_with fail
    go_ret2
    exact ⟨rfl, HB.out⟩
  · rw [if_neg hb] at h
    obtain ⟨tot, htot, hch⟩ := Option.bind_eq_some_iff.1 h
    have hb0 : 0 ≤ bucketAt l0_1 a1 := by omega
    have hlt := bucketAt_lt l0_1 a1 hb0
    obtain ⟨ad, A2, c2, rfl, hx0, hx1, hx2, hl2, hg2⟩ := at_T70 HR1.out _ hb0 hlt
    have HCH := Aside0.mk hch
    have HT := Aside0.mk (show itemsW (fun x => impl_Tree_weight.f k l0_0 l0_1 x) [] ((rd_T70 l0_1 (bucketAt l0_1 a1)).f2.drop (0 : Int).toNat) = some tot from htot)
    have HX2 := Aside0.mk hx2
    have HG2 := Aside0.mk hg2
    clear h htot hch hb hx0 hx1 hx2 hl2 hg2
    go_enter Try.func69, Try.ntmps69
    go_wp2_with fail
    have BK := Aside0.mk (blk_new w (.cells #[.slice A0_0 l0_0.length c0_0, .slice (some ad) l0_1.length c0_1] 26))
    have HB := Aside0.mk (below_alloc (Below.refl w.heap.size w) (.cells #[.slice A0_0 l0_0.length c0_0, .slice (some ad) l0_1.length c0_1] 26))
    refine (bucket_some.calls A0_0 c0_0 l0_0 (some ad) c0_1 l0_1 a1 _ (Kd.C_below HR1.out HB.out) ad rfl hb0).mono ?_
    rintro e w1 ⟨rfl, hb1⟩
    replace BK := Aside0.mk (blk_below BK.out hb1)
    replace HB := Aside0.mk (below_step HB.out hb1)
    clear hb1
    have hx2 := (HB.out.cell (World.block_lt_of_cell? w _ HX2.out)).trans HX2.out
    clear HX2 hb0 hlt
    generalize bucketAt l0_1 a1 = j at hx2 HT HG2 ⊢
    generalize (rd_T70 l0_1 j).f2 = items at hx2 HT HG2
    have hmi := Kd.C_max HG2.out
    go_wp2_with fail
    clear hx2
    obtain ⟨gt, hgt⟩ : ∃ g, g = w.heap.size := ⟨_, rfl⟩
    rw [← hgt] at BK ⊢
    clear hgt
    go_loopg [11, 24] items.length (fun gg s11 s24 wr => ∃ (kk : Int) (out : List (S113)), 0 ≤ kk ∧ kk ≤ items.length ∧ (items.length : Int) - kk ≤ gg ∧ s24 = .int .i64 kk ∧ out.length ≤ 1048576 ∧ Aside0 (Below w.heap.size w wr) ∧ Aside0 (wr.heap[gt]? = some (.cells #[.slice A0_0 l0_0.length c0_0, .slice (some ad) l0_1.length c0_1] 26 (0, 0))) ∧ Aside0 (Kd.R k113 113 wr w.heap.size (fun _ => True) s11 out) ∧ Aside0 (itemsW (fun x => impl_Tree_weight.f k l0_0 l0_1 x) out (items.drop kk.toNat) = some tot))
    case atStart => exact ⟨0, [], by omega, by omega, by omega, rfl, by simp, HB, BK, ⟨Kd.R_nil _ _ _ _ _⟩, HT⟩
    case round =>
      clear HB BK HT
      obtain ⟨kk, out, h0, hk, hg, rfl, hol, HB, BK, HO, HT⟩ := hrel
      have ht0 := (blk_cell BK.out 0).trans rfl
      have ht1 := (blk_cell BK.out 1).trans rfl
      by_cases hlt : kk < (items.length : Int)
      · obtain ⟨ae, rfl, hy0⟩ := Kd.at_int HG2.out kk h0 hlt
        replace hy0 := (HB.out.cell (World.block_lt_of_cell? w _ hy0)).trans hy0
        have q0 := eq_true h0
        have q1 := eq_true hlt
        have HN := Aside0.mk (by have := itemsW_here (fun x => impl_Tree_weight.f k l0_0 l0_1 x) out items kk h0 hlt; rw [HT.out] at this; exact this.symm)
        clear HT
        generalize rd items kk = x at hy0 HN
        obtain ⟨wt, hwt, hn⟩ := Option.bind_eq_some_iff.1 HN.out
        have HWT := Aside0.mk hwt
        by_cases hsm : out.length < 1048576
        case neg => rw [if_neg hsm] at hn; cases hn
        rw [if_pos hsm] at hn
        have HSM := Aside0.mk hsm
        replace HN := Aside0.mk hn
        clear hwt hn hsm
        go_wp2_with fail
        refine (impl_Tree_weight.calls k A0_0 c0_0 l0_0 (some ad) c0_1 l0_1 x wt _ (Kd.C_below HR0.out HB.out) HC0.out (Kd.C_below HR1.out HB.out) HC1.out HWT.out).mono ?_
        rintro e w2 ⟨rfl, hb2⟩
        have HB2 := Aside0.mk (below_step HB.out hb2)
        have BK2 := Aside0.mk (blk_below BK.out hb2)
        have HO2 := Aside0.mk (Kd.R_below HO.out hb2)
        clear hb2 HB BK HO ht0 ht1 hy0
        go_wp2_with (first | ((with_reducible refine gate_builtin (b := .append) (xs := #[.tmp 28, .tmp 34]) rfl ?_); at_builtin; refine Kd.R_append k113 (w0 := w) w.heap.size rfl (.tmp 28) (.tmp 34) 112 113 (.agg #[(.int .i64 0), (.int .i64 0)]) 16 rfl Try.underlying112 (by kernel_rfl) rfl (by decide) (by omega) _ out (⟨x, wt⟩ : S113) [.int .i64 x, .int .i64 wt] (fun _ => True) (fun _ => False) rfl rfl ?aP (fun _ hk => hk.elim) ?aF ?aO ?aB ?aS ?aL ?_; (case aP => exact k113_mkM _ _ _ (⟨x, wt⟩ : S113)); (case aB => exact HB2.out); (case aF => exact (fun _ _ => trivial)); (case aO => exact HO2.out); (case aS => exact below_size HB2.out); (case aL => have := HSM.out; omega); intro v3 w3 ho3 hb3 hg3 hat3; have HO3 := Aside0.mk ho3; have HB3 := Aside0.mk hb3; have BK3 := Aside0.mk (hg3.block _ (blk_lt BK2.out) (Kd.R_ne HO2.out BK2.out (by decide)) |>.trans BK2.out); clear ho3 hb3 hg3 hat3))
        go_roundg (gk - 1)
        case measure => omega
        case rel => exact ⟨kk + 1, out ++ [⟨x, wt⟩], by omega, by omega, by omega, by go_num, by rw [List.length_append]; have := HSM.out; simp; omega, HB3, BK3, HO3, HN⟩
      · obtain rfl : kk = items.length := by omega
        have HE := Aside0.mk (show out = tot from by have := HT.out; rw [Int.toNat_natCast, List.drop_length] at this; exact Option.some.inj this)
        clear HT
        obtain ⟨Av, cv, ev, hlv, hCv⟩ := Kd.R_reads HO.out
        subst ev
        have HCV := Aside0.mk hCv
        have HLV := Aside0.mk hlv
        clear hlv hCv HO
        go_wp2_with fail
        refine (impl_choose.calls k Av cv out a2 a3 r1 r2 wr HCV.out HLV.out (by rw [HE.out]; exact HCH.out)).mono ?_
        rintro e w2 ⟨rfl, hb2⟩
        have HB2 := Aside0.mk (below_step HB.out hb2)
        clear hb2
        go_wp2_with fail
        go_ret2
        exact ⟨rfl, HB2.out⟩

end Go.Proofs.Ytohjpgcmhihdhaa.Q
