/- Walks of the Go functions that the laws call: each returns what a plain Lean function says. Written by a program for these claims. -/
import Derived.Test.YtohjpgcmhihdhaaGreatDoorQ0
import Derived.Test.YtohjpgcmhihdhaaGreatDoorQf64
import Derived.Test.YtohjpgcmhihdhaaGreatDoorQf65
namespace Go.Proofs.YtohjpgcmhihdhaaGreatDoor.Q
open Go.RowKit Go.Proofs.YtohjpgcmhihdhaaGreatDoorW.PrintWords Go.Proofs.YtohjpgcmhihdhaaGreatDoorW.PrintLast Go.Proofs.YtohjpgcmhihdhaaGreatDoorW.PrintMore
attribute [local go_sem] max2_int min2_int max_two min_two max_three min_three max_four min_four   -- for this text's walks alone
set_option linter.unusedVariables false
set_option linter.unusedSimpArgs false

/-! ### impl_Tree_kindOf: function 54 -/
/-- the kind of a device is 0; of a bucket its own; of what is not there -1 -/
def kindAt (l0 : List (S57)) (l1 : List (S49)) (id : Int) : Int :=
  if 0 ≤ idxFrom (fun x : S57 => x.f0 == id) l0 0 then 0 else if bucketAt l1 id < 0 then -1 else (rd_T49 l1 (bucketAt l1 id)).f1
def impl_Tree_kindOf.f (l0_0 : List (S57)) (l0_1 : List (S49)) (a1 : Int) : Option Int := some (kindAt l0_0 l0_1 a1)
theorem bucketAt_lt (l1 : List (S49)) (id : Int) (h : 0 ≤ bucketAt l1 id) : bucketAt l1 id < l1.length := by
  have := idxFrom_range (fun x : S49 => x.f0 == id) l1 0
  unfold bucketAt at h ⊢
  omega
set_option maxHeartbeats 2000000 in
set_option maxRecDepth 100000 in
theorem impl_Tree_kindOf.calls (A0_0 : Option Addr) (c0_0 : Nat) (l0_0 : List (S57)) (A0_1 : Option Addr) (c0_1 : Nat) (l0_1 : List (S49)) (a1 : Int) (r : Int) (w : World) (hr0_0 : Kd.C k57 w A0_0 l0_0.length l0_0) (hc0_0 : l0_0.length ≤ c0_0) (hr0_1 : Kd.C k49 w A0_1 l0_1.length l0_1) (hc0_1 : l0_1.length ≤ c0_1) (h : impl_Tree_kindOf.f l0_0 l0_1 a1 = some r) :
    Calls Tryz.prog 54 #[.agg #[.slice A0_0 l0_0.length c0_0, .slice A0_1 l0_1.length c0_1], .int .i64 a1] w fun e w' => e = .returned (.int .i64 r) ∧ Below w.heap.size w w' := by
  have HR0 := Aside0.mk hr0_0
  have HR1 := Aside0.mk hr0_1
  have HC0 := Aside0.mk hc0_0
  have HC1 := Aside0.mk hc0_1
  clear hr0_0 hr0_1 hc0_0 hc0_1
  obtain rfl := Option.some.inj h
  clear h
  go_enter Tryz.func54, Tryz.ntmps54
  go_wp2_with fail
  have HB0 := Aside0.mk (below_alloc (Below.refl w.heap.size w) (.cells #[.slice A0_0 l0_0.length c0_0, .slice A0_1 l0_1.length c0_1] 25))
  have HBX : Aside0 ((w.alloc (.cells #[.slice A0_0 l0_0.length c0_0, .slice A0_1 l0_1.length c0_1] 25)).heap[w.heap.size]? = some (.cells #[.slice A0_0 l0_0.length c0_0, .slice A0_1 l0_1.length c0_1] 25 (0, 0))) := ⟨blk_new w _⟩
  refine (impl_Tree_device.calls A0_0 c0_0 l0_0 A0_1 c0_1 l0_1 a1 _ _ (Kd.C_below HR0.out HB0.out) HC0.out (Kd.C_below HR1.out HB0.out) HC1.out rfl).mono ?_
  rintro e w1 ⟨rfl, hb1⟩
  have HB1 := Aside0.mk (HB0.out.trans (hb1.mono HB0.out.size))
  have HX := (hb1.block _ (by simp)).trans HBX.out
  have hcx0 := (blk_cell HX 0).trans rfl
  have hcx1 := (blk_cell HX 1).trans rfl
  clear hb1 HBX HB0 HX
  have hk : kindAt l0_0 l0_1 a1 = if 0 ≤ idxFrom (fun x : S57 => x.f0 == a1) l0_0 0 then 0 else if bucketAt l0_1 a1 < 0 then -1 else (rd_T49 l0_1 (bucketAt l0_1 a1)).f1 := rfl
  generalize idxFrom (fun x : S57 => x.f0 == a1) l0_0 0 = i at hk ⊢
  by_cases hi : 0 ≤ i
  · rw [if_pos hi] at hk
    have HK := Aside0.mk hk
    clear hk
    have q := eq_true hi
    go_wp2_with fail
    go_ret
    exact ⟨by rw [HK.out]; rfl, HB1.out⟩
  · rw [if_neg hi] at hk
    have q := eq_false hi
    by_cases hb : bucketAt l0_1 a1 < 0
    · rw [if_pos hb] at hk
      have HK := Aside0.mk hk
      clear hk
      go_wp2_with fail
      refine (bucket_none.calls A0_0 c0_0 l0_0 A0_1 c0_1 l0_1 a1 _ (Kd.C_below HR1.out HB1.out) hb).mono ?_
      rintro e w2 ⟨rfl, hb2⟩
      have HB2 := Aside0.mk (HB1.out.trans (hb2.mono HB1.out.size))
      clear hb2 HB1
      go_wp2_with fail
      go_ret
      exact ⟨by rw [HK.out]; rfl, HB2.out⟩
    · rw [if_neg hb] at hk
      have HK := Aside0.mk hk
      clear hk
      have hb0 : 0 ≤ bucketAt l0_1 a1 := by omega
      have hlt := bucketAt_lt l0_1 a1 hb0
      obtain ⟨ad, A2, c2, rfl, hx0, hx1, hx2, hl2, hg2⟩ := at_T49 HR1.out _ hb0 hlt
      have HX1 := Aside0.mk hx1
      clear hx0 hx1 hx2 hl2 hg2
      go_wp2_with fail
      refine (bucket_some.calls A0_0 c0_0 l0_0 (some ad) c0_1 l0_1 a1 _ (Kd.C_below HR1.out HB1.out) ad rfl hb0).mono ?_
      rintro e w2 ⟨rfl, hb2⟩
      have HB2 := Aside0.mk (HB1.out.trans (hb2.mono HB1.out.size))
      clear hb2 HB1
      have hx1 := (HB2.out.cell (World.block_lt_of_cell? w _ HX1.out)).trans HX1.out
      clear HX1 hb hb0 hlt
      generalize bucketAt l0_1 a1 = j at hx1 HK ⊢
      go_wp2_with fail
      go_ret
      exact ⟨by rw [HK.out]; rfl, HB2.out⟩

end Go.Proofs.YtohjpgcmhihdhaaGreatDoor.Q
