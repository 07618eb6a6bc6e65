/- Walks of the Go functions that the laws call: each returns what a plain Lean function says. Written by a program for these claims. -/
import Derived.Test.YtohjpgcmhihdhaaGreatDoorQ0
namespace Go.Proofs.YtohjpgcmhihdhaaGreatDoor.Q
open Go.RowKit Go.Proofs.YtohjpgcmhihdhaaGreatDoorW.PrintWords Go.Proofs.YtohjpgcmhihdhaaGreatDoorW.PrintLast Go.Proofs.YtohjpgcmhihdhaaGreatDoorW.PrintMore
attribute [local go_sem] max2_int min2_int max_two min_two max_three min_three max_four min_four   -- for this text's walks alone
set_option linter.unusedVariables false
set_option linter.unusedSimpArgs false

/-! ### impl_Tree_bucket: function 65 -/
set_option maxHeartbeats 2000000 in
set_option maxRecDepth 100000 in
theorem indexBucket.calls (A : Option Addr) (c : Nat) (l : List (S49)) (g : Nat) (lb : Array Value) (p : S49 → Bool) (w : World) (eg : ∀ args w, (callFunc g args).run Tryz.prog w = .ok (.enter g args) w)
    (hr : Kd.C k49 w A l.length l) (hp : PredK k49 g lb p w) :
    Calls Tryz.prog 77 #[.slice A l.length c, .func (.func g) #[] lb] w fun e w' => e = .returned (.int .i64 (idxFrom p l 0)) ∧ Below w.heap.size w w' := by
  have hm := Kd.C_max hr
  go_enter Tryz.func77, Tryz.ntmps77
  go_wp2
  go_loopg [5, 8] l.length (fun gg _ s8 wr => ∃ kk : Int, 0 ≤ kk ∧ kk ≤ l.length ∧ (l.length : Int) - kk ≤ gg ∧ s8 = .int .i64 kk ∧ Aside0 (Below w.heap.size w wr) ∧ Aside0 (idxFrom p l 0 = idxFrom p (l.drop kk.toNat) kk))
  case atStart => exact ⟨0, by omega, by omega, by omega, rfl, ⟨Below.refl _ w⟩, ⟨by simp⟩⟩
  case round =>
    obtain ⟨kk, h0, hkk, hg, rfl, BW, HA⟩ := hrel
    by_cases hlt : kk < (l.length : Int)
    · obtain ⟨ad, A2, c2, rfl, hx0, hx1, hx2, hl2, hg2⟩ := at_T49 hr kk h0 hlt
      have hcall := hp wr (rd_T49 l kk) [.int .i64 (rd_T49 l kk).f0, .int .i64 (rd_T49 l kk).f1, .slice A2 (rd_T49 l kk).f2.length c2] BW.out (k49_mk wr _ hl2 (Kd.C_below hg2 BW.out))
      have hH := idx_here p l kk h0 hlt z49
      replace hx0 := (BW.out.cell (World.block_lt_of_cell? w _ hx0)).trans hx0
      replace hx2 := (BW.out.cell (World.block_lt_of_cell? w _ hx2)).trans hx2
      clear hl2 hg2
      replace hx1 := (BW.out.cell (World.block_lt_of_cell? w _ hx1)).trans hx1
      clear hr hp
      have HH := Aside0.mk hH
      clear hH
      have q0 := eq_true h0
      have q1 := eq_true hlt
      cases hq : p (rd_T49 l kk) with
      | true =>
        rw [hq] at hcall
        have HQ := Aside0.mk hq
        clear hq
        go_wp2_with fail
        (with_reducible refine hcall.mono ?_)
        clear hcall
        rintro e w' ⟨rfl, hb'⟩
        have HB' := Aside0.mk hb'
        clear hb'
        go_wp2_with fail
        go_ret
        refine ⟨?_, HB'.out⟩
        rw [HA.out, HH.out.1 HQ.out]
        rfl
      | false =>
        rw [hq] at hcall
        have HQ := Aside0.mk hq
        clear hq
        go_wp2_with fail
        (with_reducible refine hcall.mono ?_)
        clear hcall
        rintro e w' ⟨rfl, hb'⟩
        have HB' := Aside0.mk hb'
        clear hb'
        go_wp2_with fail
        go_roundg (gk - 1)
        case measure => omega
        case rel => exact ⟨kk + 1, by omega, by omega, by omega, by go_num, HB', ⟨by rw [HA.out, HH.out.2 HQ.out]⟩⟩
    · have : kk = l.length := by omega
      subst this
      go_wp2
      go_ret
      exact ⟨by rw [HA.out, idx_end p l _ rfl]; rfl, BW.out⟩


/-- the closure of bucket: the Id is that in the captured block -/
theorem bucketClosure.calls (b : Nat) (id : Int) (x : S49) (v2 : Value) (h1 : v2.oneCell' = true) (W : World) (hb : W.heap[b]? = some (.cells #[.int .i64 id] 2 (0, 0))) :
    Calls Tryz.prog 78 #[.agg #[.int .i64 x.f0, .int .i64 x.f1, v2], .pointer (some ⟨b, 0, none⟩)] W fun e w' => e = .returned (.bool (x.f0 == id)) ∧ Below W.heap.size W w' := by
  have hc := blk_cell hb 0
  have hl := blk_lt hb
  clear hb
  go_enter Tryz.func78, Tryz.ntmps78
  go_wp2_with fail
  go_ret
  exact ⟨rfl, below_alloc (Below.refl _ _) _⟩

/-- the index of the bucket with an Id; -1 where there is none -/
def bucketAt (l : List (S49)) (id : Int) : Int := idxFrom (fun x : S49 => x.f0 == id) l 0
/-- the pointer that bucket returns -/
def bucketPtr (A : Option Addr) (l : List (S49)) (id : Int) : Value := if bucketAt l id < 0 then .pointer none else .pointer (A.map (fun a => a.add ((bucketAt l id).toNat * 3)))
set_option maxHeartbeats 2000000 in
set_option maxRecDepth 100000 in
theorem bucket_none.calls (A0_0 : Option Addr) (c0_0 : Nat) (l0_0 : List (S57)) (A0_1 : Option Addr) (c0_1 : Nat) (l0_1 : List (S49)) (a1 : Int) (w : World) (hr0_1 : Kd.C k49 w A0_1 l0_1.length l0_1) (h : bucketAt l0_1 a1 < 0) :
    Calls Tryz.prog 65 #[.agg #[.slice A0_0 l0_0.length c0_0, .slice A0_1 l0_1.length c0_1], .int .i64 a1] w fun e w' => e = .returned (.pointer none) ∧ Below w.heap.size w w' := by
  have HR := Aside0.mk hr0_1
  clear hr0_1
  have hneg : decide (bucketAt l0_1 a1 < 0) = true := decide_eq_true h
  clear h
  go_enter Tryz.func65, Tryz.ntmps65
  go_wp2_with fail
  have HB0 := below_alloc (below_alloc (Below.refl w.heap.size w) (.cells #[.slice A0_0 l0_0.length c0_0, .slice A0_1 l0_1.length c0_1] 25)) (.cells #[.int .i64 a1] 2)
  have HK : ((w.alloc (.cells #[.slice A0_0 l0_0.length c0_0, .slice A0_1 l0_1.length c0_1] 25)).alloc (.cells #[.int .i64 a1] 2)).heap[w.heap.size + 1]? = some (.cells #[.int .i64 a1] 2 (0, 0)) := by
    exact alloc_new _ _ _ (by simp)
  refine (indexBucket.calls A0_1 c0_1 l0_1 78 _ (fun x => x.f0 == a1) _ @Tryz.call78 (Kd.C_below HR.out HB0) ?_).mono ?_
  · intro W x cs hB hK
    obtain ⟨A2, c2, rfl, hl2, hg2⟩ := k49_open hK
    exact (bucketClosure.calls _ a1 x _ rfl W ((hB.block _ (by simp)).trans HK)).mono fun e w' ⟨he, hb⟩ => ⟨he, (hB.trans (hb.mono hB.size))⟩
  · rintro e w' ⟨rfl, hb'⟩
    have HB := Aside0.mk (HB0.trans (hb'.mono HB0.size))
    clear hb' HK HB0
    change decide (idxFrom (fun x : S49 => x.f0 == a1) l0_1 0 < 0) = true at hneg
    go_wp2_with fail
    go_ret
    exact ⟨rfl, HB.out⟩
set_option maxHeartbeats 2000000 in
set_option maxRecDepth 100000 in
theorem bucket_some.calls (A0_0 : Option Addr) (c0_0 : Nat) (l0_0 : List (S57)) (A0_1 : Option Addr) (c0_1 : Nat) (l0_1 : List (S49)) (a1 : Int) (w : World) (hr0_1 : Kd.C k49 w A0_1 l0_1.length l0_1) (ad : Addr) (hA : A0_1 = some ad) (h : 0 ≤ bucketAt l0_1 a1) :
    Calls Tryz.prog 65 #[.agg #[.slice A0_0 l0_0.length c0_0, .slice A0_1 l0_1.length c0_1], .int .i64 a1] w fun e w' => e = .returned (.pointer (some (ad.add ((bucketAt l0_1 a1).toNat * 3)))) ∧ Below w.heap.size w w' := by
  have HR := Aside0.mk hr0_1
  clear hr0_1
  subst hA
  have hlt : bucketAt l0_1 a1 < l0_1.length := by
    have := idxFrom_range (fun x : S49 => x.f0 == a1) l0_1 0
    unfold bucketAt at h ⊢
    omega
  go_enter Tryz.func65, Tryz.ntmps65
  go_wp2_with fail
  have HB0 := below_alloc (below_alloc (Below.refl w.heap.size w) (.cells #[.slice A0_0 l0_0.length c0_0, .slice (some ad) l0_1.length c0_1] 25)) (.cells #[.int .i64 a1] 2)
  have HK : ((w.alloc (.cells #[.slice A0_0 l0_0.length c0_0, .slice (some ad) l0_1.length c0_1] 25)).alloc (.cells #[.int .i64 a1] 2)).heap[w.heap.size + 1]? = some (.cells #[.int .i64 a1] 2 (0, 0)) := by
    exact alloc_new _ _ _ (by simp)
  refine (indexBucket.calls (some ad) c0_1 l0_1 78 _ (fun x => x.f0 == a1) _ @Tryz.call78 (Kd.C_below HR.out HB0) ?_).mono ?_
  · intro W x cs hB hK
    obtain ⟨A2, c2, rfl, hl2, hg2⟩ := k49_open hK
    exact (bucketClosure.calls _ a1 x _ rfl W ((hB.block _ (by simp)).trans HK)).mono fun e w' ⟨he, hb⟩ => ⟨he, (hB.trans (hb.mono hB.size))⟩
  · rintro e w' ⟨rfl, hb'⟩
    have HB := Aside0.mk (HB0.trans (hb'.mono HB0.size))
    have hc1 : w'.cell? ⟨w.heap.size, 1, none⟩ = some (.slice (some ad) l0_1.length c0_1) := by
      have h0 : ((w.alloc (.cells #[.slice A0_0 l0_0.length c0_0, .slice (some ad) l0_1.length c0_1] 25)).alloc (.cells #[.int .i64 a1] 2)).heap[w.heap.size]? = some (.cells #[.slice A0_0 l0_0.length c0_0, .slice (some ad) l0_1.length c0_1] 25 (0, 0)) := blk_alloc (blk_new w _) _
      exact (blk_cell ((hb'.block _ (by simp; omega)).trans h0) 1).trans rfl
    clear hb' HK HB0
    change 0 ≤ idxFrom (fun x : S49 => x.f0 == a1) l0_1 0 at h
    change idxFrom (fun x : S49 => x.f0 == a1) l0_1 0 < l0_1.length at hlt
    have E : Aside0 (bucketAt l0_1 a1 = idxFrom (fun x : S49 => x.f0 == a1) l0_1 0) := ⟨rfl⟩
    generalize idxFrom (fun x : S49 => x.f0 == a1) l0_1 0 = i at h hlt E ⊢
    have hneg : decide (i < 0) = false := decide_eq_false (by omega)
    have h0 := eq_true h
    have h1 := eq_true hlt
    go_wp2_with fail
    go_ret
    exact ⟨by rw [E.out]; rfl, HB.out⟩

end Go.Proofs.YtohjpgcmhihdhaaGreatDoor.Q
