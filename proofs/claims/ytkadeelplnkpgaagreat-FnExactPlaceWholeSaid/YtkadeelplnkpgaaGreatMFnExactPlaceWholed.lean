/- Walks and plain laws of one claim, several texts in one. -/
import Derived.Test.YtkadeelplnkpgaaGreatQ0
import Derived.Test.YtkadeelplnkpgaaGreatMFnExactPlaceWholec
import Derived.Shelf.SortM.Plain
import Derived.Shelf.SortM.SortNone
import Derived.Sort.OwnSortedInts
import Derived.Test.YtkadeelplnkpgaaGreatOwnWords
namespace Go.Proofs.YtkadeelplnkpgaaGreat.Q
open Go.RowKit Go.Proofs.YtkadeelplnkpgaaGreatW.PrintWords Go.Proofs.YtkadeelplnkpgaaGreatW.PrintLast Go.Proofs.YtkadeelplnkpgaaGreatW.PrintMore
attribute [local go_sem] max2_int min2_int max_two min_two max_three min_three max_four min_four   -- for this text's walks alone
set_option linter.unusedVariables false
set_option linter.unusedSimpArgs false
/-! ### impl_Tree_devicesOk: function 65 -/
def impl_Tree_devicesOk.l0 : Nat → List (S72) → Int → Int → List (S72) → List (S68) → Option (Bool)
  | 0, _, _, _, _, _ => none
  | k + 1, x6, x7, x8, x329000, x329001 => if x8 < x7 then (if 0 ≤ x8 then (if x8 < (x6.length : Int) then ((impl_isNode.f ((rd_T72 x6 x8).f0)).bind fun t331 => (if t331 = true then (if x8 > 0 then (if 0 ≤ (wrap64 (x8 - 1)) then (if (wrap64 (x8 - 1)) < (x329000.length : Int) then (if ((rd_T72 x6 x8).f0) ≤ ((rd_T72 x329000 (wrap64 (x8 - 1))).f0) then (some false) else ((impl_between.f ((rd_T72 x6 x8).f1) 0 8).bind fun t333 => (if t333 = true then (impl_Tree_devicesOk.l0 k x6 x7 (wrap64 (x8 + 1)) x329000 x329001) else (some false)))) else (none)) else (none)) else ((impl_between.f ((rd_T72 x6 x8).f1) 0 8).bind fun t334 => (if t334 = true then (impl_Tree_devicesOk.l0 k x6 x7 (wrap64 (x8 + 1)) x329000 x329001) else (some false)))) else (some false))) else (none)) else (none)) else (some (decide ((x329000.length : Int) ≤ 16)))
def impl_Tree_devicesOk.f (k : Nat) (l0_0 : List (S72)) (l0_1 : List (S68)) : Option (Bool) := impl_Tree_devicesOk.l0 k l0_0 (l0_0.length : Int) 0 l0_0 l0_1
set_option maxHeartbeats 8000000 in
set_option maxRecDepth 100000 in
theorem impl_Tree_devicesOk.calls (k : Nat) (A0_0 : Option Addr) (c0_0 : Nat) (l0_0 : List (S72)) (A0_1 : Option Addr) (c0_1 : Nat) (l0_1 : List (S68)) (r : Bool) (w : World) (hr0_0 : Kd.C k72 w A0_0 l0_0.length l0_0) (hc0_0 : l0_0.length ≤ c0_0) (hr0_1 : Kd.C k68 w A0_1 l0_1.length l0_1) (hc0_1 : l0_1.length ≤ c0_1) (h : impl_Tree_devicesOk.f k l0_0 l0_1 = some r) :
    Calls Tryz.prog 65 #[.agg #[.slice A0_0 l0_0.length c0_0, .slice A0_1 l0_1.length c0_1]] w fun e w' => e = .returned (.bool r) ∧ Below w.heap.size w w' := by
  have hm := Kd.C_max hr0_0
  have HR := Aside0.mk hr0_0
  clear hr0_0 hc0_0 hr0_1 hc0_1
  unfold impl_Tree_devicesOk.f at h
  have H0 := Aside0.mk h
  clear h
  go_enter Tryz.func65, Tryz.ntmps65
  go_wp2_with fail
  have BK := Aside0.mk (blk_new w (.cells #[.slice A0_0 l0_0.length c0_0, .slice A0_1 l0_1.length c0_1] 35))
  have HB := Aside0.mk (below_alloc (Below.refl w.heap.size w) (.cells #[.slice A0_0 l0_0.length c0_0, .slice A0_1 l0_1.length c0_1] 35))
  generalize (w.alloc (.cells #[.slice A0_0 l0_0.length c0_0, .slice A0_1 l0_1.length c0_1] 35)) = w1 at BK HB ⊢
  obtain ⟨gt, hgt⟩ : ∃ g, g = w.heap.size := ⟨_, rfl⟩
  rw [← hgt] at BK ⊢
  clear hgt
  go_loopg [8] k (fun gg s8 wr => ∃ x : Int, s8 = .int .i64 x ∧ Aside0 (impl_Tree_devicesOk.l0 gg l0_0 (l0_0.length : Int) x l0_0 l0_1 = some r) ∧ Aside0 (wr.heap[gt]? = some (.cells #[.slice A0_0 l0_0.length c0_0, .slice A0_1 l0_1.length c0_1] 35 (0, 0))) ∧ Aside0 (Below w.heap.size w wr))
  case atStart => exact ⟨0, rfl, H0, BK, HB⟩
  case round =>
    clear H0 BK HB
    obtain ⟨x, rfl, HA, BK, HB⟩ := hrel
    have ht0 := (blk_cell BK.out 0).trans rfl
    cases gk with
    | zero => exact absurd HA.out (by simp [impl_Tree_devicesOk.l0])
    | succ k1 =>
    have H := HA.out
    clear HA
    simp only [impl_Tree_devicesOk.l0] at H
    by_cases c : x < (l0_0.length : Int)
    case neg =>
      rw [if_neg c] at H
      have HF := Aside0.mk (Option.some.inj H)
      have cb := decide_eq_false c
      clear H c
      go_wp2_with fail
      go_ret
      exact ⟨by rw [← HF.out]; simp, HB.out⟩
    rw [if_pos c] at H
    by_cases c0 : 0 ≤ x
    case neg => rw [if_neg c0] at H; cases H
    rw [if_pos c0, if_pos c] at H
    obtain ⟨t1, A1, H⟩ := Option.bind_eq_some_iff.1 H
    have A1 := Aside0.mk A1
    obtain ⟨ad, rfl, hx0, hx1⟩ := at_T72 HR.out x c0 c
    replace hx0 := (HB.out.cell (World.block_lt_of_cell? w _ hx0)).trans hx0
    replace hx1 := (HB.out.cell (World.block_lt_of_cell? w _ hx1)).trans hx1
    have HPV : Aside0 (∀ y, y = wrap64 (x - 1) → 0 ≤ y → y < (l0_0.length : Int) → w.cell? (ad.add (y.toNat * 2)) = some (.int .i64 (rd_T72 l0_0 y).f0)) := ⟨fun y _ h0 h1 => by
      obtain ⟨ad', e, hy, _⟩ := at_T72 HR.out y h0 h1
      cases e
      exact hy⟩
    have HH := Aside0.mk H
    have q0 := eq_true c0
    have q1 := eq_true c
    have hgl := blk_lt BK.out
    clear H
    generalize rd_T72 l0_0 x = b at A1 HH hx0 hx1
    go_wp2_with fail
    have HG := Aside0.mk (blk_new wr (.cells #[.int .i64 b.f0, .int .i64 b.f1] 72))
    have BK2 := Aside0.mk (blk_alloc BK.out (.cells #[.int .i64 b.f0, .int .i64 b.f1] 72))
    have HB2 := Aside0.mk (below_alloc HB.out (.cells #[.int .i64 b.f0, .int .i64 b.f1] 72))
    generalize (wr.alloc (.cells #[.int .i64 b.f0, .int .i64 b.f1] 72)) = W at HG BK2 HB2 ⊢
    generalize wr.heap.size = gb at HG ⊢
    clear BK HB hx0 hx1 ht0 hgl
    have hb0 := (blk_cell HG.out 0).trans rfl
    have hb1 := (blk_cell HG.out 1).trans rfl
    have ht0 := (blk_cell BK2.out 0).trans rfl
    cases t1 with
    | false =>
      have HF := Aside0.mk (Option.some.inj HH.out)
      clear HH
      go_quiet ((go_at_call 78; exact quietD (impl_isNode.calls _ _ _ A1.out)))
      go_wp2_with fail
      go_ret
      exact ⟨by rw [← HF.out]; rfl, pw_below_drewN HB2.out _⟩
    | true =>
    have H := HH.out
    clear HH
    rw [if_pos rfl] at H
    have hwx : wrap64 (x - 1) = x - 1 := by unfold wrap64; omega
    have hww : IntKind.i64.wrap (x - 1) = x - 1 := (i64_w _).trans hwx
    rw [show wrap64 (x + 1) = x + 1 from by unfold wrap64; omega] at H
    by_cases c5 : x > 0
    · rw [if_pos c5, hwx] at H
      have c5b := decide_eq_true (show 0 < x by omega)
      by_cases c6 : 0 ≤ x - 1
      case neg => omega
      by_cases c7 : x - 1 < (l0_0.length : Int)
      case neg => omega
      rw [if_pos c6, if_pos c7] at H
      have hp := HPV.out (x - 1) hwx.symm c6 c7
      replace hp := (HB2.out.cell (World.block_lt_of_cell? w _ hp)).trans hp
      have p6 := eq_true c6
      have p7 := eq_true c7
      clear hwx
      generalize rd_T72 l0_0 (x - 1) = pv at H hp
      have hpn := hp
      rw [show (x - 1).toNat = x.toNat - 1 from by omega] at hpn
      have p6n := eq_true (show 1 ≤ x by omega)
      have p7n := eq_true (show x ≤ (l0_0.length : Int) by omega)
      clear c5 c6 c7 HPV
      by_cases c9 : b.f0 ≤ pv.f0
      · rw [if_pos c9] at H
        have HF := Aside0.mk (Option.some.inj H)
        have c9b := decide_eq_true (show b.f0 ≤ pv.f0 from c9)
        clear H c9
        go_quiet ((go_at_call 78; exact quietD (impl_isNode.calls _ _ _ A1.out)))
        go_wp2_with fail
        go_ret
        exact ⟨by rw [← HF.out]; rfl, pw_below_drewN HB2.out _⟩
      rw [if_neg c9] at H
      have c9b := decide_eq_false (show ¬ b.f0 ≤ pv.f0 from c9)
      obtain ⟨t2, A2, H⟩ := Option.bind_eq_some_iff.1 H
      have A2 := Aside0.mk A2
      have HH := Aside0.mk H
      clear H c9
      cases t2 with
      | false =>
        have HF := Aside0.mk (Option.some.inj HH.out)
        clear HH
        go_quiet (first | (go_at_call 78; exact quietD (impl_isNode.calls _ _ _ A1.out)) | (go_at_call 27; exact quietD (impl_between.calls _ _ _ _ _ A2.out)))
        go_wp2_with fail
        go_ret
        exact ⟨by rw [← HF.out]; rfl, pw_below_drewN HB2.out _⟩
      | true =>
        have HN := Aside0.mk (show impl_Tree_devicesOk.l0 k1 l0_0 (l0_0.length : Int) (x + 1) l0_0 l0_1 = some r from by have := HH.out; rwa [if_pos rfl] at this)
        clear HH
        go_quiet (first | (go_at_call 78; exact quietD (impl_isNode.calls _ _ _ A1.out)) | (go_at_call 27; exact quietD (impl_between.calls _ _ _ _ _ A2.out)))
        clear hp hpn hww
        go_wp2_with fail
        go_roundg k1
        case measure => omega
        case rel => exact ⟨x + 1, rfl, HN, ⟨blk_drewN BK2.out _⟩, ⟨pw_below_drewN HB2.out _⟩⟩
    · rw [if_neg c5] at H
      have c5b := decide_eq_false (show ¬ 0 < x by omega)
      obtain ⟨t2, A2, H⟩ := Option.bind_eq_some_iff.1 H
      have A2 := Aside0.mk A2
      have HH := Aside0.mk H
      clear H c5 hwx hww HPV
      cases t2 with
      | false =>
        have HF := Aside0.mk (Option.some.inj HH.out)
        clear HH
        go_quiet (first | (go_at_call 78; exact quietD (impl_isNode.calls _ _ _ A1.out)) | (go_at_call 27; exact quietD (impl_between.calls _ _ _ _ _ A2.out)))
        go_wp2_with fail
        go_ret
        exact ⟨by rw [← HF.out]; rfl, pw_below_drewN HB2.out _⟩
      | true =>
        have HN := Aside0.mk (show impl_Tree_devicesOk.l0 k1 l0_0 (l0_0.length : Int) (x + 1) l0_0 l0_1 = some r from by have := HH.out; rwa [if_pos rfl] at this)
        clear HH
        go_quiet (first | (go_at_call 78; exact quietD (impl_isNode.calls _ _ _ A1.out)) | (go_at_call 27; exact quietD (impl_between.calls _ _ _ _ _ A2.out)))
        go_wp2_with fail
        go_roundg k1
        case measure => omega
        case rel => exact ⟨x + 1, rfl, HN, ⟨blk_drewN BK2.out _⟩, ⟨pw_below_drewN HB2.out _⟩⟩

/-! ### impl_Tree_device: function 79 -/
set_option maxHeartbeats 2000000 in
set_option maxRecDepth 100000 in
theorem indexDevice.calls (A : Option Addr) (c : Nat) (l : List (S72)) (g : Nat) (lb : Array Value) (p : S72 → Bool) (w : World) (eg : ∀ args w, (callFunc g args).run Tryz.prog w = .ok (.enter g args) w)
    (hr : Kd.C k72 w A l.length l) (hp : PredK k72 g lb p w) :
    Calls Tryz.prog 87 #[.slice A l.length c, .func (.func g) #[] lb] w fun e w' => e = .returned (.int .i64 (idxFrom p l 0)) ∧ Below w.heap.size w w' := by
  have hm := Kd.C_max hr
  go_enter Tryz.func87, Tryz.ntmps87
  go_wp2
  go_loopg [5, 8] l.length (fun gg _ s8 wr => ∃ kk : Int, 0 ≤ kk ∧ kk ≤ l.length ∧ (l.length : Int) - kk ≤ gg ∧ s8 = .int .i64 kk ∧ Aside0 (Below w.heap.size w wr) ∧ Aside0 (idxFrom p l 0 = idxFrom p (l.drop kk.toNat) kk))
  case atStart => exact ⟨0, by omega, by omega, by omega, rfl, ⟨Below.refl _ w⟩, ⟨by simp⟩⟩
  case round =>
    obtain ⟨kk, h0, hkk, hg, rfl, BW, HA⟩ := hrel
    by_cases hlt : kk < (l.length : Int)
    · obtain ⟨ad, rfl, hx0, hx1⟩ := at_T72 hr kk h0 hlt
      have hcall := hp wr (rd_T72 l kk) [.int .i64 (rd_T72 l kk).f0, .int .i64 (rd_T72 l kk).f1] BW.out (k72_mk wr _)
      have hH := idx_here p l kk h0 hlt z72
      replace hx0 := (BW.out.cell (World.block_lt_of_cell? w _ hx0)).trans hx0
      replace hx1 := (BW.out.cell (World.block_lt_of_cell? w _ hx1)).trans hx1
      clear hr hp
      have HH := Aside0.mk hH
      clear hH
      have q0 := eq_true h0
      have q1 := eq_true hlt
      cases hq : p (rd_T72 l kk) with
      | true =>
        rw [hq] at hcall
        have HQ := Aside0.mk hq
        clear hq
        go_wp2_with fail
        (with_reducible refine hcall.mono ?_)
        clear hcall
        rintro e w' ⟨rfl, hb'⟩
        have HB' := Aside0.mk hb'
        clear hb'
        go_wp2_with fail
        go_ret
        refine ⟨?_, HB'.out⟩
        rw [HA.out, HH.out.1 HQ.out]
        rfl
      | false =>
        rw [hq] at hcall
        have HQ := Aside0.mk hq
        clear hq
        go_wp2_with fail
        (with_reducible refine hcall.mono ?_)
        clear hcall
        rintro e w' ⟨rfl, hb'⟩
        have HB' := Aside0.mk hb'
        clear hb'
        go_wp2_with fail
        go_roundg (gk - 1)
        case measure => omega
        case rel => exact ⟨kk + 1, by omega, by omega, by omega, by go_num, HB', ⟨by rw [HA.out, HH.out.2 HQ.out]⟩⟩
    · have : kk = l.length := by omega
      subst this
      go_wp2
      go_ret
      exact ⟨by rw [HA.out, idx_end p l _ rfl]; rfl, BW.out⟩

/-- the closure of device: the Id is that in the captured block -/
theorem deviceClosure.calls (b : Nat) (id : Int) (x : S72) (W : World) (hb : W.heap[b]? = some (.cells #[.int .i64 id] 2 (0, 0))) :
    Calls Tryz.prog 88 #[.agg #[.int .i64 x.f0, .int .i64 x.f1], .pointer (some ⟨b, 0, none⟩)] W fun e w' => e = .returned (.bool (x.f0 == id)) ∧ Below W.heap.size W w' := by
  have hc := blk_cell hb 0
  have hl := blk_lt hb
  clear hb
  go_enter Tryz.func88, Tryz.ntmps88
  go_wp2_with fail
  go_ret
  exact ⟨rfl, below_alloc (Below.refl _ _) _⟩

def impl_Tree_device.f (l0_0 : List (S72)) (l0_1 : List (S68)) (a1 : Int) : Option Int := some (idxFrom (fun x : S72 => x.f0 == a1) l0_0 0)
set_option maxHeartbeats 2000000 in
set_option maxRecDepth 100000 in
theorem impl_Tree_device.calls (A0_0 : Option Addr) (c0_0 : Nat) (l0_0 : List (S72)) (A0_1 : Option Addr) (c0_1 : Nat) (l0_1 : List (S68)) (a1 : Int) (r : Int) (w : World) (hr0_0 : Kd.C k72 w A0_0 l0_0.length l0_0) (hc0_0 : l0_0.length ≤ c0_0) (hr0_1 : Kd.C k68 w A0_1 l0_1.length l0_1) (hc0_1 : l0_1.length ≤ c0_1) (h : impl_Tree_device.f l0_0 l0_1 a1 = some r) :
    Calls Tryz.prog 79 #[.agg #[.slice A0_0 l0_0.length c0_0, .slice A0_1 l0_1.length c0_1], .int .i64 a1] w fun e w' => e = .returned (.int .i64 r) ∧ Below w.heap.size w w' := by
  have HR := Aside0.mk hr0_0
  clear hr0_0 hr0_1
  obtain rfl := Option.some.inj h
  clear h
  go_enter Tryz.func79, Tryz.ntmps79
  go_wp2_with fail
  have HB0 := below_alloc (below_alloc (Below.refl w.heap.size w) (.cells #[.slice A0_0 l0_0.length c0_0, .slice A0_1 l0_1.length c0_1] 35)) (.cells #[.int .i64 a1] 2)
  have HK : ((w.alloc (.cells #[.slice A0_0 l0_0.length c0_0, .slice A0_1 l0_1.length c0_1] 35)).alloc (.cells #[.int .i64 a1] 2)).heap[w.heap.size + 1]? = some (.cells #[.int .i64 a1] 2 (0, 0)) := by
    exact alloc_new _ _ _ (by simp)
  refine (indexDevice.calls A0_0 c0_0 l0_0 88 _ (fun x => x.f0 == a1) _ @Tryz.call88 (Kd.C_below HR.out HB0) ?_).mono ?_
  · intro W x cs hB hK
    obtain rfl := k72_open hK
    exact (deviceClosure.calls _ a1 x W ((hB.block _ (by simp)).trans HK)).mono fun e w' ⟨he, hb⟩ => ⟨he, (hB.trans (hb.mono hB.size))⟩
  · rintro e w' ⟨rfl, hb'⟩
    go_wp2_with fail
    go_ret
    exact ⟨rfl, HB0.trans (hb'.mono HB0.size)⟩

/-! ### impl_Tree_bucket: function 80 -/
set_option maxHeartbeats 2000000 in
set_option maxRecDepth 100000 in
theorem indexBucket.calls (A : Option Addr) (c : Nat) (l : List (S68)) (g : Nat) (lb : Array Value) (p : S68 → Bool) (w : World) (eg : ∀ args w, (callFunc g args).run Tryz.prog w = .ok (.enter g args) w)
    (hr : Kd.C k68 w A l.length l) (hp : PredK k68 g lb p w) :
    Calls Tryz.prog 89 #[.slice A l.length c, .func (.func g) #[] lb] w fun e w' => e = .returned (.int .i64 (idxFrom p l 0)) ∧ Below w.heap.size w w' := by
  have hm := Kd.C_max hr
  go_enter Tryz.func89, Tryz.ntmps89
  go_wp2
  go_loopg [5, 8] l.length (fun gg _ s8 wr => ∃ kk : Int, 0 ≤ kk ∧ kk ≤ l.length ∧ (l.length : Int) - kk ≤ gg ∧ s8 = .int .i64 kk ∧ Aside0 (Below w.heap.size w wr) ∧ Aside0 (idxFrom p l 0 = idxFrom p (l.drop kk.toNat) kk))
  case atStart => exact ⟨0, by omega, by omega, by omega, rfl, ⟨Below.refl _ w⟩, ⟨by simp⟩⟩
  case round =>
    obtain ⟨kk, h0, hkk, hg, rfl, BW, HA⟩ := hrel
    by_cases hlt : kk < (l.length : Int)
    · obtain ⟨ad, A2, c2, rfl, hx0, hx1, hx2, hl2, hg2⟩ := at_T68 hr kk h0 hlt
      have hcall := hp wr (rd_T68 l kk) [.int .i64 (rd_T68 l kk).f0, .int .i64 (rd_T68 l kk).f1, .slice A2 (rd_T68 l kk).f2.length c2] BW.out (k68_mk wr _ hl2 (Kd.C_below hg2 BW.out))
      have hH := idx_here p l kk h0 hlt z68
      replace hx0 := (BW.out.cell (World.block_lt_of_cell? w _ hx0)).trans hx0
      replace hx2 := (BW.out.cell (World.block_lt_of_cell? w _ hx2)).trans hx2
      clear hl2 hg2
      replace hx1 := (BW.out.cell (World.block_lt_of_cell? w _ hx1)).trans hx1
      clear hr hp
      have HH := Aside0.mk hH
      clear hH
      have q0 := eq_true h0
      have q1 := eq_true hlt
      cases hq : p (rd_T68 l kk) with
      | true =>
        rw [hq] at hcall
        have HQ := Aside0.mk hq
        clear hq
        go_wp2_with fail
        (with_reducible refine hcall.mono ?_)
        clear hcall
        rintro e w' ⟨rfl, hb'⟩
        have HB' := Aside0.mk hb'
        clear hb'
        go_wp2_with fail
        go_ret
        refine ⟨?_, HB'.out⟩
        rw [HA.out, HH.out.1 HQ.out]
        rfl
      | false =>
        rw [hq] at hcall
        have HQ := Aside0.mk hq
        clear hq
        go_wp2_with fail
        (with_reducible refine hcall.mono ?_)
        clear hcall
        rintro e w' ⟨rfl, hb'⟩
        have HB' := Aside0.mk hb'
        clear hb'
        go_wp2_with fail
        go_roundg (gk - 1)
        case measure => omega
        case rel => exact ⟨kk + 1, by omega, by omega, by omega, by go_num, HB', ⟨by rw [HA.out, HH.out.2 HQ.out]⟩⟩
    · have : kk = l.length := by omega
      subst this
      go_wp2
      go_ret
      exact ⟨by rw [HA.out, idx_end p l _ rfl]; rfl, BW.out⟩


/-- the closure of bucket: the Id is that in the captured block -/
theorem bucketClosure.calls (b : Nat) (id : Int) (x : S68) (v2 : Value) (h1 : v2.oneCell' = true) (W : World) (hb : W.heap[b]? = some (.cells #[.int .i64 id] 2 (0, 0))) :
    Calls Tryz.prog 90 #[.agg #[.int .i64 x.f0, .int .i64 x.f1, v2], .pointer (some ⟨b, 0, none⟩)] W fun e w' => e = .returned (.bool (x.f0 == id)) ∧ Below W.heap.size W w' := by
  have hc := blk_cell hb 0
  have hl := blk_lt hb
  clear hb
  go_enter Tryz.func90, Tryz.ntmps90
  go_wp2_with fail
  go_ret
  exact ⟨rfl, below_alloc (Below.refl _ _) _⟩

/-- the index of the bucket with an Id; -1 where there is none -/
def bucketAt (l : List (S68)) (id : Int) : Int := idxFrom (fun x : S68 => x.f0 == id) l 0
/-- the pointer that bucket returns -/
def bucketPtr (A : Option Addr) (l : List (S68)) (id : Int) : Value := if bucketAt l id < 0 then .pointer none else .pointer (A.map (fun a => a.add ((bucketAt l id).toNat * 3)))
set_option maxHeartbeats 2000000 in
set_option maxRecDepth 100000 in
theorem bucket_none.calls (A0_0 : Option Addr) (c0_0 : Nat) (l0_0 : List (S72)) (A0_1 : Option Addr) (c0_1 : Nat) (l0_1 : List (S68)) (a1 : Int) (w : World) (hr0_1 : Kd.C k68 w A0_1 l0_1.length l0_1) (h : bucketAt l0_1 a1 < 0) :
    Calls Tryz.prog 80 #[.agg #[.slice A0_0 l0_0.length c0_0, .slice A0_1 l0_1.length c0_1], .int .i64 a1] w fun e w' => e = .returned (.pointer none) ∧ Below w.heap.size w w' := by
  have HR := Aside0.mk hr0_1
  clear hr0_1
  have hneg : decide (bucketAt l0_1 a1 < 0) = true := decide_eq_true h
  clear h
  go_enter Tryz.func80, Tryz.ntmps80
  go_wp2_with fail
  have HB0 := below_alloc (below_alloc (Below.refl w.heap.size w) (.cells #[.slice A0_0 l0_0.length c0_0, .slice A0_1 l0_1.length c0_1] 35)) (.cells #[.int .i64 a1] 2)
  have HK : ((w.alloc (.cells #[.slice A0_0 l0_0.length c0_0, .slice A0_1 l0_1.length c0_1] 35)).alloc (.cells #[.int .i64 a1] 2)).heap[w.heap.size + 1]? = some (.cells #[.int .i64 a1] 2 (0, 0)) := by
    exact alloc_new _ _ _ (by simp)
  refine (indexBucket.calls A0_1 c0_1 l0_1 90 _ (fun x => x.f0 == a1) _ @Tryz.call90 (Kd.C_below HR.out HB0) ?_).mono ?_
  · intro W x cs hB hK
    obtain ⟨A2, c2, rfl, hl2, hg2⟩ := k68_open hK
    exact (bucketClosure.calls _ a1 x _ rfl W ((hB.block _ (by simp)).trans HK)).mono fun e w' ⟨he, hb⟩ => ⟨he, (hB.trans (hb.mono hB.size))⟩
  · rintro e w' ⟨rfl, hb'⟩
    have HB := Aside0.mk (HB0.trans (hb'.mono HB0.size))
    clear hb' HK HB0
    change decide (idxFrom (fun x : S68 => x.f0 == a1) l0_1 0 < 0) = true at hneg
    go_wp2_with fail
    go_ret
    exact ⟨rfl, HB.out⟩
set_option maxHeartbeats 2000000 in
set_option maxRecDepth 100000 in
theorem bucket_some.calls (A0_0 : Option Addr) (c0_0 : Nat) (l0_0 : List (S72)) (A0_1 : Option Addr) (c0_1 : Nat) (l0_1 : List (S68)) (a1 : Int) (w : World) (hr0_1 : Kd.C k68 w A0_1 l0_1.length l0_1) (ad : Addr) (hA : A0_1 = some ad) (h : 0 ≤ bucketAt l0_1 a1) :
    Calls Tryz.prog 80 #[.agg #[.slice A0_0 l0_0.length c0_0, .slice A0_1 l0_1.length c0_1], .int .i64 a1] w fun e w' => e = .returned (.pointer (some (ad.add ((bucketAt l0_1 a1).toNat * 3)))) ∧ Below w.heap.size w w' := by
  have HR := Aside0.mk hr0_1
  clear hr0_1
  subst hA
  have hlt : bucketAt l0_1 a1 < l0_1.length := by
    have := idxFrom_range (fun x : S68 => x.f0 == a1) l0_1 0
    unfold bucketAt at h ⊢
    omega
  go_enter Tryz.func80, Tryz.ntmps80
  go_wp2_with fail
  have HB0 := below_alloc (below_alloc (Below.refl w.heap.size w) (.cells #[.slice A0_0 l0_0.length c0_0, .slice (some ad) l0_1.length c0_1] 35)) (.cells #[.int .i64 a1] 2)
  have HK : ((w.alloc (.cells #[.slice A0_0 l0_0.length c0_0, .slice (some ad) l0_1.length c0_1] 35)).alloc (.cells #[.int .i64 a1] 2)).heap[w.heap.size + 1]? = some (.cells #[.int .i64 a1] 2 (0, 0)) := by
    exact alloc_new _ _ _ (by simp)
  refine (indexBucket.calls (some ad) c0_1 l0_1 90 _ (fun x => x.f0 == a1) _ @Tryz.call90 (Kd.C_below HR.out HB0) ?_).mono ?_
  · intro W x cs hB hK
    obtain ⟨A2, c2, rfl, hl2, hg2⟩ := k68_open hK
    exact (bucketClosure.calls _ a1 x _ rfl W ((hB.block _ (by simp)).trans HK)).mono fun e w' ⟨he, hb⟩ => ⟨he, (hB.trans (hb.mono hB.size))⟩
  · rintro e w' ⟨rfl, hb'⟩
    have HB := Aside0.mk (HB0.trans (hb'.mono HB0.size))
    have hc1 : w'.cell? ⟨w.heap.size, 1, none⟩ = some (.slice (some ad) l0_1.length c0_1) := by
      have h0 : ((w.alloc (.cells #[.slice A0_0 l0_0.length c0_0, .slice (some ad) l0_1.length c0_1] 35)).alloc (.cells #[.int .i64 a1] 2)).heap[w.heap.size]? = some (.cells #[.slice A0_0 l0_0.length c0_0, .slice (some ad) l0_1.length c0_1] 35 (0, 0)) := blk_alloc (blk_new w _) _
      exact (blk_cell ((hb'.block _ (by simp; omega)).trans h0) 1).trans rfl
    clear hb' HK HB0
    change 0 ≤ idxFrom (fun x : S68 => x.f0 == a1) l0_1 0 at h
    change idxFrom (fun x : S68 => x.f0 == a1) l0_1 0 < l0_1.length at hlt
    have E : Aside0 (bucketAt l0_1 a1 = idxFrom (fun x : S68 => x.f0 == a1) l0_1 0) := ⟨rfl⟩
    generalize idxFrom (fun x : S68 => x.f0 == a1) l0_1 0 = i at h hlt E ⊢
    have hneg : decide (i < 0) = false := decide_eq_false (by omega)
    have h0 := eq_true h
    have h1 := eq_true hlt
    go_wp2_with fail
    go_ret
    exact ⟨by rw [E.out]; rfl, HB.out⟩

/-! ### impl_Tree_kindOf: function 67 -/
/-- the kind of a device is 0; of a bucket its own; of what is not there -1 -/
def kindAt (l0 : List (S72)) (l1 : List (S68)) (id : Int) : Int :=
  if 0 ≤ idxFrom (fun x : S72 => x.f0 == id) l0 0 then 0 else if bucketAt l1 id < 0 then -1 else (rd_T68 l1 (bucketAt l1 id)).f1
def impl_Tree_kindOf.f (l0_0 : List (S72)) (l0_1 : List (S68)) (a1 : Int) : Option Int := some (kindAt l0_0 l0_1 a1)
theorem bucketAt_lt (l1 : List (S68)) (id : Int) (h : 0 ≤ bucketAt l1 id) : bucketAt l1 id < l1.length := by
  have := idxFrom_range (fun x : S68 => x.f0 == id) l1 0
  unfold bucketAt at h ⊢
  omega
set_option maxHeartbeats 2000000 in
set_option maxRecDepth 100000 in
theorem impl_Tree_kindOf.calls (A0_0 : Option Addr) (c0_0 : Nat) (l0_0 : List (S72)) (A0_1 : Option Addr) (c0_1 : Nat) (l0_1 : List (S68)) (a1 : Int) (r : Int) (w : World) (hr0_0 : Kd.C k72 w A0_0 l0_0.length l0_0) (hc0_0 : l0_0.length ≤ c0_0) (hr0_1 : Kd.C k68 w A0_1 l0_1.length l0_1) (hc0_1 : l0_1.length ≤ c0_1) (h : impl_Tree_kindOf.f l0_0 l0_1 a1 = some r) :
    Calls Tryz.prog 67 #[.agg #[.slice A0_0 l0_0.length c0_0, .slice A0_1 l0_1.length c0_1], .int .i64 a1] w fun e w' => e = .returned (.int .i64 r) ∧ Below w.heap.size w w' := by
  have HR0 := Aside0.mk hr0_0
  have HR1 := Aside0.mk hr0_1
  have HC0 := Aside0.mk hc0_0
  have HC1 := Aside0.mk hc0_1
  clear hr0_0 hr0_1 hc0_0 hc0_1
  obtain rfl := Option.some.inj h
  clear h
  go_enter Tryz.func67, Tryz.ntmps67
  go_wp2_with fail
  have HB0 := Aside0.mk (below_alloc (Below.refl w.heap.size w) (.cells #[.slice A0_0 l0_0.length c0_0, .slice A0_1 l0_1.length c0_1] 35))
  have HBX : Aside0 ((w.alloc (.cells #[.slice A0_0 l0_0.length c0_0, .slice A0_1 l0_1.length c0_1] 35)).heap[w.heap.size]? = some (.cells #[.slice A0_0 l0_0.length c0_0, .slice A0_1 l0_1.length c0_1] 35 (0, 0))) := ⟨blk_new w _⟩
  refine (impl_Tree_device.calls A0_0 c0_0 l0_0 A0_1 c0_1 l0_1 a1 _ _ (Kd.C_below HR0.out HB0.out) HC0.out (Kd.C_below HR1.out HB0.out) HC1.out rfl).mono ?_
  rintro e w1 ⟨rfl, hb1⟩
  have HB1 := Aside0.mk (HB0.out.trans (hb1.mono HB0.out.size))
  have HX := (hb1.block _ (by simp)).trans HBX.out
  have hcx0 := (blk_cell HX 0).trans rfl
  have hcx1 := (blk_cell HX 1).trans rfl
  clear hb1 HBX HB0 HX
  have hk : kindAt l0_0 l0_1 a1 = if 0 ≤ idxFrom (fun x : S72 => x.f0 == a1) l0_0 0 then 0 else if bucketAt l0_1 a1 < 0 then -1 else (rd_T68 l0_1 (bucketAt l0_1 a1)).f1 := rfl
  generalize idxFrom (fun x : S72 => x.f0 == a1) l0_0 0 = i at hk ⊢
  by_cases hi : 0 ≤ i
  · rw [if_pos hi] at hk
    have HK := Aside0.mk hk
    clear hk
    have q := eq_true hi
    go_wp2_with fail
    go_ret
    exact ⟨by rw [HK.out]; rfl, HB1.out⟩
  · rw [if_neg hi] at hk
    have q := eq_false hi
    by_cases hb : bucketAt l0_1 a1 < 0
    · rw [if_pos hb] at hk
      have HK := Aside0.mk hk
      clear hk
      go_wp2_with fail
      refine (bucket_none.calls A0_0 c0_0 l0_0 A0_1 c0_1 l0_1 a1 _ (Kd.C_below HR1.out HB1.out) hb).mono ?_
      rintro e w2 ⟨rfl, hb2⟩
      have HB2 := Aside0.mk (HB1.out.trans (hb2.mono HB1.out.size))
      clear hb2 HB1
      go_wp2_with fail
      go_ret
      exact ⟨by rw [HK.out]; rfl, HB2.out⟩
    · rw [if_neg hb] at hk
      have HK := Aside0.mk hk
      clear hk
      have hb0 : 0 ≤ bucketAt l0_1 a1 := by omega
      have hlt := bucketAt_lt l0_1 a1 hb0
      obtain ⟨ad, A2, c2, rfl, hx0, hx1, hx2, hl2, hg2⟩ := at_T68 HR1.out _ hb0 hlt
      have HX1 := Aside0.mk hx1
      clear hx0 hx1 hx2 hl2 hg2
      go_wp2_with fail
      refine (bucket_some.calls A0_0 c0_0 l0_0 (some ad) c0_1 l0_1 a1 _ (Kd.C_below HR1.out HB1.out) ad rfl hb0).mono ?_
      rintro e w2 ⟨rfl, hb2⟩
      have HB2 := Aside0.mk (HB1.out.trans (hb2.mono HB1.out.size))
      clear hb2 HB1
      have hx1 := (HB2.out.cell (World.block_lt_of_cell? w _ HX1.out)).trans HX1.out
      clear HX1 hb hb0 hlt
      generalize bucketAt l0_1 a1 = j at hx1 HK ⊢
      go_wp2_with fail
      go_ret
      exact ⟨by rw [HK.out]; rfl, HB2.out⟩

/-! ### impl_Tree_itemsOk: function 66 -/
/-- every number of a topology is an int64 -/
def wfTree (l0 : List (S72)) (l1 : List (S68)) : Bool :=
  l0.all (fun d => wfI d.f0 && wfI d.f1) && l1.all (fun b => wfI b.f0 && wfI b.f1 && b.f2.all wfI)
theorem wf_bucket {l0 : List (S72)} {l1 : List (S68)} (h : wfTree l0 l1 = true) (i : Int) (h0 : 0 ≤ i) (h1 : i < l1.length) : wfI (rd_T68 l1 i).f0 = true ∧ wfI (rd_T68 l1 i).f1 = true ∧ (rd_T68 l1 i).f2.all wfI = true := by
  unfold wfTree at h
  rw [Bool.and_eq_true, List.all_eq_true, List.all_eq_true] at h
  have hl : i.toNat < l1.length := by omega
  have hm : rd_T68 l1 i ∈ l1 := by
    unfold rd_T68
    rw [List.getD_eq_getElem?_getD, List.getElem?_eq_getElem hl]
    exact List.getElem_mem hl
  have := h.2 _ hm
  simp only [Bool.and_eq_true] at this
  exact ⟨this.1.1, this.1.2, this.2⟩
theorem wf_kindAt {l0 : List (S72)} {l1 : List (S68)} (h : wfTree l0 l1 = true) (id : Int) : wfI (kindAt l0 l1 id) = true := by
  unfold kindAt
  split
  · decide
  · split
    · decide
    · rename_i hb
      have h0 : 0 ≤ bucketAt l1 id := by omega
      exact (wf_bucket h _ h0 (bucketAt_lt l1 id h0)).2.1
theorem wf_wrap64 (x : Int) : wfI (wrap64 x) = true := by
  unfold wfI wrap64
  exact decide_eq_true (by omega)
def itemsOkB (l0 : List (S72)) (l1 : List (S68)) (kind : Int) (items : List Int) : Bool :=
  if items.length = 0 then true
  else if 1 < (onceOf (items.map (kindAt l0 l1))).length then false
  else if kind = 3 then (items.map (kindAt l0 l1)).any (fun y => y == 1) || (items.map (kindAt l0 l1)).any (fun y => y == 2)
  else (items.map (kindAt l0 l1)).any (fun y => y == wrap64 (kind - 1))
def impl_Tree_itemsOk.f (l0_0 : List (S72)) (l0_1 : List (S68)) (a1_0 : Int) (a1_1 : Int) (l1_2 : List Int) : Option Bool :=
  if wfTree l0_0 l0_1 = true then some (itemsOkB l0_0 l0_1 a1_1 l1_2) else none
theorem take_map_snoc {α β : Type} (f : α → β) (l : List α) (i : Int) (h0 : 0 ≤ i) (h1 : i < (l.length : Int)) (z : α) : (l.map f).take (i + 1).toNat = (l.map f).take i.toNat ++ [f (l.getD i.toNat z)] := by
  obtain ⟨n, rfl⟩ := Int.eq_ofNat_of_zero_le h0
  have hl : n < l.length := by omega
  have e : ((n : Int) + 1).toNat = n + 1 := by omega
  rw [e, Int.toNat_natCast, List.take_succ_eq_append_getElem (by simpa using hl), List.getElem_map, List.getD_eq_getElem?_getD, List.getElem?_eq_getElem hl]
  rfl
set_option maxHeartbeats 4000000 in
set_option maxRecDepth 100000 in
theorem impl_Tree_itemsOk.calls (A0_0 : Option Addr) (c0_0 : Nat) (l0_0 : List (S72)) (A0_1 : Option Addr) (c0_1 : Nat) (l0_1 : List (S68)) (a1_0 : Int) (a1_1 : Int) (A1_2 : Option Addr) (c1_2 : Nat) (l1_2 : List Int) (r : Bool) (w : World) (hr0_0 : Kd.C k72 w A0_0 l0_0.length l0_0) (hc0_0 : l0_0.length ≤ c0_0) (hr0_1 : Kd.C k68 w A0_1 l0_1.length l0_1) (hc0_1 : l0_1.length ≤ c0_1) (hr1_2 : Kd.C (Kd.int .i64) w A1_2 l1_2.length l1_2) (hc1_2 : l1_2.length ≤ c1_2) (h : impl_Tree_itemsOk.f l0_0 l0_1 a1_0 a1_1 l1_2 = some r) :
    Calls Tryz.prog 66 #[.agg #[.slice A0_0 l0_0.length c0_0, .slice A0_1 l0_1.length c0_1], .agg #[.int .i64 a1_0, .int .i64 a1_1, .slice A1_2 l1_2.length c1_2]] w fun e w' => e = .returned (.bool r) ∧ Below w.heap.size w w' := by
  have hm := Kd.C_max hr1_2
  have HR0 := Aside0.mk hr0_0
  have HR1 := Aside0.mk hr0_1
  have HRI := Aside0.mk hr1_2
  have HC0 := Aside0.mk hc0_0
  have HC1 := Aside0.mk hc0_1
  clear hr0_0 hr0_1 hc0_0 hc0_1 hr1_2
  unfold impl_Tree_itemsOk.f at h
  by_cases hwf : wfTree l0_0 l0_1 = true
  case neg => rw [if_neg hwf] at h; cases h
  rw [if_pos hwf] at h
  obtain rfl := Option.some.inj h
  clear h
  have HW := Aside0.mk hwf
  clear hwf
  have hmm := @run_makeMap Tryz.prog
  go_enter Tryz.func66, Tryz.ntmps66
  go_wp2_with fail
  have HB0 : Aside0 (Below w.heap.size w (((w.alloc (.cells #[.slice A0_0 l0_0.length c0_0, .slice A0_1 l0_1.length c0_1] 35)).alloc (.cells #[.int .i64 a1_0, .int .i64 a1_1, .slice A1_2 l1_2.length c1_2] 68)).alloc (.map #[] 0))) := ⟨below_alloc (below_alloc (below_alloc (Below.refl _ _) _) _) _⟩
  have HS0 : Aside0 (OwnSet (((w.alloc (.cells #[.slice A0_0 l0_0.length c0_0, .slice A0_1 l0_1.length c0_1] 35)).alloc (.cells #[.int .i64 a1_0, .int .i64 a1_1, .slice A1_2 l1_2.length c1_2] 68)).alloc (.map #[] 0)) (w.heap.size + 1 + 1) 0 []) := ⟨by have := OwnSet.made ((w.alloc (.cells #[.slice A0_0 l0_0.length c0_0, .slice A0_1 l0_1.length c0_1] 35)).alloc (.cells #[.int .i64 a1_0, .int .i64 a1_1, .slice A1_2 l1_2.length c1_2] 68)); simpa using this⟩
  have HX0 : Aside0 ((((w.alloc (.cells #[.slice A0_0 l0_0.length c0_0, .slice A0_1 l0_1.length c0_1] 35)).alloc (.cells #[.int .i64 a1_0, .int .i64 a1_1, .slice A1_2 l1_2.length c1_2] 68)).alloc (.map #[] 0)).heap[w.heap.size]? = some (.cells #[.slice A0_0 l0_0.length c0_0, .slice A0_1 l0_1.length c0_1] 35 (0, 0))) := ⟨blk_alloc (blk_alloc (blk_new w _) _) _⟩
  have HY0 : Aside0 ((((w.alloc (.cells #[.slice A0_0 l0_0.length c0_0, .slice A0_1 l0_1.length c0_1] 35)).alloc (.cells #[.int .i64 a1_0, .int .i64 a1_1, .slice A1_2 l1_2.length c1_2] 68)).alloc (.map #[] 0)).heap[w.heap.size + 1]? = some (.cells #[.int .i64 a1_0, .int .i64 a1_1, .slice A1_2 l1_2.length c1_2] 68 (0, 0))) := ⟨blk_alloc (alloc_new _ _ _ (by simp)) _⟩
  go_loopg [7, 12] l1_2.length (fun gg _ s12 wr => ∃ kk : Int, 0 ≤ kk ∧ kk ≤ l1_2.length ∧ (l1_2.length : Int) - kk ≤ gg ∧ s12 = .int .i64 kk ∧ Aside0 (Below w.heap.size w wr) ∧ Aside0 (OwnSet wr (w.heap.size + 1 + 1) kk.toNat ((l1_2.map (kindAt l0_0 l0_1)).take kk.toNat)) ∧ Aside0 (wr.heap[w.heap.size]? = some (.cells #[.slice A0_0 l0_0.length c0_0, .slice A0_1 l0_1.length c0_1] 35 (0, 0))) ∧ Aside0 (wr.heap[w.heap.size + 1]? = some (.cells #[.int .i64 a1_0, .int .i64 a1_1, .slice A1_2 l1_2.length c1_2] 68 (0, 0))))
  case atStart => exact ⟨0, by omega, by omega, by omega, rfl, HB0, HS0, HX0, HY0⟩
  case round =>
    clear HB0 HS0 HX0 HY0
    obtain ⟨kk, h0, hkk, hg, rfl, BW, HS, HX, HY⟩ := hrel
    have hcx0 := (blk_cell HX.out 0).trans rfl
    have hcx1 := (blk_cell HX.out 1).trans rfl
    have hcy0 := (blk_cell HY.out 0).trans rfl
    have hcy1 := (blk_cell HY.out 1).trans rfl
    have hcy2 := (blk_cell HY.out 2).trans rfl
    by_cases hlt : kk < (l1_2.length : Int)
    · obtain ⟨ad, rfl, hx0⟩ := Kd.at_int HRI.out kk h0 hlt
      replace hx0 := (BW.out.cell (World.block_lt_of_cell? w _ hx0)).trans hx0
      have q0 := eq_true h0
      have q1 := eq_true hlt
      have HM := Aside0.mk (take_map_snoc (kindAt l0_0 l0_1) l1_2 kk h0 hlt 0)
      go_wp2_with fail
      refine (impl_Tree_kindOf.calls A0_0 c0_0 l0_0 A0_1 c0_1 l0_1 _ _ _ (Kd.C_below HR0.out BW.out) HC0.out (Kd.C_below HR1.out BW.out) HC1.out rfl).mono ?_
      rintro e w1 ⟨rfl, hb1⟩
      have HB1 := Aside0.mk (BW.out.trans (hb1.mono BW.out.size))
      have HS1 := Aside0.mk (OwnSet.below HS.out hb1)
      have HX1 := Aside0.mk ((hb1.block _ (blk_lt HX.out)).trans HX.out)
      have HY1 := Aside0.mk ((hb1.block _ (blk_lt HY.out)).trans HY.out)
      clear hb1 BW HS HX HY hcx0 hcx1 hcy0 hcy1 hcy2 hx0
      go_wp2_with (at_mapUpdate; refine OwnSet.put rfl rfl _ _ _ rfl _ _ _ rfl HS1.out (by omega) _ rfl rfl (wf_kindAt HW.out _) ?_; intro w2 hs2 hg2; have HS2 := Aside0.mk hs2; have HG2 := Aside0.mk hg2; clear hs2 hg2)
      have hkn : (kk + 1).toNat = kk.toNat + 1 := by omega
      go_roundg (gk - 1)
      case measure => omega
      case rel =>
        exact ⟨kk + 1, by omega, by omega, by omega, by go_num, ⟨pw_below_grown HB1.out (some (w.heap.size + 1 + 1)) HB1.out.size HG2.out (by intro k hk; cases hk; omega)⟩,
          ⟨by rw [HM.out, hkn]; exact HS2.out⟩,
          ⟨(HG2.out.block _ (blk_lt HX1.out) (by simp; omega)).trans HX1.out⟩, ⟨(HG2.out.block _ (blk_lt HY1.out) (by simp)).trans HY1.out⟩⟩
    · have : kk = l1_2.length := by omega
      subst this
      have HS' : Aside0 (OwnSet wr (w.heap.size + 1 + 1) l1_2.length (l1_2.map (kindAt l0_0 l0_1))) := ⟨by have := HS.out; rw [List.take_of_length_le (by simp)] at this; simpa using this⟩
      clear HS HR0 HR1 HC0 HC1
      have hd : itemsOkB l0_0 l0_1 a1_1 l1_2 = if l1_2.length = 0 then true
        else if 1 < (onceOf (l1_2.map (kindAt l0_0 l0_1))).length then false
        else if a1_1 = 3 then (l1_2.map (kindAt l0_0 l0_1)).any (fun y => y == 1) || (l1_2.map (kindAt l0_0 l0_1)).any (fun y => y == 2)
        else (l1_2.map (kindAt l0_0 l0_1)).any (fun y => y == wrap64 (a1_1 - 1)) := rfl
      have hlook := fun (x : Int) (hx : wfI x = true) => OwnSet.look (w := wr) (HS'.out) x hx
      have hlen := OwnSet.len HS'.out
      have HL := Aside0.mk hlook
      clear hlook
      have ke := wf_wrap64 (a1_1 - 1)
      generalize l1_2.map (kindAt l0_0 l0_1) = ks at hd HL hlen
      by_cases c1 : l1_2.length = 0
      · rw [if_pos c1] at hd
        have HD := Aside0.mk hd
        clear hd hlen
        have c1' : ((l1_2.length : Int) == 0) = true := by simp [c1]
        have HC := Aside0.mk c1
        clear c1
        go_wp2_with fail
        go_ret
        exact ⟨by rw [HD.out]; rfl, BW.out⟩
      · rw [if_neg c1] at hd
        have c1' : ((l1_2.length : Int) == 0) = false := by simp; simpa using c1
        clear c1
        by_cases c2 : 1 < (onceOf ks).length
        · rw [if_pos c2] at hd
          have HD := Aside0.mk hd
          clear hd
          have c2' : decide (1 < ((onceOf ks).length : Int)) = true := decide_eq_true (by omega)
          clear c2
          go_wp2_with fail
          go_ret
          exact ⟨by rw [HD.out]; rfl, BW.out⟩
        · rw [if_neg c2] at hd
          have c2' : decide (1 < ((onceOf ks).length : Int)) = false := decide_eq_false (by omega)
          clear c2
          by_cases c3 : a1_1 = 3
          · rw [if_pos c3] at hd
            have HD := Aside0.mk hd
            clear hd
            have c3' : (a1_1 == 3) = true := by simp [c3]
            clear c3
            have hl1 := HL.out 1 (by decide)
            have hl2 := HL.out 2 (by decide)
            generalize ks.any (fun y => y == 1) = x1 at hl1 HD
            generalize ks.any (fun y => y == 2) = x2 at hl2 HD
            cases x1 with
            | true =>
              go_wp2_with fail
              go_ret
              exact ⟨by rw [HD.out]; rfl, BW.out⟩
            | false =>
              go_wp2_with fail
              go_ret
              exact ⟨by rw [HD.out]; rfl, BW.out⟩
          · rw [if_neg c3] at hd
            have HD := Aside0.mk hd
            clear hd
            have c3' : (a1_1 == 3) = false := by simp [c3]
            clear c3
            have hl0 := HL.out (wrap64 (a1_1 - 1)) ke
            go_wp2_with fail
            go_ret
            exact ⟨by rw [HD.out]; rfl, BW.out⟩

/-! ### impl_TreeOk: function 46 -/
/-- is a number in a range? -/
def inB (a b c : Int) : Bool := decide (b ≤ a) && decide (a ≤ c)
theorem between_inB (a b c : Int) : impl_between.f a b c = some (inB a b c) := by
  unfold impl_between.f inB
  by_cases h : a ≥ b
  · rw [if_pos h, decide_eq_true h]; simp
  · rw [if_neg h, decide_eq_false h]; simp
/-- is the bucket at a place valid for itself, the one before it known? -/
def bktB (l0 : List (S72)) (l1 : List (S68)) (i : Int) : Bool :=
  inB (rd_T68 l1 i).f0 (-12) (-1) && !(decide (0 < i) && decide ((rd_T68 l1 (i - 1)).f0 ≤ (rd_T68 l1 i).f0)) && inB (rd_T68 l1 i).f1 1 3 && decide ((rd_T68 l1 i).f2.length ≤ 8) && itemsOkB l0 l1 (rd_T68 l1 i).f1 (rd_T68 l1 i).f2
/-- what is used behind some things more; none where one is used twice -/
def useGo : List Int → List Int → Option (List Int)
  | u, [] => some u
  | u, x :: xs => if (u.any fun y => y == x) = true then none else useGo (u ++ [x]) xs
def treeGo (l0 : List (S72)) (l1 : List (S68)) : Nat → Int → List Int → Bool
  | 0, _, _ => true
  | d + 1, i, u => if bktB l0 l1 i = true then (match useGo u (rd_T68 l1 i).f2 with | some u' => treeGo l0 l1 d (i + 1) u' | none => false) else false
def tailB (l0 : List (S72)) (l1 : List (S68)) (d : Nat) (i : Int) (u items : List Int) : Bool := match useGo u items with | some u' => treeGo l0 l1 d (i + 1) u' | none => false
def treeB (l0 : List (S72)) (l1 : List (S68)) : Bool := treeGo l0 l1 l1.length 0 []
theorem tail_hit (l0 : List (S72)) (l1 : List (S68)) (d : Nat) (i : Int) (u items : List Int) (j : Int) (h0 : 0 ≤ j) (h1 : j < items.length) (h : (u.any fun y => y == rd items j) = true) : tailB l0 l1 d i u (items.drop j.toNat) = false := by
  obtain ⟨n, rfl⟩ := Int.eq_ofNat_of_zero_le h0
  have hl : n < items.length := by omega
  have er : rd items (n : Int) = items[n] := by unfold rd; rw [Int.toNat_natCast, List.getD_eq_getElem?_getD, List.getElem?_eq_getElem hl]; rfl
  rw [er] at h
  unfold tailB
  rw [Int.toNat_natCast, List.drop_eq_getElem_cons hl]
  simp only [useGo, h, if_true]
theorem tail_miss (l0 : List (S72)) (l1 : List (S68)) (d : Nat) (i : Int) (u items : List Int) (j : Int) (h0 : 0 ≤ j) (h1 : j < items.length) (h : (u.any fun y => y == rd items j) = false) : tailB l0 l1 d i u (items.drop j.toNat) = tailB l0 l1 d i (u ++ [rd items j]) (items.drop (j + 1).toNat) := by
  obtain ⟨n, rfl⟩ := Int.eq_ofNat_of_zero_le h0
  have hl : n < items.length := by omega
  have er : rd items (n : Int) = items[n] := by unfold rd; rw [Int.toNat_natCast, List.getD_eq_getElem?_getD, List.getElem?_eq_getElem hl]; rfl
  have e : ((n : Int) + 1).toNat = n + 1 := by omega
  rw [er] at h ⊢
  unfold tailB
  rw [Int.toNat_natCast, e, List.drop_eq_getElem_cons hl]
  simp only [useGo, h, Bool.false_eq_true, if_false]
theorem tail_end (l0 : List (S72)) (l1 : List (S68)) (d : Nat) (i : Int) (u items : List Int) : tailB l0 l1 d i u (items.drop items.length) = treeGo l0 l1 d (i + 1) u := by
  unfold tailB
  rw [List.drop_length]
  rfl
def impl_TreeOk.f (k : Nat) (l0_0 : List (S72)) (l0_1 : List (S68)) : Option Bool :=
  if wfTree l0_0 l0_1 = true then (impl_Tree_devicesOk.f k l0_0 l0_1).bind fun d => some (d && decide (l0_1.length ≤ 12) && treeB l0_0 l0_1) else none
theorem wf_items {l0 : List (S72)} {l1 : List (S68)} (h : wfTree l0 l1 = true) (i : Int) (h0 : 0 ≤ i) (h1 : i < l1.length) (j : Int) (g0 : 0 ≤ j) (g1 : j < (rd_T68 l1 i).f2.length) : wfI (rd (rd_T68 l1 i).f2 j) = true := by
  have hw := (wf_bucket h i h0 h1).2.2
  rw [List.all_eq_true] at hw
  refine hw _ ?_
  have hl : j.toNat < (rd_T68 l1 i).f2.length := by omega
  unfold rd
  rw [List.getD_eq_getElem?_getD, List.getElem?_eq_getElem hl]
  exact List.getElem_mem hl
def az_z46 (n m : Nat) : Array Bool := (List.replicate n true ++ List.replicate m false).toArray
def mz46_0 : Array Bool := az_z46 0 38
def mz46_1 : Array Bool := az_z46 1 37
def mz46_2 : Array Bool := az_z46 2 36
def mz46_3 : Array Bool := az_z46 3 35
def mz46_4 : Array Bool := az_z46 4 34
def mz46_5 : Array Bool := az_z46 5 33
def mz46_6 : Array Bool := az_z46 6 32
def mz46_7 : Array Bool := az_z46 7 31
def mz46_8 : Array Bool := az_z46 8 30
def mz46_9 : Array Bool := az_z46 9 29
def mz46_10 : Array Bool := az_z46 10 28
def mz46_11 : Array Bool := az_z46 11 27
def mz46_12 : Array Bool := az_z46 12 26
def mz46_13 : Array Bool := az_z46 13 25
def mz46_14 : Array Bool := az_z46 14 24
def mz46_15 : Array Bool := az_z46 15 23
def mz46_16 : Array Bool := az_z46 16 22
def mz46_17 : Array Bool := az_z46 17 21
def mz46_18 : Array Bool := az_z46 18 20
def mz46_19 : Array Bool := az_z46 19 19
def mz46_20 : Array Bool := az_z46 20 18
def mz46_21 : Array Bool := az_z46 21 17
def mz46_22 : Array Bool := az_z46 22 16
def mz46_23 : Array Bool := az_z46 23 15
def mz46_24 : Array Bool := az_z46 24 14
def mz46_25 : Array Bool := az_z46 25 13
def mz46_26 : Array Bool := az_z46 26 12
def mz46_27 : Array Bool := az_z46 27 11
def mz46_28 : Array Bool := az_z46 28 10
def mz46_29 : Array Bool := az_z46 29 9
def mz46_30 : Array Bool := az_z46 30 8
def mz46_31 : Array Bool := az_z46 31 7
def mz46_32 : Array Bool := az_z46 32 6
def mz46_33 : Array Bool := az_z46 33 5
def mz46_34 : Array Bool := az_z46 34 4
def mz46_35 : Array Bool := az_z46 35 3
def mz46_36 : Array Bool := az_z46 36 2
def mz46_37 : Array Bool := az_z46 37 1
def mz46_38 : Array Bool := az_z46 38 0
theorem pu_z46 {P : Program} {ops : Array Oper} {Q : Exit → Act → World → Prop} {md : Region.Mode} {S : World → Prop} {ds : List Nat} {oi : Oper} {fuel : Nat} {l : Array Bool} {a : Act} {w : World} (i : Nat) (N : Option Tmp) (v : Value) (l' : Array Bool) (hi : ops[i]? = some oi) (hN : oi.dst = N) (hc : anyB md ops l l' i = true)
    (hQ : ∀ c a w, Q (.panic c) (a.put oi.dst v) w → Q (.panic c) a w) (hy : Yields P ops oi v a) (a' : Act) (ha : a.put N v = a')
    (h : wpAnyLast P md ops Q S ds fuel l' a' w) : wpAnyLast P md ops Q S ds (fuel + 1) l a w := pure_ l' hi hN hc hQ hy ha h
theorem pq_z46 : (∀ (l : List Value) (i : Nat) (v : Value), l.toArray.setIfInBounds i v = (l.set i v).toArray) ∧ (∀ (x v : Value) (xs : List Value), (x :: xs).set 0 v = v :: xs) ∧ (∀ (x v : Value) (xs : List Value) (n : Nat), (x :: xs).set (n + 1) v = x :: xs.set n v) ∧ (∀ n : Int, IntKind.i64.wrap n = Go.RowKit.wrap64 n) ∧ (∀ n : Int, IntKind.i32.wrap n = Go.RowKit.wrap32 n) :=
  ⟨fun l i v => List.setIfInBounds_toArray l i v, fun _ _ _ => rfl, fun _ _ _ _ => rfl, i64_w, i32_w⟩
set_option maxHeartbeats 4000000 in
set_option maxRecDepth 100000 in
theorem impl_TreeOk.calls (k : Nat) (A0_0 : Option Addr) (c0_0 : Nat) (l0_0 : List (S72)) (A0_1 : Option Addr) (c0_1 : Nat) (l0_1 : List (S68)) (r : Bool) (w : World) (hr0_0 : Kd.C k72 w A0_0 l0_0.length l0_0) (hc0_0 : l0_0.length ≤ c0_0) (hr0_1 : Kd.C k68 w A0_1 l0_1.length l0_1) (hc0_1 : l0_1.length ≤ c0_1) (h : impl_TreeOk.f k l0_0 l0_1 = some r) :
  Calls Tryz.prog 46 #[.agg #[.slice A0_0 l0_0.length c0_0, .slice A0_1 l0_1.length c0_1]] w fun e w' => e = .returned (.bool r) ∧ Below w.heap.size w w' := by
 have hm := Kd.C_max hr0_1
 have HR0 := Aside0.mk hr0_0
 have HR1 := Aside0.mk hr0_1
 have HC0 := Aside0.mk hc0_0
 have HC1 := Aside0.mk hc0_1
 clear hr0_0 hr0_1 hc0_0 hc0_1
 unfold impl_TreeOk.f at h
 by_cases hwf : wfTree l0_0 l0_1 = true
 case neg => rw [if_neg hwf] at h; cases h
 rw [if_pos hwf] at h
 have HWF := Aside0.mk hwf
 clear hwf
 obtain ⟨dv, hdv, h2⟩ := Option.bind_eq_some_iff.1 h
 have HDV := Aside0.mk hdv
 have HR := Aside0.mk (Option.some.inj h2)
 clear h hdv h2
 have hmm := @run_makeMap Tryz.prog
 go_enter Tryz.func46, Tryz.ntmps46
 go_wp2_with fail
 have HX0 := Aside0.mk (blk_new w (.cells #[.slice A0_0 l0_0.length c0_0, .slice A0_1 l0_1.length c0_1] 35))
 have HB0 := Aside0.mk (below_alloc (Below.refl w.heap.size w) (.cells #[.slice A0_0 l0_0.length c0_0, .slice A0_1 l0_1.length c0_1] 35))
 generalize hgt : w.heap.size = gt at HX0 ⊢
 have HGT := Aside0.mk hgt
 clear hgt
 refine (impl_Tree_devicesOk.calls k A0_0 c0_0 l0_0 A0_1 c0_1 l0_1 dv _ (Kd.C_below HR0.out HB0.out) HC0.out (Kd.C_below HR1.out HB0.out) HC1.out HDV.out).mono ?_
 rintro e w1 ⟨rfl, hb1⟩
 have HX1 := Aside0.mk ((hb1.block _ (blk_lt HX0.out)).trans HX0.out)
 have HB1 := Aside0.mk (below_step HB0.out hb1)
 clear hb1 HB0 HX0 HDV
 have hcx0 := (blk_cell HX1.out 0).trans rfl
 have hcx1 := (blk_cell HX1.out 1).trans rfl
 have hgl1 := blk_lt HX1.out
 cases dv with
 | false =>
  go_wp2_with fail
  go_ret
  exact ⟨by rw [← HR.out]; rfl, HB1.out⟩
 | true =>
  by_cases c1 : l0_1.length ≤ 12
  case neg =>
   have c1b : decide (12 < (l0_1.length : Int)) = true := decide_eq_true (by omega)
   have c1n : decide (12 < l0_1.length) = true := decide_eq_true (by omega)
   have HF := Aside0.mk (show r = false from by rw [← HR.out, decide_eq_false c1]; rfl)
   clear c1
   go_wp2_with fail
   go_ret
   exact ⟨by rw [HF.out]; rfl, HB1.out⟩
  have c1b : decide (12 < (l0_1.length : Int)) = false := decide_eq_false (by omega)
  have c1n : decide (12 < l0_1.length) = false := decide_eq_false (by omega)
  have HRT := Aside0.mk (show r = treeGo l0_0 l0_1 (l0_1.length - (0 : Int).toNat) 0 [] from by rw [← HR.out, decide_eq_true c1]; rfl)
  clear HR
  go_wp2_with fail
  have HS0 := Aside0.mk (OwnSet.made w1)
  have HMB := Aside0.mk (show w.heap.size ≤ w1.heap.size from HB1.out.size)
  have HNE := Aside0.mk (show ¬ gt = w1.heap.size from by have := blk_lt HX1.out; omega)
  have HX2 := Aside0.mk (blk_alloc HX1.out (.map #[] 0))
  have HB2 := Aside0.mk (below_alloc HB1.out (.map #[] 0))
  generalize (w1.alloc (.map #[] 0)) = w2 at HS0 HX2 HB2 ⊢
  generalize w1.heap.size = mb at HS0 HMB HNE ⊢
  clear HX1 HB1
  go_loopg [21] l0_1.length (fun gg s21 wr => ∃ (kk : Int) (S : List Int), 0 ≤ kk ∧ kk ≤ l0_1.length ∧ (l0_1.length : Int) - kk ≤ gg ∧ s21 = .int .i64 kk ∧ (S.length : Int) ≤ 8 * kk ∧ Aside0 (Below w.heap.size w wr) ∧ Aside0 (OwnSet wr mb S.length S) ∧ Aside0 (wr.heap[gt]? = some (.cells #[.slice A0_0 l0_0.length c0_0, .slice A0_1 l0_1.length c0_1] 35 (0, 0))) ∧ Aside0 (r = treeGo l0_0 l0_1 (l0_1.length - kk.toNat) kk S))
  case atStart => exact ⟨0, [], by omega, by omega, by omega, rfl, by simp, HB2, HS0, HX2, HRT⟩
  case round =>
   clear HB2 HS0 HX2 HRT hcx0 hcx1 hgl1
   obtain ⟨kk, S, h0, hkk, hg, rfl, hS, BW, HS, HX, HT⟩ := hrel
   obtain ⟨gko, hgko⟩ : ∃ g, g = gk := ⟨_, rfl⟩
   rw [← hgko] at hg
   have HGK := Aside0.mk hgko
   clear hgko
   by_cases hlt : kk < (l0_1.length : Int)
   case neg =>
    obtain rfl : kk = l0_1.length := by omega
    have HF := Aside0.mk (show r = true from by rw [HT.out, show l0_1.length - ((l0_1.length : Int)).toNat = 0 from by omega]; rfl)
    clear HT
    go_wp2_with fail
    go_ret
    exact ⟨by rw [HF.out]; rfl, BW.out⟩
   have hdd : l0_1.length - kk.toNat = (l0_1.length - (kk + 1).toNat) + 1 := by omega
   have HT1 := Aside0.mk (show r = if bktB l0_0 l0_1 kk = true then tailB l0_0 l0_1 (l0_1.length - (kk + 1).toNat) kk S (rd_T68 l0_1 kk).f2 else false from by rw [HT.out, hdd]; rfl)
   clear HT hdd
   obtain ⟨ad, A2, c2, hA, hx0, hx1, hx2, hl2, hg2⟩ := at_T68 HR1.out kk h0 hlt
   have hprev : 0 < kk → w.cell? (ad.add ((kk - 1).toNat * 3)) = some (.int .i64 (rd_T68 l0_1 (kk - 1)).f0) := fun hp => by
    obtain ⟨ad', A2', c2', hA', hx0', _⟩ := at_T68 HR1.out (kk - 1) (by omega) (by omega)
    have : ad = ad' := Option.some.inj (hA.symm.trans hA')
    rw [this]; exact hx0'
   have HPV := Aside0.mk hprev
   clear hprev
   subst hA
   have HRI := Aside0.mk hg2
   have HWI := Aside0.mk (fun j g0 g1 => wf_items HWF.out kk h0 hlt j g0 g1)
   have HBK := Aside0.mk (show bktB l0_0 l0_1 kk = (inB (rd_T68 l0_1 kk).f0 (-12) (-1) && !(decide (0 < kk) && decide ((rd_T68 l0_1 (kk - 1)).f0 ≤ (rd_T68 l0_1 kk).f0)) && inB (rd_T68 l0_1 kk).f1 1 3 && decide ((rd_T68 l0_1 kk).f2.length ≤ 8) && itemsOkB l0_0 l0_1 (rd_T68 l0_1 kk).f1 (rd_T68 l0_1 kk).f2) from rfl)
   have hm2 := Kd.C_max hg2
   clear hg2
   replace hx0 := (BW.out.cell (World.block_lt_of_cell? w _ hx0)).trans hx0
   replace hx1 := (BW.out.cell (World.block_lt_of_cell? w _ hx1)).trans hx1
   replace hx2 := (BW.out.cell (World.block_lt_of_cell? w _ hx2)).trans hx2
   generalize rd_T68 l0_1 kk = b at hx0 hx1 hx2 hl2 HRI HWI HBK HT1 hm2
   generalize (rd_T68 l0_1 (kk - 1)).f0 = pv at HPV HBK
   have q0 := eq_true h0
   have q1 := eq_true hlt
   have hcx1 := (blk_cell HX.out 1).trans rfl
   have hgl := blk_lt HX.out
   go_wp2_with fail
   have HG := Aside0.mk (blk_new wr (.cells #[.int .i64 b.f0, .int .i64 b.f1, .slice A2 b.f2.length c2] 68))
   have HX3 := Aside0.mk (blk_alloc HX.out (.cells #[.int .i64 b.f0, .int .i64 b.f1, .slice A2 b.f2.length c2] 68))
   have HB3 := Aside0.mk (below_alloc BW.out (.cells #[.int .i64 b.f0, .int .i64 b.f1, .slice A2 b.f2.length c2] 68))
   have HS3 := Aside0.mk (OwnSet.below HS.out (below_alloc (Below.refl wr.heap.size wr) (.cells #[.int .i64 b.f0, .int .i64 b.f1, .slice A2 b.f2.length c2] 68)))
   generalize (wr.alloc (.cells #[.int .i64 b.f0, .int .i64 b.f1, .slice A2 b.f2.length c2] 68)) = W at HG HX3 HB3 HS3 ⊢
   generalize wr.heap.size = gb at HG ⊢
   clear BW HS HX hx0 hx1 hx2 hcx1 hgl
   have hb0 := (blk_cell HG.out 0).trans rfl
   have hb1 := (blk_cell HG.out 1).trans rfl
   have hb2 := (blk_cell HG.out 2).trans rfl
   have ht0 := (blk_cell HX3.out 0).trans rfl
   have ht1 := (blk_cell HX3.out 1).trans rfl
   by_cases e1 : inB b.f0 (-12) (-1) = true
   case neg =>
    have g1 := Aside0.mk (show impl_between.f b.f0 (-12) (-1) = some false from by rw [between_inB]; simpa using e1)
    have HF := Aside0.mk (show r = false from by rw [HT1.out, HBK.out]; simp [e1])
    clear e1
    go_quiet ((go_at_call 27; first | exact quietD (impl_between.calls _ _ _ _ _ g1.out) | exact quietD (impl_between.calls _ _ _ _ _ g2.out)))
    have HBF := Aside0.mk (fun n => pw_below_drewN HB3.out n)
    go_wp2_with fail
    go_ret
    exact ⟨by rw [HF.out]; rfl, HBF.out _⟩
   have g1 := Aside0.mk (show impl_between.f b.f0 (-12) (-1) = some true from by rw [between_inB, e1])
   by_cases e0 : 0 < kk
   case pos =>
    obtain ⟨ki, hki⟩ : ∃ ki : Int, kk - 1 = ki := ⟨_, rfl⟩
    have hpv0 := HPV.out e0
    rw [hki] at hpv0
    have hpv := (HB3.out.cell (World.block_lt_of_cell? w _ hpv0)).trans hpv0
    have hw1 : IntKind.i64.wrap (kk - 1) = ki := (i64_w _).trans (by unfold wrap64; omega)
    have hw2 : wrap64 (kk - 1) = ki := by unfold wrap64; omega
    have i0 := eq_true (show 0 ≤ ki by omega)
    have i1 := eq_true (show ki < (l0_1.length : Int) by omega)
    clear hki hpv0
    have e0b : decide (0 < kk) = true := decide_eq_true e0
    by_cases e2 : pv ≤ b.f0
    case pos =>
     have e2b : decide (pv ≤ b.f0) = true := decide_eq_true e2
     have HF := Aside0.mk (show r = false from by rw [HT1.out, HBK.out]; simp [e0, e2])
     clear e1 e2 e0
     go_quiet ((go_at_call 27; first | exact quietD (impl_between.calls _ _ _ _ _ g1.out) | exact quietD (impl_between.calls _ _ _ _ _ g2.out)))
     have HBF := Aside0.mk (fun n => pw_below_drewN HB3.out n)
     go_wp2_with fail
     go_ret
     exact ⟨by rw [HF.out]; rfl, HBF.out _⟩
    have e2b : decide (pv ≤ b.f0) = false := decide_eq_false e2
    by_cases e3 : inB b.f1 1 3 = true
    case neg =>
     have g2 := Aside0.mk (show impl_between.f b.f1 1 3 = some false from by rw [between_inB]; simpa using e3)
     have HF := Aside0.mk (show r = false from by rw [HT1.out, HBK.out]; simp [e3])
     clear e1 e3 e2 e0
     go_quiet ((go_at_call 27; first | exact quietD (impl_between.calls _ _ _ _ _ g1.out) | exact quietD (impl_between.calls _ _ _ _ _ g2.out)))
     have HBF := Aside0.mk (fun n => pw_below_drewN HB3.out n)
     go_wp2_with fail
     go_ret
     exact ⟨by rw [HF.out]; rfl, HBF.out _⟩
    have g2 := Aside0.mk (show impl_between.f b.f1 1 3 = some true from by rw [between_inB, e3])
    by_cases e4 : b.f2.length ≤ 8
    case neg =>
     have e4b : decide (8 < (b.f2.length : Int)) = true := decide_eq_true (by omega)
     have e4n : decide (8 < b.f2.length) = true := decide_eq_true (by omega)
     have HF := Aside0.mk (show r = false from by rw [HT1.out, HBK.out]; simp [e4])
     clear e1 e3 e4 e2 e0
     go_quiet ((go_at_call 27; first | exact quietD (impl_between.calls _ _ _ _ _ g1.out) | exact quietD (impl_between.calls _ _ _ _ _ g2.out)))
     have HBF := Aside0.mk (fun n => pw_below_drewN HB3.out n)
     go_wp2_with fail
     go_ret
     exact ⟨by rw [HF.out]; rfl, HBF.out _⟩
    have e4b : decide (8 < (b.f2.length : Int)) = false := decide_eq_false (by omega)
    have e4n : decide (8 < b.f2.length) = false := decide_eq_false (by omega)
    by_cases e5 : itemsOkB l0_0 l0_1 b.f1 b.f2 = true
    case neg =>
     have g3 := Aside0.mk (show impl_Tree_itemsOk.f l0_0 l0_1 b.f0 b.f1 b.f2 = some false from by unfold impl_Tree_itemsOk.f; rw [if_pos HWF.out]; simpa using e5)
     have HF := Aside0.mk (show r = false from by rw [HT1.out, HBK.out]; simp [e5])
     clear e1 e3 e4 e5 e2 e0
     have HK := Aside0.mk (show ∀ w', Below W.heap.size W w' → (fun w' => w'.cell? ⟨gb, 0, none⟩ = some (.int .i64 b.f0) ∧ w'.cell? ⟨gb, 1, none⟩ = some (.int .i64 b.f1) ∧ w'.cell? ⟨gb, 2, none⟩ = some (.slice A2 b.f2.length c2) ∧ w'.cell? ⟨gt, 0, none⟩ = some (.slice A0_0 l0_0.length c0_0) ∧ w'.cell? ⟨gt, 1, none⟩ = some (.slice (some ad) l0_1.length c0_1) ∧ w'.cell? (ad.add (ki.toNat * 3)) = some (.int .i64 pv) ∧ Below W.heap.size W w') w' from fun w' h => ⟨(h.cell (blk_lt HG.out)).trans hb0, (h.cell (blk_lt HG.out)).trans hb1, (h.cell (blk_lt HG.out)).trans hb2, (h.cell (blk_lt HX3.out)).trans ht0, (h.cell (blk_lt HX3.out)).trans ht1, (h.cell (World.block_lt_of_cell? W _ hpv)).trans hpv, h⟩)
     have HIT := Aside0.mk (fun w' (hb : Below W.heap.size W w') => impl_Tree_itemsOk.calls A0_0 c0_0 l0_0 (some ad) c0_1 l0_1 b.f0 b.f1 A2 c2 b.f2 false w' (Kd.C_below HR0.out (below_step HB3.out hb)) HC0.out (Kd.C_below HR1.out (below_step HB3.out hb)) HC1.out (Kd.C_below HRI.out (below_step HB3.out hb)) hl2 g3.out)
     go_region_held3 (fun w' => w'.cell? ⟨gb, 0, none⟩ = some (.int .i64 b.f0) ∧ w'.cell? ⟨gb, 1, none⟩ = some (.int .i64 b.f1) ∧ w'.cell? ⟨gb, 2, none⟩ = some (.slice A2 b.f2.length c2) ∧ w'.cell? ⟨gt, 0, none⟩ = some (.slice A0_0 l0_0.length c0_0) ∧ w'.cell? ⟨gt, 1, none⟩ = some (.slice (some ad) l0_1.length c0_1) ∧ w'.cell? (ad.add (ki.toNat * 3)) = some (.int .i64 pv) ∧ Below W.heap.size W w')
      (first | exact HK.out _ hbb | exact HK.out _ (below_drew1 (Below.refl _ _)) | exact HK.out _ (Below.refl _ _))
      (first | (go_at_call 27; go_split_ands; (first | (with_reducible refine (impl_between.calls _ _ _ _ _ g1.out).mono ?_) | (with_reducible refine (impl_between.calls _ _ _ _ _ g2.out).mono ?_)); rintro e w3 ⟨rfl, hd⟩; have hbb : Below W.heap.size W w3 := below_step (by assumption) hd.below) | (go_at_call 66; go_split_ands; (with_reducible refine (HIT.out _ (by assumption)).mono ?_); rintro e w3 ⟨rfl, hb⟩; have hbb : Below W.heap.size W w3 := below_step (by assumption) hb))
     have HBF := Aside0.mk (below_step HB3.out hbb)
     go_wp2_with fail
     go_ret
     exact ⟨by rw [HF.out]; rfl, HBF.out⟩
    have g3 := Aside0.mk (show impl_Tree_itemsOk.f l0_0 l0_1 b.f0 b.f1 b.f2 = some true from by unfold impl_Tree_itemsOk.f; rw [if_pos HWF.out, e5])
    have HT2 := Aside0.mk (show r = tailB l0_0 l0_1 (l0_1.length - (kk + 1).toNat) kk (S ++ b.f2.take (0 : Int).toNat) (b.f2.drop (0 : Int).toNat) from by rw [HT1.out, HBK.out, if_pos (by simp [e1, e2, e3, e4, e5])]; simp)
    have he4 := eq_true e4
    clear e1 e3 e5 HT1 HBK he4 e2 e0
    have HK := Aside0.mk (show ∀ w', Below W.heap.size W w' → (fun w' => w'.cell? ⟨gb, 0, none⟩ = some (.int .i64 b.f0) ∧ w'.cell? ⟨gb, 1, none⟩ = some (.int .i64 b.f1) ∧ w'.cell? ⟨gb, 2, none⟩ = some (.slice A2 b.f2.length c2) ∧ w'.cell? ⟨gt, 0, none⟩ = some (.slice A0_0 l0_0.length c0_0) ∧ w'.cell? ⟨gt, 1, none⟩ = some (.slice (some ad) l0_1.length c0_1) ∧ w'.cell? (ad.add (ki.toNat * 3)) = some (.int .i64 pv) ∧ Below W.heap.size W w') w' from fun w' h => ⟨(h.cell (blk_lt HG.out)).trans hb0, (h.cell (blk_lt HG.out)).trans hb1, (h.cell (blk_lt HG.out)).trans hb2, (h.cell (blk_lt HX3.out)).trans ht0, (h.cell (blk_lt HX3.out)).trans ht1, (h.cell (World.block_lt_of_cell? W _ hpv)).trans hpv, h⟩)
    have HIT := Aside0.mk (fun w' (hb : Below W.heap.size W w') => impl_Tree_itemsOk.calls A0_0 c0_0 l0_0 (some ad) c0_1 l0_1 b.f0 b.f1 A2 c2 b.f2 true w' (Kd.C_below HR0.out (below_step HB3.out hb)) HC0.out (Kd.C_below HR1.out (below_step HB3.out hb)) HC1.out (Kd.C_below HRI.out (below_step HB3.out hb)) hl2 g3.out)
    go_region_held3 (fun w' => w'.cell? ⟨gb, 0, none⟩ = some (.int .i64 b.f0) ∧ w'.cell? ⟨gb, 1, none⟩ = some (.int .i64 b.f1) ∧ w'.cell? ⟨gb, 2, none⟩ = some (.slice A2 b.f2.length c2) ∧ w'.cell? ⟨gt, 0, none⟩ = some (.slice A0_0 l0_0.length c0_0) ∧ w'.cell? ⟨gt, 1, none⟩ = some (.slice (some ad) l0_1.length c0_1) ∧ w'.cell? (ad.add (ki.toNat * 3)) = some (.int .i64 pv) ∧ Below W.heap.size W w')
     (first | exact HK.out _ hbb | exact HK.out _ (below_drew1 (Below.refl _ _)) | exact HK.out _ (Below.refl _ _))
     (first | (go_at_call 27; go_split_ands; (first | (with_reducible refine (impl_between.calls _ _ _ _ _ g1.out).mono ?_) | (with_reducible refine (impl_between.calls _ _ _ _ _ g2.out).mono ?_)); rintro e w3 ⟨rfl, hd⟩; have hbb : Below W.heap.size W w3 := below_step (by assumption) hd.below) | (go_at_call 66; go_split_ands; (with_reducible refine (HIT.out _ (by assumption)).mono ?_); rintro e w3 ⟨rfl, hb⟩; have hbb : Below W.heap.size W w3 := below_step (by assumption) hb))
    have t2 := (hbb.cell (blk_lt HG.out)).trans hb2
    have HXF := Aside0.mk (blk_below HX3.out hbb)
    have HSF := Aside0.mk (OwnSet.below HS3.out hbb)
    have HBF := Aside0.mk (below_step HB3.out hbb)
    clear g1 g2 g3 HG HX3 HB3 HS3
    go_wp2_with fail
    try clear hb0 hb1 hb2 ht0 ht1 hpv
    go_loopg [67] b.f2.length (fun gg s67 wq => ∃ jj : Int, 0 ≤ jj ∧ jj ≤ b.f2.length ∧ (b.f2.length : Int) - jj ≤ gg ∧ s67 = .int .i64 jj ∧ Aside0 (Below w.heap.size w wq) ∧ Aside0 (OwnSet wq mb (S ++ b.f2.take jj.toNat).length (S ++ b.f2.take jj.toNat)) ∧ Aside0 (wq.heap[gt]? = some (.cells #[.slice A0_0 l0_0.length c0_0, .slice (some ad) l0_1.length c0_1] 35 (0, 0))) ∧ Aside0 (r = tailB l0_0 l0_1 (l0_1.length - (kk + 1).toNat) kk (S ++ b.f2.take jj.toNat) (b.f2.drop jj.toNat)))
    case atStart => exact ⟨0, by omega, by omega, by omega, rfl, HBF, by simpa using HSF, HXF, HT2⟩
    case round =>
     clear HBF HSF HXF HT2
     obtain ⟨jj, j0, hjj, hgj, rfl, BQ, SQ, XQ, TQ⟩ := hrel
     by_cases hlj : jj < (b.f2.length : Int)
     ·obtain ⟨ad2, rfl, hy0⟩ := Kd.at_int HRI.out jj j0 hlj
      replace hy0 := (BQ.out.cell (World.block_lt_of_cell? w _ hy0)).trans hy0
      have p0 := eq_true j0
      have p1 := eq_true hlj
      have hw := HWI.out jj j0 hlj
      have hlook := OwnSet.look SQ.out (rd b.f2 jj) hw
      have hsl : (S ++ b.f2.take jj.toNat).length = S.length + jj.toNat := by rw [List.length_append, List.length_take]; omega
      have hsn : (S ++ b.f2.take jj.toNat).length < 9223372036854775807 := by omega
      have HW2 := Aside0.mk hw
      have HTK := Aside0.mk (show S ++ b.f2.take (jj + 1).toNat = (S ++ b.f2.take jj.toNat) ++ [rd b.f2 jj] from by
       have := take_map_snoc id b.f2 jj j0 hlj 0
       simp only [List.map_id, id] at this
       rw [this, List.append_assoc]; rfl)
      cases hq : (S ++ b.f2.take jj.toNat).any (fun y => y == rd b.f2 jj) with
      | true =>
       rw [hq] at hlook
       have HF := Aside0.mk (show r = false from by rw [TQ.out]; exact tail_hit _ _ _ _ _ _ _ j0 hlj hq)
       clear hq hsl hsn TQ HTK hw
       go_wp2_with fail
       go_ret
       exact ⟨by rw [HF.out]; rfl, BQ.out⟩
      | false =>
       rw [hq] at hlook
       have HTN := Aside0.mk (show r = tailB l0_0 l0_1 (l0_1.length - (kk + 1).toNat) kk (S ++ b.f2.take (jj + 1).toNat) (b.f2.drop (jj + 1).toNat) from by rw [TQ.out, HTK.out]; exact tail_miss _ _ _ _ _ _ _ j0 hlj hq)
       have HSN := Aside0.mk hsn
       clear hq hsl hsn TQ hw
       go_wp2_with (at_mapUpdate; refine OwnSet.put rfl rfl _ _ _ rfl _ _ _ rfl SQ.out HSN.out _ rfl rfl HW2.out ?_; intro w5 hs5 hg5; have HS5 := Aside0.mk hs5; have HG5 := Aside0.mk hg5; clear hs5 hg5)
       go_roundg (gk - 1)
       case measure => omega
       case rel =>
        exact ⟨jj + 1, by omega, by omega, by omega, by go_num, ⟨pw_below_grown BQ.out (some mb) BQ.out.size HG5.out (by intro k hk; cases hk; exact HMB.out)⟩,
         ⟨by rw [HTK.out]; have := HS5.out; rw [List.length_append]; exact this⟩, ⟨(HG5.out.block _ (blk_lt XQ.out) (by simp; exact HNE.out)).trans XQ.out⟩, HTN⟩
     ·obtain rfl : jj = b.f2.length := by omega
      have HTE := Aside0.mk (show r = treeGo l0_0 l0_1 (l0_1.length - (kk + 1).toNat) (kk + 1) (S ++ b.f2) from by
       have := TQ.out
       rw [Int.toNat_natCast, List.take_length] at this
       rw [this]; exact tail_end _ _ _ _ _ _)
      have HSE := Aside0.mk (show OwnSet wr mb (S ++ b.f2).length (S ++ b.f2) from by have := SQ.out; rw [Int.toNat_natCast, List.take_length] at this; exact this)
      have hlen : (((S ++ b.f2).length : Nat) : Int) ≤ 8 * (kk + 1) := by rw [List.length_append]; omega
      clear TQ SQ
      go_wp2_with fail
      go_roundg (gko - 1)
      case measure => have := HGK.out; omega
      case rel => exact ⟨kk + 1, S ++ b.f2, by omega, by omega, by omega, by go_num, hlen, BQ, HSE, XQ, HTE⟩
   have e0b : decide (0 < kk) = false := decide_eq_false e0
   by_cases e3 : inB b.f1 1 3 = true
   case neg =>
    have g2 := Aside0.mk (show impl_between.f b.f1 1 3 = some false from by rw [between_inB]; simpa using e3)
    have HF := Aside0.mk (show r = false from by rw [HT1.out, HBK.out]; simp [e3])
    clear e1 e3 e0
    go_quiet ((go_at_call 27; first | exact quietD (impl_between.calls _ _ _ _ _ g1.out) | exact quietD (impl_between.calls _ _ _ _ _ g2.out)))
    have HBF := Aside0.mk (fun n => pw_below_drewN HB3.out n)
    go_wp2_with fail
    go_ret
    exact ⟨by rw [HF.out]; rfl, HBF.out _⟩
   have g2 := Aside0.mk (show impl_between.f b.f1 1 3 = some true from by rw [between_inB, e3])
   by_cases e4 : b.f2.length ≤ 8
   case neg =>
    have e4b : decide (8 < (b.f2.length : Int)) = true := decide_eq_true (by omega)
    have e4n : decide (8 < b.f2.length) = true := decide_eq_true (by omega)
    have HF := Aside0.mk (show r = false from by rw [HT1.out, HBK.out]; simp [e4])
    clear e1 e3 e4 e0
    go_quiet ((go_at_call 27; first | exact quietD (impl_between.calls _ _ _ _ _ g1.out) | exact quietD (impl_between.calls _ _ _ _ _ g2.out)))
    have HBF := Aside0.mk (fun n => pw_below_drewN HB3.out n)
    go_wp2_with fail
    go_ret
    exact ⟨by rw [HF.out]; rfl, HBF.out _⟩
   have e4b : decide (8 < (b.f2.length : Int)) = false := decide_eq_false (by omega)
   have e4n : decide (8 < b.f2.length) = false := decide_eq_false (by omega)
   by_cases e5 : itemsOkB l0_0 l0_1 b.f1 b.f2 = true
   case neg =>
    have g3 := Aside0.mk (show impl_Tree_itemsOk.f l0_0 l0_1 b.f0 b.f1 b.f2 = some false from by unfold impl_Tree_itemsOk.f; rw [if_pos HWF.out]; simpa using e5)
    have HF := Aside0.mk (show r = false from by rw [HT1.out, HBK.out]; simp [e5])
    clear e1 e3 e4 e5 e0
    refine start_ (n := 38) (S := fun w' => w'.cell? ⟨gb, 0, none⟩ = some (.int .i64 b.f0) ∧ w'.cell? ⟨gb, 1, none⟩ = some (.int .i64 b.f1) ∧ w'.cell? ⟨gb, 2, none⟩ = some (.slice A2 b.f2.length c2) ∧ w'.cell? ⟨gt, 0, none⟩ = some (.slice A0_0 l0_0.length c0_0) ∧ w'.cell? ⟨gt, 1, none⟩ = some (.slice (some ad) l0_1.length c0_1) ∧ w'.heap[gb]? = some (.cells #[.int .i64 b.f0, .int .i64 b.f1, .slice A2 b.f2.length c2] 68 (0, 0)) ∧ w'.heap[gt]? = some (.cells #[.slice A0_0 l0_0.length c0_0, .slice (some ad) l0_1.length c0_1] 35 (0, 0)) ∧ OwnSet w' mb S.length S ∧ Below w.heap.size w w') (ds := []) mz46_0 (by kernel_rfl) rfl rfl ⟨hb0, hb1, hb2, ht0, ht1, blk_drew HG.out, blk_drew HX3.out, OwnSet.drew1 HS3.out, below_drew1 HB3.out⟩ (fun hHeld => ?_)
    refine pu_z46 0 (some 26) ?_ mz46_1 rfl rfl (by kernel_rfl) (fun _ _ _ h => h) (Or.inl ⟨by rfl, ?_⟩) ?_ ?_ ?_
    (rotate_left; ·(intro w'; go_simp; with_reducible rfl)); (rotate_left; ·(simp only [Act.put, pq_z46]; rfl))
    refine take_ (i := 1) (N := some 27) (v := ?_) (a' := ?_) mz46_2 rfl rfl (by kernel_rfl) (fun _ _ _ h => h) (Or.inl ⟨by rfl, ?_⟩) hHeld ?_ ?_
    (rotate_left; ·(rintro w' ⟨s0, s1, s2, s3, s4, s5, s6, s7, s8⟩; go_simp; with_reducible rfl)); (rotate_left; ·(simp only [Act.put, pq_z46]; rfl))
    refine one_ (i := 2) (N := some 28) mz46_3 rfl rfl (by kernel_rfl) (by decide) (fun K hK => ?_)
    obtain ⟨t0, t1, t2, t3, t4, t5, t6, t7, t8⟩ := hHeld
    refine goes_ Tryz.func27 (by kernel_rfl) rfl #[.int .i64 b.f0, .int .i64 (-12), .int .i64 (-1)] (by rfl) rfl rfl (by simp only [List.map_toArray, List.map_cons, List.map_nil]; rfl) ?_
    with_reducible refine (impl_between.calls _ _ _ true _ g1.out).mono ?_
    rintro e w3 ⟨rfl, hd⟩
    refine ⟨_, rfl, ?_⟩
    have hb := hd.below
    clear hd
    have u0 := (hb.cell (blk_lt t5)).trans t0
    have u1 := (hb.cell (blk_lt t5)).trans t1
    have u2 := (hb.cell (blk_lt t5)).trans t2
    have u3 := (hb.cell (blk_lt t6)).trans t3
    have u4 := (hb.cell (blk_lt t6)).trans t4
    have u5 := (hb.block _ (blk_lt t5)).trans t5
    have u6 := (hb.block _ (blk_lt t6)).trans t6
    have u7 := OwnSet.below t7 hb
    have u8 := below_step t8 hb
    clear t0 t1 t2 t3 t4 t5 t6 t7 t8 hb
    refine hK.out _ _ ⟨u0, u1, u2, u3, u4, u5, u6, u7, u8⟩ (fun hHeld => ?_)
    clear hK K
    refine norm_ (a' := ?_) ?_ ?_
    (rotate_left; ·(show Act.put _ (some 28) _ = _; simp only [Act.put, pq_z46]; rfl))
    refine pu_z46 3 (some 29) ?_ mz46_4 rfl rfl (by kernel_rfl) (fun _ _ _ h => h) (Or.inl ⟨by rfl, ?_⟩) ?_ ?_ ?_
    (rotate_left; ·(intro w'; go_simp; with_reducible rfl)); (rotate_left; ·(simp only [Act.put, pq_z46]; rfl))
    refine pu_z46 4 (some 30) ?_ mz46_5 rfl rfl (by kernel_rfl) (fun _ _ _ h => h) (Or.inl ⟨by rfl, ?_⟩) ?_ ?_ ?_
    (rotate_left; ·(intro w'; go_simp; with_reducible rfl)); (rotate_left; ·(simp only [Act.put, pq_z46]; rfl))
    refine pu_z46 5 (some 31) ?_ mz46_6 rfl rfl (by kernel_rfl) (fun _ _ _ h => h) (Or.inl ⟨by rfl, ?_⟩) ?_ ?_ ?_
    (rotate_left; ·(intro w'; go_simp; with_reducible rfl)); (rotate_left; ·(simp only [Act.put, pq_z46]; rfl))
    refine pu_z46 6 (some 32) ?_ mz46_7 rfl rfl (by kernel_rfl) (fun _ _ _ h => h) (Or.inl ⟨by rfl, ?_⟩) ?_ ?_ ?_
    (rotate_left; ·(intro w'; go_simp; with_reducible rfl)); (rotate_left; ·(simp only [Act.put, pq_z46]; rfl))
    refine pu_z46 7 (some 33) ?_ mz46_8 rfl rfl (by kernel_rfl) (fun _ _ _ h => h) (Or.inl ⟨by rfl, ?_⟩) ?_ ?_ ?_
    (rotate_left; ·(intro w'; go_simp; with_reducible rfl)); (rotate_left; ·(simp only [Act.put, pq_z46]; rfl))
    refine pu_z46 8 (some 34) undef mz46_9 rfl rfl (by kernel_rfl) (fun _ _ _ h => h) (Or.inr ⟨by rfl, rfl⟩) ?_ ?_ ?_
    (rotate_left; ·(simp only [Act.put, pq_z46]; rfl))
    refine pu_z46 9 (some 35) undef mz46_10 rfl rfl (by kernel_rfl) (fun _ _ _ h => h) (Or.inr ⟨by rfl, rfl⟩) ?_ ?_ ?_
    (rotate_left; ·(simp only [Act.put, pq_z46]; rfl))
    refine pu_z46 10 (some 36) undef mz46_11 rfl rfl (by kernel_rfl) (fun _ _ _ h => h) (Or.inr ⟨by rfl, rfl⟩) ?_ ?_ ?_
    (rotate_left; ·(simp only [Act.put, pq_z46]; rfl))
    refine pu_z46 11 (some 37) undef mz46_12 rfl rfl (by kernel_rfl) (fun _ _ _ h => h) (Or.inr ⟨by rfl, rfl⟩) ?_ ?_ ?_
    (rotate_left; ·(simp only [Act.put, pq_z46]; rfl))
    refine pu_z46 12 (some 38) undef mz46_13 rfl rfl (by kernel_rfl) (fun _ _ _ h => h) (Or.inr ⟨by rfl, rfl⟩) ?_ ?_ ?_
    (rotate_left; ·(simp only [Act.put, pq_z46]; rfl))
    refine pu_z46 13 (some 39) undef mz46_14 rfl rfl (by kernel_rfl) (fun _ _ _ h => h) (Or.inr ⟨by rfl, rfl⟩) ?_ ?_ ?_
    (rotate_left; ·(simp only [Act.put, pq_z46]; rfl))
    refine pu_z46 14 (some 40) undef mz46_15 rfl rfl (by kernel_rfl) (fun _ _ _ h => h) (Or.inr ⟨by rfl, rfl⟩) ?_ ?_ ?_
    (rotate_left; ·(simp only [Act.put, pq_z46]; rfl))
    refine pu_z46 15 (some 41) undef mz46_16 rfl rfl (by kernel_rfl) (fun _ _ _ h => h) (Or.inr ⟨by rfl, rfl⟩) ?_ ?_ ?_
    (rotate_left; ·(simp only [Act.put, pq_z46]; rfl))
    refine pu_z46 16 (some 42) undef mz46_17 rfl rfl (by kernel_rfl) (fun _ _ _ h => h) (Or.inr ⟨by rfl, rfl⟩) ?_ ?_ ?_
    (rotate_left; ·(simp only [Act.put, pq_z46]; rfl))
    refine pu_z46 17 (some 43) undef mz46_18 rfl rfl (by kernel_rfl) (fun _ _ _ h => h) (Or.inr ⟨by rfl, rfl⟩) ?_ ?_ ?_
    (rotate_left; ·(simp only [Act.put, pq_z46]; rfl))
    refine pu_z46 18 (some 44) ?_ mz46_19 rfl rfl (by kernel_rfl) (fun _ _ _ h => h) (Or.inl ⟨by rfl, ?_⟩) ?_ ?_ ?_
    (rotate_left; ·(intro w'; go_simp; with_reducible rfl)); (rotate_left; ·(simp only [Act.put, pq_z46]; rfl))
    refine pu_z46 19 (some 45) ?_ mz46_20 rfl rfl (by kernel_rfl) (fun _ _ _ h => h) (Or.inl ⟨by rfl, ?_⟩) ?_ ?_ ?_
    (rotate_left; ·(intro w'; go_simp; with_reducible rfl)); (rotate_left; ·(simp only [Act.put, pq_z46]; rfl))
    refine pu_z46 20 (some 46) ?_ mz46_21 rfl rfl (by kernel_rfl) (fun _ _ _ h => h) (Or.inl ⟨by rfl, ?_⟩) ?_ ?_ ?_
    (rotate_left; ·(intro w'; go_simp; with_reducible rfl)); (rotate_left; ·(simp only [Act.put, pq_z46]; rfl))
    refine pu_z46 21 (some 47) ?_ mz46_22 rfl rfl (by kernel_rfl) (fun _ _ _ h => h) (Or.inl ⟨by rfl, ?_⟩) ?_ ?_ ?_
    (rotate_left; ·(intro w'; go_simp; with_reducible rfl)); (rotate_left; ·(simp only [Act.put, pq_z46]; rfl))
    refine take_ (i := 22) (N := some 48) (v := ?_) (a' := ?_) mz46_23 rfl rfl (by kernel_rfl) (fun _ _ _ h => h) (Or.inl ⟨by rfl, ?_⟩) hHeld ?_ ?_
    (rotate_left; ·(rintro w' ⟨s0, s1, s2, s3, s4, s5, s6, s7, s8⟩; go_simp; with_reducible rfl)); (rotate_left; ·(simp only [Act.put, pq_z46]; rfl))
    refine one_ (i := 23) (N := some 49) mz46_24 rfl rfl (by kernel_rfl) (by decide) (fun K hK => ?_)
    obtain ⟨t0, t1, t2, t3, t4, t5, t6, t7, t8⟩ := hHeld
    refine goes_ Tryz.func27 (by kernel_rfl) rfl #[.int .i64 b.f1, .int .i64 1, .int .i64 3] (by rfl) rfl rfl (by simp only [List.map_toArray, List.map_cons, List.map_nil]; rfl) ?_
    with_reducible refine (impl_between.calls _ _ _ true _ g2.out).mono ?_
    rintro e w3 ⟨rfl, hd⟩
    refine ⟨_, rfl, ?_⟩
    have hb := hd.below
    clear hd
    have u0 := (hb.cell (blk_lt t5)).trans t0
    have u1 := (hb.cell (blk_lt t5)).trans t1
    have u2 := (hb.cell (blk_lt t5)).trans t2
    have u3 := (hb.cell (blk_lt t6)).trans t3
    have u4 := (hb.cell (blk_lt t6)).trans t4
    have u5 := (hb.block _ (blk_lt t5)).trans t5
    have u6 := (hb.block _ (blk_lt t6)).trans t6
    have u7 := OwnSet.below t7 hb
    have u8 := below_step t8 hb
    clear t0 t1 t2 t3 t4 t5 t6 t7 t8 hb
    refine hK.out _ _ ⟨u0, u1, u2, u3, u4, u5, u6, u7, u8⟩ (fun hHeld => ?_)
    clear hK K
    refine norm_ (a' := ?_) ?_ ?_
    (rotate_left; ·(show Act.put _ (some 49) _ = _; simp only [Act.put, pq_z46]; rfl))
    refine pu_z46 24 (some 50) ?_ mz46_25 rfl rfl (by kernel_rfl) (fun _ _ _ h => h) (Or.inl ⟨by rfl, ?_⟩) ?_ ?_ ?_
    (rotate_left; ·(intro w'; go_simp; with_reducible rfl)); (rotate_left; ·(simp only [Act.put, pq_z46]; rfl))
    refine pu_z46 25 (some 51) ?_ mz46_26 rfl rfl (by kernel_rfl) (fun _ _ _ h => h) (Or.inl ⟨by rfl, ?_⟩) ?_ ?_ ?_
    (rotate_left; ·(intro w'; go_simp; with_reducible rfl)); (rotate_left; ·(simp only [Act.put, pq_z46]; rfl))
    refine pu_z46 26 (some 52) ?_ mz46_27 rfl rfl (by kernel_rfl) (fun _ _ _ h => h) (Or.inl ⟨by rfl, ?_⟩) ?_ ?_ ?_
    (rotate_left; ·(intro w'; go_simp; with_reducible rfl)); (rotate_left; ·(simp only [Act.put, pq_z46]; rfl))
    refine pu_z46 27 (some 53) ?_ mz46_28 rfl rfl (by kernel_rfl) (fun _ _ _ h => h) (Or.inl ⟨by rfl, ?_⟩) ?_ ?_ ?_
    (rotate_left; ·(intro w'; go_simp; with_reducible rfl)); (rotate_left; ·(simp only [Act.put, pq_z46]; rfl))
    refine take_ (i := 28) (N := some 54) (v := ?_) (a' := ?_) mz46_29 rfl rfl (by kernel_rfl) (fun _ _ _ h => h) (Or.inl ⟨by rfl, ?_⟩) hHeld ?_ ?_
    (rotate_left; ·(rintro w' ⟨s0, s1, s2, s3, s4, s5, s6, s7, s8⟩; go_simp; with_reducible rfl)); (rotate_left; ·(simp only [Act.put, pq_z46]; rfl))
    refine pu_z46 29 (some 55) ?_ mz46_30 rfl rfl (by kernel_rfl) (fun _ _ _ h => h) (Or.inl ⟨by rfl, ?_⟩) ?_ ?_ ?_
    (rotate_left; ·(intro w'; go_simp; with_reducible rfl)); (rotate_left; ·(simp only [Act.put, pq_z46]; rfl))
    refine pu_z46 30 (some 56) ?_ mz46_31 rfl rfl (by kernel_rfl) (fun _ _ _ h => h) (Or.inl ⟨by rfl, ?_⟩) ?_ ?_ ?_
    (rotate_left; ·(intro w'; go_simp; with_reducible rfl)); (rotate_left; ·(simp only [Act.put, pq_z46]; rfl))
    refine pu_z46 31 (some 57) ?_ mz46_32 rfl rfl (by kernel_rfl) (fun _ _ _ h => h) (Or.inl ⟨by rfl, ?_⟩) ?_ ?_ ?_
    (rotate_left; ·(intro w'; go_simp; with_reducible rfl)); (rotate_left; ·(simp only [Act.put, pq_z46]; rfl))
    refine pu_z46 32 (some 58) ?_ mz46_33 rfl rfl (by kernel_rfl) (fun _ _ _ h => h) (Or.inl ⟨by rfl, ?_⟩) ?_ ?_ ?_
    (rotate_left; ·(intro w'; go_simp; with_reducible rfl)); (rotate_left; ·(simp only [Act.put, pq_z46]; rfl))
    refine take_ (i := 33) (N := some 59) (v := ?_) (a' := ?_) mz46_34 rfl rfl (by kernel_rfl) (fun _ _ _ h => h) (Or.inl ⟨by rfl, ?_⟩) hHeld ?_ ?_
    (rotate_left; ·(rintro w' ⟨s0, s1, s2, s3, s4, s5, s6, s7, s8⟩; go_simp; with_reducible rfl)); (rotate_left; ·(simp only [Act.put, pq_z46]; rfl))
    refine take_ (i := 34) (N := some 60) (v := ?_) (a' := ?_) mz46_35 rfl rfl (by kernel_rfl) (fun _ _ _ h => h) (Or.inl ⟨by rfl, ?_⟩) hHeld ?_ ?_
    (rotate_left; ·(rintro w' ⟨s0, s1, s2, s3, s4, s5, s6, s7, s8⟩; go_simp; with_reducible rfl)); (rotate_left; ·(simp only [Act.put, pq_z46]; rfl))
    refine one_ (i := 35) (N := some 61) mz46_36 rfl rfl (by kernel_rfl) (by decide) (fun K hK => ?_)
    obtain ⟨t0, t1, t2, t3, t4, t5, t6, t7, t8⟩ := hHeld
    refine goes_ Tryz.func66 (by kernel_rfl) rfl #[.agg #[.slice A0_0 l0_0.length c0_0, .slice (some ad) l0_1.length c0_1], .agg #[.int .i64 b.f0, .int .i64 b.f1, .slice A2 b.f2.length c2]] (by rfl) rfl rfl (by simp only [List.map_toArray, List.map_cons, List.map_nil]; rfl) ?_
    with_reducible refine (impl_Tree_itemsOk.calls A0_0 c0_0 l0_0 (some ad) c0_1 l0_1 b.f0 b.f1 A2 c2 b.f2 false _ (Kd.C_below HR0.out t8) HC0.out (Kd.C_below HR1.out t8) HC1.out (Kd.C_below HRI.out t8) hl2 g3.out).mono ?_
    rintro e w3 ⟨rfl, hb⟩
    refine ⟨_, rfl, ?_⟩
    have u0 := (hb.cell (blk_lt t5)).trans t0
    have u1 := (hb.cell (blk_lt t5)).trans t1
    have u2 := (hb.cell (blk_lt t5)).trans t2
    have u3 := (hb.cell (blk_lt t6)).trans t3
    have u4 := (hb.cell (blk_lt t6)).trans t4
    have u5 := (hb.block _ (blk_lt t5)).trans t5
    have u6 := (hb.block _ (blk_lt t6)).trans t6
    have u7 := OwnSet.below t7 hb
    have u8 := below_step t8 hb
    clear t0 t1 t2 t3 t4 t5 t6 t7 t8 hb
    refine hK.out _ _ ⟨u0, u1, u2, u3, u4, u5, u6, u7, u8⟩ (fun hHeld => ?_)
    clear hK K
    refine norm_ (a' := ?_) ?_ ?_
    (rotate_left; ·(show Act.put _ (some 61) _ = _; simp only [Act.put, pq_z46]; rfl))
    refine pu_z46 36 (some 62) ?_ mz46_37 rfl rfl (by kernel_rfl) (fun _ _ _ h => h) (Or.inl ⟨by rfl, ?_⟩) ?_ ?_ ?_
    (rotate_left; ·(intro w'; go_simp; with_reducible rfl)); (rotate_left; ·(simp only [Act.put, pq_z46]; rfl))
    refine pu_z46 37 (some 63) ?_ mz46_38 rfl rfl (by kernel_rfl) (fun _ _ _ h => h) (Or.inl ⟨by rfl, ?_⟩) ?_ ?_ ?_
    (rotate_left; ·(intro w'; go_simp; with_reducible rfl)); (rotate_left; ·(simp only [Act.put, pq_z46]; rfl))
    refine done_ (by kernel_rfl) ?_
    obtain ⟨t0, t1, t2, t3, t4, t5, t6, t7, t8⟩ := hHeld
    clear t0 t1 t2 t3 t4 t5 t6 t7
    have HBF := Aside0.mk t8
    clear t8
    go_wp2_with fail
    go_ret
    exact ⟨by rw [HF.out]; rfl, HBF.out⟩
   have g3 := Aside0.mk (show impl_Tree_itemsOk.f l0_0 l0_1 b.f0 b.f1 b.f2 = some true from by unfold impl_Tree_itemsOk.f; rw [if_pos HWF.out, e5])
   have HT2 := Aside0.mk (show r = tailB l0_0 l0_1 (l0_1.length - (kk + 1).toNat) kk (S ++ b.f2.take (0 : Int).toNat) (b.f2.drop (0 : Int).toNat) from by rw [HT1.out, HBK.out, if_pos (by simp [e1, e0, e3, e4, e5])]; simp)
   have he4 := eq_true e4
   clear e1 e3 e5 HT1 HBK he4 e0
   refine start_ (n := 38) (S := fun w' => w'.cell? ⟨gb, 0, none⟩ = some (.int .i64 b.f0) ∧ w'.cell? ⟨gb, 1, none⟩ = some (.int .i64 b.f1) ∧ w'.cell? ⟨gb, 2, none⟩ = some (.slice A2 b.f2.length c2) ∧ w'.cell? ⟨gt, 0, none⟩ = some (.slice A0_0 l0_0.length c0_0) ∧ w'.cell? ⟨gt, 1, none⟩ = some (.slice (some ad) l0_1.length c0_1) ∧ w'.heap[gb]? = some (.cells #[.int .i64 b.f0, .int .i64 b.f1, .slice A2 b.f2.length c2] 68 (0, 0)) ∧ w'.heap[gt]? = some (.cells #[.slice A0_0 l0_0.length c0_0, .slice (some ad) l0_1.length c0_1] 35 (0, 0)) ∧ OwnSet w' mb S.length S ∧ Below w.heap.size w w') (ds := []) mz46_0 (by kernel_rfl) rfl rfl ⟨hb0, hb1, hb2, ht0, ht1, blk_drew HG.out, blk_drew HX3.out, OwnSet.drew1 HS3.out, below_drew1 HB3.out⟩ (fun hHeld => ?_)
   refine pu_z46 0 (some 26) ?_ mz46_1 rfl rfl (by kernel_rfl) (fun _ _ _ h => h) (Or.inl ⟨by rfl, ?_⟩) ?_ ?_ ?_
   (rotate_left; ·(intro w'; go_simp; with_reducible rfl)); (rotate_left; ·(simp only [Act.put, pq_z46]; rfl))
   refine take_ (i := 1) (N := some 27) (v := ?_) (a' := ?_) mz46_2 rfl rfl (by kernel_rfl) (fun _ _ _ h => h) (Or.inl ⟨by rfl, ?_⟩) hHeld ?_ ?_
   (rotate_left; ·(rintro w' ⟨s0, s1, s2, s3, s4, s5, s6, s7, s8⟩; go_simp; with_reducible rfl)); (rotate_left; ·(simp only [Act.put, pq_z46]; rfl))
   refine one_ (i := 2) (N := some 28) mz46_3 rfl rfl (by kernel_rfl) (by decide) (fun K hK => ?_)
   obtain ⟨t0, t1, t2, t3, t4, t5, t6, t7, t8⟩ := hHeld
   refine goes_ Tryz.func27 (by kernel_rfl) rfl #[.int .i64 b.f0, .int .i64 (-12), .int .i64 (-1)] (by rfl) rfl rfl (by simp only [List.map_toArray, List.map_cons, List.map_nil]; rfl) ?_
   with_reducible refine (impl_between.calls _ _ _ true _ g1.out).mono ?_
   rintro e w3 ⟨rfl, hd⟩
   refine ⟨_, rfl, ?_⟩
   have hb := hd.below
   clear hd
   have u0 := (hb.cell (blk_lt t5)).trans t0
   have u1 := (hb.cell (blk_lt t5)).trans t1
   have u2 := (hb.cell (blk_lt t5)).trans t2
   have u3 := (hb.cell (blk_lt t6)).trans t3
   have u4 := (hb.cell (blk_lt t6)).trans t4
   have u5 := (hb.block _ (blk_lt t5)).trans t5
   have u6 := (hb.block _ (blk_lt t6)).trans t6
   have u7 := OwnSet.below t7 hb
   have u8 := below_step t8 hb
   clear t0 t1 t2 t3 t4 t5 t6 t7 t8 hb
   refine hK.out _ _ ⟨u0, u1, u2, u3, u4, u5, u6, u7, u8⟩ (fun hHeld => ?_)
   clear hK K
   refine norm_ (a' := ?_) ?_ ?_
   (rotate_left; ·(show Act.put _ (some 28) _ = _; simp only [Act.put, pq_z46]; rfl))
   refine pu_z46 3 (some 29) ?_ mz46_4 rfl rfl (by kernel_rfl) (fun _ _ _ h => h) (Or.inl ⟨by rfl, ?_⟩) ?_ ?_ ?_
   (rotate_left; ·(intro w'; go_simp; with_reducible rfl)); (rotate_left; ·(simp only [Act.put, pq_z46]; rfl))
   refine pu_z46 4 (some 30) ?_ mz46_5 rfl rfl (by kernel_rfl) (fun _ _ _ h => h) (Or.inl ⟨by rfl, ?_⟩) ?_ ?_ ?_
   (rotate_left; ·(intro w'; go_simp; with_reducible rfl)); (rotate_left; ·(simp only [Act.put, pq_z46]; rfl))
   refine pu_z46 5 (some 31) ?_ mz46_6 rfl rfl (by kernel_rfl) (fun _ _ _ h => h) (Or.inl ⟨by rfl, ?_⟩) ?_ ?_ ?_
   (rotate_left; ·(intro w'; go_simp; with_reducible rfl)); (rotate_left; ·(simp only [Act.put, pq_z46]; rfl))
   refine pu_z46 6 (some 32) ?_ mz46_7 rfl rfl (by kernel_rfl) (fun _ _ _ h => h) (Or.inl ⟨by rfl, ?_⟩) ?_ ?_ ?_
   (rotate_left; ·(intro w'; go_simp; with_reducible rfl)); (rotate_left; ·(simp only [Act.put, pq_z46]; rfl))
   refine pu_z46 7 (some 33) ?_ mz46_8 rfl rfl (by kernel_rfl) (fun _ _ _ h => h) (Or.inl ⟨by rfl, ?_⟩) ?_ ?_ ?_
   (rotate_left; ·(intro w'; go_simp; with_reducible rfl)); (rotate_left; ·(simp only [Act.put, pq_z46]; rfl))
   refine pu_z46 8 (some 34) undef mz46_9 rfl rfl (by kernel_rfl) (fun _ _ _ h => h) (Or.inr ⟨by rfl, rfl⟩) ?_ ?_ ?_
   (rotate_left; ·(simp only [Act.put, pq_z46]; rfl))
   refine pu_z46 9 (some 35) undef mz46_10 rfl rfl (by kernel_rfl) (fun _ _ _ h => h) (Or.inr ⟨by rfl, rfl⟩) ?_ ?_ ?_
   (rotate_left; ·(simp only [Act.put, pq_z46]; rfl))
   refine pu_z46 10 (some 36) undef mz46_11 rfl rfl (by kernel_rfl) (fun _ _ _ h => h) (Or.inr ⟨by rfl, rfl⟩) ?_ ?_ ?_
   (rotate_left; ·(simp only [Act.put, pq_z46]; rfl))
   refine pu_z46 11 (some 37) undef mz46_12 rfl rfl (by kernel_rfl) (fun _ _ _ h => h) (Or.inr ⟨by rfl, rfl⟩) ?_ ?_ ?_
   (rotate_left; ·(simp only [Act.put, pq_z46]; rfl))
   refine pu_z46 12 (some 38) undef mz46_13 rfl rfl (by kernel_rfl) (fun _ _ _ h => h) (Or.inr ⟨by rfl, rfl⟩) ?_ ?_ ?_
   (rotate_left; ·(simp only [Act.put, pq_z46]; rfl))
   refine pu_z46 13 (some 39) undef mz46_14 rfl rfl (by kernel_rfl) (fun _ _ _ h => h) (Or.inr ⟨by rfl, rfl⟩) ?_ ?_ ?_
   (rotate_left; ·(simp only [Act.put, pq_z46]; rfl))
   refine pu_z46 14 (some 40) undef mz46_15 rfl rfl (by kernel_rfl) (fun _ _ _ h => h) (Or.inr ⟨by rfl, rfl⟩) ?_ ?_ ?_
   (rotate_left; ·(simp only [Act.put, pq_z46]; rfl))
   refine pu_z46 15 (some 41) undef mz46_16 rfl rfl (by kernel_rfl) (fun _ _ _ h => h) (Or.inr ⟨by rfl, rfl⟩) ?_ ?_ ?_
   (rotate_left; ·(simp only [Act.put, pq_z46]; rfl))
   refine pu_z46 16 (some 42) undef mz46_17 rfl rfl (by kernel_rfl) (fun _ _ _ h => h) (Or.inr ⟨by rfl, rfl⟩) ?_ ?_ ?_
   (rotate_left; ·(simp only [Act.put, pq_z46]; rfl))
   refine pu_z46 17 (some 43) undef mz46_18 rfl rfl (by kernel_rfl) (fun _ _ _ h => h) (Or.inr ⟨by rfl, rfl⟩) ?_ ?_ ?_
   (rotate_left; ·(simp only [Act.put, pq_z46]; rfl))
   refine pu_z46 18 (some 44) ?_ mz46_19 rfl rfl (by kernel_rfl) (fun _ _ _ h => h) (Or.inl ⟨by rfl, ?_⟩) ?_ ?_ ?_
   (rotate_left; ·(intro w'; go_simp; with_reducible rfl)); (rotate_left; ·(simp only [Act.put, pq_z46]; rfl))
   refine pu_z46 19 (some 45) ?_ mz46_20 rfl rfl (by kernel_rfl) (fun _ _ _ h => h) (Or.inl ⟨by rfl, ?_⟩) ?_ ?_ ?_
   (rotate_left; ·(intro w'; go_simp; with_reducible rfl)); (rotate_left; ·(simp only [Act.put, pq_z46]; rfl))
   refine pu_z46 20 (some 46) ?_ mz46_21 rfl rfl (by kernel_rfl) (fun _ _ _ h => h) (Or.inl ⟨by rfl, ?_⟩) ?_ ?_ ?_
   (rotate_left; ·(intro w'; go_simp; with_reducible rfl)); (rotate_left; ·(simp only [Act.put, pq_z46]; rfl))
   refine pu_z46 21 (some 47) ?_ mz46_22 rfl rfl (by kernel_rfl) (fun _ _ _ h => h) (Or.inl ⟨by rfl, ?_⟩) ?_ ?_ ?_
   (rotate_left; ·(intro w'; go_simp; with_reducible rfl)); (rotate_left; ·(simp only [Act.put, pq_z46]; rfl))
   refine take_ (i := 22) (N := some 48) (v := ?_) (a' := ?_) mz46_23 rfl rfl (by kernel_rfl) (fun _ _ _ h => h) (Or.inl ⟨by rfl, ?_⟩) hHeld ?_ ?_
   (rotate_left; ·(rintro w' ⟨s0, s1, s2, s3, s4, s5, s6, s7, s8⟩; go_simp; with_reducible rfl)); (rotate_left; ·(simp only [Act.put, pq_z46]; rfl))
   refine one_ (i := 23) (N := some 49) mz46_24 rfl rfl (by kernel_rfl) (by decide) (fun K hK => ?_)
   obtain ⟨t0, t1, t2, t3, t4, t5, t6, t7, t8⟩ := hHeld
   refine goes_ Tryz.func27 (by kernel_rfl) rfl #[.int .i64 b.f1, .int .i64 1, .int .i64 3] (by rfl) rfl rfl (by simp only [List.map_toArray, List.map_cons, List.map_nil]; rfl) ?_
   with_reducible refine (impl_between.calls _ _ _ true _ g2.out).mono ?_
   rintro e w3 ⟨rfl, hd⟩
   refine ⟨_, rfl, ?_⟩
   have hb := hd.below
   clear hd
   have u0 := (hb.cell (blk_lt t5)).trans t0
   have u1 := (hb.cell (blk_lt t5)).trans t1
   have u2 := (hb.cell (blk_lt t5)).trans t2
   have u3 := (hb.cell (blk_lt t6)).trans t3
   have u4 := (hb.cell (blk_lt t6)).trans t4
   have u5 := (hb.block _ (blk_lt t5)).trans t5
   have u6 := (hb.block _ (blk_lt t6)).trans t6
   have u7 := OwnSet.below t7 hb
   have u8 := below_step t8 hb
   clear t0 t1 t2 t3 t4 t5 t6 t7 t8 hb
   refine hK.out _ _ ⟨u0, u1, u2, u3, u4, u5, u6, u7, u8⟩ (fun hHeld => ?_)
   clear hK K
   refine norm_ (a' := ?_) ?_ ?_
   (rotate_left; ·(show Act.put _ (some 49) _ = _; simp only [Act.put, pq_z46]; rfl))
   refine pu_z46 24 (some 50) ?_ mz46_25 rfl rfl (by kernel_rfl) (fun _ _ _ h => h) (Or.inl ⟨by rfl, ?_⟩) ?_ ?_ ?_
   (rotate_left; ·(intro w'; go_simp; with_reducible rfl)); (rotate_left; ·(simp only [Act.put, pq_z46]; rfl))
   refine pu_z46 25 (some 51) ?_ mz46_26 rfl rfl (by kernel_rfl) (fun _ _ _ h => h) (Or.inl ⟨by rfl, ?_⟩) ?_ ?_ ?_
   (rotate_left; ·(intro w'; go_simp; with_reducible rfl)); (rotate_left; ·(simp only [Act.put, pq_z46]; rfl))
   refine pu_z46 26 (some 52) ?_ mz46_27 rfl rfl (by kernel_rfl) (fun _ _ _ h => h) (Or.inl ⟨by rfl, ?_⟩) ?_ ?_ ?_
   (rotate_left; ·(intro w'; go_simp; with_reducible rfl)); (rotate_left; ·(simp only [Act.put, pq_z46]; rfl))
   refine pu_z46 27 (some 53) ?_ mz46_28 rfl rfl (by kernel_rfl) (fun _ _ _ h => h) (Or.inl ⟨by rfl, ?_⟩) ?_ ?_ ?_
   (rotate_left; ·(intro w'; go_simp; with_reducible rfl)); (rotate_left; ·(simp only [Act.put, pq_z46]; rfl))
   refine take_ (i := 28) (N := some 54) (v := ?_) (a' := ?_) mz46_29 rfl rfl (by kernel_rfl) (fun _ _ _ h => h) (Or.inl ⟨by rfl, ?_⟩) hHeld ?_ ?_
   (rotate_left; ·(rintro w' ⟨s0, s1, s2, s3, s4, s5, s6, s7, s8⟩; go_simp; with_reducible rfl)); (rotate_left; ·(simp only [Act.put, pq_z46]; rfl))
   refine pu_z46 29 (some 55) ?_ mz46_30 rfl rfl (by kernel_rfl) (fun _ _ _ h => h) (Or.inl ⟨by rfl, ?_⟩) ?_ ?_ ?_
   (rotate_left; ·(intro w'; go_simp; with_reducible rfl)); (rotate_left; ·(simp only [Act.put, pq_z46]; rfl))
   refine pu_z46 30 (some 56) ?_ mz46_31 rfl rfl (by kernel_rfl) (fun _ _ _ h => h) (Or.inl ⟨by rfl, ?_⟩) ?_ ?_ ?_
   (rotate_left; ·(intro w'; go_simp; with_reducible rfl)); (rotate_left; ·(simp only [Act.put, pq_z46]; rfl))
   refine pu_z46 31 (some 57) ?_ mz46_32 rfl rfl (by kernel_rfl) (fun _ _ _ h => h) (Or.inl ⟨by rfl, ?_⟩) ?_ ?_ ?_
   (rotate_left; ·(intro w'; go_simp; with_reducible rfl)); (rotate_left; ·(simp only [Act.put, pq_z46]; rfl))
   refine pu_z46 32 (some 58) ?_ mz46_33 rfl rfl (by kernel_rfl) (fun _ _ _ h => h) (Or.inl ⟨by rfl, ?_⟩) ?_ ?_ ?_
   (rotate_left; ·(intro w'; go_simp; with_reducible rfl)); (rotate_left; ·(simp only [Act.put, pq_z46]; rfl))
   refine take_ (i := 33) (N := some 59) (v := ?_) (a' := ?_) mz46_34 rfl rfl (by kernel_rfl) (fun _ _ _ h => h) (Or.inl ⟨by rfl, ?_⟩) hHeld ?_ ?_
   (rotate_left; ·(rintro w' ⟨s0, s1, s2, s3, s4, s5, s6, s7, s8⟩; go_simp; with_reducible rfl)); (rotate_left; ·(simp only [Act.put, pq_z46]; rfl))
   refine take_ (i := 34) (N := some 60) (v := ?_) (a' := ?_) mz46_35 rfl rfl (by kernel_rfl) (fun _ _ _ h => h) (Or.inl ⟨by rfl, ?_⟩) hHeld ?_ ?_
   (rotate_left; ·(rintro w' ⟨s0, s1, s2, s3, s4, s5, s6, s7, s8⟩; go_simp; with_reducible rfl)); (rotate_left; ·(simp only [Act.put, pq_z46]; rfl))
   refine one_ (i := 35) (N := some 61) mz46_36 rfl rfl (by kernel_rfl) (by decide) (fun K hK => ?_)
   obtain ⟨t0, t1, t2, t3, t4, t5, t6, t7, t8⟩ := hHeld
   refine goes_ Tryz.func66 (by kernel_rfl) rfl #[.agg #[.slice A0_0 l0_0.length c0_0, .slice (some ad) l0_1.length c0_1], .agg #[.int .i64 b.f0, .int .i64 b.f1, .slice A2 b.f2.length c2]] (by rfl) rfl rfl (by simp only [List.map_toArray, List.map_cons, List.map_nil]; rfl) ?_
   with_reducible refine (impl_Tree_itemsOk.calls A0_0 c0_0 l0_0 (some ad) c0_1 l0_1 b.f0 b.f1 A2 c2 b.f2 true _ (Kd.C_below HR0.out t8) HC0.out (Kd.C_below HR1.out t8) HC1.out (Kd.C_below HRI.out t8) hl2 g3.out).mono ?_
   rintro e w3 ⟨rfl, hb⟩
   refine ⟨_, rfl, ?_⟩
   have u0 := (hb.cell (blk_lt t5)).trans t0
   have u1 := (hb.cell (blk_lt t5)).trans t1
   have u2 := (hb.cell (blk_lt t5)).trans t2
   have u3 := (hb.cell (blk_lt t6)).trans t3
   have u4 := (hb.cell (blk_lt t6)).trans t4
   have u5 := (hb.block _ (blk_lt t5)).trans t5
   have u6 := (hb.block _ (blk_lt t6)).trans t6
   have u7 := OwnSet.below t7 hb
   have u8 := below_step t8 hb
   clear t0 t1 t2 t3 t4 t5 t6 t7 t8 hb
   refine hK.out _ _ ⟨u0, u1, u2, u3, u4, u5, u6, u7, u8⟩ (fun hHeld => ?_)
   clear hK K
   refine norm_ (a' := ?_) ?_ ?_
   (rotate_left; ·(show Act.put _ (some 61) _ = _; simp only [Act.put, pq_z46]; rfl))
   refine pu_z46 36 (some 62) ?_ mz46_37 rfl rfl (by kernel_rfl) (fun _ _ _ h => h) (Or.inl ⟨by rfl, ?_⟩) ?_ ?_ ?_
   (rotate_left; ·(intro w'; go_simp; with_reducible rfl)); (rotate_left; ·(simp only [Act.put, pq_z46]; rfl))
   refine pu_z46 37 (some 63) ?_ mz46_38 rfl rfl (by kernel_rfl) (fun _ _ _ h => h) (Or.inl ⟨by rfl, ?_⟩) ?_ ?_ ?_
   (rotate_left; ·(intro w'; go_simp; with_reducible rfl)); (rotate_left; ·(simp only [Act.put, pq_z46]; rfl))
   refine done_ (by kernel_rfl) ?_
   obtain ⟨t0, t1, t2, t3, t4, t5, t6, t7, t8⟩ := hHeld
   have HXF := Aside0.mk t6
   have HSF := Aside0.mk t7
   have HBF := Aside0.mk t8
   clear t0 t1 t3 t4 t5 t6 t7 t8 g1 g2 g3 HG HX3 HB3 HS3
   go_wp2_with fail
   clear t2
   go_loopg [67] b.f2.length (fun gg s67 wq => ∃ jj : Int, 0 ≤ jj ∧ jj ≤ b.f2.length ∧ (b.f2.length : Int) - jj ≤ gg ∧ s67 = .int .i64 jj ∧ Aside0 (Below w.heap.size w wq) ∧ Aside0 (OwnSet wq mb (S ++ b.f2.take jj.toNat).length (S ++ b.f2.take jj.toNat)) ∧ Aside0 (wq.heap[gt]? = some (.cells #[.slice A0_0 l0_0.length c0_0, .slice (some ad) l0_1.length c0_1] 35 (0, 0))) ∧ Aside0 (r = tailB l0_0 l0_1 (l0_1.length - (kk + 1).toNat) kk (S ++ b.f2.take jj.toNat) (b.f2.drop jj.toNat)))
   case atStart => exact ⟨0, by omega, by omega, by omega, rfl, HBF, by simpa using HSF, HXF, HT2⟩
   case round =>
    clear HBF HSF HXF HT2
    obtain ⟨jj, j0, hjj, hgj, rfl, BQ, SQ, XQ, TQ⟩ := hrel
    by_cases hlj : jj < (b.f2.length : Int)
    ·obtain ⟨ad2, rfl, hy0⟩ := Kd.at_int HRI.out jj j0 hlj
     replace hy0 := (BQ.out.cell (World.block_lt_of_cell? w _ hy0)).trans hy0
     have p0 := eq_true j0
     have p1 := eq_true hlj
     have hw := HWI.out jj j0 hlj
     have hlook := OwnSet.look SQ.out (rd b.f2 jj) hw
     have hsl : (S ++ b.f2.take jj.toNat).length = S.length + jj.toNat := by rw [List.length_append, List.length_take]; omega
     have hsn : (S ++ b.f2.take jj.toNat).length < 9223372036854775807 := by omega
     have HW2 := Aside0.mk hw
     have HTK := Aside0.mk (show S ++ b.f2.take (jj + 1).toNat = (S ++ b.f2.take jj.toNat) ++ [rd b.f2 jj] from by
      have := take_map_snoc id b.f2 jj j0 hlj 0
      simp only [List.map_id, id] at this
      rw [this, List.append_assoc]; rfl)
     cases hq : (S ++ b.f2.take jj.toNat).any (fun y => y == rd b.f2 jj) with
     | true =>
      rw [hq] at hlook
      have HF := Aside0.mk (show r = false from by rw [TQ.out]; exact tail_hit _ _ _ _ _ _ _ j0 hlj hq)
      clear hq hsl hsn TQ HTK hw
      go_wp2_with fail
      go_ret
      exact ⟨by rw [HF.out]; rfl, BQ.out⟩
     | false =>
      rw [hq] at hlook
      have HTN := Aside0.mk (show r = tailB l0_0 l0_1 (l0_1.length - (kk + 1).toNat) kk (S ++ b.f2.take (jj + 1).toNat) (b.f2.drop (jj + 1).toNat) from by rw [TQ.out, HTK.out]; exact tail_miss _ _ _ _ _ _ _ j0 hlj hq)
      have HSN := Aside0.mk hsn
      clear hq hsl hsn TQ hw
      go_wp2_with (at_mapUpdate; refine OwnSet.put rfl rfl _ _ _ rfl _ _ _ rfl SQ.out HSN.out _ rfl rfl HW2.out ?_; intro w5 hs5 hg5; have HS5 := Aside0.mk hs5; have HG5 := Aside0.mk hg5; clear hs5 hg5)
      go_roundg (gk - 1)
      case measure => omega
      case rel =>
       exact ⟨jj + 1, by omega, by omega, by omega, by go_num, ⟨pw_below_grown BQ.out (some mb) BQ.out.size HG5.out (by intro k hk; cases hk; exact HMB.out)⟩,
        ⟨by rw [HTK.out]; have := HS5.out; rw [List.length_append]; exact this⟩, ⟨(HG5.out.block _ (blk_lt XQ.out) (by simp; exact HNE.out)).trans XQ.out⟩, HTN⟩
    ·obtain rfl : jj = b.f2.length := by omega
     have HTE := Aside0.mk (show r = treeGo l0_0 l0_1 (l0_1.length - (kk + 1).toNat) (kk + 1) (S ++ b.f2) from by
      have := TQ.out
      rw [Int.toNat_natCast, List.take_length] at this
      rw [this]; exact tail_end _ _ _ _ _ _)
     have HSE := Aside0.mk (show OwnSet wr mb (S ++ b.f2).length (S ++ b.f2) from by have := SQ.out; rw [Int.toNat_natCast, List.take_length] at this; exact this)
     have hlen : (((S ++ b.f2).length : Nat) : Int) ≤ 8 * (kk + 1) := by rw [List.length_append]; omega
     clear TQ SQ
     go_wp2_with fail
     go_roundg (gko - 1)
     case measure => have := HGK.out; omega
     case rel => exact ⟨kk + 1, S ++ b.f2, by omega, by omega, by omega, by go_num, hlen, BQ, HSE, XQ, HTE⟩

/-! ### impl_ruleOk: function 47 -/
def impl_ruleOk.f (l0_0 : List (S72)) (l0_1 : List (S68)) (a1_0 : Int) (a1_1 : Int) (a1_2 : Int) (a1_3 : Bool) : Option (Bool) := (impl_between.f a1_0 1 4).bind fun t337 => (if t337 = true then ((impl_Tree_kindOf.f l0_0 l0_1 a1_1).bind fun t338 => (if t338 = 3 then ((impl_between.f a1_2 0 2).bind fun t339 => (some t339)) else (some false))) else (some false))
set_option maxHeartbeats 8000000 in
set_option maxRecDepth 100000 in
theorem impl_ruleOk.calls (A0_0 : Option Addr) (c0_0 : Nat) (l0_0 : List (S72)) (A0_1 : Option Addr) (c0_1 : Nat) (l0_1 : List (S68)) (a1_0 : Int) (a1_1 : Int) (a1_2 : Int) (a1_3 : Bool) (r : Bool) (w : World) (hr0_0 : Kd.C k72 w A0_0 l0_0.length l0_0) (hc0_0 : l0_0.length ≤ c0_0) (hr0_1 : Kd.C k68 w A0_1 l0_1.length l0_1) (hc0_1 : l0_1.length ≤ c0_1) (h : impl_ruleOk.f l0_0 l0_1 a1_0 a1_1 a1_2 a1_3 = some r) :
    Calls Tryz.prog 47 #[.agg #[.slice A0_0 l0_0.length c0_0, .slice A0_1 l0_1.length c0_1], .agg #[.int .i64 a1_0, .int .i64 a1_1, .int .i64 a1_2, .bool a1_3]] w fun e w' => e = .returned (.bool r) ∧ Below w.heap.size w w' := by
  have hu35 := Tryz.underlying35
  have hu37 := Tryz.underlying37
  have HR0_0 := Aside0.mk hr0_0
  have HC0_0 := Aside0.mk hc0_0
  clear hr0_0 hc0_0
  have HR0_1 := Aside0.mk hr0_1
  have HC0_1 := Aside0.mk hc0_1
  clear hr0_1 hc0_1
  have HB := Aside0.mk (Below.refl w.heap.size w)
  have H : ((impl_between.f a1_0 1 4).bind fun t337 => (if t337 = true then ((impl_Tree_kindOf.f l0_0 l0_1 a1_1).bind fun t338 => (if t338 = 3 then ((impl_between.f a1_2 0 2).bind fun t339 => (some t339)) else (some false))) else (some false))) = some r := h
  clear h
  replace H := Option.bind_eq_some_iff.mp H
  obtain ⟨t337, A30, H⟩ := H
  set_option simprocs false in try dsimp only at H
  have A3 := Aside0.mk A30
  clear A30
  by_cases c4 : t337 = true
  · subst c4
    rw [if_pos rfl] at H
    replace H := Option.bind_eq_some_iff.mp H
    obtain ⟨t338, A50, H⟩ := H
    set_option simprocs false in try dsimp only at H
    have A5 := Aside0.mk A50
    clear A50
    by_cases c6 : t338 = 3
    · rw [if_pos c6] at H
      have c6b0 : (t338 == 3) = true := beq_iff_eq.mpr c6
      have c6b1 : (t338 != 3) = false := bne_eq_false_iff_eq.mpr c6
      clear c6
      replace H := Option.bind_eq_some_iff.mp H
      obtain ⟨t339, A70, H⟩ := H
      set_option simprocs false in try dsimp only at H
      have A7 := Aside0.mk A70
      clear A70
      obtain rfl := Option.some.inj H
      go_enter Tryz.func47, Tryz.ntmps47
      go_wp2_with (first | ((with_reducible refine gate_dst (N := 2) rfl ?_); refine box_event ?hg (N := 2) ?hd (cs := #[.slice A0_0 l0_0.length c0_0, .slice A0_1 l0_1.length c0_1]) (t := 35) ?hr ?_; (case hd => rfl); (case hg => rfl); (case hr => first | (go_simp; done) | (go_simp; rfl)); intro gb335 hg w8 hbox hb; have n0_ := Aside0.mk (below_step (by repeat first | exact HB.out | apply pw_below_drewN) hb); have n1_ := Aside0.mk (hbox); have n2_ := Aside0.mk ((by rw [hg]; exact (below_size (by repeat first | exact HB.out | apply pw_below_drewN)) : w.heap.size ≤ gb335)); have n3_ := Aside0.mk ((by rw [hg]; exact (below_size (by repeat first | exact HB.out | apply pw_below_drewN)) : w.heap.size ≤ gb335)); clear HB; have HB := n0_; have BK335 := n1_; have GW335 := n2_; have GE335 := n3_; clear n0_ n1_ n2_ n3_; clear hb hbox hg) | ((with_reducible refine gate_dst (N := 3) rfl ?_); refine box_event ?hg (N := 3) ?hd (cs := #[.int .i64 a1_0, .int .i64 a1_1, .int .i64 a1_2, .bool a1_3]) (t := 37) ?hr ?_; (case hd => rfl); (case hg => rfl); (case hr => first | (go_simp; done) | (go_simp; rfl)); intro gb336 hg w9 hbox hb; have n0_ := Aside0.mk (blk_below (by exact BK335.out) hb); have n1_ := Aside0.mk (below_step (by repeat first | exact HB.out | apply pw_below_drewN) hb); have n2_ := Aside0.mk (hbox); have n3_ := Aside0.mk ((by rw [hg]; exact (below_size (by repeat first | exact HB.out | apply pw_below_drewN)) : w.heap.size ≤ gb336)); have n4_ := Aside0.mk ((by rw [hg]; exact (below_size (by repeat first | exact HB.out | apply pw_below_drewN)) : w.heap.size ≤ gb336)); have n5_ := Aside0.mk ((by rw [hg]; exact Nat.ne_of_lt (blk_lt (g := gb335) (o := .cells #[.slice A0_0 l0_0.length c0_0, .slice A0_1 l0_1.length c0_1] 35 (0, 0)) (by exact BK335.out)) : gb335 ≠ gb336)); have n6_ := Aside0.mk ((by rw [hg]; exact Nat.ne_of_gt (blk_lt (g := gb335) (o := .cells #[.slice A0_0 l0_0.length c0_0, .slice A0_1 l0_1.length c0_1] 35 (0, 0)) (by exact BK335.out)) : gb336 ≠ gb335)); clear BK335; clear HB; have BK335 := n0_; have HB := n1_; have BK336 := n2_; have GW336 := n3_; have GE336 := n4_; have NB335_336 := n5_; have NB336_335 := n6_; clear n0_ n1_ n2_ n3_ n4_ n5_ n6_; clear hb hbox hg; have hnb10 := NB336_335.out; have hnc10 := NB335_336.out; have hcz11_0 := (blk_cell BK336.out 0).trans rfl; have hcz11_1 := (blk_cell BK336.out 1).trans rfl; have hcz11_2 := (blk_cell BK336.out 2).trans rfl; have hcz11_3 := (blk_cell BK336.out 3).trans rfl; have hfz11_0 := blk_frozen BK336.out 0; have hfz11_1 := blk_frozen BK336.out 1; have hfz11_2 := blk_frozen BK336.out 2; have hfz11_3 := blk_frozen BK336.out 3) | ((with_reducible refine gate_callee (f := 27) rfl ?_); refine goesL_ (some 7) rfl rfl Tryz.func27 (by kernel_rfl) rfl #[.int .i64 a1_0, .int .i64 1, .int .i64 4] rfl (by (try simp only [List.map_toArray, List.map_cons, List.map_nil]); first | done | rfl) ?_; (with_reducible refine (impl_between.calls a1_0 1 4 true _ A3.out).mono ?_); rintro e w' ⟨rfl, ⟨nd, rfl⟩⟩; refine ⟨_, rfl, ?_⟩; have hcz12_0 := (blk_cell BK335.out 0).trans rfl; have hcz12_1 := (blk_cell BK335.out 1).trans rfl; have hfz12_0 := blk_frozen BK335.out 0; have hfz12_1 := blk_frozen BK335.out 1) | (go_at_call 67; (with_reducible refine (impl_Tree_kindOf.calls _ _ l0_0 _ _ l0_1 a1_1 t338 _ ?side1 ?side2 ?side3 ?side4 A5.out).mono ?_); (case side1 => exact (Kd.C_below HR0_0.out (by repeat first | exact HB.out | apply pw_below_drewN))); (case side2 => exact HC0_0.out); (case side3 => exact (Kd.C_below HR0_1.out (by repeat first | exact HB.out | apply pw_below_drewN))); (case side4 => exact HC0_1.out); rintro e w13 ⟨rfl, hb⟩; have n0_ := Aside0.mk (blk_below (by exact BK335.out) hb); have n1_ := Aside0.mk (blk_below (by exact BK336.out) hb); have n2_ := Aside0.mk (below_step (by repeat first | exact HB.out | apply pw_below_drewN) hb); clear BK335; clear BK336; clear HB; have BK335 := n0_; have BK336 := n1_; have HB := n2_; clear n0_ n1_ n2_; (try clear hb); (try clear hb2); (try clear hk); (try clear hi); have hcz14_0 := (blk_cell BK336.out 0).trans rfl; have hcz14_1 := (blk_cell BK336.out 1).trans rfl; have hcz14_2 := (blk_cell BK336.out 2).trans rfl; have hcz14_3 := (blk_cell BK336.out 3).trans rfl; have hfz14_0 := blk_frozen BK336.out 0; have hfz14_1 := blk_frozen BK336.out 1; have hfz14_2 := blk_frozen BK336.out 2; have hfz14_3 := blk_frozen BK336.out 3) | (go_at_call 27; (with_reducible refine (impl_between.calls a1_2 0 2 t339 _ A7.out).mono ?_); rintro e w' ⟨rfl, ⟨nd, rfl⟩⟩))
      go_ret
      exact ⟨by first | rfl | (simp [*, errW_none, errW_some] <;> rfl), by repeat first | exact HB.out | apply pw_below_drewN⟩
    · rw [if_neg c6] at H
      have c6b0 : (t338 == 3) = false := beq_eq_false_iff_ne.mpr c6
      have c6b1 : (t338 != 3) = true := bne_iff_ne.mpr c6
      obtain rfl := Option.some.inj H
      go_enter Tryz.func47, Tryz.ntmps47
      go_wp2_with (first | ((with_reducible refine gate_dst (N := 2) rfl ?_); refine box_event ?hg (N := 2) ?hd (cs := #[.slice A0_0 l0_0.length c0_0, .slice A0_1 l0_1.length c0_1]) (t := 35) ?hr ?_; (case hd => rfl); (case hg => rfl); (case hr => first | (go_simp; done) | (go_simp; rfl)); intro gb335 hg w15 hbox hb; have n0_ := Aside0.mk (below_step (by repeat first | exact HB.out | apply pw_below_drewN) hb); have n1_ := Aside0.mk (hbox); have n2_ := Aside0.mk ((by rw [hg]; exact (below_size (by repeat first | exact HB.out | apply pw_below_drewN)) : w.heap.size ≤ gb335)); have n3_ := Aside0.mk ((by rw [hg]; exact (below_size (by repeat first | exact HB.out | apply pw_below_drewN)) : w.heap.size ≤ gb335)); clear HB; have HB := n0_; have BK335 := n1_; have GW335 := n2_; have GE335 := n3_; clear n0_ n1_ n2_ n3_; clear hb hbox hg) | ((with_reducible refine gate_dst (N := 3) rfl ?_); refine box_event ?hg (N := 3) ?hd (cs := #[.int .i64 a1_0, .int .i64 a1_1, .int .i64 a1_2, .bool a1_3]) (t := 37) ?hr ?_; (case hd => rfl); (case hg => rfl); (case hr => first | (go_simp; done) | (go_simp; rfl)); intro gb336 hg w16 hbox hb; have n0_ := Aside0.mk (blk_below (by exact BK335.out) hb); have n1_ := Aside0.mk (below_step (by repeat first | exact HB.out | apply pw_below_drewN) hb); have n2_ := Aside0.mk (hbox); have n3_ := Aside0.mk ((by rw [hg]; exact (below_size (by repeat first | exact HB.out | apply pw_below_drewN)) : w.heap.size ≤ gb336)); have n4_ := Aside0.mk ((by rw [hg]; exact (below_size (by repeat first | exact HB.out | apply pw_below_drewN)) : w.heap.size ≤ gb336)); have n5_ := Aside0.mk ((by rw [hg]; exact Nat.ne_of_lt (blk_lt (g := gb335) (o := .cells #[.slice A0_0 l0_0.length c0_0, .slice A0_1 l0_1.length c0_1] 35 (0, 0)) (by exact BK335.out)) : gb335 ≠ gb336)); have n6_ := Aside0.mk ((by rw [hg]; exact Nat.ne_of_gt (blk_lt (g := gb335) (o := .cells #[.slice A0_0 l0_0.length c0_0, .slice A0_1 l0_1.length c0_1] 35 (0, 0)) (by exact BK335.out)) : gb336 ≠ gb335)); clear BK335; clear HB; have BK335 := n0_; have HB := n1_; have BK336 := n2_; have GW336 := n3_; have GE336 := n4_; have NB335_336 := n5_; have NB336_335 := n6_; clear n0_ n1_ n2_ n3_ n4_ n5_ n6_; clear hb hbox hg; have hnb17 := NB336_335.out; have hnc17 := NB335_336.out; have hcz18_0 := (blk_cell BK336.out 0).trans rfl; have hcz18_1 := (blk_cell BK336.out 1).trans rfl; have hcz18_2 := (blk_cell BK336.out 2).trans rfl; have hcz18_3 := (blk_cell BK336.out 3).trans rfl; have hfz18_0 := blk_frozen BK336.out 0; have hfz18_1 := blk_frozen BK336.out 1; have hfz18_2 := blk_frozen BK336.out 2; have hfz18_3 := blk_frozen BK336.out 3) | ((with_reducible refine gate_callee (f := 27) rfl ?_); refine goesL_ (some 7) rfl rfl Tryz.func27 (by kernel_rfl) rfl #[.int .i64 a1_0, .int .i64 1, .int .i64 4] rfl (by (try simp only [List.map_toArray, List.map_cons, List.map_nil]); first | done | rfl) ?_; (with_reducible refine (impl_between.calls a1_0 1 4 true _ A3.out).mono ?_); rintro e w' ⟨rfl, ⟨nd, rfl⟩⟩; refine ⟨_, rfl, ?_⟩; have hcz19_0 := (blk_cell BK335.out 0).trans rfl; have hcz19_1 := (blk_cell BK335.out 1).trans rfl; have hfz19_0 := blk_frozen BK335.out 0; have hfz19_1 := blk_frozen BK335.out 1) | (go_at_call 67; (with_reducible refine (impl_Tree_kindOf.calls _ _ l0_0 _ _ l0_1 a1_1 t338 _ ?side1 ?side2 ?side3 ?side4 A5.out).mono ?_); (case side1 => exact (Kd.C_below HR0_0.out (by repeat first | exact HB.out | apply pw_below_drewN))); (case side2 => exact HC0_0.out); (case side3 => exact (Kd.C_below HR0_1.out (by repeat first | exact HB.out | apply pw_below_drewN))); (case side4 => exact HC0_1.out); rintro e w20 ⟨rfl, hb⟩; have n0_ := Aside0.mk (blk_below (by exact BK335.out) hb); have n1_ := Aside0.mk (blk_below (by exact BK336.out) hb); have n2_ := Aside0.mk (below_step (by repeat first | exact HB.out | apply pw_below_drewN) hb); clear BK335; clear BK336; clear HB; have BK335 := n0_; have BK336 := n1_; have HB := n2_; clear n0_ n1_ n2_; (try clear hb); (try clear hb2); (try clear hk); (try clear hi)))
      go_ret
      exact ⟨by first | rfl | (simp [*, errW_none, errW_some] <;> rfl), by repeat first | exact HB.out | apply pw_below_drewN⟩
  · replace c4 := Bool.eq_false_iff.mpr c4
    subst c4
    rw [if_neg (show ¬ (false = true) by decide)] at H
    obtain rfl := Option.some.inj H
    go_enter Tryz.func47, Tryz.ntmps47
    go_wp2_with (first | ((with_reducible refine gate_dst (N := 2) rfl ?_); refine box_event ?hg (N := 2) ?hd (cs := #[.slice A0_0 l0_0.length c0_0, .slice A0_1 l0_1.length c0_1]) (t := 35) ?hr ?_; (case hd => rfl); (case hg => rfl); (case hr => first | (go_simp; done) | (go_simp; rfl)); intro gb335 hg w21 hbox hb; have n0_ := Aside0.mk (below_step (by repeat first | exact HB.out | apply pw_below_drewN) hb); have n1_ := Aside0.mk (hbox); have n2_ := Aside0.mk ((by rw [hg]; exact (below_size (by repeat first | exact HB.out | apply pw_below_drewN)) : w.heap.size ≤ gb335)); have n3_ := Aside0.mk ((by rw [hg]; exact (below_size (by repeat first | exact HB.out | apply pw_below_drewN)) : w.heap.size ≤ gb335)); clear HB; have HB := n0_; have BK335 := n1_; have GW335 := n2_; have GE335 := n3_; clear n0_ n1_ n2_ n3_; clear hb hbox hg) | ((with_reducible refine gate_dst (N := 3) rfl ?_); refine box_event ?hg (N := 3) ?hd (cs := #[.int .i64 a1_0, .int .i64 a1_1, .int .i64 a1_2, .bool a1_3]) (t := 37) ?hr ?_; (case hd => rfl); (case hg => rfl); (case hr => first | (go_simp; done) | (go_simp; rfl)); intro gb336 hg w22 hbox hb; have n0_ := Aside0.mk (blk_below (by exact BK335.out) hb); have n1_ := Aside0.mk (below_step (by repeat first | exact HB.out | apply pw_below_drewN) hb); have n2_ := Aside0.mk (hbox); have n3_ := Aside0.mk ((by rw [hg]; exact (below_size (by repeat first | exact HB.out | apply pw_below_drewN)) : w.heap.size ≤ gb336)); have n4_ := Aside0.mk ((by rw [hg]; exact (below_size (by repeat first | exact HB.out | apply pw_below_drewN)) : w.heap.size ≤ gb336)); have n5_ := Aside0.mk ((by rw [hg]; exact Nat.ne_of_lt (blk_lt (g := gb335) (o := .cells #[.slice A0_0 l0_0.length c0_0, .slice A0_1 l0_1.length c0_1] 35 (0, 0)) (by exact BK335.out)) : gb335 ≠ gb336)); have n6_ := Aside0.mk ((by rw [hg]; exact Nat.ne_of_gt (blk_lt (g := gb335) (o := .cells #[.slice A0_0 l0_0.length c0_0, .slice A0_1 l0_1.length c0_1] 35 (0, 0)) (by exact BK335.out)) : gb336 ≠ gb335)); clear BK335; clear HB; have BK335 := n0_; have HB := n1_; have BK336 := n2_; have GW336 := n3_; have GE336 := n4_; have NB335_336 := n5_; have NB336_335 := n6_; clear n0_ n1_ n2_ n3_ n4_ n5_ n6_; clear hb hbox hg; have hnb23 := NB336_335.out; have hnc23 := NB335_336.out; have hcz24_0 := (blk_cell BK336.out 0).trans rfl; have hcz24_1 := (blk_cell BK336.out 1).trans rfl; have hcz24_2 := (blk_cell BK336.out 2).trans rfl; have hcz24_3 := (blk_cell BK336.out 3).trans rfl; have hfz24_0 := blk_frozen BK336.out 0; have hfz24_1 := blk_frozen BK336.out 1; have hfz24_2 := blk_frozen BK336.out 2; have hfz24_3 := blk_frozen BK336.out 3) | ((with_reducible refine gate_callee (f := 27) rfl ?_); refine goesL_ (some 7) rfl rfl Tryz.func27 (by kernel_rfl) rfl #[.int .i64 a1_0, .int .i64 1, .int .i64 4] rfl (by (try simp only [List.map_toArray, List.map_cons, List.map_nil]); first | done | rfl) ?_; (with_reducible refine (impl_between.calls a1_0 1 4 false _ A3.out).mono ?_); rintro e w' ⟨rfl, ⟨nd, rfl⟩⟩; refine ⟨_, rfl, ?_⟩))
    go_ret
    exact ⟨by first | rfl | (simp [*, errW_none, errW_some] <;> rfl), by repeat first | exact HB.out | apply pw_below_drewN⟩

/-! ### impl_RuleOk: function 26 -/
def impl_RuleOk.f (k : Nat) (l0_0 : List (S72)) (l0_1 : List (S68)) (a1_0 : Int) (a1_1 : Int) (a1_2 : Int) (a1_3 : Bool) : Option (Bool) := (impl_TreeOk.f k l0_0 l0_1).bind fun t342 => (if t342 = true then ((impl_ruleOk.f l0_0 l0_1 a1_0 a1_1 a1_2 a1_3).bind fun t343 => (some t343)) else (some false))
set_option maxHeartbeats 8000000 in
set_option maxRecDepth 100000 in
theorem impl_RuleOk.calls (k : Nat) (A0_0 : Option Addr) (c0_0 : Nat) (l0_0 : List (S72)) (A0_1 : Option Addr) (c0_1 : Nat) (l0_1 : List (S68)) (a1_0 : Int) (a1_1 : Int) (a1_2 : Int) (a1_3 : Bool) (r : Bool) (w : World) (hr0_0 : Kd.C k72 w A0_0 l0_0.length l0_0) (hc0_0 : l0_0.length ≤ c0_0) (hr0_1 : Kd.C k68 w A0_1 l0_1.length l0_1) (hc0_1 : l0_1.length ≤ c0_1) (h : impl_RuleOk.f k l0_0 l0_1 a1_0 a1_1 a1_2 a1_3 = some r) :
    Calls Tryz.prog 26 #[.agg #[.slice A0_0 l0_0.length c0_0, .slice A0_1 l0_1.length c0_1], .agg #[.int .i64 a1_0, .int .i64 a1_1, .int .i64 a1_2, .bool a1_3]] w fun e w' => e = .returned (.bool r) ∧ Below w.heap.size w w' := by
  have hu35 := Tryz.underlying35
  have hu37 := Tryz.underlying37
  have HR0_0 := Aside0.mk hr0_0
  have HC0_0 := Aside0.mk hc0_0
  clear hr0_0 hc0_0
  have HR0_1 := Aside0.mk hr0_1
  have HC0_1 := Aside0.mk hc0_1
  clear hr0_1 hc0_1
  have HB := Aside0.mk (Below.refl w.heap.size w)
  have H : ((impl_TreeOk.f k l0_0 l0_1).bind fun t342 => (if t342 = true then ((impl_ruleOk.f l0_0 l0_1 a1_0 a1_1 a1_2 a1_3).bind fun t343 => (some t343)) else (some false))) = some r := h
  clear h
  replace H := Option.bind_eq_some_iff.mp H
  obtain ⟨t342, A30, H⟩ := H
  set_option simprocs false in try dsimp only at H
  have A3 := Aside0.mk A30
  clear A30
  by_cases c4 : t342 = true
  · subst c4
    rw [if_pos rfl] at H
    replace H := Option.bind_eq_some_iff.mp H
    obtain ⟨t343, A50, H⟩ := H
    set_option simprocs false in try dsimp only at H
    have A5 := Aside0.mk A50
    clear A50
    obtain rfl := Option.some.inj H
    go_enter Tryz.func26, Tryz.ntmps26
    go_wp2_with (first | ((with_reducible refine gate_dst (N := 2) rfl ?_); refine box_event ?hg (N := 2) ?hd (cs := #[.slice A0_0 l0_0.length c0_0, .slice A0_1 l0_1.length c0_1]) (t := 35) ?hr ?_; (case hd => rfl); (case hg => rfl); (case hr => first | (go_simp; done) | (go_simp; rfl)); intro gb340 hg w6 hbox hb; have n0_ := Aside0.mk (below_step (by repeat first | exact HB.out | apply pw_below_drewN) hb); have n1_ := Aside0.mk (hbox); have n2_ := Aside0.mk ((by rw [hg]; exact (below_size (by repeat first | exact HB.out | apply pw_below_drewN)) : w.heap.size ≤ gb340)); have n3_ := Aside0.mk ((by rw [hg]; exact (below_size (by repeat first | exact HB.out | apply pw_below_drewN)) : w.heap.size ≤ gb340)); clear HB; have HB := n0_; have BK340 := n1_; have GW340 := n2_; have GE340 := n3_; clear n0_ n1_ n2_ n3_; clear hb hbox hg) | ((with_reducible refine gate_dst (N := 3) rfl ?_); refine box_event ?hg (N := 3) ?hd (cs := #[.int .i64 a1_0, .int .i64 a1_1, .int .i64 a1_2, .bool a1_3]) (t := 37) ?hr ?_; (case hd => rfl); (case hg => rfl); (case hr => first | (go_simp; done) | (go_simp; rfl)); intro gb341 hg w7 hbox hb; have n0_ := Aside0.mk (blk_below (by exact BK340.out) hb); have n1_ := Aside0.mk (below_step (by repeat first | exact HB.out | apply pw_below_drewN) hb); have n2_ := Aside0.mk (hbox); have n3_ := Aside0.mk ((by rw [hg]; exact (below_size (by repeat first | exact HB.out | apply pw_below_drewN)) : w.heap.size ≤ gb341)); have n4_ := Aside0.mk ((by rw [hg]; exact (below_size (by repeat first | exact HB.out | apply pw_below_drewN)) : w.heap.size ≤ gb341)); have n5_ := Aside0.mk ((by rw [hg]; exact Nat.ne_of_lt (blk_lt (g := gb340) (o := .cells #[.slice A0_0 l0_0.length c0_0, .slice A0_1 l0_1.length c0_1] 35 (0, 0)) (by exact BK340.out)) : gb340 ≠ gb341)); have n6_ := Aside0.mk ((by rw [hg]; exact Nat.ne_of_gt (blk_lt (g := gb340) (o := .cells #[.slice A0_0 l0_0.length c0_0, .slice A0_1 l0_1.length c0_1] 35 (0, 0)) (by exact BK340.out)) : gb341 ≠ gb340)); clear BK340; clear HB; have BK340 := n0_; have HB := n1_; have BK341 := n2_; have GW341 := n3_; have GE341 := n4_; have NB340_341 := n5_; have NB341_340 := n6_; clear n0_ n1_ n2_ n3_ n4_ n5_ n6_; clear hb hbox hg; have hnb8 := NB340_341.out; have hnc8 := NB341_340.out; have hcz9_0 := (blk_cell BK340.out 0).trans rfl; have hcz9_1 := (blk_cell BK340.out 1).trans rfl; have hfz9_0 := blk_frozen BK340.out 0; have hfz9_1 := blk_frozen BK340.out 1) | ((with_reducible refine gate_callee (f := 46) rfl ?_); refine goesL_ (some 6) rfl rfl Tryz.func46 (by kernel_rfl) rfl #[.agg #[.slice A0_0 l0_0.length c0_0, .slice A0_1 l0_1.length c0_1]] rfl (by (try simp only [List.map_toArray, List.map_cons, List.map_nil]); first | done | rfl) ?_; (with_reducible refine (impl_TreeOk.calls k _ _ l0_0 _ _ l0_1 true _ ?side1 ?side2 ?side3 ?side4 A3.out).mono ?_); (case side1 => exact (Kd.C_below HR0_0.out HB.out)); (case side2 => exact HC0_0.out); (case side3 => exact (Kd.C_below HR0_1.out HB.out)); (case side4 => exact HC0_1.out); rintro e w10 ⟨rfl, hb⟩; refine ⟨_, rfl, ?_⟩; have n0_ := Aside0.mk (blk_below (by exact BK340.out) hb); have n1_ := Aside0.mk (blk_below (by exact BK341.out) hb); have n2_ := Aside0.mk (below_step (by repeat first | exact HB.out | apply pw_below_drewN) hb); clear BK340; clear BK341; clear HB; have BK340 := n0_; have BK341 := n1_; have HB := n2_; clear n0_ n1_ n2_; (try clear hb); (try clear hb2); (try clear hk); (try clear hi); have hcz11_0 := (blk_cell BK340.out 0).trans rfl; have hcz11_1 := (blk_cell BK340.out 1).trans rfl; have hfz11_0 := blk_frozen BK340.out 0; have hfz11_1 := blk_frozen BK340.out 1; have hcz12_0 := (blk_cell BK341.out 0).trans rfl; have hcz12_1 := (blk_cell BK341.out 1).trans rfl; have hcz12_2 := (blk_cell BK341.out 2).trans rfl; have hcz12_3 := (blk_cell BK341.out 3).trans rfl; have hfz12_0 := blk_frozen BK341.out 0; have hfz12_1 := blk_frozen BK341.out 1; have hfz12_2 := blk_frozen BK341.out 2; have hfz12_3 := blk_frozen BK341.out 3) | (go_at_call 47; (with_reducible refine (impl_ruleOk.calls _ _ l0_0 _ _ l0_1 a1_0 a1_1 a1_2 a1_3 t343 _ ?side1 ?side2 ?side3 ?side4 A5.out).mono ?_); (case side1 => exact (Kd.C_below HR0_0.out HB.out)); (case side2 => exact HC0_0.out); (case side3 => exact (Kd.C_below HR0_1.out HB.out)); (case side4 => exact HC0_1.out); rintro e w13 ⟨rfl, hb⟩; have n0_ := Aside0.mk (blk_below (by exact BK340.out) hb); have n1_ := Aside0.mk (blk_below (by exact BK341.out) hb); have n2_ := Aside0.mk (below_step (by repeat first | exact HB.out | apply pw_below_drewN) hb); clear BK340; clear BK341; clear HB; have BK340 := n0_; have BK341 := n1_; have HB := n2_; clear n0_ n1_ n2_; (try clear hb); (try clear hb2); (try clear hk); (try clear hi)))
    go_ret
    exact ⟨by first | rfl | (simp [*, errW_none, errW_some] <;> rfl), by repeat first | exact HB.out | apply pw_below_drewN⟩
  · replace c4 := Bool.eq_false_iff.mpr c4
    subst c4
    rw [if_neg (show ¬ (false = true) by decide)] at H
    obtain rfl := Option.some.inj H
    go_enter Tryz.func26, Tryz.ntmps26
    go_wp2_with (first | ((with_reducible refine gate_dst (N := 2) rfl ?_); refine box_event ?hg (N := 2) ?hd (cs := #[.slice A0_0 l0_0.length c0_0, .slice A0_1 l0_1.length c0_1]) (t := 35) ?hr ?_; (case hd => rfl); (case hg => rfl); (case hr => first | (go_simp; done) | (go_simp; rfl)); intro gb340 hg w14 hbox hb; have n0_ := Aside0.mk (below_step (by repeat first | exact HB.out | apply pw_below_drewN) hb); have n1_ := Aside0.mk (hbox); have n2_ := Aside0.mk ((by rw [hg]; exact (below_size (by repeat first | exact HB.out | apply pw_below_drewN)) : w.heap.size ≤ gb340)); have n3_ := Aside0.mk ((by rw [hg]; exact (below_size (by repeat first | exact HB.out | apply pw_below_drewN)) : w.heap.size ≤ gb340)); clear HB; have HB := n0_; have BK340 := n1_; have GW340 := n2_; have GE340 := n3_; clear n0_ n1_ n2_ n3_; clear hb hbox hg) | ((with_reducible refine gate_dst (N := 3) rfl ?_); refine box_event ?hg (N := 3) ?hd (cs := #[.int .i64 a1_0, .int .i64 a1_1, .int .i64 a1_2, .bool a1_3]) (t := 37) ?hr ?_; (case hd => rfl); (case hg => rfl); (case hr => first | (go_simp; done) | (go_simp; rfl)); intro gb341 hg w15 hbox hb; have n0_ := Aside0.mk (blk_below (by exact BK340.out) hb); have n1_ := Aside0.mk (below_step (by repeat first | exact HB.out | apply pw_below_drewN) hb); have n2_ := Aside0.mk (hbox); have n3_ := Aside0.mk ((by rw [hg]; exact (below_size (by repeat first | exact HB.out | apply pw_below_drewN)) : w.heap.size ≤ gb341)); have n4_ := Aside0.mk ((by rw [hg]; exact (below_size (by repeat first | exact HB.out | apply pw_below_drewN)) : w.heap.size ≤ gb341)); have n5_ := Aside0.mk ((by rw [hg]; exact Nat.ne_of_lt (blk_lt (g := gb340) (o := .cells #[.slice A0_0 l0_0.length c0_0, .slice A0_1 l0_1.length c0_1] 35 (0, 0)) (by exact BK340.out)) : gb340 ≠ gb341)); have n6_ := Aside0.mk ((by rw [hg]; exact Nat.ne_of_gt (blk_lt (g := gb340) (o := .cells #[.slice A0_0 l0_0.length c0_0, .slice A0_1 l0_1.length c0_1] 35 (0, 0)) (by exact BK340.out)) : gb341 ≠ gb340)); clear BK340; clear HB; have BK340 := n0_; have HB := n1_; have BK341 := n2_; have GW341 := n3_; have GE341 := n4_; have NB340_341 := n5_; have NB341_340 := n6_; clear n0_ n1_ n2_ n3_ n4_ n5_ n6_; clear hb hbox hg; have hnb16 := NB340_341.out; have hnc16 := NB341_340.out; have hcz17_0 := (blk_cell BK340.out 0).trans rfl; have hcz17_1 := (blk_cell BK340.out 1).trans rfl; have hfz17_0 := blk_frozen BK340.out 0; have hfz17_1 := blk_frozen BK340.out 1) | ((with_reducible refine gate_callee (f := 46) rfl ?_); refine goesL_ (some 6) rfl rfl Tryz.func46 (by kernel_rfl) rfl #[.agg #[.slice A0_0 l0_0.length c0_0, .slice A0_1 l0_1.length c0_1]] rfl (by (try simp only [List.map_toArray, List.map_cons, List.map_nil]); first | done | rfl) ?_; (with_reducible refine (impl_TreeOk.calls k _ _ l0_0 _ _ l0_1 false _ ?side1 ?side2 ?side3 ?side4 A3.out).mono ?_); (case side1 => exact (Kd.C_below HR0_0.out HB.out)); (case side2 => exact HC0_0.out); (case side3 => exact (Kd.C_below HR0_1.out HB.out)); (case side4 => exact HC0_1.out); rintro e w18 ⟨rfl, hb⟩; refine ⟨_, rfl, ?_⟩; have n0_ := Aside0.mk (blk_below (by exact BK340.out) hb); have n1_ := Aside0.mk (blk_below (by exact BK341.out) hb); have n2_ := Aside0.mk (below_step (by repeat first | exact HB.out | apply pw_below_drewN) hb); clear BK340; clear BK341; clear HB; have BK340 := n0_; have BK341 := n1_; have HB := n2_; clear n0_ n1_ n2_; (try clear hb); (try clear hb2); (try clear hk); (try clear hi)))
    go_ret
    exact ⟨by first | rfl | (simp [*, errW_none, errW_some] <;> rfl), by repeat first | exact HB.out | apply pw_below_drewN⟩

/-! ### bits_Mul64: function 92 -/
def bits_Mul64.f (a0 : Int) (a1 : Int) : Option (Int × Int) := some (IntKind.u64.wrap ((IntKind.u64.wrap ((IntKind.u64.wrap ((a0 / 4294967296) * (a1 / 4294967296))) + ((IntKind.u64.wrap ((IntKind.u64.wrap ((a0 / 4294967296) * (Go.bits .and .u64 a1 4294967295))) + ((IntKind.u64.wrap ((Go.bits .and .u64 a0 4294967295) * (Go.bits .and .u64 a1 4294967295))) / 4294967296))) / 4294967296))) + ((IntKind.u64.wrap ((Go.bits .and .u64 (IntKind.u64.wrap ((IntKind.u64.wrap ((a0 / 4294967296) * (Go.bits .and .u64 a1 4294967295))) + ((IntKind.u64.wrap ((Go.bits .and .u64 a0 4294967295) * (Go.bits .and .u64 a1 4294967295))) / 4294967296))) 4294967295) + (IntKind.u64.wrap ((Go.bits .and .u64 a0 4294967295) * (a1 / 4294967296))))) / 4294967296)), IntKind.u64.wrap (a0 * a1))
set_option maxHeartbeats 8000000 in
set_option maxRecDepth 100000 in
theorem bits_Mul64.calls (a0 : Int) (a1 : Int) (r1 : Int) (r2 : Int) (w : World) (h : bits_Mul64.f a0 a1 = some (r1, r2)) :
    Calls Tryz.prog 92 #[.int .u64 a0, .int .u64 a1] w fun e w' => e = .returned (.tuple #[.int .u64 r1, .int .u64 r2]) ∧ Drawn0 w w' := by
  have H : (some (IntKind.u64.wrap ((IntKind.u64.wrap ((IntKind.u64.wrap ((a0 / 4294967296) * (a1 / 4294967296))) + ((IntKind.u64.wrap ((IntKind.u64.wrap ((a0 / 4294967296) * (Go.bits .and .u64 a1 4294967295))) + ((IntKind.u64.wrap ((Go.bits .and .u64 a0 4294967295) * (Go.bits .and .u64 a1 4294967295))) / 4294967296))) / 4294967296))) + ((IntKind.u64.wrap ((Go.bits .and .u64 (IntKind.u64.wrap ((IntKind.u64.wrap ((a0 / 4294967296) * (Go.bits .and .u64 a1 4294967295))) + ((IntKind.u64.wrap ((Go.bits .and .u64 a0 4294967295) * (Go.bits .and .u64 a1 4294967295))) / 4294967296))) 4294967295) + (IntKind.u64.wrap ((Go.bits .and .u64 a0 4294967295) * (a1 / 4294967296))))) / 4294967296)), IntKind.u64.wrap (a0 * a1))) = some (r1, r2) := h
  clear h
  simp only [Option.some.injEq, Prod.mk.injEq] at H
  obtain ⟨rfl, rfl⟩ := H
  go_enter Tryz.func92, Tryz.ntmps92
  go_wp2
  go_ret2
  exact ⟨by first | rfl | (simp; done) | (simp [*]; done), by repeat (first | exact Drawn0.refl _ | apply Drawn0.step)⟩

/-! ### bits_Mul: function 81 -/
def bits_Mul.f (a0 : Int) (a1 : Int) : Option (Int × Int) := (bits_Mul64.f a0 a1).bind fun bt344 => (some (bt344.1, bt344.2))
set_option maxHeartbeats 8000000 in
set_option maxRecDepth 100000 in
theorem bits_Mul.calls (a0 : Int) (a1 : Int) (r1 : Int) (r2 : Int) (w : World) (h : bits_Mul.f a0 a1 = some (r1, r2)) :
    Calls Tryz.prog 81 #[.int .u64 a0, .int .u64 a1] w fun e w' => e = .returned (.tuple #[.int .u64 r1, .int .u64 r2]) ∧ Drawn0 w w' := by
  have H : ((bits_Mul64.f a0 a1).bind fun bt344 => (some (bt344.1, bt344.2))) = some (r1, r2) := h
  clear h
  replace H := Option.bind_eq_some_iff.mp H
  obtain ⟨⟨t344, t345⟩, A30, H⟩ := H
  set_option simprocs false in try dsimp only at H
  have A3 := Aside0.mk A30
  clear A30
  simp only [Option.some.injEq, Prod.mk.injEq] at H
  obtain ⟨rfl, rfl⟩ := H
  go_enter Tryz.func81, Tryz.ntmps81
  go_wp2_with (first | ((with_reducible refine gate_callee (f := 92) rfl ?_); refine goesL_ (some 25) rfl rfl Tryz.func92 (by kernel_rfl) rfl #[.int .u64 a0, .int .u64 a1] rfl (by (try simp only [List.map_toArray, List.map_cons, List.map_nil]); first | done | rfl) ?_; (with_reducible refine (bits_Mul64.calls a0 a1 t344 t345 _ A3.out).mono ?_); rintro e w' ⟨rfl, ⟨nd, rfl⟩⟩; refine ⟨_, rfl, ?_⟩))
  go_ret2
  exact ⟨by first | rfl | (simp; done) | (simp [*]; done), by repeat (first | exact Drawn0.refl _ | apply Drawn0.step)⟩

/-! ### slices_Repeat_int64_int64: function 68 -/
def slices_Repeat_int64_int64.f (l : List Int) (n : Int) : Option (List Int) := if l = [-1] ∧ 0 ≤ n ∧ n ≤ 1000 ∧ bits_Mul.f 1 n = some (0, n) then some (List.replicate n.toNat (-1)) else none
/-- so many are laid, the rest is as made -/
def repC (n m : Nat) : List Int := List.replicate m (-1) ++ List.replicate (n - m) 0
theorem repC_len (n m : Nat) (h : m ≤ n) : (repC n m).length = n := by simp [repC]; omega
/-- cells laid into a row of one's own, from the o-th on -/
theorem R_laid {W : World} {base e g cap n : Nat} {ok : Nat → Prop} {xs : List Int} (o : Nat) (ys : List Int) (HO : Kd.R (Kd.int .i64) e W base ok (.slice (some ⟨g, 0, none⟩) n cap) xs) (hn : xs.length = n) (h : o + ys.length ≤ xs.length) : Kd.R (Kd.int .i64) e (W.setCells g o (encs (Value.int .i64) ys)) base ok (.slice (some ⟨g, 0, none⟩) n cap) (xs.take o ++ ys ++ xs.drop (o + ys.length)) ∧ W.grownBy (W.setCells g o (encs (Value.int .i64) ys)) (some g) := by
  subst hn
  have hown := Kd.own_of_R HO
  have hok := HO.1
  rcases hown.2 with ⟨hv, _⟩ | ⟨g', cap', cur, hv, hb, hh, hnc, hcm, hcs, htake⟩
  · cases hv
  cases hv
  have hcs1 : cur.size = cap := by omega
  have hl : (encs (Value.int .i64) ys).length = ys.length := encs_length _
  obtain ⟨cur', h3, h4, h5⟩ := setCells_row (encs (Value.int .i64) ys) o W cur hh (by rw [hl]; omega)
  obtain ⟨s1, s2, s3, s4⟩ := setCells_same g (encs (Value.int .i64) ys) o W
  have hln : (xs.take o ++ ys ++ xs.drop (o + ys.length)).length = xs.length := by
    simp only [List.length_append, List.length_take, List.length_drop]
    omega
  refine ⟨?_, ⟨s1, s2, s3, by rw [s4]; exact Nat.le_refl _, fun k _ hk => setCells_far _ _ k (fun he => hk (by rw [he]))⟩⟩
  have h6 := Kd.R_of_own (enc := Value.int .i64) (h1 := fun _ => rfl) (e := e) (w := W.setCells g o (encs (Value.int .i64) ys)) (base := base) (ok := ok) (v := .slice (some ⟨g, 0, none⟩) xs.length cap) (xs := xs.take o ++ ys ++ xs.drop (o + ys.length)) (by
    rw [hln]
    refine ⟨by rw [encs_length, hln, Nat.mul_one], .inr ⟨g, cap, cur', rfl, hb, h3, hnc, hcm, by rw [h4, hcs], ?_⟩⟩
    have htk : cur.toList.take xs.length = encs (Value.int .i64) xs := by rw [← htake, Nat.mul_one]
    rw [h5, Nat.mul_one, show encs (Value.int .i64) (xs.take o ++ ys ++ xs.drop (o + ys.length)) = encs (Value.int .i64) (xs.take o) ++ (encs (Value.int .i64) ys ++ encs (Value.int .i64) (xs.drop (o + ys.length))) from by simp [encs], hl, List.append_assoc]
    have e1 : encs (Value.int .i64) (xs.take o) = cur.toList.take o := by
      have : encs (Value.int .i64) (xs.take o) = (encs (Value.int .i64) xs).take o := by simp [encs, List.map_take]
      rw [this, ← htk, List.take_take, Nat.min_eq_left (by omega)]
    have e2 : encs (Value.int .i64) (xs.drop (o + ys.length)) = (cur.toList.drop (o + ys.length)).take (xs.length - (o + ys.length)) := by
      have : encs (Value.int .i64) (xs.drop (o + ys.length)) = (encs (Value.int .i64) xs).drop (o + ys.length) := by simp [encs, List.map_drop]
      rw [this, ← htk, List.drop_take]
    have e3 : (cur.toList.take o).length = o := by simp; omega
    have e4 : xs.length - o - ys.length = xs.length - (o + ys.length) := by omega
    rw [e1, e2, List.take_append, e3, List.take_of_length_le (show (cur.toList.take o).length ≤ xs.length by omega), List.take_append, hl, List.take_of_length_le (show (encs (Value.int .i64) ys).length ≤ xs.length - o by omega), e4]) hok
  exact h6
/-- copy onto a part of a row of one's own: the cells laid there -/
theorem run_laid {P : Program} {W : World} {base g cap n : Nat} {ok : Nat → Prop} {xs : List Int} (o m dc sc : Nat) (t ty : TypeId) (ys : List Int) (ad : Addr) (ht : P.underlying t = some (.slice 2)) (hi : (P.info? 2).map (·.size) = some 1) (HO : Kd.R (Kd.int .i64) 2 W base ok (.slice (some ⟨g, 0, none⟩) n cap) xs) (hn : xs.length = n) (ho : o ≤ n) (hy : ys.length = min m (n - o)) (hsrc : ∀ (j : Nat), j < ys.length → W.cell? (ad.add j) = some (.int .i64 (ys.getD j 0))) :
    (Builtin.copy_ #[t, t] ty #[.slice (some ⟨g, o, none⟩) (n - o) dc, .slice (some ad) m sc]).run P W = .ok (goInt ys.length) (W.setCells g o (encs (Value.int .i64) ys)) := by
  subst hn
  have hown := Kd.own_of_R HO
  rcases hown.2 with ⟨hv, _⟩ | ⟨g', cap', cur, hv, hb, hh, hnc, hcm, hcs, htake⟩
  · cases hv
  cases hv
  have hl : (encs (Value.int .i64) ys).length = ys.length := encs_length _
  have hr := run_copy_cells (P := P) W t t ty 2 g o (xs.length - o) dc ad m sc (encs (Value.int .i64) ys) ht hi (by rw [hl, hy]) (fun j u hu => by
      have hj : j < ys.length := by
        rcases Nat.lt_or_ge j ys.length with h | h
        · exact h
        · rw [List.getElem?_eq_none (by rw [hl]; exact h)] at hu
          cases hu
      rw [encs_get (d := (0 : Int)) _ j hj] at hu
      rw [hsrc j hj, ← hu])
    (fun j hj => by rw [cell_of_row W g _ cur 2 (0, 0) hh]; simp; omega) (fun j _ => blk_frozen hh _) (by intro u hu; simp only [encs, List.mem_map] at hu; obtain ⟨q, _, rfl⟩ := hu; rfl)
  rw [hr, hl]
theorem rep_step (n m : Nat) (hm : m ≤ n) : (repC n m).take m ++ List.replicate (min m (n - m)) (-1) ++ (repC n m).drop (m + min m (n - m)) = repC n (m + min m (n - m)) := by
  unfold repC
  rw [List.take_append, List.take_of_length_le (by simp), List.length_replicate, Nat.sub_self, List.take_zero, List.append_nil, List.drop_append, List.drop_of_length_le (by simp), List.nil_append, List.length_replicate, List.drop_replicate, ← List.replicate_append_replicate (n := m)]
  congr 2
  omega
set_option maxHeartbeats 4000000 in
set_option maxRecDepth 100000 in
theorem slices_Repeat_int64_int64.calls (A0 : Option Addr) (c0 : Nat) (l0 : List Int) (a1 : Int) (r : List Int) (w : World) (hr0 : Kd.C (Kd.int .i64) w A0 l0.length l0) (hc0 : l0.length ≤ c0) (h : slices_Repeat_int64_int64.f l0 a1 = some r) :
    Calls Tryz.prog 68 #[.slice A0 l0.length c0, .int .i64 a1] w fun e w' => ∃ v_ : Value, e = .returned v_ ∧ Kd.R (Kd.int .i64) 2 w' w.heap.size (fun _ => True) v_ r ∧ Below w.heap.size w w' := by
  unfold slices_Repeat_int64_int64.f at h
  by_cases hg : l0 = [-1] ∧ 0 ≤ a1 ∧ a1 ≤ 1000 ∧ bits_Mul.f 1 a1 = some (0, a1)
  case neg => rw [if_neg hg] at h; cases h
  rw [if_pos hg] at h
  obtain rfl := Option.some.inj h
  obtain ⟨rfl, h0, h1, hm⟩ := hg
  clear h
  have HM := Aside0.mk hm
  clear hm
  obtain ⟨ad, rfl, hx⟩ := Kd.at_int hr0 0 (by omega) (by simp)
  have hlt := decide_eq_false (show ¬ a1 < 0 by omega)
  have hgt := decide_eq_false (show ¬ (9223372036854775807 : Int) < a1 by omega)
  clear hr0 hc0
  go_enter Tryz.func68, Tryz.ntmps68
  go_wp2_with fail
  (with_reducible refine (bits_Mul.calls 1 a1 0 a1 _ HM.out).mono ?_)
  rintro e w1 ⟨rfl, hd⟩
  have HB := Aside0.mk hd.below
  clear hd
  obtain ⟨n, rfl⟩ := Int.eq_ofNat_of_zero_le h0
  go_wp2_with (first | ((with_reducible refine gate_dst (N := 30) rfl ?_); refine Kd.R_make (Kd.int .i64) _ 2 rfl (N := 30) rfl 29 _ _ rfl (n : Int) rfl rfl Tryz.underlying29 (.int .i64 0) 8 info2 rfl (by decide) (by omega) 0 (ok := fun _ => True) (okp := fun _ => True) rfl (fun _ hk => hk) trivial (by omega) (by omega) (Below.refl _ _) (Nat.le_refl _) ?_; intro v5 w5 ho hb hg_ hnew; have HO := Aside0.mk (Kd.R_lower ho (below_size HB.out)); have HN := Aside0.mk hnew; have HB5 := Aside0.mk (below_step HB.out hb); clear HB hb ho hg_ hnew))
  obtain ⟨g, cap, hv⟩ : ∃ g cap, v5 = .slice (some ⟨g, 0, none⟩) n cap := by
    rcases (Kd.own_of_R HO.out).2 with ⟨rfl, _⟩ | ⟨g, cap, cur, hv, _⟩
    · obtain ⟨b, hb, _⟩ := HN.out
      cases hb
    · exact ⟨g, cap, by simpa using hv⟩
  subst hv
  clear HN
  have hx5 : w5.cell? (ad.add 0) = some (.int .i64 (-1)) := (HB5.out.cell (World.block_lt_of_cell? w _ hx)).trans hx
  have HX := Aside0.mk (run_laid (P := Tryz.prog) 0 1 cap c0 29 3 (List.replicate (min 1 n) (-1)) ad Tryz.underlying29 (by decide) HO.out (by simp) (Nat.zero_le _) (by simp) (fun j hj => by
    have : j = 0 := by simp at hj; omega
    subst this
    rw [hx5]
    simp at hj
    simp [hj]))
  have HL := R_laid 0 (List.replicate (min 1 n) (-1)) HO.out (by simp) (by simp; omega)
  have HO6 := Aside0.mk (HL.1)
  have HB6 := Aside0.mk (HB5.out.grown HL.2 (below_size HB5.out) (fun k hk => Kd.R_base HO.out k (by rw [← hk]; rfl)))
  clear HL hx5 hx HB5
  rw [show n - 0 = n from rfl] at HX
  rw [HX.out]
  generalize w5.setCells g 0 (encs (Value.int .i64) (List.replicate (min 1 n) (-1))) = w6 at HO6 HB6 ⊢
  clear HX HO HM hlt hgt
  have HO := Aside0.mk (show Kd.R (Kd.int .i64) 2 w6 w.heap.size (fun _ => True) (.slice (some ⟨g, 0, none⟩) n cap) (repC n (min 1 n)) from by
    have := HO6.out
    rwa [show (List.replicate (n : Int).toNat 0).take 0 ++ List.replicate (min 1 n) (-1) ++ (List.replicate (n : Int).toNat 0).drop (0 + (List.replicate (min 1 n) (-1 : Int)).length) = repC n (min 1 n) from by simp [repC]] at this)
  clear HO6
  go_wp2_with fail
  go_loopg [8] n (fun gg s8 wr => ∃ m : Nat, s8 = .int .i64 (m : Int) ∧ min 1 n ≤ m ∧ m ≤ n ∧ n - m ≤ gg ∧ Aside0 (Kd.R (Kd.int .i64) 2 wr w.heap.size (fun _ => True) (.slice (some ⟨g, 0, none⟩) n cap) (repC n m)) ∧ Aside0 (Below w.heap.size w wr))
  case atStart => exact ⟨min 1 n, rfl, Nat.le_refl _, by omega, by omega, HO, HB6⟩
  case round =>
    clear HO HB6
    obtain ⟨m, rfl, hm1, hmn, hg, HO, HB⟩ := hrel
    by_cases c : m < n
    case neg =>
      obtain rfl : m = n := by omega
      have cb := decide_eq_false (show ¬ ((m : Int) < (m : Int)) by omega)
      clear c
      go_wp2_with fail
      go_ret
      exact ⟨_, rfl, by have := HO.out; rwa [show repC m m = List.replicate (m : Int).toNat (-1) from by simp [repC]] at this, HB.out⟩
    have cb := decide_eq_true (show ((m : Int) < (n : Int)) by omega)
    have c2 := eq_true (show (m : Int) ≤ (n : Int) by omega)
    have c3 := eq_true (show (0 : Int) ≤ (m : Int) by omega)
    have hcap := (Kd.R_reads' HO.out).2.1
    have c4 := eq_true (show (m : Int) ≤ (cap : Int) by omega)
    have c5 := eq_false (show ¬ cap = m by omega)
    obtain ⟨q, HQ⟩ : ∃ q, Aside0 (q = min m (n - m)) := ⟨_, ⟨rfl⟩⟩
    have hq := HQ.out
    have HD := Aside0.mk (Kd.R_drew HO.out)
    have HX := Aside0.mk (run_laid (P := Tryz.prog) m m (cap - m) cap 29 3 (List.replicate q (-1)) ⟨g, 0, none⟩ Tryz.underlying29 (by decide) HD.out (repC_len n m hmn) hmn (by simp [hq]) (fun j hj => by
      have hj2 : j < m := by simp at hj; omega
      obtain ⟨ad', e1, hc⟩ := Kd.at_int (Kd.R_reads' HD.out).2.2 (j : Int) (Int.natCast_nonneg j) (by rw [repC_len n m hmn]; omega)
      cases e1
      rw [Int.toNat_natCast] at hc
      rw [hc]
      simp at hj
      simp [rd, repC, hj, List.getElem?_append, hj2]))
    have HL := R_laid m (List.replicate q (-1)) HD.out (repC_len n m hmn) (by rw [repC_len n m hmn]; simp; omega)
    have HO7 := Aside0.mk (show Kd.R (Kd.int .i64) 2 (wr.drew.setCells g m (encs (Value.int .i64) (List.replicate q (-1)))) w.heap.size (fun _ => True) (.slice (some ⟨g, 0, none⟩) n cap) (repC n (m + q)) from by
      have := HL.1
      rwa [show (repC n m).take m ++ List.replicate q (-1) ++ (repC n m).drop (m + (List.replicate q (-1 : Int)).length) = repC n (m + q) from by rw [List.length_replicate, hq]; exact rep_step n m hmn] at this)
    have HB7 := Aside0.mk ((below_drew1 HB.out).grown HL.2 (below_size (below_drew1 HB.out)) (fun k hk => Kd.R_base HD.out k (by rw [← hk]; rfl)))
    clear HL HO
    clear hq
    have HXL := Aside0.mk (List.length_replicate (n := q) (a := (-1 : Int)))
    go_wp2_with fail
    go_region_held3 (fun _ => True) (exact trivial) ((go_simp; rw [HX.out, HXL.out]; go_simp))
    generalize wr.drew.setCells g m (encs (Value.int .i64) (List.replicate q (-1))) = w7 at HO7 HB7 ⊢
    clear HX HD
    go_wp2_with fail
    go_roundg (gk - 1)
    case measure => have hq := HQ.out; omega
    case rel => 
      have hq := HQ.out
      exact ⟨m + q, by rw [Int.natCast_add]; simp only [i64_w]; rw [show wrap64 ((m : Int) + (q : Int)) = (m : Int) + (q : Int) from by unfold wrap64; omega], by omega, by omega, by omega, HO7, HB7⟩

/-! ### impl_emptyPlaces: function 48 -/
def impl_emptyPlaces.f (a0 : Int) : Option (List Int) := (slices_Repeat_int64_int64.f (([(-1)] : List Int)) a0).bind fun t349 => (some t349)
set_option maxHeartbeats 8000000 in
set_option maxRecDepth 100000 in
theorem impl_emptyPlaces.calls (a0 : Int) (r : List Int) (w : World) (h : impl_emptyPlaces.f a0 = some r) :
    Calls Tryz.prog 48 #[.int .i64 a0] w fun e w' => ∃ v0_ : Value, e = .returned (v0_) ∧ Kd.R (Kd.int .i64) 2 w' w.heap.size (fun _ => True) v0_ r ∧ Below w.heap.size w w' := by
  have HB := Aside0.mk (Below.refl w.heap.size w)
  have H : ((slices_Repeat_int64_int64.f (([(-1)] : List Int)) a0).bind fun t349 => (some t349)) = some r := h
  clear h
  obtain ⟨y346, hy346⟩ : ∃ y_ : List Int, y_ = (([(-1)] : List Int)) := ⟨_, rfl⟩
  replace H : ((slices_Repeat_int64_int64.f y346 a0).bind fun t349 => (some t349)) = some r := by first | (rw [hy346]; with_reducible exact H) | (have H2_ := (Option.bind_some _ _).symm.trans H; rw [hy346]; with_reducible exact H2_) | (have H2_ := (Option.bind_some _ _).symm.trans H; with_reducible exact H2_) | with_reducible exact H | (rw [hy346]; exact H) | exact H
  have Ny346 := Aside0.mk hy346
  clear hy346
  replace H := Option.bind_eq_some_iff.mp H
  obtain ⟨t349, A20, H⟩ := H
  set_option simprocs false in try dsimp only at H
  have A2 := Aside0.mk A20
  clear A20
  obtain rfl := Option.some.inj H
  go_enter Tryz.func48, Tryz.ntmps48
  go_wp2_with (first | ((with_reducible refine gate_dst (N := 3) rfl ?_); refine Kd.R_lit (Kd.int .i64) _ 2 ?hg (N := 3) ?hd (xs := ([(-1)] : List Int)) (inner := [.int .i64 (-1)]) (ok := fun _ => True) (okp := fun _ => True) ?hr ?hp (fun _ hk => hk) trivial (Below.refl _ _) (Nat.le_refl _) (by simp) ?_; (case hd => rfl); (case hg => rfl); (case hr => first | (go_simp; done) | (go_simp; rfl)); (case hp => exact (Reps.one (show Kd.M (Kd.int .i64) _ _ _ (-1) [.int .i64 (-1)] from rfl) (Reps.none _ _))); intro v347 w3 ho4 hb hg_ hnew_; clear hg_ hnew_; (first | rw [← Ny346.out] at ho4 | (simp only [Int.reduceToNat] at ho4; rw [← Ny346.out] at ho4)); have n0_ := Aside0.mk (Kd.R_lower ho4 (below_size (by repeat first | exact HB.out | apply pw_below_drewN))); have n1_ := Aside0.mk (below_step (by repeat first | exact HB.out | apply pw_below_drewN) hb); clear HB; have HO348 := n0_; have HB := n1_; clear n0_ n1_; clear hb ho4; obtain ⟨Ao5, co5, eo5⟩ := Kd.R_slice HO348.out; subst eo5) | ((with_reducible refine gate_callee (f := 68) rfl ?_); refine goesL_ (some 5) rfl rfl Tryz.func68 (by kernel_rfl) rfl #[.slice Ao5 y346.length co5, .int .i64 a0] rfl (by (try simp only [List.map_toArray, List.map_cons, List.map_nil]); first | done | rfl) ?_; (with_reducible refine (slices_Repeat_int64_int64.calls _ _ y346 a0 t349 _ ?side1 ?side2 A2.out).mono ?_); (case side1 => exact (Kd.R_reads' HO348.out).2.2); (case side2 => exact (Kd.R_reads' HO348.out).2.1); rintro e w6 ⟨v350, rfl, ho0, hb⟩; refine ⟨_, rfl, ?_⟩; have n0_ := Aside0.mk (Kd.R_elder' (by (with_reducible repeat (first | apply Kd.R_alloc | apply Kd.R_drewN | apply Kd.R_drew)); exact HO348.out) (Kd.R_base ho0) hb); have n1_ := Aside0.mk (Kd.R_lower (Kd.R_new' ho0 (Kd.R_lt (by (with_reducible repeat (first | apply Kd.R_alloc | apply Kd.R_drewN | apply Kd.R_drew)); exact HO348.out))) (below_size (by repeat first | exact HB.out | apply pw_below_drewN))); have n2_ := Aside0.mk (below_step (by repeat first | exact HB.out | apply pw_below_drewN) hb); clear HO348; clear HB; have HO348 := n0_; have HO351 := n1_; have HB := n2_; clear n0_ n1_ n2_; (try clear hb); (try clear hb2); (try clear hk); (try clear hi); (try clear ho0)))
  go_ret
  exact ⟨_, by first | rfl | (simp [*, errW_none, errW_some] <;> rfl), by (with_reducible repeat (first | apply Kd.R_alloc | apply Kd.R_drewN | apply Kd.R_drew)); exact Kd.R_mono HO351.out (fun _ hk => trivial), by repeat first | exact HB.out | apply pw_below_drewN⟩

/-! ### slices_Index_int64_int64: function 74 -/
def slices_Index_int64_int64.l0 : Nat → List Int → Int → Int → Int → Option (Int)
  | 0, _, _, _, _ => none
  | k + 1, x0, x1, x7, x8 => if x8 < x7 then (if 0 ≤ x8 then (if x8 < (x0.length : Int) then (if x1 = (rd x0 x8) then (some x8) else (slices_Index_int64_int64.l0 k x0 x1 x7 (wrap64 (x8 + 1)))) else (none)) else (none)) else (some (-1))
def slices_Index_int64_int64.f (k : Nat) (l0 : List Int) (a1 : Int) : Option (Int) := slices_Index_int64_int64.l0 k l0 a1 (l0.length : Int) 0
set_option maxHeartbeats 8000000 in
set_option maxRecDepth 100000 in
theorem slices_Index_int64_int64.calls (k : Nat) (A0 : Option Addr) (c0 : Nat) (l0 : List Int) (a1 : Int) (r : Int) (w : World) (hr0 : Kd.C (Kd.int .i64) w A0 l0.length l0) (hc0 : l0.length ≤ c0) (h : slices_Index_int64_int64.f k l0 a1 = some r) :
    Calls Tryz.prog 74 #[.slice A0 l0.length c0, .int .i64 a1] w fun e w' => e = .returned (.int .i64 r) ∧ Drawn0 w w' := by
  have HR0 := Aside0.mk hr0
  have HC0 := Aside0.mk hc0
  clear hr0 hc0
  have H : (slices_Index_int64_int64.l0 k l0 a1 (l0.length : Int) 0) = some r := h
  clear h
  have H' := Aside0.mk H
  clear H
  go_enter Tryz.func74, Tryz.ntmps74
  go_wp2
  go_loopg [8] k (fun kq v8 w' => ∃ (x8_1 : Int), v8 = .int .i64 x8_1 ∧ Aside0 (slices_Index_int64_int64.l0 kq l0 a1 (l0.length : Int) x8_1 = some r) ∧ Aside0 (kq ≤ k) ∧ Drawn0 w w')
  case atStart => exact ⟨(0), (by first | rfl | (simp; done) | (simp [*]; done)), H', ⟨Nat.le_refl _⟩, by repeat (first | exact Drawn0.refl _ | apply Drawn0.step)⟩
  case round =>
    clear H'
    try clear p2
    obtain ⟨x8_1, rfl, HA, HK1, ⟨m1, rfl⟩⟩ := hrel
    cases gk with
    | zero => exact absurd HA.out (by simp [slices_Index_int64_int64.l0])
    | succ k1 =>
      have H := HA.out
      clear HA
      simp only [slices_Index_int64_int64.l0] at H
      by_cases c3 : x8_1 < (l0.length : Int)
      · rw [if_pos c3] at H
        have c3b0 : decide (x8_1 < (l0.length : Int)) = true := decide_eq_true c3
        clear c3
        by_cases c4 : 0 ≤ x8_1
        · rw [if_pos c4] at H
          have c4b0 : decide (0 ≤ x8_1) = true := decide_eq_true c4
          clear c4
          by_cases c5 : x8_1 < (l0.length : Int)
          · rw [if_pos c5] at H
            have c5b0 : decide (x8_1 < (l0.length : Int)) = true := decide_eq_true c5
            clear c5
            by_cases c6 : a1 = (rd l0 x8_1)
            · rw [if_pos c6] at H
              have c6b0 : (a1 == (rd l0 x8_1)) = true := beq_iff_eq.mpr c6
              have c6b1 : (a1 != (rd l0 x8_1)) = false := bne_eq_false_iff_eq.mpr c6
              clear c6
              obtain rfl := Option.some.inj H
              have p352 : 0 ≤ (x8_1 : Int) := of_decide_eq_true (by assumption)
              have q352 : x8_1 < (l0.length : Int) := of_decide_eq_true (by assumption)
              obtain ⟨ad352, e352, hx352_0⟩ := Kd.at_int HR0.out x8_1 p352 q352
              cases e352
              replace p352 := eq_true p352
              replace q352 := eq_true q352
              go_wp2
              go_ret
              exact ⟨by first | rfl | (simp; done) | (simp [*]; done), by repeat (first | exact Drawn0.refl _ | apply Drawn0.step)⟩
            · rw [if_neg c6] at H
              have c6b0 : (a1 == (rd l0 x8_1)) = false := beq_eq_false_iff_ne.mpr c6
              have c6b1 : (a1 != (rd l0 x8_1)) = true := bne_iff_ne.mpr c6
              have H' := Aside0.mk H
              clear H
              have p352 : 0 ≤ (x8_1 : Int) := of_decide_eq_true (by assumption)
              have q352 : x8_1 < (l0.length : Int) := of_decide_eq_true (by assumption)
              obtain ⟨ad352, e352, hx352_0⟩ := Kd.at_int HR0.out x8_1 p352 q352
              cases e352
              replace p352 := eq_true p352
              replace q352 := eq_true q352
              go_wp2
              go_roundg k1
              case measure => have := HK1.out; omega
              case rel => exact ⟨(wrap64 (x8_1 + 1)), (by first | rfl | (simp; done) | (simp [*]; done)), H', ⟨by have := HK1.out; omega⟩, by repeat (first | exact Drawn0.refl _ | apply Drawn0.step)⟩
          · rw [if_neg c5] at H
            exact absurd H (by simp)
        · rw [if_neg c4] at H
          exact absurd H (by simp)
      · rw [if_neg c3] at H
        have c3b0 : decide (x8_1 < (l0.length : Int)) = false := decide_eq_false c3
        clear c3
        obtain rfl := Option.some.inj H
        go_wp2
        go_ret
        exact ⟨by first | rfl | (simp; done) | (simp [*]; done), by repeat (first | exact Drawn0.refl _ | apply Drawn0.step)⟩

/-! ### slices_Contains_int64_int64: function 56 -/
def slices_Contains_int64_int64.f (k : Nat) (l0 : List Int) (a1 : Int) : Option (Bool) := (slices_Index_int64_int64.f k l0 a1).bind fun t353 => (some (decide (t353 ≥ 0)))
set_option maxHeartbeats 8000000 in
set_option maxRecDepth 100000 in
theorem slices_Contains_int64_int64.calls (k : Nat) (A0 : Option Addr) (c0 : Nat) (l0 : List Int) (a1 : Int) (r : Bool) (w : World) (hr0 : Kd.C (Kd.int .i64) w A0 l0.length l0) (hc0 : l0.length ≤ c0) (h : slices_Contains_int64_int64.f k l0 a1 = some r) :
    Calls Tryz.prog 56 #[.slice A0 l0.length c0, .int .i64 a1] w fun e w' => e = .returned (.bool r) ∧ Drawn0 w w' := by
  have HR0 := Aside0.mk hr0
  have HC0 := Aside0.mk hc0
  clear hr0 hc0
  have H : ((slices_Index_int64_int64.f k l0 a1).bind fun t353 => (some (decide (t353 ≥ 0)))) = some r := h
  clear h
  replace H := Option.bind_eq_some_iff.mp H
  obtain ⟨t353, A30, H⟩ := H
  set_option simprocs false in try dsimp only at H
  have A3 := Aside0.mk A30
  clear A30
  obtain rfl := Option.some.inj H
  go_enter Tryz.func56, Tryz.ntmps56
  go_wp2_with (first | ((with_reducible refine gate_callee (f := 74) rfl ?_); refine goesL_ (some 7) rfl rfl Tryz.func74 (by kernel_rfl) rfl #[.slice A0 l0.length c0, .int .i64 a1] rfl (by (try simp only [List.map_toArray, List.map_cons, List.map_nil]); first | done | rfl) ?_; (with_reducible refine (slices_Index_int64_int64.calls k _ _ l0 a1 t353 _ ?side1 ?side2 A3.out).mono ?_); (case side1 => exact HR0.out); (case side2 => exact HC0.out); rintro e w' ⟨rfl, ⟨nd, rfl⟩⟩; refine ⟨_, rfl, ?_⟩))
  go_ret
  exact ⟨by first | rfl | (simp; done) | (simp [*]; done), by repeat (first | exact Drawn0.refl _ | apply Drawn0.step)⟩

end Go.Proofs.YtkadeelplnkpgaaGreat.Q

namespace Go.Proofs.YtkadeelplnkpgaaGreatW.PrintMore
open Go.Shelf
def Tryz.sortL_ren : Go.Shelf.Ren := ⟨fun | 5 => 103 | 8 => 107 | 7 => 106 | 19 => 119 | 20 => 120 | 10 => 110 | 11 => 111 | 12 => 112 | 13 => 113 | 14 => 114 | 15 => 115 | 16 => 116 | 17 => 117 | 18 => 118 | 30 => 121 | 31 => 122 | 32 => 123 | 33 => 124 | 34 => 125 | 35 => 126 | 40 => 127 | n => n, fun | 23 => 29 | 25 => 2 | 3 => 3 | 32 => 103 | 22 => 29 | 0 => 0 | 44 => 114 | 46 => 117 | 4 => 4 | 36 => 131 | 35 => 130 | 41 => 136 | 5 => 5 | 9 => 9 | 53 => 140 | 57 => 144 | 63 => 146 | 64 => 147 | n => n, fun | n => n⟩
theorem Tryz.sortL : Go.Proofs.SlLaysM.n5 Tryz.prog Tryz.sortL_ren := {
  mixed := by kernel_rfl
  f5 := ⟨Tryz.f103.name, by decide, Tryz.func103.trans (congrArg some (by kernel_rfl))⟩
  f7 := ⟨Tryz.f106.name, by decide, Tryz.func106.trans (congrArg some (by kernel_rfl))⟩
  f8 := Tryz.func107.trans (congrArg some (by kernel_rfl))
  f10 := ⟨Tryz.f110.name, by decide, Tryz.func110.trans (congrArg some (by kernel_rfl))⟩
  f11 := ⟨Tryz.f111.name, by decide, Tryz.func111.trans (congrArg some (by kernel_rfl))⟩
  f12 := ⟨Tryz.f112.name, by decide, Tryz.func112.trans (congrArg some (by kernel_rfl))⟩
  f13 := ⟨Tryz.f113.name, by decide, Tryz.func113.trans (congrArg some (by kernel_rfl))⟩
  f14 := ⟨Tryz.f114.name, by decide, Tryz.func114.trans (congrArg some (by kernel_rfl))⟩
  f15 := ⟨Tryz.f115.name, by decide, Tryz.func115.trans (congrArg some (by kernel_rfl))⟩
  f16 := ⟨Tryz.f116.name, by decide, Tryz.func116.trans (congrArg some (by kernel_rfl))⟩
  f17 := ⟨Tryz.f117.name, by decide, Tryz.func117.trans (congrArg some (by kernel_rfl))⟩
  f18 := ⟨Tryz.f118.name, by decide, Tryz.func118.trans (congrArg some (by kernel_rfl))⟩
  f19 := Tryz.func119.trans (congrArg some (by kernel_rfl))
  f20 := Tryz.func120.trans (congrArg some (by kernel_rfl))
  f30 := ⟨Tryz.f121.name, by decide, Tryz.func121.trans (congrArg some (by kernel_rfl))⟩
  f31 := Tryz.func122.trans (congrArg some (by kernel_rfl))
  f32 := Tryz.func123.trans (congrArg some (by kernel_rfl))
  f33 := ⟨Tryz.f124.name, by decide, Tryz.func124.trans (congrArg some (by kernel_rfl))⟩
  f34 := ⟨Tryz.f125.name, by decide, Tryz.func125.trans (congrArg some (by kernel_rfl))⟩
  f35 := ⟨Tryz.f126.name, by decide, Tryz.func126.trans (congrArg some (by kernel_rfl))⟩
  f40 := ⟨Tryz.f127.name, by decide, Tryz.func127.trans (congrArg some (by kernel_rfl))⟩
  t0 := Tryz.underlying0
  a0 := Tryz.isAgg0
  z0 := Tryz.sizeOf0
  v0 := Tryz.zeroValue0
  t3 := Tryz.underlying3
  a3 := Tryz.isAgg3
  z3 := Tryz.sizeOf3
  v3 := Tryz.zeroValue3
  t4 := Tryz.underlying4
  a4 := Tryz.isAgg4
  z4 := Tryz.sizeOf4
  v4 := Tryz.zeroValue4
  t5 := Tryz.underlying5
  a5 := Tryz.isAgg5
  z5 := Tryz.sizeOf5
  v5 := Tryz.zeroValue5
  t9 := Tryz.underlying9
  a9 := Tryz.isAgg9
  z9 := Tryz.sizeOf9
  v9 := Tryz.zeroValue9
  t22 := Tryz.underlying29
  a22 := Tryz.isAgg29
  z22 := Tryz.sizeOf29
  v22 := Tryz.zeroValue29
  t23 := Tryz.underlying29
  a23 := Tryz.isAgg29
  z23 := Tryz.sizeOf29
  v23 := Tryz.zeroValue29
  t25 := Tryz.underlying2
  a25 := Tryz.isAgg2
  z25 := Tryz.sizeOf2
  v25 := Tryz.zeroValue2
  t32 := Tryz.underlying103
  a32 := Tryz.isAgg103
  z32 := Tryz.sizeOf103
  v32 := Tryz.zeroValue103
  t35 := Tryz.underlying130
  a35 := Tryz.isAgg130
  z35 := Tryz.sizeOf130
  v35 := Tryz.zeroValue130
  t36 := Tryz.underlying131
  a36 := Tryz.isAgg131
  z36 := Tryz.sizeOf131
  v36 := Tryz.zeroValue131
  t41 := Tryz.underlying136
  a41 := Tryz.isAgg136
  z41 := Tryz.sizeOf136
  v41 := Tryz.zeroValue136
  t44 := Tryz.underlying114
  a44 := Tryz.isAgg114
  z44 := Tryz.sizeOf114
  v44 := Tryz.zeroValue114
  t46 := Tryz.underlying117
  a46 := Tryz.isAgg117
  z46 := Tryz.sizeOf117
  v46 := Tryz.zeroValue117
  t53 := Tryz.underlying140
  a53 := Tryz.isAgg140
  z53 := Tryz.sizeOf140
  v53 := Tryz.zeroValue140
  t57 := Tryz.underlying144
  a57 := Tryz.isAgg144
  z57 := Tryz.sizeOf144
  v57 := Tryz.zeroValue144
  t63 := Tryz.underlying146
  a63 := Tryz.isAgg146
  z63 := Tryz.sizeOf146
  v63 := Tryz.zeroValue146
  t64 := Tryz.underlying147
  a64 := Tryz.isAgg147
  z64 := Tryz.sizeOf147
  v64 := Tryz.zeroValue147 }
open Go.RowKit Go.Sort Go.Proofs.YtkadeelplnkpgaaGreatW.PrintWords Go.Proofs.YtkadeelplnkpgaaGreatW.PrintLast
/-- the numbers, rising -/
def sortI (l : List Int) : List Int := l.mergeSort fun x y => decide (x ≤ y)
theorem sortI_length (l : List Int) : (sortI l).length = l.length := List.length_mergeSort _
theorem reps_int {w : World} {base : Nat} {ok : Nat → Prop} {l : List Int} {inner : List Value} (h : Reps ((Kd.int .i64).M w base ok) 1 l inner) : inner = l.map (Value.int .i64) := by
  obtain ⟨h1, h2⟩ := h
  apply List.ext_getElem (by simpa using h1)
  intro i hi hi2
  have hl : i < l.length := by simpa using hi2
  have h3 : [inner[i]] = [Value.int .i64 l[i]] := by
    have := h2 i l[i] (List.getElem?_eq_getElem hl)
    rw [Nat.mul_one, List.drop_eq_getElem_cons (by omega)] at this
    exact this
  simpa using h3
theorem int_reps {w : World} {base : Nat} {ok : Nat → Prop} (l : List Int) : Reps ((Kd.int .i64).M w base ok) 1 l (l.map (Value.int .i64)) := by
  refine ⟨by simp, fun j p hj => ?_⟩
  obtain ⟨hl, rfl⟩ := List.getElem?_eq_some_iff.1 hj
  rw [Nat.mul_one, List.drop_eq_getElem_cons (by simpa using hl)]
  show [_] = [_]
  simp
/-- a slice of the call's own is sorted in place -/
theorem sortOwn.calls {base : Nat} {ok : Nat → Prop} {v : Value} {l : List Int} (w : World) (h : Kd.R (Kd.int .i64) 2 w base ok v l) (hn : l.length ≤ 1048576) :
    Calls Tryz.prog 103 #[v] w fun e w' => e = .returned (.tuple #[]) ∧ Kd.R (Kd.int .i64) 2 w' base ok v (sortI l) ∧ w.grownBy w' v.ownBlock := by
  obtain ⟨h0, inner, ho, hr⟩ := h
  have hi := reps_int hr
  subst hi
  obtain ⟨h1, h2⟩ := ho
  rcases h2 with ⟨rfl, h2⟩ | ⟨g, cap, cur, rfl, hg, hb, hl, hc, hs, ht⟩
  · have hl : l = [] := List.eq_nil_of_length_eq_zero h2
    subst hl
    refine (AnyM.slices_Sort_int_none Tryz.sortL none 0 w).mono ?_
    rintro e w' ⟨rfl, rfl⟩
    have e : sortI [] = [] := by simp [sortI]
    rw [e]
    exact ⟨rfl, ⟨h0, [], ⟨rfl, .inl ⟨rfl, rfl⟩⟩, int_reps (w := w') (base := base) []⟩, grown_of_below (Below.refl _ _) _⟩
  · have hmm := AnyM.slices_Sort_int Tryz.sortL g 0 cap l w (holds_of_blockI hb (by have ht : List.take (l.length * 1) cur.toList = _ := ht; rw [Nat.mul_one] at ht; exact ht)) (blk_lt hb) (by omega)
    refine hmm.mono ?_
    rintro e w' ⟨rfl, n, os, rfl⟩
    refine ⟨rfl, ⟨h0, (sortI l).map (Value.int .i64), ?_, int_reps _⟩, grownBy_sortedI _⟩
    have := ownsRow_sortedI (w := w) (base := base) (g := g) (cap := cap) (n := n) (e := 2) (os := os) (cur := cur) (ss := l) (ts := sortI l) (sortI_length l) hg hb hl hc hs
    rw [sortI_length]
    exact this

end Go.Proofs.YtkadeelplnkpgaaGreatW.PrintMore

namespace Go.Proofs.YtkadeelplnkpgaaGreat.Q
open Go.RowKit Go.Proofs.YtkadeelplnkpgaaGreatW.PrintWords Go.Proofs.YtkadeelplnkpgaaGreatW.PrintLast Go.Proofs.YtkadeelplnkpgaaGreatW.PrintMore
attribute [local go_sem] max2_int min2_int max_two min_two max_three min_three max_four min_four   -- for this text's walks alone
set_option linter.unusedVariables false
set_option linter.unusedSimpArgs false
/-! ### impl_Tree_nodesUnder: function 98 -/
/-- the lists of some things, one behind the other -/
def underL (g : Int → Option (List Int)) : List Int → List Int → Option (List Int)
  | out, [] => some out
  | out, x :: xs => (g x).bind fun l => if out.length + l.length ≤ 1048576 then underL g (out ++ l) xs else none
theorem underL_here (g : Int → Option (List Int)) (out l : List Int) (i : Int) (h0 : 0 ≤ i) (h1 : i < (l.length : Int)) : underL g out (l.drop i.toNat) = (g (rd l i)).bind fun t => if out.length + t.length ≤ 1048576 then underL g (out ++ t) (l.drop (i + 1).toNat) else none := by
  obtain ⟨n, rfl⟩ := Int.eq_ofNat_of_zero_le h0
  have hl : n < l.length := by omega
  have e : ((n : Int) + 1).toNat = n + 1 := by omega
  have er : rd l (n : Int) = l[n] := by unfold rd; rw [Int.toNat_natCast, List.getD_eq_getElem?_getD, List.getElem?_eq_getElem hl]; rfl
  rw [e, Int.toNat_natCast, List.drop_eq_getElem_cons hl, er]
  rfl
theorem underL_length (g : Int → Option (List Int)) : ∀ l out t, out.length ≤ 1048576 → underL g out l = some t → t.length ≤ 1048576
  | [], out, t, h0, h => by
    obtain rfl := Option.some.inj h
    exact h0
  | x :: xs, out, t, h0, h => by
    obtain ⟨y, hy, h2⟩ := Option.bind_eq_some_iff.1 h
    by_cases c : out.length + y.length ≤ 1048576
    · rw [if_pos c] at h2
      exact underL_length g xs (out ++ y) t (by rw [List.length_append]; exact c) h2
    · rw [if_neg c] at h2; cases h2
def impl_Tree_nodesUnder.f : Nat → List (S72) → List (S68) → Int → Option (List Int)
  | 0, _, _, _ => none
  | k + 1, l0_0, l0_1, a1 => if bucketAt l0_1 a1 < 0 then some [a1] else (underL (fun x => impl_Tree_nodesUnder.f k l0_0 l0_1 x) [] (rd_T68 l0_1 (bucketAt l0_1 a1)).f2).map sortI
set_option maxHeartbeats 4000000 in
set_option maxRecDepth 100000 in
theorem impl_Tree_nodesUnder.calls : ∀ (k : Nat) (A0_0 : Option Addr) (c0_0 : Nat) (l0_0 : List (S72)) (A0_1 : Option Addr) (c0_1 : Nat) (l0_1 : List (S68)) (a1 : Int) (r : List Int) (w : World) (hr0_0 : Kd.C k72 w A0_0 l0_0.length l0_0) (hc0_0 : l0_0.length ≤ c0_0) (hr0_1 : Kd.C k68 w A0_1 l0_1.length l0_1) (hc0_1 : l0_1.length ≤ c0_1) (h : impl_Tree_nodesUnder.f k l0_0 l0_1 a1 = some r),
    Calls Tryz.prog 98 #[.agg #[.slice A0_0 l0_0.length c0_0, .slice A0_1 l0_1.length c0_1], .int .i64 a1] w fun e w' => ∃ v_ : Value, e = .returned v_ ∧ Kd.R (Kd.int .i64) 2 w' w.heap.size (fun _ => True) v_ r ∧ Below w.heap.size w w'
  | 0, _, _, _, _, _, _, _, _, _, _, _, _, _, h => by cases h
  | k + 1, A0_0, c0_0, l0_0, A0_1, c0_1, l0_1, a1, r, w, hr0_0, hc0_0, hr0_1, hc0_1, h => by
    have HR0 := Aside0.mk hr0_0
    have HR1 := Aside0.mk hr0_1
    have HC0 := Aside0.mk hc0_0
    have HC1 := Aside0.mk hc0_1
    have HIH := Aside0.mk (impl_Tree_nodesUnder.calls k)
    clear hr0_0 hr0_1 hc0_0 hc0_1
    unfold impl_Tree_nodesUnder.f at h
    by_cases hb : bucketAt l0_1 a1 < 0
    · rw [if_pos hb] at h
      obtain rfl := Option.some.inj h
      clear h
      go_enter Tryz.func98, Tryz.ntmps98
      go_wp2_with fail
      have HB := Aside0.mk (below_alloc (Below.refl w.heap.size w) (.cells #[.slice A0_0 l0_0.length c0_0, .slice A0_1 l0_1.length c0_1] 35))
      refine (bucket_none.calls A0_0 c0_0 l0_0 A0_1 c0_1 l0_1 a1 _ (Kd.C_below HR1.out HB.out) hb).mono ?_
      rintro e w1 ⟨rfl, hb1⟩
      replace HB := Aside0.mk (below_step HB.out hb1)
      clear hb1 hb
      go_wp2_with (first | ((with_reducible refine gate_dst (N := 15) rfl ?_); refine Kd.R_lit (Kd.int .i64) _ 2 ?hg (N := 15) ?hd (xs := ([a1] : List Int)) (inner := [.int .i64 a1]) (ok := fun _ => True) (okp := fun _ => True) ?hr ?hp (fun _ hk => hk) trivial (Below.refl _ _) (Nat.le_refl _) (by simp) ?_; (case hd => rfl); (case hg => rfl); (case hr => first | (go_simp; done) | (go_simp; rfl)); (case hp => exact (Reps.one (show Kd.M (Kd.int .i64) _ _ _ a1 [.int .i64 a1] from rfl) (Reps.none _ _))); intro v2 w2 ho hb2 hg_ hnew_; have HO := Aside0.mk (Kd.R_lower ho (below_size HB.out)); have HB2 := Aside0.mk (below_step HB.out hb2); clear ho hb2 hg_ hnew_))
      go_ret
      exact ⟨_, rfl, HO.out, HB2.out⟩
    · rw [if_neg hb] at h
      obtain ⟨tot, htot, rfl⟩ := Option.map_eq_some_iff.1 h
      have hb0 : 0 ≤ bucketAt l0_1 a1 := by omega
      have hlt := bucketAt_lt l0_1 a1 hb0
      obtain ⟨ad, A2, c2, rfl, hx0, hx1, hx2, hl2, hg2⟩ := at_T68 HR1.out _ hb0 hlt
      have HTL := Aside0.mk (underL_length _ _ _ _ (by simp) htot)
      have HT := Aside0.mk (show underL (fun x => impl_Tree_nodesUnder.f k l0_0 l0_1 x) [] ((rd_T68 l0_1 (bucketAt l0_1 a1)).f2.drop (0 : Int).toNat) = some tot from htot)
      have HX2 := Aside0.mk hx2
      have HG2 := Aside0.mk hg2
      clear h htot hb hx0 hx1 hx2 hl2 hg2
      go_enter Tryz.func98, Tryz.ntmps98
      go_wp2_with fail
      have BK := Aside0.mk (blk_new w (.cells #[.slice A0_0 l0_0.length c0_0, .slice (some ad) l0_1.length c0_1] 35))
      have HB := Aside0.mk (below_alloc (Below.refl w.heap.size w) (.cells #[.slice A0_0 l0_0.length c0_0, .slice (some ad) l0_1.length c0_1] 35))
      refine (bucket_some.calls A0_0 c0_0 l0_0 (some ad) c0_1 l0_1 a1 _ (Kd.C_below HR1.out HB.out) ad rfl hb0).mono ?_
      rintro e w1 ⟨rfl, hb1⟩
      replace BK := Aside0.mk (blk_below BK.out hb1)
      replace HB := Aside0.mk (below_step HB.out hb1)
      clear hb1
      have hx2 := (HB.out.cell (World.block_lt_of_cell? w _ HX2.out)).trans HX2.out
      clear HX2 hb0 hlt
      generalize bucketAt l0_1 a1 = j at hx2 HT HG2 ⊢
      generalize (rd_T68 l0_1 j).f2 = items at hx2 HT HG2
      have hmi := Kd.C_max HG2.out
      go_wp2_with fail
      clear hx2
      obtain ⟨gt, hgt⟩ : ∃ g, g = w.heap.size := ⟨_, rfl⟩
      have HGT := Aside0.mk hgt
      rw [← hgt] at BK ⊢
      clear hgt
      go_loopg [6, 21] items.length (fun gg s6 s21 wr => ∃ (kk : Int) (out : List Int), 0 ≤ kk ∧ kk ≤ items.length ∧ (items.length : Int) - kk ≤ gg ∧ s21 = .int .i64 kk ∧ out.length ≤ 1048576 ∧ Aside0 (Below w.heap.size w wr) ∧ Aside0 (wr.heap[gt]? = some (.cells #[.slice A0_0 l0_0.length c0_0, .slice (some ad) l0_1.length c0_1] 35 (0, 0))) ∧ Aside0 (Kd.R (Kd.int .i64) 2 wr w.heap.size (fun _ => True) s6 out) ∧ Aside0 (underL (fun x => impl_Tree_nodesUnder.f k l0_0 l0_1 x) out (items.drop kk.toNat) = some tot))
      case atStart => exact ⟨0, [], by omega, by omega, by omega, rfl, by simp, HB, BK, ⟨Kd.R_nil _ _ _ _ _⟩, HT⟩
      case round =>
        clear HB BK HT
        obtain ⟨kk, out, h0, hk, hg, rfl, hol, HB, BK, HO, HT⟩ := hrel
        have ht0 := (blk_cell BK.out 0).trans rfl
        have ht1 := (blk_cell BK.out 1).trans rfl
        by_cases hlt : kk < (items.length : Int)
        · obtain ⟨ae, rfl, hy0⟩ := Kd.at_int HG2.out kk h0 hlt
          replace hy0 := (HB.out.cell (World.block_lt_of_cell? w _ hy0)).trans hy0
          have q0 := eq_true h0
          have q1 := eq_true hlt
          have HN := Aside0.mk (by have := underL_here (fun x => impl_Tree_nodesUnder.f k l0_0 l0_1 x) out items kk h0 hlt; rw [HT.out] at this; exact this.symm)
          clear HT
          generalize rd items kk = x at hy0 HN
          obtain ⟨tl, htl, hn⟩ := Option.bind_eq_some_iff.1 HN.out
          have HTL2 := Aside0.mk htl
          by_cases hsm : out.length + tl.length ≤ 1048576
          case neg => rw [if_neg hsm] at hn; cases hn
          rw [if_pos hsm] at hn
          have HSM := Aside0.mk hsm
          replace HN := Aside0.mk hn
          clear htl hn hsm
          go_wp2_with fail
          refine (HIH.out A0_0 c0_0 l0_0 (some ad) c0_1 l0_1 x tl _ (Kd.C_below HR0.out HB.out) HC0.out (Kd.C_below HR1.out HB.out) HC1.out HTL2.out).mono ?_
          rintro e w2 ⟨v2, rfl, ho2, hb2⟩
          have HB2 := Aside0.mk (below_step HB.out hb2)
          have BK2 := Aside0.mk (blk_below BK.out hb2)
          have HO2 := Aside0.mk (Kd.R_below HO.out hb2)
          obtain ⟨Av, cv, ev, hlv, hCv⟩ := Kd.R_reads ho2
          subst ev
          have HCV := Aside0.mk hCv
          clear ho2 hb2 hlv hCv HB BK HO ht0 ht1 hy0
          go_wp2_with (first | ((with_reducible refine gate_builtin (b := .append) (xs := #[.tmp 25, .tmp 28]) rfl ?_); at_builtin; refine Kd.R_append_rows (Kd.int .i64) (w0 := w) w.heap.size rfl (.tmp 25) (.tmp 28) 29 2 (.int .i64 0) 8 rfl Tryz.underlying29 info2 rfl (by decide) (by omega) _ out tl _ _ _ (fun _ => True) (fun _ => False) rfl rfl ?aO ?aR (fun _ _ h => h) (fun _ h => h.elim) ?aF ?aB ?aS ?aL ?_; (case aR => exact HCV.out); (case aB => exact HB2.out); (case aF => exact (fun _ _ => trivial)); (case aO => exact HO2.out); (case aS => exact below_size HB2.out); (case aL => have := HSM.out; omega); intro v3 w3 ho3 hb3 hg3 hat3; have HO3 := Aside0.mk ho3; have HB3 := Aside0.mk hb3; have BK3 := Aside0.mk (hg3.block _ (blk_lt BK2.out) (Kd.R_ne HO2.out BK2.out (by decide)) |>.trans BK2.out); clear ho3 hb3 hg3 hat3))
          go_roundg (gk - 1)
          case measure => omega
          case rel => exact ⟨kk + 1, out ++ tl, by omega, by omega, by omega, by go_num, by rw [List.length_append]; exact HSM.out, HB3, BK3, HO3, HN⟩
        · obtain rfl : kk = items.length := by omega
          have HE := Aside0.mk (show out = tot from by have := HT.out; rw [Int.toNat_natCast, List.drop_length] at this; exact Option.some.inj this)
          clear HT
          go_wp2_with fail
          refine (sortOwn.calls wr HO.out hol).mono ?_
          rintro e w2 ⟨rfl, ho, hg2⟩
          have HO2 := Aside0.mk ho
          have HB2 := Aside0.mk (pw_below_grown HB.out _ HB.out.size hg2 (fun k hk => Kd.R_base HO.out k hk))
          clear ho hg2
          go_wp2_with fail
          go_ret
          exact ⟨_, rfl, by rw [← HE.out]; exact HO2.out, HB2.out⟩

/-! ### impl_Tree_weight: function 93 -/
def impl_Tree_weight.l0 : Nat → Int → List Int → Int → Int → List (S72) → List (S68) → Option (Int)
  | 0, _, _, _, _, _, _ => none
  | k + 1, x5, x10, x11, x12, x355000, x355001 => if x12 < x11 then (if 0 ≤ x12 then (if x12 < (x10.length : Int) then ((impl_Tree_device.f x355000 x355001 (rd x10 x12)).bind fun t359 => (if 0 ≤ t359 then (if t359 < (x355000.length : Int) then (impl_Tree_weight.l0 k (wrap64 (x5 + ((rd_T72 x355000 t359).f1))) x10 x11 (wrap64 (x12 + 1)) x355000 x355001) else (none)) else (none))) else (none)) else (none)) else (some x5)
def impl_Tree_weight.f (k : Nat) (l0_0 : List (S72)) (l0_1 : List (S68)) (a1 : Int) : Option (Int) := (impl_Tree_nodesUnder.f k l0_0 l0_1 a1).bind fun t355 => (impl_Tree_weight.l0 k 0 t355 (t355.length : Int) 0 l0_0 l0_1)
def impl_Tree_weight.T5 : Bool × List (List Nat × List Nat) := (true, [([], []), ([], []), ([1], [1]), ([], []), ([], []), ([3, 4], [3, 4]), ([2, 5], [2, 5]), ([6], [6]), ([7], [7]), ([0, 8], [0, 8]), ([9, 5, 0, 1, 2, 3, 4, 5, 6, 7, 8, 9], [0, 9])])
def impl_Tree_weight.B5 : List Nat := [0, 0, 2, 0, 0, 24, 62, 126, 254, 511, 1023]
theorem impl_Tree_weight.tab5 : rtab .any (opsOf Tryz.f93 5) = impl_Tree_weight.T5 := by kernel_rfl
theorem impl_Tree_weight.bits5 : waitsOk impl_Tree_weight.T5.2 impl_Tree_weight.B5 = true := by kernel_rfl
set_option maxHeartbeats 8000000 in
set_option maxRecDepth 100000 in
theorem impl_Tree_weight.calls (k : Nat) (A0_0 : Option Addr) (c0_0 : Nat) (l0_0 : List (S72)) (A0_1 : Option Addr) (c0_1 : Nat) (l0_1 : List (S68)) (a1 : Int) (r : Int) (w : World) (hr0_0 : Kd.C k72 w A0_0 l0_0.length l0_0) (hc0_0 : l0_0.length ≤ c0_0) (hr0_1 : Kd.C k68 w A0_1 l0_1.length l0_1) (hc0_1 : l0_1.length ≤ c0_1) (h : impl_Tree_weight.f k l0_0 l0_1 a1 = some r) :
    Calls Tryz.prog 93 #[.agg #[.slice A0_0 l0_0.length c0_0, .slice A0_1 l0_1.length c0_1], .int .i64 a1] w fun e w' => e = .returned (.int .i64 r) ∧ Below w.heap.size w w' := by
  have hu35 := Tryz.underlying35
  have HR0_0 := Aside0.mk hr0_0
  have HC0_0 := Aside0.mk hc0_0
  clear hr0_0 hc0_0
  have HR0_1 := Aside0.mk hr0_1
  have HC0_1 := Aside0.mk hc0_1
  clear hr0_1 hc0_1
  have HB := Aside0.mk (Below.refl w.heap.size w)
  have H : ((impl_Tree_nodesUnder.f k l0_0 l0_1 a1).bind fun t355 => (impl_Tree_weight.l0 k 0 t355 (t355.length : Int) 0 l0_0 l0_1)) = some r := h
  clear h
  replace H := Option.bind_eq_some_iff.mp H
  obtain ⟨t355, A30, H⟩ := H
  set_option simprocs false in try dsimp only at H
  have A3 := Aside0.mk A30
  clear A30
  have H' := Aside0.mk H
  clear H
  go_enter Tryz.func93, Tryz.ntmps93
  go_wp2_with (first | ((with_reducible refine gate_dst (N := 2) rfl ?_); refine box_event ?hg (N := 2) ?hd (cs := #[.slice A0_0 l0_0.length c0_0, .slice A0_1 l0_1.length c0_1]) (t := 35) ?hr ?_; (case hd => rfl); (case hg => rfl); (case hr => first | (go_simp; done) | (go_simp; rfl)); intro gb354 hg w4 hbox hb; have n0_ := Aside0.mk (below_step (by repeat first | exact HB.out | apply pw_below_drewN) hb); have n1_ := Aside0.mk (hbox); have n2_ := Aside0.mk ((by rw [hg]; exact (below_size (by repeat first | exact HB.out | apply pw_below_drewN)) : w.heap.size ≤ gb354)); have n3_ := Aside0.mk ((by rw [hg]; exact (below_size (by repeat first | exact HB.out | apply pw_below_drewN)) : w.heap.size ≤ gb354)); clear HB; have HB := n0_; have BK354 := n1_; have GW354 := n2_; have GE354 := n3_; clear n0_ n1_ n2_ n3_; clear hb hbox hg; have hcz5_0 := (blk_cell BK354.out 0).trans rfl; have hcz5_1 := (blk_cell BK354.out 1).trans rfl; have hfz5_0 := blk_frozen BK354.out 0; have hfz5_1 := blk_frozen BK354.out 1) | ((with_reducible refine gate_callee (f := 98) rfl ?_); refine goesL_ (some 10) rfl rfl Tryz.func98 (by kernel_rfl) rfl #[.agg #[.slice A0_0 l0_0.length c0_0, .slice A0_1 l0_1.length c0_1], .int .i64 a1] rfl (by (try simp only [List.map_toArray, List.map_cons, List.map_nil]); first | done | rfl) ?_; (with_reducible refine (impl_Tree_nodesUnder.calls k _ _ l0_0 _ _ l0_1 a1 t355 _ ?side1 ?side2 ?side3 ?side4 A3.out).mono ?_); (case side1 => exact (Kd.C_below HR0_0.out HB.out)); (case side2 => exact HC0_0.out); (case side3 => exact (Kd.C_below HR0_1.out HB.out)); (case side4 => exact HC0_1.out); rintro e w6 ⟨v356, rfl, ho0, hb⟩; refine ⟨_, rfl, ?_⟩; have n0_ := Aside0.mk (Kd.R_lower ho0 (below_size (by repeat first | exact HB.out | apply pw_below_drewN))); have n1_ := Aside0.mk (blk_below (by exact BK354.out) hb); have n2_ := Aside0.mk (below_step (by repeat first | exact HB.out | apply pw_below_drewN) hb); clear BK354; clear HB; have HO357 := n0_; have BK354 := n1_; have HB := n2_; clear n0_ n1_ n2_; (try clear hb); (try clear hb2); (try clear hk); (try clear hi); (try clear ho0); obtain ⟨Ao7, co7, eo7⟩ := Kd.R_slice HO357.out; subst eo7))
  go_loopg [5, 12] k (fun kq v5 v12 w' => ∃ (x5_1 : Int) (x12_1 : Int), v5 = .int .i64 x5_1 ∧ v12 = .int .i64 x12_1 ∧ Aside0 (impl_Tree_weight.l0 kq x5_1 t355 (t355.length : Int) x12_1 l0_0 l0_1 = some r) ∧ Aside0 (kq ≤ k) ∧ Aside0 (Kd.R (Kd.int .i64) 2 w' w.heap.size (fun _ => True) (.slice Ao7 t355.length co7) t355) ∧ Aside0 (w'.heap[gb354]? = some (.cells #[(.slice A0_0 l0_0.length c0_0), (.slice A0_1 l0_1.length c0_1)] 35 (0, 0))) ∧ Aside0 (Below w.heap.size w w'))
  case atStart => exact ⟨(0), (0), (by first | rfl | (simp; done) | (simp [*]; done)), (by first | rfl | (simp; done) | (simp [*]; done)), H', ⟨Nat.le_refl _⟩, ⟨by (with_reducible repeat (first | apply Kd.R_alloc | apply Kd.R_drewN | apply Kd.R_drew)); exact HO357.out⟩, ⟨by exact BK354.out⟩, ⟨by repeat first | exact HB.out | apply pw_below_drewN⟩⟩
  case round =>
    clear H'
    try clear p2
    try clear hcz5_0
    try clear hcz5_1
    try clear hfz5_0
    try clear hfz5_1
    obtain ⟨x5_1, x12_1, rfl, rfl, HA, HK1, HO_10, BK354, HB⟩ := hrel
    cases gk with
    | zero => exact absurd HA.out (by simp [impl_Tree_weight.l0])
    | succ k1 =>
      have H := HA.out
      clear HA
      simp only [impl_Tree_weight.l0] at H
      by_cases c8 : x12_1 < (t355.length : Int)
      · rw [if_pos c8] at H
        have c8b0 : decide (x12_1 < (t355.length : Int)) = true := decide_eq_true c8
        clear c8
        by_cases c9 : 0 ≤ x12_1
        · rw [if_pos c9] at H
          have c9b0 : decide (0 ≤ x12_1) = true := decide_eq_true c9
          clear c9
          by_cases c10 : x12_1 < (t355.length : Int)
          · rw [if_pos c10] at H
            have c10b0 : decide (x12_1 < (t355.length : Int)) = true := decide_eq_true c10
            clear c10
            replace H := Option.bind_eq_some_iff.mp H
            obtain ⟨t359, A110, H⟩ := H
            set_option simprocs false in try dsimp only at H
            have A11 := Aside0.mk A110
            clear A110
            by_cases c12 : 0 ≤ t359
            · rw [if_pos c12] at H
              have c12b0 : decide (0 ≤ t359) = true := decide_eq_true c12
              clear c12
              by_cases c13 : t359 < (l0_0.length : Int)
              · rw [if_pos c13] at H
                have c13b0 : decide (t359 < (l0_0.length : Int)) = true := decide_eq_true c13
                clear c13
                have H' := Aside0.mk H
                clear H
                have p358 : 0 ≤ (x12_1 : Int) := of_decide_eq_true (by assumption)
                have q358 : x12_1 < (t355.length : Int) := of_decide_eq_true (by assumption)
                obtain ⟨ad358, e358, hx358_0⟩ := Kd.at_int (Kd.R_reads' HO_10.out).2.2 x12_1 p358 q358
                cases e358
                replace p358 := eq_true p358
                replace q358 := eq_true q358
                try go_wp2
                have n0_ := Aside0.mk (Kd.R_drew HO_10.out)
                have n1_ := Aside0.mk (blk_drew BK354.out)
                have n2_ := Aside0.mk (below_drew1 HB.out)
                clear HO_10
                clear BK354
                clear HB
                have HO_10 := n0_
                have BK354 := n1_
                have HB := n2_
                clear n0_ n1_ n2_
                have p360 : 0 ≤ (t359 : Int) := of_decide_eq_true (by assumption)
                have q360 : t359 < (l0_0.length : Int) := of_decide_eq_true (by assumption)
                obtain ⟨ad360, e360, hx360_0, hx360_1⟩ := at_T72 HR0_0.out t359 p360 q360
                have hw360_1 := hx360_1
                have hw360_0 := hx360_0
                cases e360
                replace hx360_0 := (HB.out.cell (World.block_lt_of_cell? w _ hx360_0)).trans hx360_0
                replace hx360_1 := (HB.out.cell (World.block_lt_of_cell? w _ hx360_1)).trans hx360_1
                replace p360 := eq_true p360
                replace q360 := eq_true q360
                refine start_ (n := 11) (S := fun w' => w'.cell? ⟨gb354, 0, none⟩ = some (.slice (some ad360) l0_0.length c0_0) ∧ w'.cell? ⟨gb354, 1, none⟩ = some (.slice A0_1 l0_1.length c0_1) ∧ w'.cell? (ad360.add ((t359).toNat * 2)) = some (.int .i64 ((rd_T72 l0_0 t359).f0)) ∧ w'.cell? ⟨(ad360.add ((t359).toNat * 2)).block, (ad360.add ((t359).toNat * 2)).off + 1, none⟩ = some (.int .i64 ((rd_T72 l0_0 t359).f1))) (ds := []) #[false, false, false, false, false, false, false, false, false, false, false] (by kernel_rfl) rfl rfl ⟨(blk_cell BK354.out 0).trans rfl, (blk_cell BK354.out 1).trans rfl, ((HB.out.cell (World.block_lt_of_cell? w _ hw360_0)).trans hw360_0), ((HB.out.cell (World.block_lt_of_cell? w _ hw360_1)).trans hw360_1)⟩ (fun hHeld => ?_); refine with_tabW impl_Tree_weight.tab5 impl_Tree_weight.bits5 (fun HT_ HW_ => ?_)
                generalize wr.drew = w14 at HO_10 BK354 HB hx360_0 hx360_1 hHeld ⊢
                refine pure_ (i := 0) (N := some 16) (v := ?_) (a' := ?_) #[true, false, false, false, false, false, false, false, false, false, false] rfl rfl (any_of HT_.out (by kernel_rfl)) (fun _ _ _ h => h) (Or.inl ⟨by rfl, ?_⟩) ?_ ?_
                rotate_left
                · intro w'
                  go_simp
                  with_reducible rfl
                rotate_left
                · simp only [Act.put, List.setIfInBounds_toArray, List.set_cons_zero, List.set_cons_succ, i64_w, i32_w]
                  rfl
                refine pure_ (i := 1) (N := some 17) (v := ?_) (a' := ?_) #[true, true, false, false, false, false, false, false, false, false, false] rfl rfl (any_of HT_.out (by kernel_rfl)) (fun _ _ _ h => h) (Or.inl ⟨by rfl, ?_⟩) ?_ ?_
                rotate_left
                · intro w'
                  go_simp
                  with_reducible rfl
                rotate_left
                · simp only [Act.put, List.setIfInBounds_toArray, List.set_cons_zero, List.set_cons_succ, i64_w, i32_w]
                  rfl
                refine pure_ (i := 4) (N := some 20) (v := ?_) (a' := ?_) #[true, true, false, false, true, false, false, false, false, false, false] rfl rfl (any_of HT_.out (by kernel_rfl)) (fun _ _ _ h => h) (Or.inl ⟨by rfl, ?_⟩) ?_ ?_
                rotate_left
                · intro w'
                  go_simp
                  with_reducible rfl
                rotate_left
                · simp only [Act.put, List.setIfInBounds_toArray, List.set_cons_zero, List.set_cons_succ, i64_w, i32_w]
                  rfl
                refine take_ (i := 2) (N := some 18) (v := ?_) (a' := ?_) #[true, true, true, false, true, false, false, false, false, false, false] rfl rfl (take_ofW HT_.out HW_.out (by kernel_rfl)) (fun _ _ _ h => h) (Or.inl ⟨by rfl, ?_⟩) hHeld ?_ ?_
                rotate_left
                · rintro w' ⟨s0, s1, s2, s3⟩
                  go_simp
                  with_reducible rfl
                rotate_left
                · simp only [Act.put, List.setIfInBounds_toArray, List.set_cons_zero, List.set_cons_succ, i64_w, i32_w]
                  rfl
                refine take_ (i := 3) (N := some 19) (v := ?_) (a' := ?_) #[true, true, true, true, true, false, false, false, false, false, false] rfl rfl (take_ofW HT_.out HW_.out (by kernel_rfl)) (fun _ _ _ h => h) (Or.inl ⟨by rfl, ?_⟩) hHeld ?_ ?_
                rotate_left
                · rintro w' ⟨s0, s1, s2, s3⟩
                  go_simp
                  with_reducible rfl
                rotate_left
                · simp only [Act.put, List.setIfInBounds_toArray, List.set_cons_zero, List.set_cons_succ, i64_w, i32_w]
                  rfl
                refine one_ (i := 5) (N := some 21) #[true, true, true, true, true, true, false, false, false, false, false] rfl rfl (one_of HT_.out (by kernel_rfl)) (by decide) (fun K hK => ?_)
                refine goes_ Tryz.func79 (by kernel_rfl) rfl #[.agg #[.slice (some ad360) l0_0.length c0_0, .slice A0_1 l0_1.length c0_1], .int .i64 (rd t355 x12_1)] (by rfl) rfl rfl (by (try simp only [List.map_toArray, List.map_cons, List.map_nil]); first | done | rfl) ?_
                with_reducible refine (impl_Tree_device.calls _ _ l0_0 _ _ l0_1 (rd t355 x12_1) t359 _ ?side1 ?side2 ?side3 ?side4 A11.out).mono ?_
                (case side1 => exact (Kd.C_below HR0_0.out HB.out))
                (case side2 => exact HC0_0.out)
                (case side3 => exact (Kd.C_below HR0_1.out HB.out))
                (case side4 => exact HC0_1.out)
                rintro e w15 ⟨rfl, hb⟩
                refine ⟨_, rfl, ?_⟩
                have n0_ := Aside0.mk (Kd.R_below (by (with_reducible repeat (first | apply Kd.R_alloc | apply Kd.R_drewN | apply Kd.R_drew)); exact HO_10.out) hb)
                have n1_ := Aside0.mk (blk_below (by exact BK354.out) hb)
                have n2_ := Aside0.mk (below_step (by repeat first | exact HB.out | apply pw_below_drewN) hb)
                clear HO_10
                clear BK354
                clear HB
                have HO_10 := n0_
                have BK354 := n1_
                have HB := n2_
                clear n0_ n1_ n2_
                (try clear hb)
                (try clear hb2)
                (try clear hk)
                (try clear hi)
                refine hK.out _ _ ⟨(blk_cell BK354.out 0).trans rfl, (blk_cell BK354.out 1).trans rfl, ((HB.out.cell (World.block_lt_of_cell? w _ hw360_0)).trans hw360_0), ((HB.out.cell (World.block_lt_of_cell? w _ hw360_1)).trans hw360_1)⟩ (fun hHeld => ?_)
                clear hK K
                refine norm_ (a' := ?_) ?_ ?_
                rotate_left
                · show Act.put _ (some 21) _ = _
                  simp only [Act.put, List.setIfInBounds_toArray, List.set_cons_zero, List.set_cons_succ, i64_w, i32_w]
                  rfl
                refine pure_ (i := 6) (N := some 22) (v := ?_) (a' := ?_) #[true, true, true, true, true, true, true, false, false, false, false] rfl rfl (any_of HT_.out (by kernel_rfl)) (fun _ _ _ h => h) (Or.inl ⟨by rfl, ?_⟩) ?_ ?_
                rotate_left
                · intro w'
                  go_simp
                  with_reducible rfl
                rotate_left
                · simp only [Act.put, List.setIfInBounds_toArray, List.set_cons_zero, List.set_cons_succ, i64_w, i32_w]
                  rfl
                refine pure_ (i := 7) (N := some 23) (v := ?_) (a' := ?_) #[true, true, true, true, true, true, true, true, false, false, false] rfl rfl (any_of HT_.out (by kernel_rfl)) (fun _ _ _ h => h) (Or.inl ⟨by rfl, ?_⟩) ?_ ?_
                rotate_left
                · intro w'
                  go_simp
                  with_reducible rfl
                rotate_left
                · simp only [Act.put, List.setIfInBounds_toArray, List.set_cons_zero, List.set_cons_succ, i64_w, i32_w]
                  rfl
                refine take_ (i := 8) (N := some 24) (v := ?_) (a' := ?_) #[true, true, true, true, true, true, true, true, true, false, false] rfl rfl (take_ofW HT_.out HW_.out (by kernel_rfl)) (fun _ _ _ h => h) (Or.inl ⟨by rfl, ?_⟩) hHeld ?_ ?_
                rotate_left
                · rintro w' ⟨s0, s1, s2, s3⟩
                  go_simp
                  with_reducible rfl
                rotate_left
                · simp only [Act.put, List.setIfInBounds_toArray, List.set_cons_zero, List.set_cons_succ, i64_w, i32_w]
                  rfl
                refine pure_ (i := 9) (N := some 25) (v := ?_) (a' := ?_) #[true, true, true, true, true, true, true, true, true, true, false] rfl rfl (any_of HT_.out (by kernel_rfl)) (fun _ _ _ h => h) (Or.inl ⟨by rfl, ?_⟩) ?_ ?_
                rotate_left
                · intro w'
                  go_simp
                  with_reducible rfl
                rotate_left
                · simp only [Act.put, List.setIfInBounds_toArray, List.set_cons_zero, List.set_cons_succ, i64_w, i32_w]
                  rfl
                refine pure_ (i := 10) (N := some 5) (v := ?_) (a' := ?_) #[true, true, true, true, true, true, true, true, true, true, true] rfl rfl (any_of HT_.out (by kernel_rfl)) (fun _ _ _ h => h) (Or.inl ⟨by rfl, ?_⟩) ?_ ?_
                rotate_left
                · intro w'
                  go_simp
                  with_reducible rfl
                rotate_left
                · simp only [Act.put, List.setIfInBounds_toArray, List.set_cons_zero, List.set_cons_succ, i64_w, i32_w]
                  rfl
                refine done_ (done_of HT_.out (by kernel_rfl)) ?_
                try go_wp2
                go_roundg k1
                case measure => have := HK1.out; omega
                case rel => exact ⟨(wrap64 (x5_1 + ((rd_T72 l0_0 t359).f1))), (wrap64 (x12_1 + 1)), (by first | rfl | (simp; done) | (simp [*]; done)), (by first | rfl | (simp; done) | (simp [*]; done)), H', ⟨by have := HK1.out; omega⟩, ⟨by (with_reducible repeat (first | apply Kd.R_alloc | apply Kd.R_drewN | apply Kd.R_drew)); exact HO_10.out⟩, ⟨by exact BK354.out⟩, ⟨by repeat first | exact HB.out | apply pw_below_drewN⟩⟩
              · rw [if_neg c13] at H
                exact absurd H (by simp)
            · rw [if_neg c12] at H
              exact absurd H (by simp)
          · rw [if_neg c10] at H
            exact absurd H (by simp)
        · rw [if_neg c9] at H
          exact absurd H (by simp)
      · rw [if_neg c8] at H
        have c8b0 : decide (x12_1 < (t355.length : Int)) = false := decide_eq_false c8
        clear c8
        obtain rfl := Option.some.inj H
        go_wp2
        go_ret
        exact ⟨by first | rfl | (simp [*, errW_none, errW_some] <;> rfl), by repeat first | exact HB.out | apply pw_below_drewN⟩

/-! ### impl_Mix: function 108 -/
def impl_Mix.l0 : Nat → Int → List Int → Int → Int → Option (Int)
  | 0, _, _, _, _ => none
  | k + 1, x3, x6, x7, x8 => if x8 < x7 then (if 0 ≤ x8 then (if x8 < (x6.length : Int) then (impl_Mix.l0 k (Go.bits .xor .u32 (((Go.bits .xor .u32 (((Go.bits .xor .u32 x3 ((rd x6 x8) % 4294967296)) * 16777619) % 4294967296) ((((Go.bits .xor .u32 x3 ((rd x6 x8) % 4294967296)) * 16777619) % 4294967296) / 32768)) * 1540483477) % 4294967296) ((((Go.bits .xor .u32 (((Go.bits .xor .u32 x3 ((rd x6 x8) % 4294967296)) * 16777619) % 4294967296) ((((Go.bits .xor .u32 x3 ((rd x6 x8) % 4294967296)) * 16777619) % 4294967296) / 32768)) * 1540483477) % 4294967296) / 8192)) x6 x7 (wrap64 (x8 + 1))) else (none)) else (none)) else (some (wrap64 (x3)))
def impl_Mix.f (k : Nat) (l0 : List Int) : Option (Int) := impl_Mix.l0 k 2166136261 l0 (l0.length : Int) 0
set_option maxHeartbeats 8000000 in
set_option maxRecDepth 100000 in
theorem impl_Mix.calls (k : Nat) (A0 : Option Addr) (c0 : Nat) (l0 : List Int) (r : Int) (w : World) (hr0 : Kd.C (Kd.int .i64) w A0 l0.length l0) (hc0 : l0.length ≤ c0) (h : impl_Mix.f k l0 = some r) :
    Calls Tryz.prog 108 #[.slice A0 l0.length c0] w fun e w' => e = .returned (.int .i64 r) ∧ Drawn0 w w' := by
  have HR0 := Aside0.mk hr0
  have HC0 := Aside0.mk hc0
  clear hr0 hc0
  have H : (impl_Mix.l0 k 2166136261 l0 (l0.length : Int) 0) = some r := h
  clear h
  have H' := Aside0.mk H
  clear H
  go_enter Tryz.func108, Tryz.ntmps108
  go_wp2
  go_loopg [3, 8] k (fun kq v3 v8 w' => ∃ (x3_1 : Int) (x8_1 : Int), v3 = .int .u32 x3_1 ∧ v8 = .int .i64 x8_1 ∧ Aside0 (impl_Mix.l0 kq x3_1 l0 (l0.length : Int) x8_1 = some r) ∧ Aside0 (kq ≤ k) ∧ Drawn0 w w')
  case atStart => exact ⟨(2166136261), (0), (by first | rfl | (simp; done) | (simp [*]; done)), (by first | rfl | (simp; done) | (simp [*]; done)), H', ⟨Nat.le_refl _⟩, by repeat (first | exact Drawn0.refl _ | apply Drawn0.step)⟩
  case round =>
    clear H'
    try clear c1
    obtain ⟨x3_1, x8_1, rfl, rfl, HA, HK1, ⟨m1, rfl⟩⟩ := hrel
    cases gk with
    | zero => exact absurd HA.out (by simp [impl_Mix.l0])
    | succ k1 =>
      have H := HA.out
      clear HA
      simp only [impl_Mix.l0] at H
      by_cases c2 : x8_1 < (l0.length : Int)
      · rw [if_pos c2] at H
        have c2b0 : decide (x8_1 < (l0.length : Int)) = true := decide_eq_true c2
        clear c2
        by_cases c3 : 0 ≤ x8_1
        · rw [if_pos c3] at H
          have c3b0 : decide (0 ≤ x8_1) = true := decide_eq_true c3
          clear c3
          by_cases c4 : x8_1 < (l0.length : Int)
          · rw [if_pos c4] at H
            have c4b0 : decide (x8_1 < (l0.length : Int)) = true := decide_eq_true c4
            clear c4
            have H' := Aside0.mk H
            clear H
            have p361 : 0 ≤ (x8_1 : Int) := of_decide_eq_true (by assumption)
            have q361 : x8_1 < (l0.length : Int) := of_decide_eq_true (by assumption)
            obtain ⟨ad361, e361, hx361_0⟩ := Kd.at_int HR0.out x8_1 p361 q361
            cases e361
            replace p361 := eq_true p361
            replace q361 := eq_true q361
            go_wp2
            go_roundg k1
            case measure => have := HK1.out; omega
            case rel => exact ⟨(Go.bits .xor .u32 (((Go.bits .xor .u32 (((Go.bits .xor .u32 x3_1 ((rd l0 x8_1) % 4294967296)) * 16777619) % 4294967296) ((((Go.bits .xor .u32 x3_1 ((rd l0 x8_1) % 4294967296)) * 16777619) % 4294967296) / 32768)) * 1540483477) % 4294967296) ((((Go.bits .xor .u32 (((Go.bits .xor .u32 x3_1 ((rd l0 x8_1) % 4294967296)) * 16777619) % 4294967296) ((((Go.bits .xor .u32 x3_1 ((rd l0 x8_1) % 4294967296)) * 16777619) % 4294967296) / 32768)) * 1540483477) % 4294967296) / 8192)), (wrap64 (x8_1 + 1)), (by first | rfl | (simp; done) | (simp [*]; done)), (by first | rfl | (simp; done) | (simp [*]; done)), H', ⟨by have := HK1.out; omega⟩, by repeat (first | exact Drawn0.refl _ | apply Drawn0.step)⟩
          · rw [if_neg c4] at H
            exact absurd H (by simp)
        · rw [if_neg c3] at H
          exact absurd H (by simp)
      · rw [if_neg c2] at H
        have c2b0 : decide (x8_1 < (l0.length : Int)) = false := decide_eq_false c2
        clear c2
        obtain rfl := Option.some.inj H
        go_wp2
        go_ret
        exact ⟨by first | rfl | (simp; done) | (simp [*]; done), by repeat (first | exact Drawn0.refl _ | apply Drawn0.step)⟩

/-! ### impl_TicketOf: function 104 -/
def impl_TicketOf.f (k : Nat) (a0 : Int) (a1 : Int) (a2 : Int) (a3 : Int) : Option (Int) := (impl_Mix.f k (([a2, a3, a0, a1] : List Int))).bind fun t365 => (some t365)
set_option maxHeartbeats 8000000 in
set_option maxRecDepth 100000 in
theorem impl_TicketOf.calls (k : Nat) (a0 : Int) (a1 : Int) (a2 : Int) (a3 : Int) (r : Int) (w : World) (h : impl_TicketOf.f k a0 a1 a2 a3 = some r) :
    Calls Tryz.prog 104 #[.int .i64 a0, .int .i64 a1, .int .i64 a2, .int .i64 a3] w fun e w' => e = .returned (.int .i64 r) ∧ Below w.heap.size w w' := by
  have HB := Aside0.mk (Below.refl w.heap.size w)
  have H : ((impl_Mix.f k (([a2, a3, a0, a1] : List Int))).bind fun t365 => (some t365)) = some r := h
  clear h
  obtain ⟨y362, hy362⟩ : ∃ y_ : List Int, y_ = (([a2, a3, a0, a1] : List Int)) := ⟨_, rfl⟩
  replace H : ((impl_Mix.f k y362).bind fun t365 => (some t365)) = some r := by first | (rw [hy362]; with_reducible exact H) | (have H2_ := (Option.bind_some _ _).symm.trans H; rw [hy362]; with_reducible exact H2_) | (have H2_ := (Option.bind_some _ _).symm.trans H; with_reducible exact H2_) | with_reducible exact H | (rw [hy362]; exact H) | exact H
  have Ny362 := Aside0.mk hy362
  clear hy362
  replace H := Option.bind_eq_some_iff.mp H
  obtain ⟨t365, A50, H⟩ := H
  set_option simprocs false in try dsimp only at H
  have A5 := Aside0.mk A50
  clear A50
  obtain rfl := Option.some.inj H
  go_enter Tryz.func104, Tryz.ntmps104
  go_wp2_with (first | ((with_reducible refine gate_dst (N := 13) rfl ?_); refine Kd.R_lit (Kd.int .i64) _ 2 ?hg (N := 13) ?hd (xs := ([a2, a3, a0, a1] : List Int)) (inner := [.int .i64 a2, .int .i64 a3, .int .i64 a0, .int .i64 a1]) (ok := fun _ => True) (okp := fun _ => True) ?hr ?hp (fun _ hk => hk) trivial (Below.refl _ _) (Nat.le_refl _) (by simp) ?_; (case hd => rfl); (case hg => rfl); (case hr => first | (go_simp; done) | (go_simp; rfl)); (case hp => exact (Reps.one (show Kd.M (Kd.int .i64) _ _ _ a2 [.int .i64 a2] from rfl) (Reps.one (show Kd.M (Kd.int .i64) _ _ _ a3 [.int .i64 a3] from rfl) (Reps.one (show Kd.M (Kd.int .i64) _ _ _ a0 [.int .i64 a0] from rfl) (Reps.one (show Kd.M (Kd.int .i64) _ _ _ a1 [.int .i64 a1] from rfl) (Reps.none _ _)))))); intro v363 w6 ho7 hb hg_ hnew_; clear hg_ hnew_; (first | rw [← Ny362.out] at ho7 | (simp only [Int.reduceToNat] at ho7; rw [← Ny362.out] at ho7)); have n0_ := Aside0.mk (Kd.R_lower ho7 (below_size (by repeat first | exact HB.out | apply pw_below_drewN))); have n1_ := Aside0.mk (below_step (by repeat first | exact HB.out | apply pw_below_drewN) hb); clear HB; have HO364 := n0_; have HB := n1_; clear n0_ n1_; clear hb ho7; obtain ⟨Ao8, co8, eo8⟩ := Kd.R_slice HO364.out; subst eo8) | ((with_reducible refine gate_callee (f := 108) rfl ?_); refine goesL_ (some 14) rfl rfl Tryz.func108 (by kernel_rfl) rfl #[.slice Ao8 y362.length co8] rfl (by (try simp only [List.map_toArray, List.map_cons, List.map_nil]); first | done | rfl) ?_; (with_reducible refine (impl_Mix.calls k _ _ y362 t365 _ ?side1 ?side2 A5.out).mono ?_); (case side1 => exact (Kd.R_reads' HO364.out).2.2); (case side2 => exact (Kd.R_reads' HO364.out).2.1); rintro e w' ⟨rfl, ⟨nd, rfl⟩⟩; refine ⟨_, rfl, ?_⟩))
  go_ret
  exact ⟨by first | rfl | (simp [*, errW_none, errW_some] <;> rfl), by repeat first | exact HB.out | apply pw_below_drewN⟩

/-! ### impl_Item_best: function 99 -/
def impl_Item_best.l0 : Nat → Int → Int → Int → Int → Int → Int → Int → Option (Int)
  | 0, _, _, _, _, _, _, _ => none
  | k + 1, x1, x2, x7, x10, x11, x367000, x367001 => if x11 < x10 then ((impl_TicketOf.f k x367000 x11 x1 x2).bind fun t367 => (impl_Item_best.l0 k x1 x2 (mx x7 t367) x10 (wrap64 (x11 + 1)) x367000 x367001)) else (some x7)
def impl_Item_best.f (k : Nat) (a0_0 : Int) (a0_1 : Int) (a1 : Int) (a2 : Int) : Option (Int) := impl_Item_best.l0 k a1 a2 (-1) a0_1 0 a0_0 a0_1
set_option maxHeartbeats 8000000 in
set_option maxRecDepth 100000 in
theorem impl_Item_best.calls (k : Nat) (a0_0 : Int) (a0_1 : Int) (a1 : Int) (a2 : Int) (r : Int) (w : World) (h : impl_Item_best.f k a0_0 a0_1 a1 a2 = some r) :
    Calls Tryz.prog 99 #[.agg #[.int .i64 a0_0, .int .i64 a0_1], .int .i64 a1, .int .i64 a2] w fun e w' => e = .returned (.int .i64 r) ∧ Below w.heap.size w w' := by
  have hu109 := Tryz.underlying109
  have HB := Aside0.mk (Below.refl w.heap.size w)
  have H : (impl_Item_best.l0 k a1 a2 (-1) a0_1 0 a0_0 a0_1) = some r := h
  clear h
  have H' := Aside0.mk H
  clear H
  go_enter Tryz.func99, Tryz.ntmps99
  go_wp2_with (first | ((with_reducible refine gate_dst (N := 3) rfl ?_); refine box_event ?hg (N := 3) ?hd (cs := #[.int .i64 a0_0, .int .i64 a0_1]) (t := 109) ?hr ?_; (case hd => rfl); (case hg => rfl); (case hr => first | (go_simp; done) | (go_simp; rfl)); intro gb366 hg w4 hbox hb; have n0_ := Aside0.mk (below_step (by repeat first | exact HB.out | apply pw_below_drewN) hb); have n1_ := Aside0.mk (hbox); have n2_ := Aside0.mk ((by rw [hg]; exact (below_size (by repeat first | exact HB.out | apply pw_below_drewN)) : w.heap.size ≤ gb366)); have n3_ := Aside0.mk ((by rw [hg]; exact (below_size (by repeat first | exact HB.out | apply pw_below_drewN)) : w.heap.size ≤ gb366)); clear HB; have HB := n0_; have BK366 := n1_; have GW366 := n2_; have GE366 := n3_; clear n0_ n1_ n2_ n3_; clear hb hbox hg; have hcz5_0 := (blk_cell BK366.out 0).trans rfl; have hcz5_1 := (blk_cell BK366.out 1).trans rfl; have hfz5_0 := blk_frozen BK366.out 0; have hfz5_1 := blk_frozen BK366.out 1))
  go_loopg [7, 11] k (fun kq v7 v11 w' => ∃ (x7_1 : Int) (x11_1 : Int), v7 = .int .i64 x7_1 ∧ v11 = .int .i64 x11_1 ∧ Aside0 (impl_Item_best.l0 kq a1 a2 x7_1 a0_1 x11_1 a0_0 a0_1 = some r) ∧ Aside0 (kq ≤ k) ∧ Aside0 (w'.heap[gb366]? = some (.cells #[.int .i64 a0_0, .int .i64 a0_1] 109 (0, 0))) ∧ Aside0 (Below w.heap.size w w'))
  case atStart => exact ⟨((-1)), (0), (by first | rfl | (simp; done) | (simp [*]; done)), (by first | rfl | (simp; done) | (simp [*]; done)), H', ⟨Nat.le_refl _⟩, ⟨by exact BK366.out⟩, ⟨by repeat first | exact HB.out | apply pw_below_drewN⟩⟩
  case round =>
    clear H'
    try clear p2
    try clear hcz5_0
    try clear hcz5_1
    try clear hfz5_0
    try clear hfz5_1
    obtain ⟨x7_1, x11_1, rfl, rfl, HA, HK1, BK366, HB⟩ := hrel
    cases gk with
    | zero => exact absurd HA.out (by simp [impl_Item_best.l0])
    | succ k1 =>
      have H := HA.out
      clear HA
      simp only [impl_Item_best.l0] at H
      by_cases c6 : x11_1 < a0_1
      · rw [if_pos c6] at H
        have c6b0 : decide (x11_1 < a0_1) = true := decide_eq_true c6
        clear c6
        replace H := Option.bind_eq_some_iff.mp H
        obtain ⟨t367, A70, H⟩ := H
        set_option simprocs false in try dsimp only at H
        have A7 := Aside0.mk A70
        clear A70
        obtain ⟨ji8, hji8⟩ : ∃ j_ : Int, (mx x7_1 t367) = j_ := ⟨_, rfl⟩
        replace H : (impl_Item_best.l0 k1 a1 a2 ji8 a0_1 (wrap64 (x11_1 + 1)) a0_0 a0_1) = some r := by first | (rw [hji8] at H; exact H) | (simp only [hji8] at H ⊢; exact H)
        (try rw [hji8] at A7)
        have hji8_ : (if x7_1 < t367 then t367 else x7_1) = ji8 := hji8
        have H' := Aside0.mk H
        clear H
        have hcz9_0 := (blk_cell BK366.out 0).trans rfl
        have hcz9_1 := (blk_cell BK366.out 1).trans rfl
        have hfz9_0 := blk_frozen BK366.out 0
        have hfz9_1 := blk_frozen BK366.out 1
        go_wp2_with (first | ((with_reducible refine gate_callee (f := 104) rfl ?_); refine goesL_ (some 20) rfl rfl Tryz.func104 (by kernel_rfl) rfl #[.int .i64 a0_0, .int .i64 x11_1, .int .i64 a1, .int .i64 a2] rfl (by (try simp only [List.map_toArray, List.map_cons, List.map_nil]); first | done | rfl) ?_; (with_reducible refine (impl_TicketOf.calls k1 a0_0 x11_1 a1 a2 t367 _ A7.out).mono ?_); rintro e w10 ⟨rfl, hb⟩; refine ⟨_, rfl, ?_⟩; have n0_ := Aside0.mk (blk_below (by exact BK366.out) hb); have n1_ := Aside0.mk (below_step (by repeat first | exact HB.out | apply pw_below_drewN) hb); clear BK366; clear HB; have BK366 := n0_; have HB := n1_; clear n0_ n1_; (try clear hb); (try clear hb2); (try clear hk); (try clear hi)))
        go_roundg k1
        case measure => have := HK1.out; omega
        case rel => exact ⟨(ji8), (wrap64 (x11_1 + 1)), (by first | rfl | (simp; done) | (simp only [← hji8] <;> (first | rfl | simp)) | (simp [*]; done)), (by first | rfl | (simp; done) | (simp [*]; done)), H', ⟨by have := HK1.out; omega⟩, ⟨by exact BK366.out⟩, ⟨by repeat first | exact HB.out | apply pw_below_drewN⟩⟩
      · rw [if_neg c6] at H
        have c6b0 : decide (x11_1 < a0_1) = false := decide_eq_false c6
        clear c6
        obtain rfl := Option.some.inj H
        go_wp2
        go_ret
        exact ⟨by first | rfl | (simp [*, errW_none, errW_some] <;> rfl), by repeat first | exact HB.out | apply pw_below_drewN⟩

/-! ### impl_choose: function 94 -/
def impl_choose.l0 : Nat → Int → Int → Int → Int → List (S109) → Int → Int → Option (Int × Bool)
  | 0, _, _, _, _, _, _, _ => none
  | k + 1, x1, x2, x8, x9, x13, x14, x15 => if x15 < x14 then (if 0 ≤ x15 then (if x15 < (x13.length : Int) then ((impl_Item_best.f k ((rd_T109 x13 x15).f0) ((rd_T109 x13 x15).f1) x1 x2).bind fun t370 => (if t370 > x8 then (impl_choose.l0 k x1 x2 t370 ((rd_T109 x13 x15).f0) x13 x14 (wrap64 (x15 + 1))) else (impl_choose.l0 k x1 x2 x8 x9 x13 x14 (wrap64 (x15 + 1))))) else (none)) else (none)) else (some (x9, decide (x8 ≥ 0)))
def impl_choose.f (k : Nat) (l0 : List (S109)) (a1 : Int) (a2 : Int) : Option (Int × Bool) := impl_choose.l0 k a1 a2 (-1) 0 l0 (l0.length : Int) 0
set_option maxHeartbeats 8000000 in
set_option maxRecDepth 100000 in
theorem impl_choose.calls (k : Nat) (A0 : Option Addr) (c0 : Nat) (l0 : List (S109)) (a1 : Int) (a2 : Int) (r1 : Int) (r2 : Bool) (w : World) (hr0 : Kd.C k109 w A0 l0.length l0) (hc0 : l0.length ≤ c0) (h : impl_choose.f k l0 a1 a2 = some (r1, r2)) :
    Calls Tryz.prog 94 #[.slice A0 l0.length c0, .int .i64 a1, .int .i64 a2] w fun e w' => e = .returned (.tuple #[.int .i64 r1, .bool r2]) ∧ Below w.heap.size w w' := by
  have hu109 := Tryz.underlying109
  have HR0 := Aside0.mk hr0
  have HC0 := Aside0.mk hc0
  clear hr0 hc0
  have HB := Aside0.mk (Below.refl w.heap.size w)
  have H : (impl_choose.l0 k a1 a2 (-1) 0 l0 (l0.length : Int) 0) = some (r1, r2) := h
  clear h
  have H' := Aside0.mk H
  clear H
  go_enter Tryz.func94, Tryz.ntmps94
  go_wp2
  repeat (go_quiet (fail); try go_wp2)
  go_loopg [8, 9, 15] k (fun kq v8 v9 v15 w' => ∃ (x8_1 : Int) (x9_1 : Int) (x15_1 : Int), v8 = .int .i64 x8_1 ∧ v9 = .int .i64 x9_1 ∧ v15 = .int .i64 x15_1 ∧ Aside0 (impl_choose.l0 kq a1 a2 x8_1 x9_1 l0 (l0.length : Int) x15_1 = some (r1, r2)) ∧ Aside0 (kq ≤ k) ∧ Aside0 (Below w.heap.size w w'))
  case atStart => exact ⟨((-1)), (0), (0), (by first | rfl | (simp; done) | (simp [*]; done)), (by first | rfl | (simp; done) | (simp [*]; done)), (by first | rfl | (simp; done) | (simp [*]; done)), H', ⟨Nat.le_refl _⟩, ⟨by repeat first | exact HB.out | apply below_alloc | apply pw_below_drewN | apply below_drew1⟩⟩
  case round =>
    clear H'
    try clear p2
    obtain ⟨x8_1, x9_1, x15_1, rfl, rfl, rfl, HA, HK1, HB⟩ := hrel
    cases gk with
    | zero => exact absurd HA.out (by simp [impl_choose.l0])
    | succ k1 =>
      have H := HA.out
      clear HA
      simp only [impl_choose.l0] at H
      by_cases c4 : x15_1 < (l0.length : Int)
      · rw [if_pos c4] at H
        have c4b0 : decide (x15_1 < (l0.length : Int)) = true := decide_eq_true c4
        clear c4
        by_cases c5 : 0 ≤ x15_1
        · rw [if_pos c5] at H
          have c5b0 : decide (0 ≤ x15_1) = true := decide_eq_true c5
          clear c5
          by_cases c6 : x15_1 < (l0.length : Int)
          · rw [if_pos c6] at H
            have c6b0 : decide (x15_1 < (l0.length : Int)) = true := decide_eq_true c6
            clear c6
            replace H := Option.bind_eq_some_iff.mp H
            obtain ⟨t370, A70, H⟩ := H
            replace H : (if t370 > x8_1 then (impl_choose.l0 k1 a1 a2 t370 ((rd_T109 l0 x15_1).f0) l0 (l0.length : Int) (wrap64 (x15_1 + 1))) else (impl_choose.l0 k1 a1 a2 x8_1 x9_1 l0 (l0.length : Int) (wrap64 (x15_1 + 1)))) = some (r1, r2) := H
            have A7 := Aside0.mk A70
            clear A70
            by_cases c8 : t370 > x8_1
            · rw [if_pos c8] at H
              have c8b0 : decide (x8_1 < t370) = true := decide_eq_true c8
              clear c8
              have H' := Aside0.mk H
              clear H
              have p368 : 0 ≤ (x15_1 : Int) := of_decide_eq_true (by assumption)
              have q368 : x15_1 < (l0.length : Int) := of_decide_eq_true (by assumption)
              obtain ⟨ad368, e368, hx368_0, hx368_1⟩ := at_T109 HR0.out x15_1 p368 q368
              cases e368
              replace hx368_0 := (HB.out.cell (World.block_lt_of_cell? w _ hx368_0)).trans hx368_0
              replace hx368_1 := (HB.out.cell (World.block_lt_of_cell? w _ hx368_1)).trans hx368_1
              replace p368 := eq_true p368
              replace q368 := eq_true q368
              go_wp2_with (first | ((with_reducible refine gate_dst (N := 11) rfl ?_); refine box_event ?hg (N := 11) ?hd (cs := #[.int .i64 0, .int .i64 0]) (t := 109) ?hr ?_; (case hd => rfl); (case hg => rfl); (case hr => first | (go_simp; done) | (go_simp; rfl)); intro gb369 hg w9 hbox hb; have n0_ := Aside0.mk (below_step (by repeat first | exact HB.out | apply below_alloc | apply pw_below_drewN | apply below_drew1) hb); have n1_ := Aside0.mk (hbox); have n2_ := Aside0.mk ((by rw [hg]; exact (below_size (by repeat first | exact HB.out | apply below_alloc | apply pw_below_drewN | apply below_drew1)) : w.heap.size ≤ gb369)); have n3_ := Aside0.mk ((by rw [hg]; exact (below_size (by repeat first | exact HB.out | apply below_alloc | apply pw_below_drewN | apply below_drew1)) : w.heap.size ≤ gb369)); clear HB; have HB := n0_; have BK369 := n1_; have GW369 := n2_; have GE369 := n3_; clear n0_ n1_ n2_ n3_; clear hb hbox hg; have hcz10_0 := (blk_cell BK369.out 0).trans rfl; have hcz10_1 := (blk_cell BK369.out 1).trans rfl; have hfz10_0 := blk_frozen BK369.out 0; have hfz10_1 := blk_frozen BK369.out 1) | (go_at_call 99; (with_reducible refine (impl_Item_best.calls k1 ((rd_T109 l0 x15_1).f0) ((rd_T109 l0 x15_1).f1) a1 a2 t370 _ A7.out).mono ?_); rintro e w11 ⟨rfl, hb⟩; have n0_ := Aside0.mk (blk_below (g := gb369) (o := .cells #[.int .i64 ((rd_T109 l0 x15_1).f0), .int .i64 ((rd_T109 l0 x15_1).f1)] 109 (0, 0)) (by (with_reducible repeat first | apply blk_drewN | apply blk_drew | apply blk_alloc); refine blk_put (cs := #[.int .i64 ((rd_T109 l0 x15_1).f0), .int .i64 0]) ?_ 1 _ rfl; (with_reducible repeat first | apply blk_drewN | apply blk_drew | apply blk_alloc); refine blk_put (cs := #[.int .i64 0, .int .i64 0]) ?_ 0 _ rfl; (with_reducible repeat first | apply blk_drewN | apply blk_drew | apply blk_alloc); exact BK369.out) hb); have n1_ := Aside0.mk (below_step (by repeat (first | (with_reducible first | exact HB.out | apply below_alloc | apply pw_below_drewN | apply below_drew1 | refine below_set ?_ GE369.out) | exact HB.out)) hb); clear BK369; clear HB; have BK369 := n0_; have HB := n1_; clear n0_ n1_; (try clear hb); (try clear hb2); (try clear hk); (try clear hi); have hcz12_0 := (blk_cell BK369.out 0).trans rfl; have hcz12_1 := (blk_cell BK369.out 1).trans rfl; have hfz12_0 := blk_frozen BK369.out 0; have hfz12_1 := blk_frozen BK369.out 1))
              repeat (go_quiet (first | ((with_reducible refine gate_dst (N := 11) rfl ?_); refine box_event ?hg (N := 11) ?hd (cs := #[.int .i64 0, .int .i64 0]) (t := 109) ?hr ?_; (case hd => rfl); (case hg => rfl); (case hr => first | (go_simp; done) | (go_simp; rfl)); intro gb369 hg w9 hbox hb; have n0_ := Aside0.mk (below_step (by repeat first | exact HB.out | apply below_alloc | apply pw_below_drewN | apply below_drew1) hb); have n1_ := Aside0.mk (hbox); have n2_ := Aside0.mk ((by rw [hg]; exact (below_size (by repeat first | exact HB.out | apply below_alloc | apply pw_below_drewN | apply below_drew1)) : w.heap.size ≤ gb369)); have n3_ := Aside0.mk ((by rw [hg]; exact (below_size (by repeat first | exact HB.out | apply below_alloc | apply pw_below_drewN | apply below_drew1)) : w.heap.size ≤ gb369)); clear HB; have HB := n0_; have BK369 := n1_; have GW369 := n2_; have GE369 := n3_; clear n0_ n1_ n2_ n3_; clear hb hbox hg; have hcz10_0 := (blk_cell BK369.out 0).trans rfl; have hcz10_1 := (blk_cell BK369.out 1).trans rfl; have hfz10_0 := blk_frozen BK369.out 0; have hfz10_1 := blk_frozen BK369.out 1) | (go_at_call 99; (with_reducible refine (impl_Item_best.calls k1 ((rd_T109 l0 x15_1).f0) ((rd_T109 l0 x15_1).f1) a1 a2 t370 _ A7.out).mono ?_); rintro e w11 ⟨rfl, hb⟩; have n0_ := Aside0.mk (blk_below (g := gb369) (o := .cells #[.int .i64 ((rd_T109 l0 x15_1).f0), .int .i64 ((rd_T109 l0 x15_1).f1)] 109 (0, 0)) (by (with_reducible repeat first | apply blk_drewN | apply blk_drew | apply blk_alloc); refine blk_put (cs := #[.int .i64 ((rd_T109 l0 x15_1).f0), .int .i64 0]) ?_ 1 _ rfl; (with_reducible repeat first | apply blk_drewN | apply blk_drew | apply blk_alloc); refine blk_put (cs := #[.int .i64 0, .int .i64 0]) ?_ 0 _ rfl; (with_reducible repeat first | apply blk_drewN | apply blk_drew | apply blk_alloc); exact BK369.out) hb); have n1_ := Aside0.mk (below_step (by repeat (first | (with_reducible first | exact HB.out | apply below_alloc | apply pw_below_drewN | apply below_drew1 | refine below_set ?_ GE369.out) | exact HB.out)) hb); clear BK369; clear HB; have BK369 := n0_; have HB := n1_; clear n0_ n1_; (try clear hb); (try clear hb2); (try clear hk); (try clear hi); have hcz12_0 := (blk_cell BK369.out 0).trans rfl; have hcz12_1 := (blk_cell BK369.out 1).trans rfl; have hfz12_0 := blk_frozen BK369.out 0; have hfz12_1 := blk_frozen BK369.out 1)); try go_wp2_with (first | ((with_reducible refine gate_dst (N := 11) rfl ?_); refine box_event ?hg (N := 11) ?hd (cs := #[.int .i64 0, .int .i64 0]) (t := 109) ?hr ?_; (case hd => rfl); (case hg => rfl); (case hr => first | (go_simp; done) | (go_simp; rfl)); intro gb369 hg w9 hbox hb; have n0_ := Aside0.mk (below_step (by repeat first | exact HB.out | apply below_alloc | apply pw_below_drewN | apply below_drew1) hb); have n1_ := Aside0.mk (hbox); have n2_ := Aside0.mk ((by rw [hg]; exact (below_size (by repeat first | exact HB.out | apply below_alloc | apply pw_below_drewN | apply below_drew1)) : w.heap.size ≤ gb369)); have n3_ := Aside0.mk ((by rw [hg]; exact (below_size (by repeat first | exact HB.out | apply below_alloc | apply pw_below_drewN | apply below_drew1)) : w.heap.size ≤ gb369)); clear HB; have HB := n0_; have BK369 := n1_; have GW369 := n2_; have GE369 := n3_; clear n0_ n1_ n2_ n3_; clear hb hbox hg; have hcz10_0 := (blk_cell BK369.out 0).trans rfl; have hcz10_1 := (blk_cell BK369.out 1).trans rfl; have hfz10_0 := blk_frozen BK369.out 0; have hfz10_1 := blk_frozen BK369.out 1) | (go_at_call 99; (with_reducible refine (impl_Item_best.calls k1 ((rd_T109 l0 x15_1).f0) ((rd_T109 l0 x15_1).f1) a1 a2 t370 _ A7.out).mono ?_); rintro e w11 ⟨rfl, hb⟩; have n0_ := Aside0.mk (blk_below (g := gb369) (o := .cells #[.int .i64 ((rd_T109 l0 x15_1).f0), .int .i64 ((rd_T109 l0 x15_1).f1)] 109 (0, 0)) (by (with_reducible repeat first | apply blk_drewN | apply blk_drew | apply blk_alloc); refine blk_put (cs := #[.int .i64 ((rd_T109 l0 x15_1).f0), .int .i64 0]) ?_ 1 _ rfl; (with_reducible repeat first | apply blk_drewN | apply blk_drew | apply blk_alloc); refine blk_put (cs := #[.int .i64 0, .int .i64 0]) ?_ 0 _ rfl; (with_reducible repeat first | apply blk_drewN | apply blk_drew | apply blk_alloc); exact BK369.out) hb); have n1_ := Aside0.mk (below_step (by repeat (first | (with_reducible first | exact HB.out | apply below_alloc | apply pw_below_drewN | apply below_drew1 | refine below_set ?_ GE369.out) | exact HB.out)) hb); clear BK369; clear HB; have BK369 := n0_; have HB := n1_; clear n0_ n1_; (try clear hb); (try clear hb2); (try clear hk); (try clear hi); have hcz12_0 := (blk_cell BK369.out 0).trans rfl; have hcz12_1 := (blk_cell BK369.out 1).trans rfl; have hfz12_0 := blk_frozen BK369.out 0; have hfz12_1 := blk_frozen BK369.out 1)))
              go_roundg k1
              case measure => have := HK1.out; omega
              case rel => exact ⟨(t370), ((rd_T109 l0 x15_1).f0), (wrap64 (x15_1 + 1)), (by first | rfl | (simp; done) | (simp [*]; done)), (by first | rfl | (simp; done) | (simp [*]; done)), (by first | rfl | (simp; done) | (simp [*]; done)), H', ⟨by have := HK1.out; omega⟩, ⟨by repeat (first | (with_reducible first | exact HB.out | apply below_alloc | apply pw_below_drewN | apply below_drew1 | refine below_set ?_ GE369.out) | exact HB.out)⟩⟩
            · rw [if_neg c8] at H
              have c8b0 : decide (x8_1 < t370) = false := decide_eq_false c8
              clear c8
              have H' := Aside0.mk H
              clear H
              have p368 : 0 ≤ (x15_1 : Int) := of_decide_eq_true (by assumption)
              have q368 : x15_1 < (l0.length : Int) := of_decide_eq_true (by assumption)
              obtain ⟨ad368, e368, hx368_0, hx368_1⟩ := at_T109 HR0.out x15_1 p368 q368
              cases e368
              replace hx368_0 := (HB.out.cell (World.block_lt_of_cell? w _ hx368_0)).trans hx368_0
              replace hx368_1 := (HB.out.cell (World.block_lt_of_cell? w _ hx368_1)).trans hx368_1
              replace p368 := eq_true p368
              replace q368 := eq_true q368
              go_wp2_with (first | ((with_reducible refine gate_dst (N := 11) rfl ?_); refine box_event ?hg (N := 11) ?hd (cs := #[.int .i64 0, .int .i64 0]) (t := 109) ?hr ?_; (case hd => rfl); (case hg => rfl); (case hr => first | (go_simp; done) | (go_simp; rfl)); intro gb369 hg w13 hbox hb; have n0_ := Aside0.mk (below_step (by repeat first | exact HB.out | apply below_alloc | apply pw_below_drewN | apply below_drew1) hb); have n1_ := Aside0.mk (hbox); have n2_ := Aside0.mk ((by rw [hg]; exact (below_size (by repeat first | exact HB.out | apply below_alloc | apply pw_below_drewN | apply below_drew1)) : w.heap.size ≤ gb369)); have n3_ := Aside0.mk ((by rw [hg]; exact (below_size (by repeat first | exact HB.out | apply below_alloc | apply pw_below_drewN | apply below_drew1)) : w.heap.size ≤ gb369)); clear HB; have HB := n0_; have BK369 := n1_; have GW369 := n2_; have GE369 := n3_; clear n0_ n1_ n2_ n3_; clear hb hbox hg; have hcz14_0 := (blk_cell BK369.out 0).trans rfl; have hcz14_1 := (blk_cell BK369.out 1).trans rfl; have hfz14_0 := blk_frozen BK369.out 0; have hfz14_1 := blk_frozen BK369.out 1) | (go_at_call 99; (with_reducible refine (impl_Item_best.calls k1 ((rd_T109 l0 x15_1).f0) ((rd_T109 l0 x15_1).f1) a1 a2 t370 _ A7.out).mono ?_); rintro e w15 ⟨rfl, hb⟩; have n0_ := Aside0.mk (blk_below (g := gb369) (o := .cells #[.int .i64 ((rd_T109 l0 x15_1).f0), .int .i64 ((rd_T109 l0 x15_1).f1)] 109 (0, 0)) (by (with_reducible repeat first | apply blk_drewN | apply blk_drew | apply blk_alloc); refine blk_put (cs := #[.int .i64 ((rd_T109 l0 x15_1).f0), .int .i64 0]) ?_ 1 _ rfl; (with_reducible repeat first | apply blk_drewN | apply blk_drew | apply blk_alloc); refine blk_put (cs := #[.int .i64 0, .int .i64 0]) ?_ 0 _ rfl; (with_reducible repeat first | apply blk_drewN | apply blk_drew | apply blk_alloc); exact BK369.out) hb); have n1_ := Aside0.mk (below_step (by repeat (first | (with_reducible first | exact HB.out | apply below_alloc | apply pw_below_drewN | apply below_drew1 | refine below_set ?_ GE369.out) | exact HB.out)) hb); clear BK369; clear HB; have BK369 := n0_; have HB := n1_; clear n0_ n1_; (try clear hb); (try clear hb2); (try clear hk); (try clear hi)))
              repeat (go_quiet (first | ((with_reducible refine gate_dst (N := 11) rfl ?_); refine box_event ?hg (N := 11) ?hd (cs := #[.int .i64 0, .int .i64 0]) (t := 109) ?hr ?_; (case hd => rfl); (case hg => rfl); (case hr => first | (go_simp; done) | (go_simp; rfl)); intro gb369 hg w13 hbox hb; have n0_ := Aside0.mk (below_step (by repeat first | exact HB.out | apply below_alloc | apply pw_below_drewN | apply below_drew1) hb); have n1_ := Aside0.mk (hbox); have n2_ := Aside0.mk ((by rw [hg]; exact (below_size (by repeat first | exact HB.out | apply below_alloc | apply pw_below_drewN | apply below_drew1)) : w.heap.size ≤ gb369)); have n3_ := Aside0.mk ((by rw [hg]; exact (below_size (by repeat first | exact HB.out | apply below_alloc | apply pw_below_drewN | apply below_drew1)) : w.heap.size ≤ gb369)); clear HB; have HB := n0_; have BK369 := n1_; have GW369 := n2_; have GE369 := n3_; clear n0_ n1_ n2_ n3_; clear hb hbox hg; have hcz14_0 := (blk_cell BK369.out 0).trans rfl; have hcz14_1 := (blk_cell BK369.out 1).trans rfl; have hfz14_0 := blk_frozen BK369.out 0; have hfz14_1 := blk_frozen BK369.out 1) | (go_at_call 99; (with_reducible refine (impl_Item_best.calls k1 ((rd_T109 l0 x15_1).f0) ((rd_T109 l0 x15_1).f1) a1 a2 t370 _ A7.out).mono ?_); rintro e w15 ⟨rfl, hb⟩; have n0_ := Aside0.mk (blk_below (g := gb369) (o := .cells #[.int .i64 ((rd_T109 l0 x15_1).f0), .int .i64 ((rd_T109 l0 x15_1).f1)] 109 (0, 0)) (by (with_reducible repeat first | apply blk_drewN | apply blk_drew | apply blk_alloc); refine blk_put (cs := #[.int .i64 ((rd_T109 l0 x15_1).f0), .int .i64 0]) ?_ 1 _ rfl; (with_reducible repeat first | apply blk_drewN | apply blk_drew | apply blk_alloc); refine blk_put (cs := #[.int .i64 0, .int .i64 0]) ?_ 0 _ rfl; (with_reducible repeat first | apply blk_drewN | apply blk_drew | apply blk_alloc); exact BK369.out) hb); have n1_ := Aside0.mk (below_step (by repeat (first | (with_reducible first | exact HB.out | apply below_alloc | apply pw_below_drewN | apply below_drew1 | refine below_set ?_ GE369.out) | exact HB.out)) hb); clear BK369; clear HB; have BK369 := n0_; have HB := n1_; clear n0_ n1_; (try clear hb); (try clear hb2); (try clear hk); (try clear hi))); try go_wp2_with (first | ((with_reducible refine gate_dst (N := 11) rfl ?_); refine box_event ?hg (N := 11) ?hd (cs := #[.int .i64 0, .int .i64 0]) (t := 109) ?hr ?_; (case hd => rfl); (case hg => rfl); (case hr => first | (go_simp; done) | (go_simp; rfl)); intro gb369 hg w13 hbox hb; have n0_ := Aside0.mk (below_step (by repeat first | exact HB.out | apply below_alloc | apply pw_below_drewN | apply below_drew1) hb); have n1_ := Aside0.mk (hbox); have n2_ := Aside0.mk ((by rw [hg]; exact (below_size (by repeat first | exact HB.out | apply below_alloc | apply pw_below_drewN | apply below_drew1)) : w.heap.size ≤ gb369)); have n3_ := Aside0.mk ((by rw [hg]; exact (below_size (by repeat first | exact HB.out | apply below_alloc | apply pw_below_drewN | apply below_drew1)) : w.heap.size ≤ gb369)); clear HB; have HB := n0_; have BK369 := n1_; have GW369 := n2_; have GE369 := n3_; clear n0_ n1_ n2_ n3_; clear hb hbox hg; have hcz14_0 := (blk_cell BK369.out 0).trans rfl; have hcz14_1 := (blk_cell BK369.out 1).trans rfl; have hfz14_0 := blk_frozen BK369.out 0; have hfz14_1 := blk_frozen BK369.out 1) | (go_at_call 99; (with_reducible refine (impl_Item_best.calls k1 ((rd_T109 l0 x15_1).f0) ((rd_T109 l0 x15_1).f1) a1 a2 t370 _ A7.out).mono ?_); rintro e w15 ⟨rfl, hb⟩; have n0_ := Aside0.mk (blk_below (g := gb369) (o := .cells #[.int .i64 ((rd_T109 l0 x15_1).f0), .int .i64 ((rd_T109 l0 x15_1).f1)] 109 (0, 0)) (by (with_reducible repeat first | apply blk_drewN | apply blk_drew | apply blk_alloc); refine blk_put (cs := #[.int .i64 ((rd_T109 l0 x15_1).f0), .int .i64 0]) ?_ 1 _ rfl; (with_reducible repeat first | apply blk_drewN | apply blk_drew | apply blk_alloc); refine blk_put (cs := #[.int .i64 0, .int .i64 0]) ?_ 0 _ rfl; (with_reducible repeat first | apply blk_drewN | apply blk_drew | apply blk_alloc); exact BK369.out) hb); have n1_ := Aside0.mk (below_step (by repeat (first | (with_reducible first | exact HB.out | apply below_alloc | apply pw_below_drewN | apply below_drew1 | refine below_set ?_ GE369.out) | exact HB.out)) hb); clear BK369; clear HB; have BK369 := n0_; have HB := n1_; clear n0_ n1_; (try clear hb); (try clear hb2); (try clear hk); (try clear hi))))
              go_roundg k1
              case measure => have := HK1.out; omega
              case rel => exact ⟨(x8_1), (x9_1), (wrap64 (x15_1 + 1)), (by first | rfl | (simp; done) | (simp [*]; done)), (by first | rfl | (simp; done) | (simp [*]; done)), (by first | rfl | (simp; done) | (simp [*]; done)), H', ⟨by have := HK1.out; omega⟩, ⟨by repeat (first | (with_reducible first | exact HB.out | apply below_alloc | apply pw_below_drewN | apply below_drew1 | refine below_set ?_ GE369.out) | exact HB.out)⟩⟩
          · rw [if_neg c6] at H
            exact absurd H (by simp)
        · rw [if_neg c5] at H
          exact absurd H (by simp)
      · rw [if_neg c4] at H
        have c4b0 : decide (x15_1 < (l0.length : Int)) = false := decide_eq_false c4
        clear c4
        simp only [Option.some.injEq, Prod.mk.injEq] at H
        obtain ⟨rfl, rfl⟩ := H
        go_wp2
        repeat (go_quiet (fail); try go_wp2)
        go_ret2
        exact ⟨by first | rfl | (simp [*, errW_none, errW_some] <;> rfl), by repeat first | exact HB.out | apply below_alloc | apply pw_below_drewN | apply below_drew1⟩

/-! ### impl_Tree_chooseIn: function 82 -/
/-- items with their weights, one behind the other -/
def itemsW (g : Int → Option Int) : List (S109) → List Int → Option (List (S109))
  | out, [] => some out
  | out, x :: xs => (g x).bind fun t => if out.length < 1048576 then itemsW g (out ++ [⟨x, t⟩]) xs else none
theorem itemsW_here (g : Int → Option Int) (out : List (S109)) (l : List Int) (i : Int) (h0 : 0 ≤ i) (h1 : i < (l.length : Int)) : itemsW g out (l.drop i.toNat) = (g (rd l i)).bind fun t => if out.length < 1048576 then itemsW g (out ++ [⟨rd l i, t⟩]) (l.drop (i + 1).toNat) else none := by
  obtain ⟨n, rfl⟩ := Int.eq_ofNat_of_zero_le h0
  have hl : n < l.length := by omega
  have e : ((n : Int) + 1).toNat = n + 1 := by omega
  have er : rd l (n : Int) = l[n] := by unfold rd; rw [Int.toNat_natCast, List.getD_eq_getElem?_getD, List.getElem?_eq_getElem hl]; rfl
  rw [e, Int.toNat_natCast, List.drop_eq_getElem_cons hl, er]
  rfl
def impl_Tree_chooseIn.f (k : Nat) (l0_0 : List (S72)) (l0_1 : List (S68)) (a1 a2 a3 : Int) : Option (Int × Bool) :=
  if bucketAt l0_1 a1 < 0 then some (0, false) else (itemsW (fun x => impl_Tree_weight.f k l0_0 l0_1 x) [] (rd_T68 l0_1 (bucketAt l0_1 a1)).f2).bind fun l => impl_choose.f k l a2 a3
set_option maxHeartbeats 4000000 in
set_option maxRecDepth 100000 in
theorem impl_Tree_chooseIn.calls (k : Nat) (A0_0 : Option Addr) (c0_0 : Nat) (l0_0 : List (S72)) (A0_1 : Option Addr) (c0_1 : Nat) (l0_1 : List (S68)) (a1 : Int) (a2 : Int) (a3 : Int) (r1 : Int) (r2 : Bool) (w : World) (hr0_0 : Kd.C k72 w A0_0 l0_0.length l0_0) (hc0_0 : l0_0.length ≤ c0_0) (hr0_1 : Kd.C k68 w A0_1 l0_1.length l0_1) (hc0_1 : l0_1.length ≤ c0_1) (h : impl_Tree_chooseIn.f k l0_0 l0_1 a1 a2 a3 = some (r1, r2)) :
    Calls Tryz.prog 82 #[.agg #[.slice A0_0 l0_0.length c0_0, .slice A0_1 l0_1.length c0_1], .int .i64 a1, .int .i64 a2, .int .i64 a3] w fun e w' => e = .returned (.tuple #[.int .i64 r1, .bool r2]) ∧ Below w.heap.size w w' := by
  have HR0 := Aside0.mk hr0_0
  have HR1 := Aside0.mk hr0_1
  have HC0 := Aside0.mk hc0_0
  have HC1 := Aside0.mk hc0_1
  clear hr0_0 hr0_1 hc0_0 hc0_1
  unfold impl_Tree_chooseIn.f at h
  by_cases hb : bucketAt l0_1 a1 < 0
  · rw [if_pos hb] at h
    obtain ⟨rfl, rfl⟩ := (show r1 = 0 ∧ r2 = false from by have := (Option.some.inj h).symm; simpa using this)
    clear h
    go_enter Tryz.func82, Tryz.ntmps82
    go_wp2_with fail
    have HB := Aside0.mk (below_alloc (Below.refl w.heap.size w) (.cells #[.slice A0_0 l0_0.length c0_0, .slice A0_1 l0_1.length c0_1] 35))
    refine (bucket_none.calls A0_0 c0_0 l0_0 A0_1 c0_1 l0_1 a1 _ (Kd.C_below HR1.out HB.out) hb).mono ?_
    rintro e w1 ⟨rfl, hb1⟩
    replace HB := Aside0.mk (below_step HB.out hb1)
    clear hb1 hb
    go_wp2_with fail
    go_ret2
    exact ⟨rfl, HB.out⟩
  · rw [if_neg hb] at h
    obtain ⟨tot, htot, hch⟩ := Option.bind_eq_some_iff.1 h
    have hb0 : 0 ≤ bucketAt l0_1 a1 := by omega
    have hlt := bucketAt_lt l0_1 a1 hb0
    obtain ⟨ad, A2, c2, rfl, hx0, hx1, hx2, hl2, hg2⟩ := at_T68 HR1.out _ hb0 hlt
    have HCH := Aside0.mk hch
    have HT := Aside0.mk (show itemsW (fun x => impl_Tree_weight.f k l0_0 l0_1 x) [] ((rd_T68 l0_1 (bucketAt l0_1 a1)).f2.drop (0 : Int).toNat) = some tot from htot)
    have HX2 := Aside0.mk hx2
    have HG2 := Aside0.mk hg2
    clear h htot hch hb hx0 hx1 hx2 hl2 hg2
    go_enter Tryz.func82, Tryz.ntmps82
    go_wp2_with fail
    have BK := Aside0.mk (blk_new w (.cells #[.slice A0_0 l0_0.length c0_0, .slice (some ad) l0_1.length c0_1] 35))
    have HB := Aside0.mk (below_alloc (Below.refl w.heap.size w) (.cells #[.slice A0_0 l0_0.length c0_0, .slice (some ad) l0_1.length c0_1] 35))
    refine (bucket_some.calls A0_0 c0_0 l0_0 (some ad) c0_1 l0_1 a1 _ (Kd.C_below HR1.out HB.out) ad rfl hb0).mono ?_
    rintro e w1 ⟨rfl, hb1⟩
    replace BK := Aside0.mk (blk_below BK.out hb1)
    replace HB := Aside0.mk (below_step HB.out hb1)
    clear hb1
    have hx2 := (HB.out.cell (World.block_lt_of_cell? w _ HX2.out)).trans HX2.out
    clear HX2 hb0 hlt
    generalize bucketAt l0_1 a1 = j at hx2 HT HG2 ⊢
    generalize (rd_T68 l0_1 j).f2 = items at hx2 HT HG2
    have hmi := Kd.C_max HG2.out
    go_wp2_with fail
    clear hx2
    obtain ⟨gt, hgt⟩ : ∃ g, g = w.heap.size := ⟨_, rfl⟩
    rw [← hgt] at BK ⊢
    clear hgt
    go_loopg [11, 24] items.length (fun gg s11 s24 wr => ∃ (kk : Int) (out : List (S109)), 0 ≤ kk ∧ kk ≤ items.length ∧ (items.length : Int) - kk ≤ gg ∧ s24 = .int .i64 kk ∧ out.length ≤ 1048576 ∧ Aside0 (Below w.heap.size w wr) ∧ Aside0 (wr.heap[gt]? = some (.cells #[.slice A0_0 l0_0.length c0_0, .slice (some ad) l0_1.length c0_1] 35 (0, 0))) ∧ Aside0 (Kd.R k109 109 wr w.heap.size (fun _ => True) s11 out) ∧ Aside0 (itemsW (fun x => impl_Tree_weight.f k l0_0 l0_1 x) out (items.drop kk.toNat) = some tot))
    case atStart => exact ⟨0, [], by omega, by omega, by omega, rfl, by simp, HB, BK, ⟨Kd.R_nil _ _ _ _ _⟩, HT⟩
    case round =>
      clear HB BK HT
      obtain ⟨kk, out, h0, hk, hg, rfl, hol, HB, BK, HO, HT⟩ := hrel
      have ht0 := (blk_cell BK.out 0).trans rfl
      have ht1 := (blk_cell BK.out 1).trans rfl
      by_cases hlt : kk < (items.length : Int)
      · obtain ⟨ae, rfl, hy0⟩ := Kd.at_int HG2.out kk h0 hlt
        replace hy0 := (HB.out.cell (World.block_lt_of_cell? w _ hy0)).trans hy0
        have q0 := eq_true h0
        have q1 := eq_true hlt
        have HN := Aside0.mk (by have := itemsW_here (fun x => impl_Tree_weight.f k l0_0 l0_1 x) out items kk h0 hlt; rw [HT.out] at this; exact this.symm)
        clear HT
        generalize rd items kk = x at hy0 HN
        obtain ⟨wt, hwt, hn⟩ := Option.bind_eq_some_iff.1 HN.out
        have HWT := Aside0.mk hwt
        by_cases hsm : out.length < 1048576
        case neg => rw [if_neg hsm] at hn; cases hn
        rw [if_pos hsm] at hn
        have HSM := Aside0.mk hsm
        replace HN := Aside0.mk hn
        clear hwt hn hsm
        go_wp2_with fail
        refine (impl_Tree_weight.calls k A0_0 c0_0 l0_0 (some ad) c0_1 l0_1 x wt _ (Kd.C_below HR0.out HB.out) HC0.out (Kd.C_below HR1.out HB.out) HC1.out HWT.out).mono ?_
        rintro e w2 ⟨rfl, hb2⟩
        have HB2 := Aside0.mk (below_step HB.out hb2)
        have BK2 := Aside0.mk (blk_below BK.out hb2)
        have HO2 := Aside0.mk (Kd.R_below HO.out hb2)
        clear hb2 HB BK HO ht0 ht1 hy0
        go_wp2_with (first | ((with_reducible refine gate_builtin (b := .append) (xs := #[.tmp 28, .tmp 34]) rfl ?_); at_builtin; refine Kd.R_append k109 (w0 := w) w.heap.size rfl (.tmp 28) (.tmp 34) 108 109 (.agg #[(.int .i64 0), (.int .i64 0)]) 16 rfl Tryz.underlying108 info109 rfl (by decide) (by omega) _ out (⟨x, wt⟩ : S109) [.int .i64 x, .int .i64 wt] (fun _ => True) (fun _ => False) rfl rfl ?aP (fun _ hk => hk.elim) ?aF ?aO ?aB ?aS ?aL ?_; (case aP => exact k109_mkM _ _ _ (⟨x, wt⟩ : S109)); (case aB => exact HB2.out); (case aF => exact (fun _ _ => trivial)); (case aO => exact HO2.out); (case aS => exact below_size HB2.out); (case aL => have := HSM.out; omega); intro v3 w3 ho3 hb3 hg3 hat3; have HO3 := Aside0.mk ho3; have HB3 := Aside0.mk hb3; have BK3 := Aside0.mk (hg3.block _ (blk_lt BK2.out) (Kd.R_ne HO2.out BK2.out (by decide)) |>.trans BK2.out); clear ho3 hb3 hg3 hat3))
        go_roundg (gk - 1)
        case measure => omega
        case rel => exact ⟨kk + 1, out ++ [⟨x, wt⟩], by omega, by omega, by omega, by go_num, by rw [List.length_append]; have := HSM.out; simp; omega, HB3, BK3, HO3, HN⟩
      · obtain rfl : kk = items.length := by omega
        have HE := Aside0.mk (show out = tot from by have := HT.out; rw [Int.toNat_natCast, List.drop_length] at this; exact Option.some.inj this)
        clear HT
        obtain ⟨Av, cv, ev, hlv, hCv⟩ := Kd.R_reads HO.out
        subst ev
        have HCV := Aside0.mk hCv
        have HLV := Aside0.mk hlv
        clear hlv hCv HO
        go_wp2_with fail
        refine (impl_choose.calls k Av cv out a2 a3 r1 r2 wr HCV.out HLV.out (by rw [HE.out]; exact HCH.out)).mono ?_
        rintro e w2 ⟨rfl, hb2⟩
        have HB2 := Aside0.mk (below_step HB.out hb2)
        clear hb2
        go_wp2_with fail
        go_ret2
        exact ⟨rfl, HB2.out⟩

/-! ### impl_Tree_descend: function 69 -/
def impl_Tree_descend.l0 : Nat → Int → Int → Int → Int → Bool → List (S72) → List (S68) → Option (Int × Bool)
  | 0, _, _, _, _, _, _, _ => none
  | k + 1, x1, x2, x3, x4, x12, x372000, x372001 => if x12 = true then ((impl_Tree_kindOf.f x372000 x372001 x1).bind fun t373 => (if t373 = x2 then (some (x1, x12)) else ((impl_Tree_chooseIn.f k x372000 x372001 x1 x3 x4).bind fun bt374 => (impl_Tree_descend.l0 k bt374.1 x2 x3 x4 bt374.2 x372000 x372001)))) else (some (x1, x12))
def impl_Tree_descend.f (k : Nat) (l0_0 : List (S72)) (l0_1 : List (S68)) (a1 : Int) (a2 : Int) (a3 : Int) (a4 : Int) : Option (Int × Bool) := (impl_Tree_kindOf.f l0_0 l0_1 a1).bind fun t372 => (impl_Tree_descend.l0 k a1 a2 a3 a4 (decide (t372 ≥ 0)) l0_0 l0_1)
set_option maxHeartbeats 8000000 in
set_option maxRecDepth 100000 in
theorem impl_Tree_descend.calls (k : Nat) (A0_0 : Option Addr) (c0_0 : Nat) (l0_0 : List (S72)) (A0_1 : Option Addr) (c0_1 : Nat) (l0_1 : List (S68)) (a1 : Int) (a2 : Int) (a3 : Int) (a4 : Int) (r1 : Int) (r2 : Bool) (w : World) (hr0_0 : Kd.C k72 w A0_0 l0_0.length l0_0) (hc0_0 : l0_0.length ≤ c0_0) (hr0_1 : Kd.C k68 w A0_1 l0_1.length l0_1) (hc0_1 : l0_1.length ≤ c0_1) (h : impl_Tree_descend.f k l0_0 l0_1 a1 a2 a3 a4 = some (r1, r2)) :
    Calls Tryz.prog 69 #[.agg #[.slice A0_0 l0_0.length c0_0, .slice A0_1 l0_1.length c0_1], .int .i64 a1, .int .i64 a2, .int .i64 a3, .int .i64 a4] w fun e w' => e = .returned (.tuple #[.int .i64 r1, .bool r2]) ∧ Below w.heap.size w w' := by
  have hu35 := Tryz.underlying35
  have HR0_0 := Aside0.mk hr0_0
  have HC0_0 := Aside0.mk hc0_0
  clear hr0_0 hc0_0
  have HR0_1 := Aside0.mk hr0_1
  have HC0_1 := Aside0.mk hc0_1
  clear hr0_1 hc0_1
  have HB := Aside0.mk (Below.refl w.heap.size w)
  have H : ((impl_Tree_kindOf.f l0_0 l0_1 a1).bind fun t372 => (impl_Tree_descend.l0 k a1 a2 a3 a4 (decide (t372 ≥ 0)) l0_0 l0_1)) = some (r1, r2) := h
  clear h
  replace H := Option.bind_eq_some_iff.mp H
  obtain ⟨t372, A60, H⟩ := H
  set_option simprocs false in try dsimp only at H
  have A6 := Aside0.mk A60
  clear A60
  have H' := Aside0.mk H
  clear H
  go_enter Tryz.func69, Tryz.ntmps69
  go_wp2_with (first | ((with_reducible refine gate_dst (N := 5) rfl ?_); refine box_event ?hg (N := 5) ?hd (cs := #[.slice A0_0 l0_0.length c0_0, .slice A0_1 l0_1.length c0_1]) (t := 35) ?hr ?_; (case hd => rfl); (case hg => rfl); (case hr => first | (go_simp; done) | (go_simp; rfl)); intro gb371 hg w7 hbox hb; have n0_ := Aside0.mk (below_step (by repeat first | exact HB.out | apply pw_below_drewN) hb); have n1_ := Aside0.mk (hbox); have n2_ := Aside0.mk ((by rw [hg]; exact (below_size (by repeat first | exact HB.out | apply pw_below_drewN)) : w.heap.size ≤ gb371)); have n3_ := Aside0.mk ((by rw [hg]; exact (below_size (by repeat first | exact HB.out | apply pw_below_drewN)) : w.heap.size ≤ gb371)); clear HB; have HB := n0_; have BK371 := n1_; have GW371 := n2_; have GE371 := n3_; clear n0_ n1_ n2_ n3_; clear hb hbox hg; have hcz8_0 := (blk_cell BK371.out 0).trans rfl; have hcz8_1 := (blk_cell BK371.out 1).trans rfl; have hfz8_0 := blk_frozen BK371.out 0; have hfz8_1 := blk_frozen BK371.out 1) | ((with_reducible refine gate_callee (f := 67) rfl ?_); refine goesL_ (some 15) rfl rfl Tryz.func67 (by kernel_rfl) rfl #[.agg #[.slice A0_0 l0_0.length c0_0, .slice A0_1 l0_1.length c0_1], .int .i64 a1] rfl (by (try simp only [List.map_toArray, List.map_cons, List.map_nil]); first | done | rfl) ?_; (with_reducible refine (impl_Tree_kindOf.calls _ _ l0_0 _ _ l0_1 a1 t372 _ ?side1 ?side2 ?side3 ?side4 A6.out).mono ?_); (case side1 => exact (Kd.C_below HR0_0.out HB.out)); (case side2 => exact HC0_0.out); (case side3 => exact (Kd.C_below HR0_1.out HB.out)); (case side4 => exact HC0_1.out); rintro e w9 ⟨rfl, hb⟩; refine ⟨_, rfl, ?_⟩; have n0_ := Aside0.mk (blk_below (by exact BK371.out) hb); have n1_ := Aside0.mk (below_step (by repeat first | exact HB.out | apply pw_below_drewN) hb); clear BK371; clear HB; have BK371 := n0_; have HB := n1_; clear n0_ n1_; (try clear hb); (try clear hb2); (try clear hk); (try clear hi)))
  go_loopg [1, 12] k (fun kq v1 v12 w' => ∃ (x1_1 : Int) (x12_1 : Bool), v1 = .int .i64 x1_1 ∧ v12 = .bool x12_1 ∧ Aside0 (impl_Tree_descend.l0 kq x1_1 a2 a3 a4 x12_1 l0_0 l0_1 = some (r1, r2)) ∧ Aside0 (kq ≤ k) ∧ Aside0 (w'.heap[gb371]? = some (.cells #[(.slice A0_0 l0_0.length c0_0), (.slice A0_1 l0_1.length c0_1)] 35 (0, 0))) ∧ Aside0 (Below w.heap.size w w'))
  case atStart => exact ⟨(a1), (decide (t372 ≥ 0)), (by first | rfl | (simp; done) | (simp [*]; done)), (by first | rfl | (simp; done) | (simp [*]; done)), H', ⟨Nat.le_refl _⟩, ⟨by exact BK371.out⟩, ⟨by repeat first | exact HB.out | apply pw_below_drewN⟩⟩
  case round =>
    clear H'
    try clear p2
    try clear c6
    try clear hcz8_0
    try clear hcz8_1
    try clear hfz8_0
    try clear hfz8_1
    obtain ⟨x1_1, x12_1, rfl, rfl, HA, HK1, BK371, HB⟩ := hrel
    cases gk with
    | zero => exact absurd HA.out (by simp [impl_Tree_descend.l0])
    | succ k1 =>
      have H := HA.out
      clear HA
      simp only [impl_Tree_descend.l0] at H
      by_cases c10 : x12_1 = true
      · subst c10
        rw [if_pos rfl] at H
        replace H := Option.bind_eq_some_iff.mp H
        obtain ⟨t373, A110, H⟩ := H
        set_option simprocs false in try dsimp only at H
        have A11 := Aside0.mk A110
        clear A110
        by_cases c12 : t373 = a2
        · rw [if_pos c12] at H
          have c12b0 : (t373 == a2) = true := beq_iff_eq.mpr c12
          have c12b1 : (t373 != a2) = false := bne_eq_false_iff_eq.mpr c12
          clear c12
          simp only [Option.some.injEq, Prod.mk.injEq] at H
          obtain ⟨rfl, rfl⟩ := H
          have hcz13_0 := (blk_cell BK371.out 0).trans rfl
          have hcz13_1 := (blk_cell BK371.out 1).trans rfl
          have hfz13_0 := blk_frozen BK371.out 0
          have hfz13_1 := blk_frozen BK371.out 1
          go_wp2_with (first | (go_at_call 67; (with_reducible refine (impl_Tree_kindOf.calls _ _ l0_0 _ _ l0_1 x1_1 t373 _ ?side1 ?side2 ?side3 ?side4 A11.out).mono ?_); (case side1 => exact (Kd.C_below HR0_0.out HB.out)); (case side2 => exact HC0_0.out); (case side3 => exact (Kd.C_below HR0_1.out HB.out)); (case side4 => exact HC0_1.out); rintro e w14 ⟨rfl, hb⟩; have n0_ := Aside0.mk (blk_below (by exact BK371.out) hb); have n1_ := Aside0.mk (below_step (by repeat first | exact HB.out | apply pw_below_drewN) hb); clear BK371; clear HB; have BK371 := n0_; have HB := n1_; clear n0_ n1_; (try clear hb); (try clear hb2); (try clear hk); (try clear hi)))
          go_ret2
          exact ⟨by first | rfl | (simp [*, errW_none, errW_some] <;> rfl), by repeat first | exact HB.out | apply pw_below_drewN⟩
        · rw [if_neg c12] at H
          have c12b0 : (t373 == a2) = false := beq_eq_false_iff_ne.mpr c12
          have c12b1 : (t373 != a2) = true := bne_iff_ne.mpr c12
          replace H := Option.bind_eq_some_iff.mp H
          obtain ⟨⟨t374, t375⟩, A150, H⟩ := H
          set_option simprocs false in try dsimp only at H
          have A15 := Aside0.mk A150
          clear A150
          have H' := Aside0.mk H
          clear H
          have hcz16_0 := (blk_cell BK371.out 0).trans rfl
          have hcz16_1 := (blk_cell BK371.out 1).trans rfl
          have hfz16_0 := blk_frozen BK371.out 0
          have hfz16_1 := blk_frozen BK371.out 1
          go_wp2_with (first | (go_at_call 67; (with_reducible refine (impl_Tree_kindOf.calls _ _ l0_0 _ _ l0_1 x1_1 t373 _ ?side1 ?side2 ?side3 ?side4 A11.out).mono ?_); (case side1 => exact (Kd.C_below HR0_0.out HB.out)); (case side2 => exact HC0_0.out); (case side3 => exact (Kd.C_below HR0_1.out HB.out)); (case side4 => exact HC0_1.out); rintro e w17 ⟨rfl, hb⟩; have n0_ := Aside0.mk (blk_below (by exact BK371.out) hb); have n1_ := Aside0.mk (below_step (by repeat first | exact HB.out | apply pw_below_drewN) hb); clear BK371; clear HB; have BK371 := n0_; have HB := n1_; clear n0_ n1_; (try clear hb); (try clear hb2); (try clear hk); (try clear hi); have hcz18_0 := (blk_cell BK371.out 0).trans rfl; have hcz18_1 := (blk_cell BK371.out 1).trans rfl; have hfz18_0 := blk_frozen BK371.out 0; have hfz18_1 := blk_frozen BK371.out 1) | ((with_reducible refine gate_callee (f := 82) rfl ?_); refine goesL_ (some 30) rfl rfl Tryz.func82 (by kernel_rfl) rfl #[.agg #[.slice A0_0 l0_0.length c0_0, .slice A0_1 l0_1.length c0_1], .int .i64 x1_1, .int .i64 a3, .int .i64 a4] rfl (by (try simp only [List.map_toArray, List.map_cons, List.map_nil]); first | done | rfl) ?_; (with_reducible refine (impl_Tree_chooseIn.calls k1 _ _ l0_0 _ _ l0_1 x1_1 a3 a4 t374 t375 _ ?side1 ?side2 ?side3 ?side4 A15.out).mono ?_); (case side1 => exact (Kd.C_below HR0_0.out HB.out)); (case side2 => exact HC0_0.out); (case side3 => exact (Kd.C_below HR0_1.out HB.out)); (case side4 => exact HC0_1.out); rintro e w19 ⟨rfl, hb⟩; refine ⟨_, rfl, ?_⟩; have n0_ := Aside0.mk (blk_below (by exact BK371.out) hb); have n1_ := Aside0.mk (below_step (by repeat first | exact HB.out | apply pw_below_drewN) hb); clear BK371; clear HB; have BK371 := n0_; have HB := n1_; clear n0_ n1_; (try clear hb); (try clear hb2); (try clear hk); (try clear hi)))
          go_roundg k1
          case measure => have := HK1.out; omega
          case rel => exact ⟨(t374), (t375), (by first | rfl | (simp; done) | (simp [*]; done)), (by first | rfl | (simp; done) | (simp [*]; done)), H', ⟨by have := HK1.out; omega⟩, ⟨by exact BK371.out⟩, ⟨by repeat first | exact HB.out | apply pw_below_drewN⟩⟩
      · replace c10 := Bool.eq_false_iff.mpr c10
        subst c10
        rw [if_neg (show ¬ (false = true) by decide)] at H
        simp only [Option.some.injEq, Prod.mk.injEq] at H
        obtain ⟨rfl, rfl⟩ := H
        go_wp2
        go_ret2
        exact ⟨by first | rfl | (simp [*, errW_none, errW_some] <;> rfl), by repeat first | exact HB.out | apply pw_below_drewN⟩

/-! ### impl_Tree_above: function 95 -/
mutual
def impl_Tree_above.l0 : Nat → Int → Int → List (S68) → Int → Int → List (S72) → List (S68) → Option (Int)
  | 0, _, _, _, _, _, _, _ => none
  | k + 1, x1, x2, x10, x11, x12, x377000, x377001 => if x12 < x11 then (if 0 ≤ x12 then (if x12 < (x10.length : Int) then ((slices_Contains_int64_int64.f k ((rd_T68 x10 x12).f2) x1).bind fun t379 => (if t379 = true then (if ((rd_T68 x10 x12).f1) = x2 then (some ((rd_T68 x10 x12).f0)) else ((impl_Tree_above.f k x377000 x377001 ((rd_T68 x10 x12).f0) x2).bind fun t380 => (some t380))) else (impl_Tree_above.l0 k x1 x2 x10 x11 (wrap64 (x12 + 1)) x377000 x377001))) else (none)) else (none)) else (some 0)
def impl_Tree_above.f : Nat → List (S72) → List (S68) → Int → Int → Option (Int)
  | 0, _, _, _, _ => none
  | k + 1, l0_0, l0_1, a1, a2 => impl_Tree_above.l0 k a1 a2 l0_1 (l0_1.length : Int) 0 l0_0 l0_1
end
set_option maxHeartbeats 8000000 in
set_option maxRecDepth 100000 in
theorem impl_Tree_above.calls (k : Nat) : ∀ (A0_0 : Option Addr) (c0_0 : Nat) (l0_0 : List (S72)) (A0_1 : Option Addr) (c0_1 : Nat) (l0_1 : List (S68)) (a1 : Int) (a2 : Int) (r : Int) (w : World) (hr0_0 : Kd.C k72 w A0_0 l0_0.length l0_0) (hc0_0 : l0_0.length ≤ c0_0) (hr0_1 : Kd.C k68 w A0_1 l0_1.length l0_1) (hc0_1 : l0_1.length ≤ c0_1) (h : impl_Tree_above.f k l0_0 l0_1 a1 a2 = some r),
    Calls Tryz.prog 95 #[.agg #[.slice A0_0 l0_0.length c0_0, .slice A0_1 l0_1.length c0_1], .int .i64 a1, .int .i64 a2] w fun e w' => e = .returned (.int .i64 r) ∧ Below w.heap.size w w' := by
  induction k using Nat.strongRecOn with
  | _ k ih =>
  intro A0_0 c0_0 l0_0 A0_1 c0_1 l0_1 a1 a2 r w hr0_0 hc0_0 hr0_1 hc0_1 h
  cases k with
  | zero => exact absurd h (by simp [impl_Tree_above.f])
  | succ k =>
  simp only [impl_Tree_above.f] at h
  have hu35 := Tryz.underlying35
  have hu68 := Tryz.underlying68
  have HR0_0 := Aside0.mk hr0_0
  have HC0_0 := Aside0.mk hc0_0
  clear hr0_0 hc0_0
  have HR0_1 := Aside0.mk hr0_1
  have HC0_1 := Aside0.mk hc0_1
  clear hr0_1 hc0_1
  have HB := Aside0.mk (Below.refl w.heap.size w)
  have H : (impl_Tree_above.l0 k a1 a2 l0_1 (l0_1.length : Int) 0 l0_0 l0_1) = some r := h
  clear h
  have H' := Aside0.mk H
  clear H
  go_enter Tryz.func95, Tryz.ntmps95
  go_wp2_with (first | ((with_reducible refine gate_dst (N := 3) rfl ?_); refine box_event ?hg (N := 3) ?hd (cs := #[.slice A0_0 l0_0.length c0_0, .slice A0_1 l0_1.length c0_1]) (t := 35) ?hr ?_; (case hd => rfl); (case hg => rfl); (case hr => first | (go_simp; done) | (go_simp; rfl)); intro gb376 hg w4 hbox hb; have n0_ := Aside0.mk (below_step (by repeat first | exact HB.out | apply below_alloc | apply pw_below_drewN | apply below_drew1) hb); have n1_ := Aside0.mk (hbox); have n2_ := Aside0.mk ((by rw [hg]; exact (below_size (by repeat first | exact HB.out | apply below_alloc | apply pw_below_drewN | apply below_drew1)) : w.heap.size ≤ gb376)); have n3_ := Aside0.mk ((by rw [hg]; exact (below_size (by repeat first | exact HB.out | apply below_alloc | apply pw_below_drewN | apply below_drew1)) : w.heap.size ≤ gb376)); clear HB; have HB := n0_; have BK376 := n1_; have GW376 := n2_; have GE376 := n3_; clear n0_ n1_ n2_ n3_; clear hb hbox hg; have hcz5_0 := (blk_cell BK376.out 0).trans rfl; have hcz5_1 := (blk_cell BK376.out 1).trans rfl; have hfz5_0 := blk_frozen BK376.out 0; have hfz5_1 := blk_frozen BK376.out 1))
  go_loopg [12] k (fun kq v12 w' => ∃ (x12_1 : Int), v12 = .int .i64 x12_1 ∧ Aside0 (impl_Tree_above.l0 kq a1 a2 l0_1 (l0_1.length : Int) x12_1 l0_0 l0_1 = some r) ∧ Aside0 (kq ≤ k) ∧ Aside0 (w'.heap[gb376]? = some (.cells #[(.slice A0_0 l0_0.length c0_0), (.slice A0_1 l0_1.length c0_1)] 35 (0, 0))) ∧ Aside0 (Below w.heap.size w w'))
  case atStart => exact ⟨(0), (by first | rfl | (simp; done) | (simp [*]; done)), H', ⟨Nat.le_refl _⟩, ⟨by (with_reducible repeat first | apply blk_drewN | apply blk_drew | apply blk_alloc); exact BK376.out⟩, ⟨by repeat (first | (with_reducible first | exact HB.out | apply below_alloc | apply pw_below_drewN | apply below_drew1 | refine below_set ?_ GE376.out) | exact HB.out)⟩⟩
  case round =>
    clear H'
    try clear p2
    try clear hcz5_0
    try clear hcz5_1
    try clear hfz5_0
    try clear hfz5_1
    obtain ⟨x12_1, rfl, HA, HK1, BK376, HB⟩ := hrel
    cases gk with
    | zero => exact absurd HA.out (by simp [impl_Tree_above.l0])
    | succ k1 =>
      have H := HA.out
      clear HA
      simp only [impl_Tree_above.l0] at H
      by_cases c6 : x12_1 < (l0_1.length : Int)
      · rw [if_pos c6] at H
        have c6b0 : decide (x12_1 < (l0_1.length : Int)) = true := decide_eq_true c6
        clear c6
        by_cases c7 : 0 ≤ x12_1
        · rw [if_pos c7] at H
          have c7b0 : decide (0 ≤ x12_1) = true := decide_eq_true c7
          clear c7
          by_cases c8 : x12_1 < (l0_1.length : Int)
          · rw [if_pos c8] at H
            have c8b0 : decide (x12_1 < (l0_1.length : Int)) = true := decide_eq_true c8
            clear c8
            replace H := Option.bind_eq_some_iff.mp H
            obtain ⟨t379, A90, H⟩ := H
            replace H : (if t379 = true then (if ((rd_T68 l0_1 x12_1).f1) = a2 then (some ((rd_T68 l0_1 x12_1).f0)) else ((impl_Tree_above.f k1 l0_0 l0_1 ((rd_T68 l0_1 x12_1).f0) a2).bind fun t380 => (some t380))) else (impl_Tree_above.l0 k1 a1 a2 l0_1 (l0_1.length : Int) (wrap64 (x12_1 + 1)) l0_0 l0_1)) = some r := H
            have A9 := Aside0.mk A90
            clear A90
            by_cases c10 : t379 = true
            · subst c10
              rw [if_pos rfl] at H
              by_cases c11 : ((rd_T68 l0_1 x12_1).f1) = a2
              · rw [if_pos c11] at H
                have c11b0 : (((rd_T68 l0_1 x12_1).f1) == a2) = true := beq_iff_eq.mpr c11
                have c11b1 : (((rd_T68 l0_1 x12_1).f1) != a2) = false := bne_eq_false_iff_eq.mpr c11
                clear c11
                obtain rfl := Option.some.inj H
                have p377 : 0 ≤ (x12_1 : Int) := of_decide_eq_true (by assumption)
                have q377 : x12_1 < (l0_1.length : Int) := of_decide_eq_true (by assumption)
                obtain ⟨ad377, A377_2, c377_2, e377, hx377_0, hx377_1, hx377_2, hl377_2, hi377_2⟩ := at_T68 HR0_1.out x12_1 p377 q377
                cases e377
                replace hx377_0 := (HB.out.cell (World.block_lt_of_cell? w _ hx377_0)).trans hx377_0
                replace hx377_1 := (HB.out.cell (World.block_lt_of_cell? w _ hx377_1)).trans hx377_1
                replace hx377_2 := (HB.out.cell (World.block_lt_of_cell? w _ hx377_2)).trans hx377_2
                have HR377_2 := Aside0.mk hi377_2
                have HC377_2 := Aside0.mk hl377_2
                clear hi377_2 hl377_2
                replace p377 := eq_true p377
                replace q377 := eq_true q377
                go_wp2_with (first | ((with_reducible refine gate_dst (N := 8) rfl ?_); refine box_event ?hg (N := 8) ?hd (cs := #[.int .i64 0, .int .i64 0, .slice none 0 0]) (t := 68) ?hr ?_; (case hd => rfl); (case hg => rfl); (case hr => first | (go_simp; done) | (go_simp; rfl)); intro gb378 hg w12 hbox hb; have n0_ := Aside0.mk (blk_below (g := gb376) (o := .cells #[.slice A0_0 l0_0.length c0_0, .slice (some ad377) l0_1.length c0_1] 35 (0, 0)) (by (with_reducible repeat first | apply blk_drewN | apply blk_drew | apply blk_alloc); exact BK376.out) hb); have n1_ := Aside0.mk (below_step (by repeat (first | (with_reducible first | exact HB.out | apply below_alloc | apply pw_below_drewN | apply below_drew1 | refine below_set ?_ GE376.out) | exact HB.out)) hb); have n2_ := Aside0.mk (hbox); have n3_ := Aside0.mk ((by rw [hg]; exact (below_size (by repeat (first | (with_reducible first | exact HB.out | apply below_alloc | apply pw_below_drewN | apply below_drew1 | refine below_set ?_ GE376.out) | exact HB.out))) : w.heap.size ≤ gb378)); have n4_ := Aside0.mk ((by rw [hg]; exact (below_size (by repeat (first | (with_reducible first | exact HB.out | apply below_alloc | apply pw_below_drewN | apply below_drew1 | refine below_set ?_ GE376.out) | exact HB.out))) : w.heap.size ≤ gb378)); have n5_ := Aside0.mk ((by rw [hg]; exact Nat.ne_of_lt (blk_lt (g := gb376) (o := .cells #[.slice A0_0 l0_0.length c0_0, .slice (some ad377) l0_1.length c0_1] 35 (0, 0)) (by (with_reducible repeat first | apply blk_drewN | apply blk_drew | apply blk_alloc); exact BK376.out)) : gb376 ≠ gb378)); have n6_ := Aside0.mk ((by rw [hg]; exact Nat.ne_of_gt (blk_lt (g := gb376) (o := .cells #[.slice A0_0 l0_0.length c0_0, .slice (some ad377) l0_1.length c0_1] 35 (0, 0)) (by (with_reducible repeat first | apply blk_drewN | apply blk_drew | apply blk_alloc); exact BK376.out)) : gb378 ≠ gb376)); clear BK376; clear HB; have BK376 := n0_; have HB := n1_; have BK378 := n2_; have GW378 := n3_; have GE378 := n4_; have NB376_378 := n5_; have NB378_376 := n6_; clear n0_ n1_ n2_ n3_ n4_ n5_ n6_; clear hb hbox hg; have hnb13 := NB378_376.out; have hnc13 := NB376_378.out; have hcz14_0 := (blk_cell BK378.out 0).trans rfl; have hcz14_1 := (blk_cell BK378.out 1).trans rfl; have hcz14_2 := (blk_cell BK378.out 2).trans rfl; have hfz14_0 := blk_frozen BK378.out 0; have hfz14_1 := blk_frozen BK378.out 1; have hfz14_2 := blk_frozen BK378.out 2) | ((with_reducible refine gate_callee (f := 56) rfl ?_); refine goesL_ (some 19) rfl rfl Tryz.func56 (by kernel_rfl) rfl #[.slice A377_2 ((rd_T68 l0_1 x12_1).f2).length c377_2, .int .i64 a1] rfl (by (try simp only [List.map_toArray, List.map_cons, List.map_nil]); first | done | rfl | (simp only [List.length_drop, List.length_take]; rfl)) ?_; (with_reducible refine (slices_Contains_int64_int64.calls k1 _ _ ((rd_T68 l0_1 x12_1).f2) a1 true _ ?side1 ?side2 A9.out).mono ?_); (case side1 => exact Kd.C_below HR377_2.out (by repeat (first | (with_reducible first | exact HB.out | apply below_alloc | apply pw_below_drewN | apply below_drew1 | refine below_set ?_ GE376.out | refine below_set ?_ GE378.out) | exact HB.out))); (case side2 => exact HC377_2.out); rintro e w' ⟨rfl, ⟨nd, rfl⟩⟩; refine ⟨_, rfl, ?_⟩))
                go_ret
                exact ⟨by first | rfl | (simp [*, errW_none, errW_some] <;> rfl), by repeat (first | (with_reducible first | exact HB.out | apply below_alloc | apply pw_below_drewN | apply below_drew1 | refine below_set ?_ GE376.out | refine below_set ?_ GE378.out) | exact HB.out)⟩
              · rw [if_neg c11] at H
                have c11b0 : (((rd_T68 l0_1 x12_1).f1) == a2) = false := beq_eq_false_iff_ne.mpr c11
                have c11b1 : (((rd_T68 l0_1 x12_1).f1) != a2) = true := bne_iff_ne.mpr c11
                replace H := Option.bind_eq_some_iff.mp H
                obtain ⟨t380, A150, H⟩ := H
                replace H : (some t380) = some r := H
                have A15 := Aside0.mk A150
                clear A150
                obtain rfl := Option.some.inj H
                have p377 : 0 ≤ (x12_1 : Int) := of_decide_eq_true (by assumption)
                have q377 : x12_1 < (l0_1.length : Int) := of_decide_eq_true (by assumption)
                obtain ⟨ad377, A377_2, c377_2, e377, hx377_0, hx377_1, hx377_2, hl377_2, hi377_2⟩ := at_T68 HR0_1.out x12_1 p377 q377
                cases e377
                replace hx377_0 := (HB.out.cell (World.block_lt_of_cell? w _ hx377_0)).trans hx377_0
                replace hx377_1 := (HB.out.cell (World.block_lt_of_cell? w _ hx377_1)).trans hx377_1
                replace hx377_2 := (HB.out.cell (World.block_lt_of_cell? w _ hx377_2)).trans hx377_2
                have HR377_2 := Aside0.mk hi377_2
                have HC377_2 := Aside0.mk hl377_2
                clear hi377_2 hl377_2
                replace p377 := eq_true p377
                replace q377 := eq_true q377
                go_wp2_with (first | ((with_reducible refine gate_dst (N := 8) rfl ?_); refine box_event ?hg (N := 8) ?hd (cs := #[.int .i64 0, .int .i64 0, .slice none 0 0]) (t := 68) ?hr ?_; (case hd => rfl); (case hg => rfl); (case hr => first | (go_simp; done) | (go_simp; rfl)); intro gb378 hg w16 hbox hb; have n0_ := Aside0.mk (blk_below (g := gb376) (o := .cells #[.slice A0_0 l0_0.length c0_0, .slice (some ad377) l0_1.length c0_1] 35 (0, 0)) (by (with_reducible repeat first | apply blk_drewN | apply blk_drew | apply blk_alloc); exact BK376.out) hb); have n1_ := Aside0.mk (below_step (by repeat (first | (with_reducible first | exact HB.out | apply below_alloc | apply pw_below_drewN | apply below_drew1 | refine below_set ?_ GE376.out) | exact HB.out)) hb); have n2_ := Aside0.mk (hbox); have n3_ := Aside0.mk ((by rw [hg]; exact (below_size (by repeat (first | (with_reducible first | exact HB.out | apply below_alloc | apply pw_below_drewN | apply below_drew1 | refine below_set ?_ GE376.out) | exact HB.out))) : w.heap.size ≤ gb378)); have n4_ := Aside0.mk ((by rw [hg]; exact (below_size (by repeat (first | (with_reducible first | exact HB.out | apply below_alloc | apply pw_below_drewN | apply below_drew1 | refine below_set ?_ GE376.out) | exact HB.out))) : w.heap.size ≤ gb378)); have n5_ := Aside0.mk ((by rw [hg]; exact Nat.ne_of_lt (blk_lt (g := gb376) (o := .cells #[.slice A0_0 l0_0.length c0_0, .slice (some ad377) l0_1.length c0_1] 35 (0, 0)) (by (with_reducible repeat first | apply blk_drewN | apply blk_drew | apply blk_alloc); exact BK376.out)) : gb376 ≠ gb378)); have n6_ := Aside0.mk ((by rw [hg]; exact Nat.ne_of_gt (blk_lt (g := gb376) (o := .cells #[.slice A0_0 l0_0.length c0_0, .slice (some ad377) l0_1.length c0_1] 35 (0, 0)) (by (with_reducible repeat first | apply blk_drewN | apply blk_drew | apply blk_alloc); exact BK376.out)) : gb378 ≠ gb376)); clear BK376; clear HB; have BK376 := n0_; have HB := n1_; have BK378 := n2_; have GW378 := n3_; have GE378 := n4_; have NB376_378 := n5_; have NB378_376 := n6_; clear n0_ n1_ n2_ n3_ n4_ n5_ n6_; clear hb hbox hg; have hnb17 := NB378_376.out; have hnc17 := NB376_378.out; have hcz18_0 := (blk_cell BK378.out 0).trans rfl; have hcz18_1 := (blk_cell BK378.out 1).trans rfl; have hcz18_2 := (blk_cell BK378.out 2).trans rfl; have hfz18_0 := blk_frozen BK378.out 0; have hfz18_1 := blk_frozen BK378.out 1; have hfz18_2 := blk_frozen BK378.out 2) | ((with_reducible refine gate_callee (f := 56) rfl ?_); refine goesL_ (some 19) rfl rfl Tryz.func56 (by kernel_rfl) rfl #[.slice A377_2 ((rd_T68 l0_1 x12_1).f2).length c377_2, .int .i64 a1] rfl (by (try simp only [List.map_toArray, List.map_cons, List.map_nil]); first | done | rfl | (simp only [List.length_drop, List.length_take]; rfl)) ?_; (with_reducible refine (slices_Contains_int64_int64.calls k1 _ _ ((rd_T68 l0_1 x12_1).f2) a1 true _ ?side1 ?side2 A9.out).mono ?_); (case side1 => exact Kd.C_below HR377_2.out (by repeat (first | (with_reducible first | exact HB.out | apply below_alloc | apply pw_below_drewN | apply below_drew1 | refine below_set ?_ GE376.out | refine below_set ?_ GE378.out) | exact HB.out))); (case side2 => exact HC377_2.out); rintro e w' ⟨rfl, ⟨nd, rfl⟩⟩; refine ⟨_, rfl, ?_⟩; have hcz19_0 := (blk_cell BK376.out 0).trans rfl; have hcz19_1 := (blk_cell BK376.out 1).trans rfl; have hfz19_0 := blk_frozen BK376.out 0; have hfz19_1 := blk_frozen BK376.out 1) | ((with_reducible refine gate_callee (f := 95) rfl ?_); refine goesL_ (some 31) rfl rfl Tryz.func95 (by kernel_rfl) rfl #[.agg #[.slice A0_0 l0_0.length c0_0, .slice (some ad377) l0_1.length c0_1], .int .i64 ((rd_T68 l0_1 x12_1).f0), .int .i64 a2] rfl (by (try simp only [List.map_toArray, List.map_cons, List.map_nil]); first | done | rfl | (simp only [List.length_drop, List.length_take]; rfl)) ?_; (with_reducible refine (ih k1 (by have := HK1.out; omega) _ _ l0_0 _ _ l0_1 ((rd_T68 l0_1 x12_1).f0) a2 t380 _ ?side1 ?side2 ?side3 ?side4 A15.out).mono ?_); (case side1 => exact Kd.C_below HR0_0.out (by repeat (first | (with_reducible first | exact HB.out | apply below_alloc | apply pw_below_drewN | apply below_drew1 | refine below_set ?_ GE376.out | refine below_set ?_ GE378.out) | exact HB.out))); (case side2 => exact HC0_0.out); (case side3 => exact Kd.C_below HR0_1.out (by repeat (first | (with_reducible first | exact HB.out | apply below_alloc | apply pw_below_drewN | apply below_drew1 | refine below_set ?_ GE376.out | refine below_set ?_ GE378.out) | exact HB.out))); (case side4 => exact HC0_1.out); rintro e w20 ⟨rfl, hb⟩; refine ⟨_, rfl, ?_⟩; have n0_ := Aside0.mk (blk_below (g := gb376) (o := .cells #[.slice A0_0 l0_0.length c0_0, .slice (some ad377) l0_1.length c0_1] 35 (0, 0)) (by (with_reducible repeat first | apply blk_drewN | apply blk_drew | apply blk_alloc); refine blk_far ?_ NB376_378.out _; (with_reducible repeat first | apply blk_drewN | apply blk_drew | apply blk_alloc); refine blk_far ?_ NB376_378.out _; (with_reducible repeat first | apply blk_drewN | apply blk_drew | apply blk_alloc); refine blk_far ?_ NB376_378.out _; (with_reducible repeat first | apply blk_drewN | apply blk_drew | apply blk_alloc); exact BK376.out) hb); have n1_ := Aside0.mk (blk_below (g := gb378) (o := .cells #[.int .i64 ((rd_T68 l0_1 x12_1).f0), .int .i64 ((rd_T68 l0_1 x12_1).f1), .slice A377_2 ((rd_T68 l0_1 x12_1).f2).length c377_2] 68 (0, 0)) (by (with_reducible repeat first | apply blk_drewN | apply blk_drew | apply blk_alloc); refine blk_put (cs := #[.int .i64 ((rd_T68 l0_1 x12_1).f0), .int .i64 ((rd_T68 l0_1 x12_1).f1), .slice none 0 0]) ?_ 2 _ rfl; (with_reducible repeat first | apply blk_drewN | apply blk_drew | apply blk_alloc); refine blk_put (cs := #[.int .i64 ((rd_T68 l0_1 x12_1).f0), .int .i64 0, .slice none 0 0]) ?_ 1 _ rfl; (with_reducible repeat first | apply blk_drewN | apply blk_drew | apply blk_alloc); refine blk_put (cs := #[.int .i64 0, .int .i64 0, .slice none 0 0]) ?_ 0 _ rfl; (with_reducible repeat first | apply blk_drewN | apply blk_drew | apply blk_alloc); exact BK378.out) hb); have n2_ := Aside0.mk (below_step (by repeat (first | (with_reducible first | exact HB.out | apply below_alloc | apply pw_below_drewN | apply below_drew1 | refine below_set ?_ GE376.out | refine below_set ?_ GE378.out) | exact HB.out)) hb); clear BK376; clear BK378; clear HB; have BK376 := n0_; have BK378 := n1_; have HB := n2_; clear n0_ n1_ n2_; (try clear hb); (try clear hb2); (try clear hk); (try clear hi)))
                go_ret
                exact ⟨by first | rfl | (simp [*, errW_none, errW_some] <;> rfl), by repeat (first | (with_reducible first | exact HB.out | apply below_alloc | apply pw_below_drewN | apply below_drew1 | refine below_set ?_ GE376.out | refine below_set ?_ GE378.out) | exact HB.out)⟩
            · replace c10 := Bool.eq_false_iff.mpr c10
              subst c10
              rw [if_neg (show ¬ (false = true) by decide)] at H
              have H' := Aside0.mk H
              clear H
              have p377 : 0 ≤ (x12_1 : Int) := of_decide_eq_true (by assumption)
              have q377 : x12_1 < (l0_1.length : Int) := of_decide_eq_true (by assumption)
              obtain ⟨ad377, A377_2, c377_2, e377, hx377_0, hx377_1, hx377_2, hl377_2, hi377_2⟩ := at_T68 HR0_1.out x12_1 p377 q377
              cases e377
              replace hx377_0 := (HB.out.cell (World.block_lt_of_cell? w _ hx377_0)).trans hx377_0
              replace hx377_1 := (HB.out.cell (World.block_lt_of_cell? w _ hx377_1)).trans hx377_1
              replace hx377_2 := (HB.out.cell (World.block_lt_of_cell? w _ hx377_2)).trans hx377_2
              have HR377_2 := Aside0.mk hi377_2
              have HC377_2 := Aside0.mk hl377_2
              clear hi377_2 hl377_2
              replace p377 := eq_true p377
              replace q377 := eq_true q377
              go_wp2_with (first | ((with_reducible refine gate_dst (N := 8) rfl ?_); refine box_event ?hg (N := 8) ?hd (cs := #[.int .i64 0, .int .i64 0, .slice none 0 0]) (t := 68) ?hr ?_; (case hd => rfl); (case hg => rfl); (case hr => first | (go_simp; done) | (go_simp; rfl)); intro gb378 hg w21 hbox hb; have n0_ := Aside0.mk (blk_below (g := gb376) (o := .cells #[.slice A0_0 l0_0.length c0_0, .slice (some ad377) l0_1.length c0_1] 35 (0, 0)) (by (with_reducible repeat first | apply blk_drewN | apply blk_drew | apply blk_alloc); exact BK376.out) hb); have n1_ := Aside0.mk (below_step (by repeat (first | (with_reducible first | exact HB.out | apply below_alloc | apply pw_below_drewN | apply below_drew1 | refine below_set ?_ GE376.out) | exact HB.out)) hb); have n2_ := Aside0.mk (hbox); have n3_ := Aside0.mk ((by rw [hg]; exact (below_size (by repeat (first | (with_reducible first | exact HB.out | apply below_alloc | apply pw_below_drewN | apply below_drew1 | refine below_set ?_ GE376.out) | exact HB.out))) : w.heap.size ≤ gb378)); have n4_ := Aside0.mk ((by rw [hg]; exact (below_size (by repeat (first | (with_reducible first | exact HB.out | apply below_alloc | apply pw_below_drewN | apply below_drew1 | refine below_set ?_ GE376.out) | exact HB.out))) : w.heap.size ≤ gb378)); have n5_ := Aside0.mk ((by rw [hg]; exact Nat.ne_of_lt (blk_lt (g := gb376) (o := .cells #[.slice A0_0 l0_0.length c0_0, .slice (some ad377) l0_1.length c0_1] 35 (0, 0)) (by (with_reducible repeat first | apply blk_drewN | apply blk_drew | apply blk_alloc); exact BK376.out)) : gb376 ≠ gb378)); have n6_ := Aside0.mk ((by rw [hg]; exact Nat.ne_of_gt (blk_lt (g := gb376) (o := .cells #[.slice A0_0 l0_0.length c0_0, .slice (some ad377) l0_1.length c0_1] 35 (0, 0)) (by (with_reducible repeat first | apply blk_drewN | apply blk_drew | apply blk_alloc); exact BK376.out)) : gb378 ≠ gb376)); clear BK376; clear HB; have BK376 := n0_; have HB := n1_; have BK378 := n2_; have GW378 := n3_; have GE378 := n4_; have NB376_378 := n5_; have NB378_376 := n6_; clear n0_ n1_ n2_ n3_ n4_ n5_ n6_; clear hb hbox hg; have hnb22 := NB378_376.out; have hnc22 := NB376_378.out; have hcz23_0 := (blk_cell BK378.out 0).trans rfl; have hcz23_1 := (blk_cell BK378.out 1).trans rfl; have hcz23_2 := (blk_cell BK378.out 2).trans rfl; have hfz23_0 := blk_frozen BK378.out 0; have hfz23_1 := blk_frozen BK378.out 1; have hfz23_2 := blk_frozen BK378.out 2) | ((with_reducible refine gate_callee (f := 56) rfl ?_); refine goesL_ (some 19) rfl rfl Tryz.func56 (by kernel_rfl) rfl #[.slice A377_2 ((rd_T68 l0_1 x12_1).f2).length c377_2, .int .i64 a1] rfl (by (try simp only [List.map_toArray, List.map_cons, List.map_nil]); first | done | rfl | (simp only [List.length_drop, List.length_take]; rfl)) ?_; (with_reducible refine (slices_Contains_int64_int64.calls k1 _ _ ((rd_T68 l0_1 x12_1).f2) a1 false _ ?side1 ?side2 A9.out).mono ?_); (case side1 => exact Kd.C_below HR377_2.out (by repeat (first | (with_reducible first | exact HB.out | apply below_alloc | apply pw_below_drewN | apply below_drew1 | refine below_set ?_ GE376.out | refine below_set ?_ GE378.out) | exact HB.out))); (case side2 => exact HC377_2.out); rintro e w' ⟨rfl, ⟨nd, rfl⟩⟩; refine ⟨_, rfl, ?_⟩))
              go_roundg k1
              case measure => have := HK1.out; omega
              case rel => exact ⟨(wrap64 (x12_1 + 1)), (by first | rfl | (simp; done) | (simp [*]; done)), H', ⟨by have := HK1.out; omega⟩, ⟨by (with_reducible repeat first | apply blk_drewN | apply blk_drew | apply blk_alloc); refine blk_far ?_ NB376_378.out _; (with_reducible repeat first | apply blk_drewN | apply blk_drew | apply blk_alloc); refine blk_far ?_ NB376_378.out _; (with_reducible repeat first | apply blk_drewN | apply blk_drew | apply blk_alloc); refine blk_far ?_ NB376_378.out _; (with_reducible repeat first | apply blk_drewN | apply blk_drew | apply blk_alloc); exact BK376.out⟩, ⟨by repeat (first | (with_reducible first | exact HB.out | apply below_alloc | apply pw_below_drewN | apply below_drew1 | refine below_set ?_ GE376.out | refine below_set ?_ GE378.out) | exact HB.out)⟩⟩
          · rw [if_neg c8] at H
            exact absurd H (by simp)
        · rw [if_neg c7] at H
          exact absurd H (by simp)
      · rw [if_neg c6] at H
        have c6b0 : decide (x12_1 < (l0_1.length : Int)) = false := decide_eq_false c6
        clear c6
        obtain rfl := Option.some.inj H
        go_wp2
        go_ret
        exact ⟨by first | rfl | (simp [*, errW_none, errW_some] <;> rfl), by repeat (first | (with_reducible first | exact HB.out | apply below_alloc | apply pw_below_drewN | apply below_drew1 | refine below_set ?_ GE376.out) | exact HB.out)⟩

/-! ### impl_Tree_domain: function 83 -/
def impl_Tree_domain.f (k : Nat) (l0_0 : List (S72)) (l0_1 : List (S68)) (a1 : Int) (a2 : Int) : Option (Int × Bool) := (impl_Tree_device.f l0_0 l0_1 a2).bind fun t382 => (if t382 < 0 then (some (0, false)) else (if a1 = 0 then (some (a2, true)) else ((impl_Tree_above.f k l0_0 l0_1 a2 a1).bind fun t383 => (some (t383, (t383 != 0))))))
set_option maxHeartbeats 8000000 in
set_option maxRecDepth 100000 in
theorem impl_Tree_domain.calls (k : Nat) (A0_0 : Option Addr) (c0_0 : Nat) (l0_0 : List (S72)) (A0_1 : Option Addr) (c0_1 : Nat) (l0_1 : List (S68)) (a1 : Int) (a2 : Int) (r1 : Int) (r2 : Bool) (w : World) (hr0_0 : Kd.C k72 w A0_0 l0_0.length l0_0) (hc0_0 : l0_0.length ≤ c0_0) (hr0_1 : Kd.C k68 w A0_1 l0_1.length l0_1) (hc0_1 : l0_1.length ≤ c0_1) (h : impl_Tree_domain.f k l0_0 l0_1 a1 a2 = some (r1, r2)) :
    Calls Tryz.prog 83 #[.agg #[.slice A0_0 l0_0.length c0_0, .slice A0_1 l0_1.length c0_1], .int .i64 a1, .int .i64 a2] w fun e w' => e = .returned (.tuple #[.int .i64 r1, .bool r2]) ∧ Below w.heap.size w w' := by
  have hu35 := Tryz.underlying35
  have HR0_0 := Aside0.mk hr0_0
  have HC0_0 := Aside0.mk hc0_0
  clear hr0_0 hc0_0
  have HR0_1 := Aside0.mk hr0_1
  have HC0_1 := Aside0.mk hc0_1
  clear hr0_1 hc0_1
  have HB := Aside0.mk (Below.refl w.heap.size w)
  have H : ((impl_Tree_device.f l0_0 l0_1 a2).bind fun t382 => (if t382 < 0 then (some (0, false)) else (if a1 = 0 then (some (a2, true)) else ((impl_Tree_above.f k l0_0 l0_1 a2 a1).bind fun t383 => (some (t383, (t383 != 0))))))) = some (r1, r2) := h
  clear h
  replace H := Option.bind_eq_some_iff.mp H
  obtain ⟨t382, A40, H⟩ := H
  set_option simprocs false in try dsimp only at H
  have A4 := Aside0.mk A40
  clear A40
  by_cases c5 : t382 < 0
  · rw [if_pos c5] at H
    have c5b0 : decide (t382 < 0) = true := decide_eq_true c5
    clear c5
    simp only [Option.some.injEq, Prod.mk.injEq] at H
    obtain ⟨rfl, rfl⟩ := H
    go_enter Tryz.func83, Tryz.ntmps83
    go_wp2_with (first | ((with_reducible refine gate_dst (N := 3) rfl ?_); refine box_event ?hg (N := 3) ?hd (cs := #[.slice A0_0 l0_0.length c0_0, .slice A0_1 l0_1.length c0_1]) (t := 35) ?hr ?_; (case hd => rfl); (case hg => rfl); (case hr => first | (go_simp; done) | (go_simp; rfl)); intro gb381 hg w6 hbox hb; have n0_ := Aside0.mk (below_step (by repeat first | exact HB.out | apply pw_below_drewN) hb); have n1_ := Aside0.mk (hbox); have n2_ := Aside0.mk ((by rw [hg]; exact (below_size (by repeat first | exact HB.out | apply pw_below_drewN)) : w.heap.size ≤ gb381)); have n3_ := Aside0.mk ((by rw [hg]; exact (below_size (by repeat first | exact HB.out | apply pw_below_drewN)) : w.heap.size ≤ gb381)); clear HB; have HB := n0_; have BK381 := n1_; have GW381 := n2_; have GE381 := n3_; clear n0_ n1_ n2_ n3_; clear hb hbox hg; have hcz7_0 := (blk_cell BK381.out 0).trans rfl; have hcz7_1 := (blk_cell BK381.out 1).trans rfl; have hfz7_0 := blk_frozen BK381.out 0; have hfz7_1 := blk_frozen BK381.out 1) | ((with_reducible refine gate_callee (f := 79) rfl ?_); refine goesL_ (some 11) rfl rfl Tryz.func79 (by kernel_rfl) rfl #[.agg #[.slice A0_0 l0_0.length c0_0, .slice A0_1 l0_1.length c0_1], .int .i64 a2] rfl (by (try simp only [List.map_toArray, List.map_cons, List.map_nil]); first | done | rfl) ?_; (with_reducible refine (impl_Tree_device.calls _ _ l0_0 _ _ l0_1 a2 t382 _ ?side1 ?side2 ?side3 ?side4 A4.out).mono ?_); (case side1 => exact (Kd.C_below HR0_0.out HB.out)); (case side2 => exact HC0_0.out); (case side3 => exact (Kd.C_below HR0_1.out HB.out)); (case side4 => exact HC0_1.out); rintro e w8 ⟨rfl, hb⟩; refine ⟨_, rfl, ?_⟩; have n0_ := Aside0.mk (blk_below (by exact BK381.out) hb); have n1_ := Aside0.mk (below_step (by repeat first | exact HB.out | apply pw_below_drewN) hb); clear BK381; clear HB; have BK381 := n0_; have HB := n1_; clear n0_ n1_; (try clear hb); (try clear hb2); (try clear hk); (try clear hi)))
    go_ret2
    exact ⟨by first | rfl | (simp [*, errW_none, errW_some] <;> rfl), by repeat first | exact HB.out | apply pw_below_drewN⟩
  · rw [if_neg c5] at H
    have c5b0 : decide (t382 < 0) = false := decide_eq_false c5
    clear c5
    by_cases c9 : a1 = 0
    · rw [if_pos c9] at H
      have c9b0 : (a1 == 0) = true := beq_iff_eq.mpr c9
      have c9b1 : (a1 != 0) = false := bne_eq_false_iff_eq.mpr c9
      clear c9
      simp only [Option.some.injEq, Prod.mk.injEq] at H
      obtain ⟨rfl, rfl⟩ := H
      go_enter Tryz.func83, Tryz.ntmps83
      go_wp2_with (first | ((with_reducible refine gate_dst (N := 3) rfl ?_); refine box_event ?hg (N := 3) ?hd (cs := #[.slice A0_0 l0_0.length c0_0, .slice A0_1 l0_1.length c0_1]) (t := 35) ?hr ?_; (case hd => rfl); (case hg => rfl); (case hr => first | (go_simp; done) | (go_simp; rfl)); intro gb381 hg w10 hbox hb; have n0_ := Aside0.mk (below_step (by repeat first | exact HB.out | apply pw_below_drewN) hb); have n1_ := Aside0.mk (hbox); have n2_ := Aside0.mk ((by rw [hg]; exact (below_size (by repeat first | exact HB.out | apply pw_below_drewN)) : w.heap.size ≤ gb381)); have n3_ := Aside0.mk ((by rw [hg]; exact (below_size (by repeat first | exact HB.out | apply pw_below_drewN)) : w.heap.size ≤ gb381)); clear HB; have HB := n0_; have BK381 := n1_; have GW381 := n2_; have GE381 := n3_; clear n0_ n1_ n2_ n3_; clear hb hbox hg; have hcz11_0 := (blk_cell BK381.out 0).trans rfl; have hcz11_1 := (blk_cell BK381.out 1).trans rfl; have hfz11_0 := blk_frozen BK381.out 0; have hfz11_1 := blk_frozen BK381.out 1) | ((with_reducible refine gate_callee (f := 79) rfl ?_); refine goesL_ (some 11) rfl rfl Tryz.func79 (by kernel_rfl) rfl #[.agg #[.slice A0_0 l0_0.length c0_0, .slice A0_1 l0_1.length c0_1], .int .i64 a2] rfl (by (try simp only [List.map_toArray, List.map_cons, List.map_nil]); first | done | rfl) ?_; (with_reducible refine (impl_Tree_device.calls _ _ l0_0 _ _ l0_1 a2 t382 _ ?side1 ?side2 ?side3 ?side4 A4.out).mono ?_); (case side1 => exact (Kd.C_below HR0_0.out HB.out)); (case side2 => exact HC0_0.out); (case side3 => exact (Kd.C_below HR0_1.out HB.out)); (case side4 => exact HC0_1.out); rintro e w12 ⟨rfl, hb⟩; refine ⟨_, rfl, ?_⟩; have n0_ := Aside0.mk (blk_below (by exact BK381.out) hb); have n1_ := Aside0.mk (below_step (by repeat first | exact HB.out | apply pw_below_drewN) hb); clear BK381; clear HB; have BK381 := n0_; have HB := n1_; clear n0_ n1_; (try clear hb); (try clear hb2); (try clear hk); (try clear hi)))
      go_ret2
      exact ⟨by first | rfl | (simp [*, errW_none, errW_some] <;> rfl), by repeat first | exact HB.out | apply pw_below_drewN⟩
    · rw [if_neg c9] at H
      have c9b0 : (a1 == 0) = false := beq_eq_false_iff_ne.mpr c9
      have c9b1 : (a1 != 0) = true := bne_iff_ne.mpr c9
      replace H := Option.bind_eq_some_iff.mp H
      obtain ⟨t383, A130, H⟩ := H
      set_option simprocs false in try dsimp only at H
      have A13 := Aside0.mk A130
      clear A130
      simp only [Option.some.injEq, Prod.mk.injEq] at H
      obtain ⟨rfl, rfl⟩ := H
      go_enter Tryz.func83, Tryz.ntmps83
      go_wp2_with (first | ((with_reducible refine gate_dst (N := 3) rfl ?_); refine box_event ?hg (N := 3) ?hd (cs := #[.slice A0_0 l0_0.length c0_0, .slice A0_1 l0_1.length c0_1]) (t := 35) ?hr ?_; (case hd => rfl); (case hg => rfl); (case hr => first | (go_simp; done) | (go_simp; rfl)); intro gb381 hg w14 hbox hb; have n0_ := Aside0.mk (below_step (by repeat first | exact HB.out | apply pw_below_drewN) hb); have n1_ := Aside0.mk (hbox); have n2_ := Aside0.mk ((by rw [hg]; exact (below_size (by repeat first | exact HB.out | apply pw_below_drewN)) : w.heap.size ≤ gb381)); have n3_ := Aside0.mk ((by rw [hg]; exact (below_size (by repeat first | exact HB.out | apply pw_below_drewN)) : w.heap.size ≤ gb381)); clear HB; have HB := n0_; have BK381 := n1_; have GW381 := n2_; have GE381 := n3_; clear n0_ n1_ n2_ n3_; clear hb hbox hg; have hcz15_0 := (blk_cell BK381.out 0).trans rfl; have hcz15_1 := (blk_cell BK381.out 1).trans rfl; have hfz15_0 := blk_frozen BK381.out 0; have hfz15_1 := blk_frozen BK381.out 1) | ((with_reducible refine gate_callee (f := 79) rfl ?_); refine goesL_ (some 11) rfl rfl Tryz.func79 (by kernel_rfl) rfl #[.agg #[.slice A0_0 l0_0.length c0_0, .slice A0_1 l0_1.length c0_1], .int .i64 a2] rfl (by (try simp only [List.map_toArray, List.map_cons, List.map_nil]); first | done | rfl) ?_; (with_reducible refine (impl_Tree_device.calls _ _ l0_0 _ _ l0_1 a2 t382 _ ?side1 ?side2 ?side3 ?side4 A4.out).mono ?_); (case side1 => exact (Kd.C_below HR0_0.out HB.out)); (case side2 => exact HC0_0.out); (case side3 => exact (Kd.C_below HR0_1.out HB.out)); (case side4 => exact HC0_1.out); rintro e w16 ⟨rfl, hb⟩; refine ⟨_, rfl, ?_⟩; have n0_ := Aside0.mk (blk_below (by exact BK381.out) hb); have n1_ := Aside0.mk (below_step (by repeat first | exact HB.out | apply pw_below_drewN) hb); clear BK381; clear HB; have BK381 := n0_; have HB := n1_; clear n0_ n1_; (try clear hb); (try clear hb2); (try clear hk); (try clear hi); have hcz17_0 := (blk_cell BK381.out 0).trans rfl; have hcz17_1 := (blk_cell BK381.out 1).trans rfl; have hfz17_0 := blk_frozen BK381.out 0; have hfz17_1 := blk_frozen BK381.out 1) | ((with_reducible refine gate_callee (f := 95) rfl ?_); refine goesL_ (some 19) rfl rfl Tryz.func95 (by kernel_rfl) rfl #[.agg #[.slice A0_0 l0_0.length c0_0, .slice A0_1 l0_1.length c0_1], .int .i64 a2, .int .i64 a1] rfl (by (try simp only [List.map_toArray, List.map_cons, List.map_nil]); first | done | rfl) ?_; (with_reducible refine (impl_Tree_above.calls k _ _ l0_0 _ _ l0_1 a2 a1 t383 _ ?side1 ?side2 ?side3 ?side4 A13.out).mono ?_); (case side1 => exact (Kd.C_below HR0_0.out HB.out)); (case side2 => exact HC0_0.out); (case side3 => exact (Kd.C_below HR0_1.out HB.out)); (case side4 => exact HC0_1.out); rintro e w18 ⟨rfl, hb⟩; refine ⟨_, rfl, ?_⟩; have n0_ := Aside0.mk (blk_below (by exact BK381.out) hb); have n1_ := Aside0.mk (below_step (by repeat first | exact HB.out | apply pw_below_drewN) hb); clear BK381; clear HB; have BK381 := n0_; have HB := n1_; clear n0_ n1_; (try clear hb); (try clear hb2); (try clear hk); (try clear hi)))
      go_ret2
      exact ⟨by first | rfl | (simp [*, errW_none, errW_some] <;> rfl), by repeat first | exact HB.out | apply pw_below_drewN⟩

end Go.Proofs.YtkadeelplnkpgaaGreat.Q
