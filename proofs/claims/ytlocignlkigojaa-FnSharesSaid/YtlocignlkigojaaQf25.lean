/- Walks of the Go functions that the laws call: each returns what a plain Lean function says. Written by a program for these claims. -/
import Derived.Test.YtlocignlkigojaaQ0
import Derived.Test.YtlocignlkigojaaQf30
import Derived.Test.YtlocignlkigojaaQf84
import Derived.Test.YtlocignlkigojaaQf87
namespace Go.Proofs.Ytlocignlkigojaa.Q
open Go.RowKit Go.Proofs.YtlocignlkigojaaW.PrintWords Go.Proofs.YtlocignlkigojaaW.PrintLast Go.Proofs.YtlocignlkigojaaW.PrintMore
attribute [local go_sem] max2_int min2_int max_two min_two max_three min_three max_four min_four   -- for this text's walks alone
set_option linter.unusedVariables false
set_option linter.unusedSimpArgs false

/-! ### impl_ItemsOk: function 25 -/
/-- one item is valid -/
def itemB (x : S26) : Bool := inB x.f0 (-12) 15 && inB x.f1 0 128
theorem itemOk_itemB (x : S26) : impl_itemOk.f x.f0 x.f1 = some (itemB x) := by
  unfold impl_itemOk.f itemB
  simp only [between_inB, Option.bind_some]
  cases inB x.f0 (-12) 15 <;> simp
/-- the items from a place on, behind those that were seen -/
def itemsGo : List (S26) → List (S26) → Bool
  | _, [] => true
  | seen, x :: xs => itemB x && !(seen.any fun y => y.f0 == x.f0) && itemsGo (seen ++ [x]) xs
def itemsOkB (l : List (S26)) : Bool := itemsGo [] l && decide (l.length ≤ 8)
theorem itemsGo_step (l : List (S26)) (i : Int) (h0 : 0 ≤ i) (h1 : i < l.length) :
    itemsGo (l.take i.toNat) (l.drop i.toNat) = (itemB (rd_T26 l i) && !((l.take i.toNat).any fun y => y.f0 == (rd_T26 l i).f0) && itemsGo (l.take (i + 1).toNat) (l.drop (i + 1).toNat)) := by
  obtain ⟨n, rfl⟩ := Int.eq_ofNat_of_zero_le h0
  have hl : n < l.length := by omega
  have e : ((n : Int) + 1).toNat = n + 1 := by omega
  have er : rd_T26 l n = l[n] := by
    unfold rd_T26
    rw [Int.toNat_natCast, List.getD_eq_getElem?_getD, List.getElem?_eq_getElem hl]; rfl
  rw [e, er, Int.toNat_natCast, List.drop_eq_getElem_cons hl, List.take_succ_eq_append_getElem hl]
  rfl
def impl_ItemsOk.f (l0 : List (S26)) : Option Bool := some (itemsOkB l0)
theorem itemsClosure.calls (b : Nat) (x0 : S26) (x : S26) (W : World) (hb : W.heap[b]? = some (.cells #[.int .i64 x0.f0, .int .i64 x0.f1] 26 (0, 0))) :
    Calls Try.prog 88 #[.agg #[.int .i64 x.f0, .int .i64 x.f1], .pointer (some ⟨b, 0, none⟩)] W fun e w' => e = .returned (.bool (x.f0 == x0.f0)) ∧ Below W.heap.size W w' := by
  have hc := (blk_cell hb 0).trans rfl
  have hl := blk_lt hb
  clear hb
  go_enter Try.func88, Try.ntmps88
  go_wp2_with fail
  go_ret
  exact ⟨rfl, below_alloc (Below.refl _ _) _⟩
set_option maxHeartbeats 4000000 in
set_option maxRecDepth 100000 in
theorem impl_ItemsOk.calls (A0 : Option Addr) (c0 : Nat) (l0 : List (S26)) (r : Bool) (w : World) (hr0 : Kd.C k26 w A0 l0.length l0) (hc0 : l0.length ≤ c0) (h : impl_ItemsOk.f l0 = some r) :
    Calls Try.prog 25 #[.slice A0 l0.length c0] w fun e w' => e = .returned (.bool r) ∧ Below w.heap.size w w' := by
  have hm := Kd.C_max hr0
  have HR := Aside0.mk hr0
  clear hr0
  obtain rfl := Option.some.inj h
  clear h
  have HD := Aside0.mk (show itemsOkB l0 = (itemsGo (l0.take 0) (l0.drop 0) && decide (l0.length ≤ 8)) from by simp [itemsOkB])
  go_enter Try.func25, Try.ntmps25
  go_wp2_with fail
  go_loopg [3, 4, 7] l0.length (fun gg _ _ s7 wr => ∃ kk : Int, 0 ≤ kk ∧ kk ≤ l0.length ∧ (l0.length : Int) - kk ≤ gg ∧ s7 = .int .i64 kk ∧ Aside0 (Below w.heap.size w wr) ∧ Aside0 (itemsOkB l0 = (itemsGo (l0.take kk.toNat) (l0.drop kk.toNat) && decide (l0.length ≤ 8))))
  case atStart => exact ⟨0, by omega, by omega, by omega, rfl, ⟨Below.refl _ w⟩, HD⟩
  case round =>
    clear HD
    obtain ⟨kk, h0, hkk, hg, rfl, BW, HD⟩ := hrel
    by_cases hlt : kk < (l0.length : Int)
    · obtain ⟨ad, rfl, hx0, hx1⟩ := at_T26 HR.out kk h0 hlt
      replace hx0 := (BW.out.cell (World.block_lt_of_cell? w _ hx0)).trans hx0
      replace hx1 := (BW.out.cell (World.block_lt_of_cell? w _ hx1)).trans hx1
      have HS := Aside0.mk (itemsGo_step l0 kk h0 hlt)
      have HE := Aside0.mk (itemOk_itemB (rd_T26 l0 kk))
      generalize hxe : rd_T26 l0 kk = x at hx0 hx1 HS HE
      clear hxe
      have q0 := eq_true h0
      have q1 := eq_true hlt
      go_wp2_with fail
      have HX0 : Aside0 ((wr.alloc (.cells #[.int .i64 x.f0, .int .i64 x.f1] 26)).heap[wr.heap.size]? = some (.cells #[.int .i64 x.f0, .int .i64 x.f1] 26 (0, 0))) := ⟨blk_new wr _⟩
      have HB0 := Aside0.mk (below_step BW.out (below_alloc (Below.refl wr.heap.size wr) (.cells #[.int .i64 x.f0, .int .i64 x.f1] 26)))
      clear hx0 hx1
      have hwb : w.heap.size ≤ wr.heap.size := BW.out.size
      refine (impl_itemOk.calls _ _ _ _ HE.out).mono ?_
      rintro e w1 ⟨rfl, hb1⟩
      have HX1 := Aside0.mk ((hb1.block _ (blk_lt HX0.out)).trans HX0.out)
      have HB1 := Aside0.mk (below_step HB0.out hb1)
      clear hb1 HB0 HX0 BW HE
      generalize wr.heap.size = gb at HX1 hwb ⊢
      cases hi : itemB x with
      | false =>
        rw [hi] at HS
        clear hi
        go_wp2_with fail
        go_ret
        exact ⟨by rw [HD.out, HS.out]; rfl, HB1.out⟩
      | true =>
        rw [hi] at HS
        clear hi
        have hkn : (kk : Int).toNat ≤ l0.length := by omega
        have hkl : ((l0.take kk.toNat).length : Nat) = kk.toNat := by rw [List.length_take]; omega
        go_wp2_with fail
        have hcall := containsItem.calls (some ad) c0 (l0.take kk.toNat) 88 #[.pointer (some ⟨gb, 0, none⟩)] (fun y => y.f0 == x.f0) w1 @Try.call88 (Kd.C_take (Kd.C_below HR.out HB1.out) hkn) (by
          intro W y cs hB hK
          obtain rfl := k26_open hK
          exact (itemsClosure.calls gb x y W ((hB.block _ (blk_lt HX1.out)).trans HX1.out)).mono fun e w' ⟨he, hb⟩ => ⟨he, hB.trans (hb.mono hB.size)⟩)
        rw [hkl] at hcall
        refine hcall.mono ?_
        clear hcall
        rintro e w2 ⟨rfl, hb2⟩
        have HB2 := Aside0.mk (below_step HB1.out hb2)
        clear hb2 HB1 HX1
        cases hs : (l0.take kk.toNat).any (fun y => y.f0 == x.f0) with
        | true =>
          rw [hs] at HS
          clear hs hkl hkn
          go_wp2_with fail
          go_ret
          exact ⟨by rw [HD.out, HS.out]; rfl, HB2.out⟩
        | false =>
          rw [hs] at HS
          clear hs hkl hkn
          go_wp2_with fail
          go_roundg (gk - 1)
          case measure => omega
          case rel => exact ⟨kk + 1, by omega, by omega, by omega, by go_num, HB2, ⟨by rw [HD.out, HS.out]; rfl⟩⟩
    · have : kk = l0.length := by omega
      subst this
      have HE := Aside0.mk (show itemsOkB l0 = decide ((l0.length : Int) ≤ 8) from by
        rw [HD.out, List.drop_of_length_le (by simp)]
        simp only [itemsGo, Bool.true_and]
        exact decide_eq_decide.2 (by omega))
      go_wp2_with fail
      go_ret
      exact ⟨by rw [HE.out]; rfl, BW.out⟩

end Go.Proofs.Ytlocignlkigojaa.Q
