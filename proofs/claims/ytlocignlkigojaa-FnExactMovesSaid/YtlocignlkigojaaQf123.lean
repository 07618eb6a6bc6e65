/- Walks of the Go functions that the laws call: each returns what a plain Lean function says. Written by a program for these claims. -/
import Derived.Test.YtlocignlkigojaaQ0
import Derived.Test.YtlocignlkigojaaQf30
import Derived.Test.YtlocignlkigojaaQf92
import Derived.Test.YtlocignlkigojaaQf93
namespace Go.Proofs.Ytlocignlkigojaa.Q
open Go.RowKit Go.Proofs.YtlocignlkigojaaW.PrintWords Go.Proofs.YtlocignlkigojaaW.PrintLast Go.Proofs.YtlocignlkigojaaW.PrintMore
attribute [local go_sem] max2_int min2_int max_two min_two max_three min_three max_four min_four   -- for this text's walks alone
set_option linter.unusedVariables false
set_option linter.unusedSimpArgs false

/-! ### impl_tableOk: function 123 -/
def impl_allBetween.f (l0 : List Int) (a1 : Int) (a2 : Int) : Option Bool := some (l0.all fun x => inB x a1 a2)
theorem allBetweenClosure.calls (x lo hi : Int) (bl bh : Nat) (W : World) (h1 : W.heap[bl]? = some (.cells #[.int .i64 lo] 2 (0, 0))) (h2 : W.heap[bh]? = some (.cells #[.int .i64 hi] 2 (0, 0))) :
    Calls Try.prog 170 #[.int .i64 x, .pointer (some ⟨bl, 0, none⟩), .pointer (some ⟨bh, 0, none⟩)] W fun e w' => e = .returned (.bool (!(inB x lo hi))) ∧ Below W.heap.size W w' := by
  have hl := (blk_cell h1 0).trans rfl
  have hh := (blk_cell h2 0).trans rfl
  clear h1 h2
  go_enter Try.func170, Try.ntmps170
  go_wp2_with fail
  refine (impl_between.calls _ _ _ _ _ (between_inB x lo hi)).mono ?_
  rintro e w' ⟨rfl, hd⟩
  obtain ⟨n, rfl⟩ := hd.out
  go_wp2_with fail
  go_ret
  exact ⟨rfl, pw_below_drewN (Below.refl _ _) n⟩
theorem all_any (l : List Int) (p : Int → Bool) : (!(l.any fun x => !(p x))) = l.all p := by
  induction l with
  | nil => rfl
  | cons x xs ih => simp only [List.any_cons, List.all_cons, Bool.not_or, ih, Bool.not_not]
set_option maxHeartbeats 4000000 in
set_option maxRecDepth 100000 in
theorem impl_allBetween.calls (A0 : Option Addr) (c0 : Nat) (l0 : List Int) (a1 : Int) (a2 : Int) (r : Bool) (w : World) (hr0 : Kd.C (Kd.int .i64) w A0 l0.length l0) (hc0 : l0.length ≤ c0) (h : impl_allBetween.f l0 a1 a2 = some r) :
    Calls Try.prog 158 #[.slice A0 l0.length c0, .int .i64 a1, .int .i64 a2] w fun e w' => e = .returned (.bool r) ∧ Below w.heap.size w w' := by
  have HR := Aside0.mk hr0
  clear hr0 hc0
  obtain rfl := Option.some.inj h
  clear h
  have HD := Aside0.mk (all_any l0 fun x => inB x a1 a2)
  go_enter Try.func158, Try.ntmps158
  go_wp2_with fail
  have HB := Aside0.mk (below_alloc (below_alloc (Below.refl w.heap.size w) (.cells #[.int .i64 a1] 2)) (.cells #[.int .i64 a2] 2))
  have H1 := Aside0.mk (blk_alloc (blk_new w (.cells #[.int .i64 a1] 2)) (.cells #[.int .i64 a2] 2))
  have H2 := Aside0.mk (blk_new (w.alloc (.cells #[.int .i64 a1] 2)) (.cells #[.int .i64 a2] 2))
  have hs : (w.alloc (.cells #[.int .i64 a1] 2)).heap.size = w.heap.size + 1 := by unfold World.alloc; exact Array.size_push _
  rw [hs] at H2
  clear hs
  generalize ((w.alloc (.cells #[.int .i64 a1] 2)).alloc (.cells #[.int .i64 a2] 2)) = W at HB H1 H2 ⊢
  generalize w.heap.size + 1 = b2 at H2 ⊢
  have HRW := Aside0.mk (Kd.C_below HR.out HB.out)
  refine (containsInt64.calls A0 c0 l0 170 #[.pointer (some ⟨w.heap.size, 0, none⟩), .pointer (some ⟨b2, 0, none⟩)] (fun x => !(inB x a1 a2)) W @Try.call170 HRW.out (by
    intro W2 y cs hB hK
    obtain rfl := hK
    exact (allBetweenClosure.calls y a1 a2 w.heap.size b2 W2 ((hB.block _ (blk_lt H1.out)).trans H1.out) ((hB.block _ (blk_lt H2.out)).trans H2.out)).mono fun r w' ⟨he, hb'⟩ => ⟨he, hB.trans (hb'.mono hB.size)⟩)).mono ?_
  rintro e w' ⟨rfl, hb⟩
  have HB2 := Aside0.mk (below_step HB.out hb)
  clear hb
  go_wp2_with fail
  go_ret
  exact ⟨by rw [← HD.out]; rfl, HB2.out⟩
set_option maxHeartbeats 2000000 in
set_option maxRecDepth 100000 in
theorem indexRowP.calls (A : Option Addr) (c : Nat) (l : List (List Int)) (g : Nat) (lb : Array Value) (p : List Int → Bool) (w : World) (eg : ∀ args w, (callFunc g args).run Try.prog w = .ok (.enter g args) w)
    (hr : Kd.C (Kd.slice 2 (Kd.int .i64)) w A l.length l) (hp : 0 < l.length → PredV (Kd.slice 2 (Kd.int .i64)) (fun cs => cs.headD undef) g lb p w) :
    Calls Try.prog 169 #[.slice A l.length c, .func (.func g) #[] lb] w fun e w' => e = .returned (.int .i64 (idxFrom p l 0)) ∧ Below w.heap.size w w' := by
  have hm := Kd.C_max hr
  go_enter Try.func169, Try.ntmps169
  go_wp2
  go_loopg [5, 8] l.length (fun gg _ s8 wr => ∃ kk : Int, 0 ≤ kk ∧ kk ≤ l.length ∧ (l.length : Int) - kk ≤ gg ∧ s8 = .int .i64 kk ∧ Aside0 (Below w.heap.size w wr) ∧ Aside0 (idxFrom p l 0 = idxFrom p (l.drop kk.toNat) kk))
  case atStart => exact ⟨0, by omega, by omega, by omega, rfl, ⟨Below.refl _ w⟩, ⟨by simp⟩⟩
  case round =>
    obtain ⟨kk, h0, hkk, hg, rfl, BW, HA⟩ := hrel
    by_cases hlt : kk < (l.length : Int)
    · obtain ⟨ad, A2, c2, rfl, hx0, hl2, hg2⟩ := at_L5 hr kk h0 hlt
      have hcall : Calls Try.prog g (#[.slice A2 (rd_L5 l kk).length c2] ++ lb) wr (fun e w' => e = .returned (.bool (p (rd_L5 l kk))) ∧ Below w.heap.size w w') := hp (by omega) wr (rd_L5 l kk) [.slice A2 (rd_L5 l kk).length c2] BW.out ⟨A2, c2, rfl, hl2, Kd.C_below hg2 BW.out⟩
      have hH := idx_here p l kk h0 hlt ([] : List Int)
      clear hl2 hg2
      replace hx0 := (BW.out.cell (World.block_lt_of_cell? w _ hx0)).trans hx0
      clear hr hp
      have HH := Aside0.mk (show (p (rd_L5 l kk) = true → idxFrom p (l.drop kk.toNat) kk = kk) ∧ (p (rd_L5 l kk) = false → idxFrom p (l.drop kk.toNat) kk = idxFrom p (l.drop (kk + 1).toNat) (kk + 1)) from hH)
      clear hH
      have q0 := eq_true h0
      have q1 := eq_true hlt
      cases hq : p (rd_L5 l kk) with
      | true =>
        rw [hq] at hcall
        have HQ := Aside0.mk hq
        clear hq
        go_wp2_with fail
        (with_reducible refine hcall.mono ?_)
        clear hcall
        rintro e w' ⟨rfl, hb'⟩
        have HB' := Aside0.mk hb'
        clear hb'
        go_wp2_with fail
        go_ret
        refine ⟨?_, HB'.out⟩
        rw [HA.out, HH.out.1 HQ.out]
        rfl
      | false =>
        rw [hq] at hcall
        have HQ := Aside0.mk hq
        clear hq
        go_wp2_with fail
        (with_reducible refine hcall.mono ?_)
        clear hcall
        rintro e w' ⟨rfl, hb'⟩
        have HB' := Aside0.mk hb'
        clear hb'
        go_wp2_with fail
        go_roundg (gk - 1)
        case measure => omega
        case rel => exact ⟨kk + 1, by omega, by omega, by omega, by go_num, HB', ⟨by rw [HA.out, HH.out.2 HQ.out]⟩⟩
    · have : kk = l.length := by omega
      subst this
      go_wp2
      go_ret
      exact ⟨by rw [HA.out, idx_end p l _ rfl]; rfl, BW.out⟩
set_option maxHeartbeats 2000000 in
set_option maxRecDepth 100000 in
theorem containsRowP.calls (A : Option Addr) (c : Nat) (l : List (List Int)) (g : Nat) (lb : Array Value) (p : List Int → Bool) (w : World) (eg : ∀ args w, (callFunc g args).run Try.prog w = .ok (.enter g args) w)
    (hr : Kd.C (Kd.slice 2 (Kd.int .i64)) w A l.length l) (hp : 0 < l.length → PredV (Kd.slice 2 (Kd.int .i64)) (fun cs => cs.headD undef) g lb p w) :
    Calls Try.prog 156 #[.slice A l.length c, .func (.func g) #[] lb] w fun e w' => e = .returned (.bool (l.any p)) ∧ Below w.heap.size w w' := by
  have HH := Aside0.mk (idx_any p l 0 (by omega))
  go_enter Try.func156, Try.ntmps156
  go_wp2_with fail
  refine (indexRowP.calls A c l g lb p w eg hr hp).mono ?_
  rintro e w' ⟨rfl, hb'⟩
  have HB' := Aside0.mk hb'
  clear hb' hr hp
  generalize idxFrom p l 0 = i at HH ⊢
  go_wp2_with fail
  go_ret
  exact ⟨by rw [← HH.out]; rfl, HB'.out⟩
/-- is a row of a table bad? -/
def rowBad (l : List (List Int)) (row : List Int) : Bool := ((row.length : Int) != ((rd_L5 l 0).length : Int)) || decide (7 < (row.length : Int)) || !(row.all fun x => inB x (-1) 15)
def tableB (l : List (List Int)) : Bool := decide ((l.length : Int) ≤ 16) && !(l.any (rowBad l))
def impl_tableOk.f (l0 : List (List Int)) : Option Bool := some (tableB l0)
set_option maxHeartbeats 4000000 in
set_option maxRecDepth 100000 in
theorem rowClosure.calls (A : Option Addr) (c : Nat) (l : List (List Int)) (row : List Int) (A2 : Option Addr) (c2 : Nat) (b : Nat) (W : World) (hpos : 0 < l.length) (hr : Kd.C (Kd.slice 2 (Kd.int .i64)) W A l.length l) (hrow : Kd.C (Kd.int .i64) W A2 row.length row) (hl2 : row.length ≤ c2) (hb : W.heap[b]? = some (.cells #[.slice A l.length c] 87 (0, 0))) :
    Calls Try.prog 157 #[.slice A2 row.length c2, .pointer (some ⟨b, 0, none⟩)] W fun e w' => e = .returned (.bool (rowBad l row)) ∧ Below W.heap.size W w' := by
  have hc := (blk_cell hb 0).trans rfl
  have hlb := blk_lt hb
  have HRO := Aside0.mk hrow
  have HL2 := Aside0.mk hl2
  obtain ⟨ad, A0, c0, rfl, hx0, -, -⟩ := at_L5 hr 0 (by omega) (by omega)
  have hp0 := eq_true (show (0 : Int) < (l.length : Int) by omega)
  have HF := Aside0.mk (show rowBad l row = (((row.length : Int) != ((rd_L5 l 0).length : Int)) || decide (7 < (row.length : Int)) || !(row.all fun x => inB x (-1) 15)) from rfl)
  clear hr hrow hl2 hb
  go_enter Try.func157, Try.ntmps157
  replace hx0 : W.cell? ad = some (.slice A0 (rd_L5 l 0).length c0) := hx0
  cases h1 : ((row.length : Int) != ((rd_L5 l 0).length : Int)) with
  | true =>
    rw [h1] at HF
    have HF' := Aside0.mk (show rowBad l row = true from by rw [HF.out]; rfl)
    clear HF
    go_wp2_with fail
    go_ret
    exact ⟨by rw [HF'.out]; rfl, Below.refl _ _⟩
  | false =>
    rw [h1] at HF
    cases h2 : decide (7 < (row.length : Int)) with
    | true =>
      rw [h2] at HF
      have HF' := Aside0.mk (show rowBad l row = true from by rw [HF.out]; rfl)
      clear HF
      go_wp2_with fail
      go_ret
      exact ⟨by rw [HF'.out]; rfl, Below.refl _ _⟩
    | false =>
      rw [h2] at HF
      go_wp2_with fail
      refine (impl_allBetween.calls A2 c2 row (-1) 15 _ _ HRO.out HL2.out rfl).mono ?_
      rintro e w' ⟨rfl, hb'⟩
      have HB := Aside0.mk hb'
      clear hb'
      go_wp2_with fail
      go_ret
      exact ⟨by rw [HF.out]; rfl, HB.out⟩
set_option maxHeartbeats 4000000 in
set_option maxRecDepth 100000 in
theorem impl_tableOk.calls (A0 : Option Addr) (c0 : Nat) (l0 : List (List Int)) (r : Bool) (w : World) (hr0 : Kd.C (Kd.slice 2 (Kd.int .i64)) w A0 l0.length l0) (hc0 : l0.length ≤ c0) (h : impl_tableOk.f l0 = some r) :
    Calls Try.prog 123 #[.slice A0 l0.length c0] w fun e w' => e = .returned (.bool r) ∧ Below w.heap.size w w' := by
  have hm := Kd.C_max hr0
  have HR := Aside0.mk hr0
  clear hr0 hc0
  obtain rfl := Option.some.inj h
  clear h
  have HD := Aside0.mk (show tableB l0 = (decide ((l0.length : Int) ≤ 16) && !(l0.any (rowBad l0))) from rfl)
  go_enter Try.func123, Try.ntmps123
  cases h1 : decide ((l0.length : Int) ≤ 16) with
  | false =>
    rw [h1] at HD
    go_wp2_with fail
    go_ret
    exact ⟨by rw [HD.out]; rfl, below_alloc (Below.refl _ _) _⟩
  | true =>
    rw [h1] at HD
    go_wp2_with fail
    have HB := Aside0.mk (below_alloc (Below.refl w.heap.size w) (.cells #[.slice A0 l0.length c0] 87))
    have HX := Aside0.mk (blk_new w (.cells #[.slice A0 l0.length c0] 87))
    generalize (w.alloc (.cells #[.slice A0 l0.length c0] 87)) = W at HB HX ⊢
    have HRW := Aside0.mk (Kd.C_below HR.out HB.out)
    refine (containsRowP.calls A0 c0 l0 157 #[.pointer (some ⟨w.heap.size, 0, none⟩)] (rowBad l0) W @Try.call157 HRW.out (fun hpos => by
      intro W2 y cs hB hK
      obtain ⟨A2, c2, rfl, hl2, hg2⟩ := hK
      exact (rowClosure.calls A0 c0 l0 y A2 c2 w.heap.size W2 hpos (Kd.C_below HRW.out hB) hg2 hl2 ((hB.block _ (blk_lt HX.out)).trans HX.out)).mono fun r w' ⟨he, hb'⟩ => ⟨he, hB.trans (hb'.mono hB.size)⟩)).mono ?_
    rintro e w' ⟨rfl, hb⟩
    have HB2 := Aside0.mk (below_step HB.out hb)
    clear hb
    go_wp2_with fail
    go_ret
    exact ⟨by rw [HD.out]; rfl, HB2.out⟩

end Go.Proofs.Ytlocignlkigojaa.Q
