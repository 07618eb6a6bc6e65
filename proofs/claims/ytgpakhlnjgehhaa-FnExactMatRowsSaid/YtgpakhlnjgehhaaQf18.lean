/- Walks of the Go functions that the laws call: each returns what a plain Lean function says. Written by a program for these claims. -/
import Derived.Test.YtgpakhlnjgehhaaQ0
import Derived.Test.YtgpakhlnjgehhaaQf19
import Derived.Test.YtgpakhlnjgehhaaQf20
import Derived.Test.YtgpakhlnjgehhaaQf26
namespace Go.Proofs.Ytgpakhlnjgehhaa.Q
open Go.RowKit Go.Proofs.YtgpakhlnjgehhaaW.PrintWords Go.Proofs.YtgpakhlnjgehhaaW.PrintLast Go.Proofs.YtgpakhlnjgehhaaW.PrintMore
attribute [local go_sem] max2_int min2_int max_two min_two max_three min_three max_four min_four   -- for this text's walks alone
set_option linter.unusedVariables false
set_option linter.unusedSimpArgs false

/-! ### impl_MatrixOk: function 18 -/
/-- is a number in a range? -/
def inB (a b c : Int) : Bool := decide (b ≤ a) && decide (a ≤ c)
theorem between_inB (a b c : Int) : impl_between.f a b c = some (inB a b c) := by
  unfold impl_between.f inB
  by_cases h : a ≥ b
  · rw [if_pos h, decide_eq_true h]; simp
  · rw [if_neg h, decide_eq_false h]; simp
theorem isElement_inB (a : Int) : impl_isElement.f a = some (inB a 0 255) := by
  unfold impl_isElement.f
  rw [between_inB]; rfl
def matOkB (h w : Int) (l : List Int) : Bool := inB h 1 8 && inB w 1 8 && decide ((l.length : Int) = wrap64 (h * w)) && !(l.any fun c => !(inB c 0 255))
def impl_MatrixOk.f (a0_0 : Int) (a0_1 : Int) (l0_2 : List Int) : Option Bool := some (matOkB a0_0 a0_1 l0_2)
theorem matClosure.calls (x : Int) (W : World) : Calls Try.prog 25 #[.int .i64 x] W fun e w' => e = .returned (.bool (!(inB x 0 255))) ∧ Below W.heap.size W w' := by
  go_enter Try.func25, Try.ntmps25
  go_wp2_with fail
  refine (impl_isElement.calls x _ _ (isElement_inB x)).mono ?_
  rintro e w' ⟨rfl, hd⟩
  obtain ⟨n, rfl⟩ := hd.out
  go_wp2_with fail
  go_ret
  exact ⟨rfl, pw_below_drewN (Below.refl _ _) n⟩
set_option maxHeartbeats 4000000 in
set_option maxRecDepth 100000 in
theorem impl_MatrixOk.calls (a0_0 : Int) (a0_1 : Int) (A0_2 : Option Addr) (c0_2 : Nat) (l0_2 : List Int) (r : Bool) (w : World) (hr0_2 : Kd.C (Kd.int .i64) w A0_2 l0_2.length l0_2) (hc0_2 : l0_2.length ≤ c0_2) (h : impl_MatrixOk.f a0_0 a0_1 l0_2 = some r) :
    Calls Try.prog 18 #[.agg #[.int .i64 a0_0, .int .i64 a0_1, .slice A0_2 l0_2.length c0_2]] w fun e w' => e = .returned (.bool r) ∧ Below w.heap.size w w' := by
  have hm := Kd.C_max hr0_2
  have HR := Aside0.mk hr0_2
  clear hr0_2 hc0_2
  obtain rfl := Option.some.inj h
  clear h
  have hd : matOkB a0_0 a0_1 l0_2 = (inB a0_0 1 8 && inB a0_1 1 8 && decide ((l0_2.length : Int) = wrap64 (a0_0 * a0_1)) && !(l0_2.any fun c => !(inB c 0 255))) := rfl
  have HD := Aside0.mk hd
  clear hd
  go_enter Try.func18, Try.ntmps18
  go_wp2_with fail
  have HB := Aside0.mk (below_alloc (Below.refl w.heap.size w) (.cells #[.int .i64 a0_0, .int .i64 a0_1, .slice A0_2 l0_2.length c0_2] 26))
  have HX : Aside0 ((w.alloc (.cells #[.int .i64 a0_0, .int .i64 a0_1, .slice A0_2 l0_2.length c0_2] 26)).heap[w.heap.size]? = some (.cells #[.int .i64 a0_0, .int .i64 a0_1, .slice A0_2 l0_2.length c0_2] 26 (0, 0))) := ⟨blk_new w _⟩
  refine (impl_between.calls _ _ _ _ _ (between_inB _ _ _)).mono ?_
  rintro e w1 ⟨rfl, hd1⟩
  obtain ⟨n1, rfl⟩ := hd1.out
  clear hd1
  cases hb1 : inB a0_0 1 8 with
  | false =>
    rw [hb1] at HD
    clear hb1
    go_wp2_with fail
    go_ret
    exact ⟨by rw [HD.out]; rfl, pw_below_drewN HB.out _⟩
  | true =>
    rw [hb1] at HD
    clear hb1
    go_wp2_with fail
    refine (impl_between.calls _ _ _ _ _ (between_inB _ _ _)).mono ?_
    rintro e w2 ⟨rfl, hd2⟩
    obtain ⟨n2, rfl⟩ := hd2.out
    clear hd2
    cases hb2 : inB a0_1 1 8 with
    | false =>
      rw [hb2] at HD
      clear hb2
      go_wp2_with fail
      go_ret
      exact ⟨by rw [HD.out]; rfl, pw_below_drewN HB.out _⟩
    | true =>
      rw [hb2] at HD
      clear hb2
      have hw : IntKind.i64.wrap (a0_0 * a0_1) = wrap64 (a0_0 * a0_1) := i64_w _
      cases hb3 : decide ((l0_2.length : Int) = wrap64 (a0_0 * a0_1)) with
      | false =>
        rw [hb3] at HD
        have hb3' : ((l0_2.length : Int) == wrap64 (a0_0 * a0_1)) = false := by simpa using hb3
        clear hb3
        go_wp2_with fail
        go_ret
        exact ⟨by rw [HD.out]; rfl, pw_below_drewN HB.out _⟩
      | true =>
        rw [hb3] at HD
        have hb3' : ((l0_2.length : Int) == wrap64 (a0_0 * a0_1)) = true := by simpa using hb3
        clear hb3
        go_wp2_with fail
        refine (containsInt64.calls A0_2 c0_2 l0_2 25 #[] (fun c => !(inB c 0 255)) _ @Try.call25 (Kd.C_below HR.out (pw_below_drewN HB.out _)) ?_).mono ?_
        · intro W x cs hB hK
          obtain rfl : cs = [.int .i64 x] := hK
          exact (matClosure.calls x W).mono fun e w' ⟨he, hb⟩ => ⟨he, hB.trans (hb.mono hB.size)⟩
        · rintro e w3 ⟨rfl, hb3⟩
          have HB3 := Aside0.mk ((pw_below_drewN HB.out (n1 + n2)).trans (hb3.mono (pw_below_drewN HB.out (n1 + n2)).size))
          clear hb3
          go_wp2_with fail
          go_ret
          exact ⟨by rw [HD.out]; rfl, HB3.out⟩

end Go.Proofs.Ytgpakhlnjgehhaa.Q
