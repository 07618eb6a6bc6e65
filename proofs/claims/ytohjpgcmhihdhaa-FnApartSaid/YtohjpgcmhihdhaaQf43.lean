/- Walks of the Go functions that the laws call: each returns what a plain Lean function says. Written by a program for these claims. -/
import Derived.Test.YtohjpgcmhihdhaaQ0
import Derived.Test.YtohjpgcmhihdhaaQf25
import Derived.Test.YtohjpgcmhihdhaaQf33
import Derived.Test.YtohjpgcmhihdhaaQf56
namespace Go.Proofs.Ytohjpgcmhihdhaa.Q
open Go.RowKit Go.Proofs.YtohjpgcmhihdhaaW.PrintWords Go.Proofs.YtohjpgcmhihdhaaW.PrintLast Go.Proofs.YtohjpgcmhihdhaaW.PrintMore
attribute [local go_sem] max2_int min2_int max_two min_two max_three min_three max_four min_four   -- for this text's walks alone
set_option linter.unusedVariables false
set_option linter.unusedSimpArgs false

/-! ### impl_allBetween: function 43 -/
def impl_allBetween.f (l0 : List Int) (a1 : Int) (a2 : Int) : Option Bool := some (l0.all fun x => inB x a1 a2)
theorem allBetweenClosure.calls (x lo hi : Int) (bl bh : Nat) (W : World) (h1 : W.heap[bl]? = some (.cells #[.int .i64 lo] 2 (0, 0))) (h2 : W.heap[bh]? = some (.cells #[.int .i64 hi] 2 (0, 0))) :
    Calls Try.prog 57 #[.int .i64 x, .pointer (some ⟨bl, 0, none⟩), .pointer (some ⟨bh, 0, none⟩)] W fun e w' => e = .returned (.bool (!(inB x lo hi))) ∧ Below W.heap.size W w' := by
  have hl := (blk_cell h1 0).trans rfl
  have hh := (blk_cell h2 0).trans rfl
  clear h1 h2
  go_enter Try.func57, Try.ntmps57
  go_wp2_with fail
  refine (impl_between.calls _ _ _ _ _ (between_inB x lo hi)).mono ?_
  rintro e w' ⟨rfl, hd⟩
  obtain ⟨n, rfl⟩ := hd.out
  go_wp2_with fail
  go_ret
  exact ⟨rfl, pw_below_drewN (Below.refl _ _) n⟩
theorem all_any (l : List Int) (p : Int → Bool) : (!(l.any fun x => !(p x))) = l.all p := by
  induction l with
  | nil => rfl
  | cons x xs ih => simp only [List.any_cons, List.all_cons, Bool.not_or, ih, Bool.not_not]
set_option maxHeartbeats 4000000 in
set_option maxRecDepth 100000 in
theorem impl_allBetween.calls (A0 : Option Addr) (c0 : Nat) (l0 : List Int) (a1 : Int) (a2 : Int) (r : Bool) (w : World) (hr0 : Kd.C (Kd.int .i64) w A0 l0.length l0) (hc0 : l0.length ≤ c0) (h : impl_allBetween.f l0 a1 a2 = some r) :
    Calls Try.prog 43 #[.slice A0 l0.length c0, .int .i64 a1, .int .i64 a2] w fun e w' => e = .returned (.bool r) ∧ Below w.heap.size w w' := by
  have HR := Aside0.mk hr0
  clear hr0 hc0
  obtain rfl := Option.some.inj h
  clear h
  have HD := Aside0.mk (all_any l0 fun x => inB x a1 a2)
  go_enter Try.func43, Try.ntmps43
  go_wp2_with fail
  have HB := Aside0.mk (below_alloc (below_alloc (Below.refl w.heap.size w) (.cells #[.int .i64 a1] 2)) (.cells #[.int .i64 a2] 2))
  have H1 := Aside0.mk (blk_alloc (blk_new w (.cells #[.int .i64 a1] 2)) (.cells #[.int .i64 a2] 2))
  have H2 := Aside0.mk (blk_new (w.alloc (.cells #[.int .i64 a1] 2)) (.cells #[.int .i64 a2] 2))
  have hs : (w.alloc (.cells #[.int .i64 a1] 2)).heap.size = w.heap.size + 1 := by unfold World.alloc; exact Array.size_push _
  rw [hs] at H2
  clear hs
  generalize ((w.alloc (.cells #[.int .i64 a1] 2)).alloc (.cells #[.int .i64 a2] 2)) = W at HB H1 H2 ⊢
  generalize w.heap.size + 1 = b2 at H2 ⊢
  have HRW := Aside0.mk (Kd.C_below HR.out HB.out)
  refine (containsInt64.calls A0 c0 l0 57 #[.pointer (some ⟨w.heap.size, 0, none⟩), .pointer (some ⟨b2, 0, none⟩)] (fun x => !(inB x a1 a2)) W @Try.call57 HRW.out (by
    intro W2 y cs hB hK
    obtain rfl := hK
    exact (allBetweenClosure.calls y a1 a2 w.heap.size b2 W2 ((hB.block _ (blk_lt H1.out)).trans H1.out) ((hB.block _ (blk_lt H2.out)).trans H2.out)).mono fun r w' ⟨he, hb'⟩ => ⟨he, hB.trans (hb'.mono hB.size)⟩)).mono ?_
  rintro e w' ⟨rfl, hb⟩
  have HB2 := Aside0.mk (below_step HB.out hb)
  clear hb
  go_wp2_with fail
  go_ret
  exact ⟨by rw [← HD.out]; rfl, HB2.out⟩

end Go.Proofs.Ytohjpgcmhihdhaa.Q
