/- The row of FnExactSplit: for every argument the law returns true; the arguments read as they did. No conditions. -/
import Derived.Test.YtlbahilobbdpjaaRows
import Derived.Test.YtlbahilobbdpjaaOHead
import Derived.Test.YtlbahilobbdpjaaOTypes
import Derived.Test.YtlbahilobbdpjaaQf14
import Derived.Test.YtlbahilobbdpjaaPureFnExactSplit
import Derived.WalkKit
import Derived.ProofKit
import Derived.OpenShut
import Derived.ShutString
import Derived.ChangeOld
import Derived.Below
import Derived.SizedLaws
namespace Go.Proofs.Ytlbahilobbdpjaa.fnExactSplit
open Go.ChangeShapes Go.WideShapes Go.ChangeAt Go.RowKit
open Go.ChangeMaps (open_string shut_string)
open Go.Proofs.Ytlbahilobbdpjaa.Opens Go.Proofs.YtlbahilobbdpjaaW.PrintWords
set_option linter.unusedVariables false
theorem own : ownKnob Try.prog.godebug = none := by kernel_rfl
theorem laidOut : laidOutB Try.prog = true := by kernel_rfl
set_option maxRecDepth 100000 in
theorem lifted (os : Os) (started : os.Started) (H : Type) (enc : TypeId × Value → H) :
    ReturnsInHanded {} Try.checked os 14 .any (Rows.fnExactSplitSpec.pre6 enc Try.prog Try.f14 Rows.fnExactSplitRow.domain false) (Rows.fnExactSplitSpec.post enc Try.prog Try.f14 false true false false) := by
  refine returnsInHanded_of_change_sized (C := Try.checked) own started (by kernel_rfl) Try.func14
    (ChangeSpec.witness6 (enc := enc) (C := Try.checked) false ⟨#[], #[.agg #[.int .i64 0, .int .i64 0, .int .i64 0, .int .i64 0, .int .i64 0, .int .i64 0]], []⟩ 8 (by kernel_rfl) (by kernel_rfl) (by kernel_rfl) (by kernel_rfl)) ?_
  intro W base args ds gs before hval0 hW hcnd hsz0 _
  have hsz : (DataW.weightsEach Try.prog (Try.f14.params.toList ++ Rows.fnExactSplitSpec.plain.varTypes Try.prog) (ds ++ gs)).all (· ≤ reachBytes) = true := hsz0
  have hval : ∀ (j : Nat) t v, Try.f14.params[j]? = some t → args[j]? = some v → Value.okWide Try.prog W .any base t v := hval0
  have hW' := hW
  obtain ⟨p, q, hA0, hV, rfl, hfz, hnd⟩ := hW
  have hA : DataW.TrodAll enc Try.prog W 0 (fun _ => true) true Try.f14.params.toList args.toList ds p := hA0
  rw [Try.params14] at hA hval hsz
  obtain ⟨v0, vs0, d0, ds0, p0, q0, hargs, rfl, rfl, h0, r0⟩ := trodAll_cons hA
  obtain ⟨rfl, rfl, rfl⟩ := trodAll_nil r0
  obtain rfl : args = #[v0] := by cases args; simp_all
  obtain ⟨rfl, rfl⟩ := trodVars_none hV
  have k0 := h0
  have lt0 : ∀ x ∈ p0, x.block < W.heap.size := by obtain ⟨m, hm⟩ := k0; exact DataW.trod_lt m _ _ _ hm
  obtain ⟨cs0, x0, rfl, hk0, hg0⟩ := open_struct Try.underlying40 raw_t40 (hval 0 40 v0 rfl rfl) h0
  obtain ⟨eu0_0_3, e'u0_0_3, rfl, pu0_0_3, qu0_0_3⟩ := hk0
  obtain ⟨gu0_0_3, g'u0_0_3⟩ := hg0
  obtain rfl := pu0_0_3
  obtain ⟨eu0_1_6, e'u0_1_6, rfl, pu0_1_6, qu0_1_6⟩ := qu0_0_3
  obtain ⟨gu0_1_6, g'u0_1_6⟩ := g'u0_0_3
  obtain ⟨eu0_1_8, e'u0_1_8, rfl, pu0_1_8, qu0_1_8⟩ := pu0_1_6
  obtain ⟨gu0_1_8, g'u0_1_8⟩ := gu0_1_6
  obtain rfl := pu0_1_8
  obtain rfl := qu0_1_8
  obtain ⟨eu0_3_12, e'u0_3_12, rfl, pu0_3_12, qu0_3_12⟩ := qu0_1_6
  obtain ⟨gu0_3_12, g'u0_3_12⟩ := g'u0_1_6
  obtain rfl := pu0_3_12
  obtain ⟨eu0_4_15, e'u0_4_15, rfl, pu0_4_15, qu0_4_15⟩ := qu0_3_12
  obtain ⟨gu0_4_15, g'u0_4_15⟩ := g'u0_3_12
  obtain rfl := pu0_4_15
  obtain rfl := qu0_4_15
  clear hA0 hval0 hsz0 hsz
  have hk := Pure.FnExactSplit (x0.1) (x0.2.1.1) (x0.2.1.2) (x0.2.2.1) (x0.2.2.2.1) (x0.2.2.2.2) gu0_0_3 gu0_1_8 g'u0_1_8 gu0_3_12 gu0_4_15 g'u0_4_15
  refine (Q.laws_FnExactSplit.calls (a0_0 := x0.1) (a0_1 := x0.2.1.1) (a0_2 := x0.2.1.2) (a0_3 := x0.2.2.1) (a0_4 := x0.2.2.2.1) (a0_5 := x0.2.2.2.2) (r := true) (w := W) (h := hk)).mono fun e W' ⟨he, bel0⟩ => ?_
  have bel : Below W.heap.size W W' := bel0
  subst he
  exact ⟨_, rfl, _, _, _, [], _, [], hW', trodAll_mk1 (shut_bool Try.underlying4 _), (trodAll_cons_mk (Below.trod laidOut (by kernel_rfl) (of_decide_eq_true (by kernel_rfl)) k0 bel lt0) trodAll_mk0), rfl, bel.frame _, fun h => by cases h⟩
theorem over : Rows.fnExactSplitRow.holds Try.pinned (OpenSpec.ofChange Rows.fnExactSplitSpec) :=
  OpenClaim.holds_of_wide 14 Try.f14 rfl rfl rfl rfl rfl rfl rfl ⟨rfl, rfl, rfl, rfl, rfl⟩ rfl rfl rfl rfl rfl (by kernel_rfl) Try.func14 (by unfold joinedFacts; repeat' (apply Head.and_in); all_goals first | (with_reducible exact Head.mayEnter) | (with_reducible exact Head.beq_r Head.liftsFinal (by kernel_rfl)) | (with_reducible exact Head.beq_l Head.make (by kernel_rfl)) | kernel_rfl)
    (of_decide_eq_true (by kernel_rfl)) (by unfold Func.isWrapper; first | (rw [if_pos (by decide +kernel)]; kernel_rfl) | (rw [if_neg (by decide +kernel)]; exact ⟨rfl, rfl⟩))
    (fun os started H enc _ => lifted os started H enc)
theorem proved : Rows.FnExactSplitSaid := over
#print axioms proved
end Go.Proofs.Ytlbahilobbdpjaa.fnExactSplit
namespace Go.Proofs.Ytlbahilobbdpjaa
/-- The row, under a short name, for the claim. -/
theorem fnExactSplit_holds : Rows.FnExactSplitSaid := fnExactSplit.proved
end Go.Proofs.Ytlbahilobbdpjaa
