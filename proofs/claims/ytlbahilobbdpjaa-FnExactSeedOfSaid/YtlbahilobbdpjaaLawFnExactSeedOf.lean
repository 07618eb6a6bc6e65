/- The row of FnExactSeedOf: for every argument the law returns true; the arguments read as they did. No conditions. -/
import Derived.Test.YtlbahilobbdpjaaRows
import Derived.Test.YtlbahilobbdpjaaOHead
import Derived.Test.YtlbahilobbdpjaaOTypes
import Derived.Test.YtlbahilobbdpjaaQf7
import Derived.Test.YtlbahilobbdpjaaPureFnExactSeedOf
import Derived.WalkKit
import Derived.ProofKit
import Derived.OpenShut
import Derived.ShutString
import Derived.ChangeOld
import Derived.Below
import Derived.SizedLaws
namespace Go.Proofs.Ytlbahilobbdpjaa.fnExactSeedOf
open Go.ChangeShapes Go.WideShapes Go.ChangeAt Go.RowKit
open Go.ChangeMaps (open_string shut_string)
open Go.Proofs.Ytlbahilobbdpjaa.Opens Go.Proofs.YtlbahilobbdpjaaW.PrintWords
set_option linter.unusedVariables false
theorem own : ownKnob Try.prog.godebug = none := by kernel_rfl
theorem laidOut : laidOutB Try.prog = true := by kernel_rfl
set_option maxRecDepth 100000 in
theorem lifted (os : Os) (started : os.Started) (H : Type) (enc : TypeId × Value → H) :
    ReturnsInHanded {} Try.checked os 7 .any (Rows.fnExactSeedOfSpec.pre6 enc Try.prog Try.f7 Rows.fnExactSeedOfRow.domain false) (Rows.fnExactSeedOfSpec.post enc Try.prog Try.f7 false true false false) := by
  refine returnsInHanded_of_change_sized (C := Try.checked) own started (by kernel_rfl) Try.func7
    (ChangeSpec.witness6 (enc := enc) (C := Try.checked) false ⟨#[], #[.agg #[.int .i64 0, .int .i64 0]], []⟩ 8 (by kernel_rfl) (by kernel_rfl) (by kernel_rfl) (by kernel_rfl)) ?_
  intro W base args ds gs before hval0 hW hcnd hsz0 _
  have hsz : (DataW.weightsEach Try.prog (Try.f7.params.toList ++ Rows.fnExactSeedOfSpec.plain.varTypes Try.prog) (ds ++ gs)).all (· ≤ reachBytes) = true := hsz0
  have hval : ∀ (j : Nat) t v, Try.f7.params[j]? = some t → args[j]? = some v → Value.okWide Try.prog W .any base t v := hval0
  have hW' := hW
  obtain ⟨p, q, hA0, hV, rfl, hfz, hnd⟩ := hW
  have hA : DataW.TrodAll enc Try.prog W 0 (fun _ => true) true Try.f7.params.toList args.toList ds p := hA0
  rw [Try.params7] at hA hval hsz
  obtain ⟨v0, vs0, d0, ds0, p0, q0, hargs, rfl, rfl, h0, r0⟩ := trodAll_cons hA
  obtain ⟨rfl, rfl, rfl⟩ := trodAll_nil r0
  obtain rfl : args = #[v0] := by cases args; simp_all
  obtain ⟨rfl, rfl⟩ := trodVars_none hV
  have k0 := h0
  have lt0 : ∀ x ∈ p0, x.block < W.heap.size := by obtain ⟨m, hm⟩ := k0; exact DataW.trod_lt m _ _ _ hm
  obtain ⟨cs0, x0, rfl, hk0, hg0⟩ := open_struct Try.underlying32 raw_t32 (hval 0 32 v0 rfl rfl) h0
  obtain ⟨eu0_0_3, e'u0_0_3, rfl, pu0_0_3, qu0_0_3⟩ := hk0
  obtain ⟨gu0_0_3, g'u0_0_3⟩ := hg0
  obtain rfl := pu0_0_3
  obtain rfl := qu0_0_3
  clear hA0 hval0 hsz0 hsz
  obtain ⟨k, hk⟩ := Pure.FnExactSeedOf (x0.1) (x0.2) gu0_0_3 g'u0_0_3
  refine (Q.laws_FnExactSeedOf.calls (k := k) (a0_0 := x0.1) (a0_1 := x0.2) (r := true) (w := W) (h := hk)).mono fun e W' ⟨he, bel0⟩ => ?_
  have bel : Below W.heap.size W W' := bel0
  subst he
  exact ⟨_, rfl, _, _, _, [], _, [], hW', trodAll_mk1 (shut_bool Try.underlying4 _), (trodAll_cons_mk (Below.trod laidOut (by kernel_rfl) (of_decide_eq_true (by kernel_rfl)) k0 bel lt0) trodAll_mk0), rfl, bel.frame _, fun h => by cases h⟩
theorem fact0 : Rows.fnExactSeedOfRow.wf (OpenSpec.ofChange Rows.fnExactSeedOfSpec) = true := by kernel_rfl
theorem fact1 : laidOutB Try.prog = true := by kernel_rfl
theorem fact2 : mapsRowed Try.prog = true := by kernel_rfl
theorem fact3 : Try.f7.params.all (Try.prog.readableRec ·) = true := by kernel_rfl
theorem fact4 : namedTie Try.prog Rows.fnExactSeedOfRow.named Rows.fnExactSeedOfSpec.vars = true := by kernel_rfl
theorem fact5 : (Rows.fnExactSeedOfRow.stops == []) = true := by kernel_rfl
theorem fact6 : (Try.prog.stops == []) = true := by kernel_rfl
theorem fact7 : (Rows.fnExactSeedOfRow.knobs == []) = true := by kernel_rfl
theorem fact8 : (Try.prog.stopKnobs == []) = true := by kernel_rfl
theorem fact9 : (Rows.fnExactSeedOfRow.inPlace == Try.prog.inPlace 7) = true := by kernel_rfl
theorem fact10 : (Rows.fnExactSeedOfRow.unfollowed == Try.prog.unfollowed 7) = true := by kernel_rfl
theorem fact11 : (Rows.fnExactSeedOfRow.recurses == Try.prog.recurses 7) = true := by kernel_rfl
theorem fact12 : (Rows.fnExactSeedOfRow.named == Try.prog.varsNamed 7) = true := by kernel_rfl
theorem fact13 : (Rows.fnExactSeedOfRow.maps == (Try.f7.params.toList ++ Rows.fnExactSeedOfSpec.plain.varTypes Try.prog).any (Try.prog.mapsRec ·)) = true := by kernel_rfl
theorem fact14 : (Rows.fnExactSeedOfRow.ifaces == (Try.f7.params.toList ++ Rows.fnExactSeedOfSpec.plain.varTypes Try.prog).any (Try.prog.ifacesRec ·)) = true := by kernel_rfl
theorem fact15 : (Rows.fnExactSeedOfRow.mapsOut == Try.prog.mapsAmong Try.f7.resultTypes.toList) = true := by kernel_rfl
theorem fact16 : (Rows.fnExactSeedOfRow.loops == (Try.f7.params.toList ++ Rows.fnExactSeedOfSpec.plain.varTypes Try.prog).any (Try.prog.loopsFrom ·)) = true := by kernel_rfl
theorem fact17 : (Rows.fnExactSeedOfRow.wideKeys == (Try.f7.params.toList ++ Rows.fnExactSeedOfSpec.plain.varTypes Try.prog ++ Try.f7.resultTypes.toList).any (Try.prog.wideKeysFrom ·)) = true := by kernel_rfl
theorem fact18 : Rows.fnExactSeedOfSpec.vars.all (Try.prog.varReadable ·) = true := by kernel_rfl
theorem fact19 : Try.f7.resultTypes.all (fun t => Try.prog.readableRec t && decide (t < Try.prog.types.size)) = true := by kernel_rfl
theorem fact20 : (Rows.fnExactSeedOfRow.ifacesOut == Try.f7.resultTypes.toList.any (Try.prog.ifacesRec ·)) = true := by kernel_rfl
theorem fact21 : (Rows.fnExactSeedOfRow.loopsOut == Try.f7.resultTypes.toList.any (Try.prog.loopsFrom ·)) = true := by kernel_rfl
theorem fact22 : (Rows.fnExactSeedOfRow.plainKeys == Try.prog.plainKeys) = true := by kernel_rfl
theorem fact23 : Rows.fnExactSeedOfRow.shortTexts.isNone = true := by kernel_rfl
theorem fact24 : Try.prog.stopsHeard = true := by kernel_rfl
theorem fact25 : Try.prog.mayEnter = true := Head.mayEnter
theorem fact26 : (Rows.fnExactSeedOfRow.lifted == Try.prog.liftsFinal) = true := Head.beq_r Head.liftsFinal (by kernel_rfl)
theorem fact27 : (Try.prog.make == some Rows.fnExactSeedOfRow.make) = true := Head.beq_l Head.make (by kernel_rfl)
theorem fact28 : (Rows.fnExactSeedOfRow.kinds == (if Rows.fnExactSeedOfRow.domain.isEmpty then [] else Try.f7.params.toList.map fun t => match Try.prog.underlying t with | some (.int k) => some k | _ => none)) = true := by kernel_rfl
theorem fact29 : (Rows.fnExactSeedOfRow.pinned == Rows.fnExactSeedOfRow.pinnedBy) = true := by kernel_rfl
theorem fact30 : (Rows.fnExactSeedOfRow.veiled == (Try.f7.params.toList ++ Rows.fnExactSeedOfSpec.plain.varTypes Try.prog ++ Try.f7.resultTypes.toList).any (Try.prog.veiledRec ·)) = true := by kernel_rfl
theorem fact31 : Rows.fnExactSeedOfRow.veiledFits Try.prog Try.f7.params.toList (Try.f7.params.toList ++ Rows.fnExactSeedOfSpec.plain.varTypes Try.prog ++ Try.f7.resultTypes.toList) = true := by kernel_rfl
set_option maxRecDepth 100000 in
theorem closed : joinedFacts Try.prog 7 Try.f7 Rows.fnExactSeedOfSpec Rows.fnExactSeedOfRow = true := by
  unfold joinedFacts
  with_reducible exact (Head.and_in (Head.and_in (Head.and_in (Head.and_in (Head.and_in (Head.and_in (Head.and_in (Head.and_in (Head.and_in (Head.and_in (Head.and_in (Head.and_in (Head.and_in (Head.and_in (Head.and_in (Head.and_in (Head.and_in (Head.and_in (Head.and_in (Head.and_in (Head.and_in (Head.and_in (Head.and_in (Head.and_in (Head.and_in (Head.and_in (Head.and_in (Head.and_in (Head.and_in (Head.and_in (Head.and_in fact0 fact1) fact2) fact3) fact4) fact5) fact6) fact7) fact8) fact9) fact10) fact11) fact12) fact13) fact14) fact15) fact16) fact17) fact18) fact19) fact20) fact21) fact22) fact23) fact24) fact25) fact26) fact27) (by kernel_rfl)) fact29) fact30) fact31)
theorem over : Rows.fnExactSeedOfRow.holds Try.pinned (OpenSpec.ofChange Rows.fnExactSeedOfSpec) :=
  OpenClaim.holds_of_wide 7 Try.f7 rfl rfl rfl rfl rfl rfl rfl ⟨rfl, rfl, rfl, rfl, rfl⟩ rfl rfl rfl rfl rfl (by kernel_rfl) Try.func7 closed
    (of_decide_eq_true (by kernel_rfl)) (by unfold Func.isWrapper; first | (rw [if_pos (by decide +kernel)]; kernel_rfl) | (rw [if_neg (by decide +kernel)]; exact ⟨rfl, rfl⟩))
    (fun os started H enc _ => lifted os started H enc)
theorem proved : Rows.FnExactSeedOfSaid := over
#print axioms proved
end Go.Proofs.Ytlbahilobbdpjaa.fnExactSeedOf
namespace Go.Proofs.Ytlbahilobbdpjaa
/-- The row, under a short name, for the claim. -/
theorem fnExactSeedOf_holds : Rows.FnExactSeedOfSaid := fnExactSeedOf.proved
end Go.Proofs.Ytlbahilobbdpjaa
