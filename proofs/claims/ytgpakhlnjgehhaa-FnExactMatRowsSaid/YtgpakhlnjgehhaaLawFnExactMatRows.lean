/- The row of FnExactMatRows: for every argument the law returns true; the arguments read as they did. No conditions. -/
import Derived.Test.YtgpakhlnjgehhaaRows
import Derived.Test.YtgpakhlnjgehhaaOHead
import Derived.Test.YtgpakhlnjgehhaaOTypes
import Derived.Test.YtgpakhlnjgehhaaQf3
import Derived.Test.YtgpakhlnjgehhaaPureFnExactMatRows
import Derived.WalkKit
import Derived.ProofKit
import Derived.OpenShut
import Derived.ShutString
import Derived.ChangeOld
import Derived.Below
import Derived.SizedLaws
namespace Go.Proofs.Ytgpakhlnjgehhaa.fnExactMatRows
open Go.ChangeShapes Go.WideShapes Go.ChangeAt Go.RowKit
open Go.ChangeMaps (open_string shut_string)
open Go.Proofs.Ytgpakhlnjgehhaa.Opens Go.Proofs.YtgpakhlnjgehhaaW.PrintWords
set_option linter.unusedVariables false
theorem own : ownKnob Try.prog.godebug = none := by kernel_rfl
theorem laidOut : laidOutB Try.prog = true := by kernel_rfl
set_option maxRecDepth 100000 in
theorem lifted (os : Os) (started : os.Started) (H : Type) (enc : TypeId × Value → H) :
    ReturnsInHanded {} Try.checked os 3 .any (Rows.fnExactMatRowsSpec.pre6 enc Try.prog Try.f3 Rows.fnExactMatRowsRow.domain false) (Rows.fnExactMatRowsSpec.post enc Try.prog Try.f3 false true false false) := by
  refine returnsInHanded_of_change_sized (C := Try.checked) own started (by kernel_rfl) Try.func3
    (ChangeSpec.witness6 (enc := enc) (C := Try.checked) false ⟨#[], #[.agg #[.int .i64 0, .int .i64 0, .slice none 0 0], .slice none 0 0], []⟩ 8 (by kernel_rfl) (by kernel_rfl) (by kernel_rfl) (by kernel_rfl)) ?_
  intro W base args ds gs before hval0 hW hcnd hsz0 _
  have hsz : (DataW.weightsEach Try.prog (Try.f3.params.toList ++ Rows.fnExactMatRowsSpec.plain.varTypes Try.prog) (ds ++ gs)).all (· ≤ reachBytes) = true := hsz0
  have hval : ∀ (j : Nat) t v, Try.f3.params[j]? = some t → args[j]? = some v → Value.okWide Try.prog W .any base t v := hval0
  have hW' := hW
  obtain ⟨p, q, hA0, hV, rfl, hfz, hnd⟩ := hW
  have hA : DataW.TrodAll enc Try.prog W 0 (fun _ => true) true Try.f3.params.toList args.toList ds p := hA0
  rw [Try.params3] at hA hval hsz
  obtain ⟨v0, vs0, d0, ds0, p0, q0, hargs, rfl, rfl, h0, r0⟩ := trodAll_cons hA
  obtain ⟨v1, vs1, d1, ds1, p1, q1, rfl, rfl, rfl, h1, r1⟩ := trodAll_cons r0
  obtain ⟨rfl, rfl, rfl⟩ := trodAll_nil r1
  obtain rfl : args = #[v0, v1] := by cases args; simp_all
  obtain ⟨rfl, rfl⟩ := trodVars_none hV
  have k0 := h0
  have lt0 : ∀ x ∈ p0, x.block < W.heap.size := by obtain ⟨m, hm⟩ := k0; exact DataW.trod_lt m _ _ _ hm
  obtain ⟨cs0, x0, rfl, hk0, hg0⟩ := open_struct Try.underlying24 raw_t24 (hval 0 24 v0 rfl rfl) h0
  obtain ⟨eu0_0_3, e'u0_0_3, rfl, pu0_0_3, qu0_0_3⟩ := hk0
  obtain ⟨gu0_0_3, g'u0_0_3⟩ := hg0
  obtain rfl := pu0_0_3
  obtain ⟨eu0_1_6, e'u0_1_6, rfl, pu0_1_6, qu0_1_6⟩ := qu0_0_3
  obtain ⟨gu0_1_6, g'u0_1_6⟩ := g'u0_0_3
  obtain rfl := pu0_1_6
  obtain ⟨A0_2, c0_2, rfl, hl0_2, hC0_2⟩ := qu0_1_6
  have k1 := h1
  have lt1 : ∀ x ∈ p1, x.block < W.heap.size := by obtain ⟨m, hm⟩ := k1; exact DataW.trod_lt m _ _ _ hm
  obtain ⟨A1, n1, c1, l1, rfl, rfl, hl1, hC1, hg1⟩ := open_row Try.underlying22 opens_t22 (hval 1 22 v1 rfl rfl) h1
  clear hA0 hval0 hsz0 hsz
  obtain ⟨k, hk⟩ := Pure.FnExactMatRows (x0.1) (x0.2.1) (x0.2.2) l1 gu0_0_3 gu0_1_6 g'u0_1_6 hg1
  refine (Q.laws_FnExactMatRows.calls (k := k) (a0_0 := x0.1) (a0_1 := x0.2.1) (A0_2 := A0_2) (c0_2 := c0_2) (l0_2 := x0.2.2) (A1 := A1) (c1 := c1) (l1 := l1) (r := true) (w := W) (hr0_2 := hC0_2) (hc0_2 := hl0_2) (hr1 := hC1) (hc1 := hl1) (h := hk)).mono fun e W' ⟨he, bel0⟩ => ?_
  have bel : Below W.heap.size W W' := bel0
  subst he
  exact ⟨_, rfl, _, _, _, [], _, [], hW', trodAll_mk1 (shut_bool Try.underlying4 _), (trodAll_cons_mk (Below.trod laidOut (by kernel_rfl) (of_decide_eq_true (by kernel_rfl)) k0 bel lt0) (trodAll_cons_mk (Below.trod laidOut (by kernel_rfl) (of_decide_eq_true (by kernel_rfl)) k1 bel lt1) trodAll_mk0)), rfl, bel.frame _, fun h => by cases h⟩
theorem fact0 : Rows.fnExactMatRowsRow.wf (OpenSpec.ofChange Rows.fnExactMatRowsSpec) = true := by kernel_rfl
theorem fact1 : laidOutB Try.prog = true := by kernel_rfl
theorem fact2 : mapsRowed Try.prog = true := by kernel_rfl
theorem fact3 : Try.f3.params.all (Try.prog.readableRec ·) = true := by kernel_rfl
theorem fact4 : namedTie Try.prog Rows.fnExactMatRowsRow.named Rows.fnExactMatRowsSpec.vars = true := by kernel_rfl
theorem fact5 : (Rows.fnExactMatRowsRow.stops == []) = true := by kernel_rfl
theorem fact6 : (Try.prog.stops == []) = true := by kernel_rfl
theorem fact7 : (Rows.fnExactMatRowsRow.knobs == []) = true := by kernel_rfl
theorem fact8 : (Try.prog.stopKnobs == []) = true := by kernel_rfl
theorem fact9 : (Rows.fnExactMatRowsRow.inPlace == Try.prog.inPlace 3) = true := by kernel_rfl
theorem fact10 : (Rows.fnExactMatRowsRow.unfollowed == Try.prog.unfollowed 3) = true := by kernel_rfl
theorem fact11 : (Rows.fnExactMatRowsRow.recurses == Try.prog.recurses 3) = true := by kernel_rfl
theorem fact12 : (Rows.fnExactMatRowsRow.named == Try.prog.varsNamed 3) = true := by kernel_rfl
theorem fact13 : (Rows.fnExactMatRowsRow.maps == (Try.f3.params.toList ++ Rows.fnExactMatRowsSpec.plain.varTypes Try.prog).any (Try.prog.mapsRec ·)) = true := by kernel_rfl
theorem fact14 : (Rows.fnExactMatRowsRow.ifaces == (Try.f3.params.toList ++ Rows.fnExactMatRowsSpec.plain.varTypes Try.prog).any (Try.prog.ifacesRec ·)) = true := by kernel_rfl
theorem fact15 : (Rows.fnExactMatRowsRow.mapsOut == Try.prog.mapsAmong Try.f3.resultTypes.toList) = true := by kernel_rfl
theorem fact16 : (Rows.fnExactMatRowsRow.loops == (Try.f3.params.toList ++ Rows.fnExactMatRowsSpec.plain.varTypes Try.prog).any (Try.prog.loopsFrom ·)) = true := by kernel_rfl
theorem fact17 : (Rows.fnExactMatRowsRow.wideKeys == (Try.f3.params.toList ++ Rows.fnExactMatRowsSpec.plain.varTypes Try.prog ++ Try.f3.resultTypes.toList).any (Try.prog.wideKeysFrom ·)) = true := by kernel_rfl
theorem fact18 : Rows.fnExactMatRowsSpec.vars.all (Try.prog.varReadable ·) = true := by kernel_rfl
theorem fact19 : Try.f3.resultTypes.all (fun t => Try.prog.readableRec t && decide (t < Try.prog.types.size)) = true := by kernel_rfl
theorem fact20 : (Rows.fnExactMatRowsRow.ifacesOut == Try.f3.resultTypes.toList.any (Try.prog.ifacesRec ·)) = true := by kernel_rfl
theorem fact21 : (Rows.fnExactMatRowsRow.loopsOut == Try.f3.resultTypes.toList.any (Try.prog.loopsFrom ·)) = true := by kernel_rfl
theorem fact22 : (Rows.fnExactMatRowsRow.plainKeys == Try.prog.plainKeys) = true := by kernel_rfl
theorem fact23 : Rows.fnExactMatRowsRow.shortTexts.isNone = true := by kernel_rfl
theorem fact24 : Try.prog.stopsHeard = true := by kernel_rfl
theorem fact25 : Try.prog.mayEnter = true := Head.mayEnter
theorem fact26 : (Rows.fnExactMatRowsRow.lifted == Try.prog.liftsFinal) = true := Head.beq_r Head.liftsFinal (by kernel_rfl)
theorem fact27 : (Try.prog.make == some Rows.fnExactMatRowsRow.make) = true := Head.beq_l Head.make (by kernel_rfl)
theorem fact28 : (Rows.fnExactMatRowsRow.kinds == (if Rows.fnExactMatRowsRow.domain.isEmpty then [] else Try.f3.params.toList.map fun t => match Try.prog.underlying t with | some (.int k) => some k | _ => none)) = true := by kernel_rfl
theorem fact29 : (Rows.fnExactMatRowsRow.pinned == Rows.fnExactMatRowsRow.pinnedBy) = true := by kernel_rfl
theorem fact30 : (Rows.fnExactMatRowsRow.veiled == (Try.f3.params.toList ++ Rows.fnExactMatRowsSpec.plain.varTypes Try.prog ++ Try.f3.resultTypes.toList).any (Try.prog.veiledRec ·)) = true := by kernel_rfl
theorem fact31 : Rows.fnExactMatRowsRow.veiledFits Try.prog Try.f3.params.toList (Try.f3.params.toList ++ Rows.fnExactMatRowsSpec.plain.varTypes Try.prog ++ Try.f3.resultTypes.toList) = true := by kernel_rfl
set_option maxRecDepth 100000 in
theorem closed : joinedFacts Try.prog 3 Try.f3 Rows.fnExactMatRowsSpec Rows.fnExactMatRowsRow = true := by
  unfold joinedFacts
  with_reducible exact (Head.and_in (Head.and_in (Head.and_in (Head.and_in (Head.and_in (Head.and_in (Head.and_in (Head.and_in (Head.and_in (Head.and_in (Head.and_in (Head.and_in (Head.and_in (Head.and_in (Head.and_in (Head.and_in (Head.and_in (Head.and_in (Head.and_in (Head.and_in (Head.and_in (Head.and_in (Head.and_in (Head.and_in (Head.and_in (Head.and_in (Head.and_in (Head.and_in (Head.and_in (Head.and_in (Head.and_in fact0 fact1) fact2) fact3) fact4) fact5) fact6) fact7) fact8) fact9) fact10) fact11) fact12) fact13) fact14) fact15) fact16) fact17) fact18) fact19) fact20) fact21) fact22) fact23) fact24) fact25) fact26) fact27) (by kernel_rfl)) fact29) fact30) fact31)
theorem over : Rows.fnExactMatRowsRow.holds Try.pinned (OpenSpec.ofChange Rows.fnExactMatRowsSpec) :=
  OpenClaim.holds_of_wide 3 Try.f3 rfl rfl rfl rfl rfl rfl rfl ⟨rfl, rfl, rfl, rfl, rfl⟩ rfl rfl rfl rfl rfl (by kernel_rfl) Try.func3 closed
    (of_decide_eq_true (by kernel_rfl)) (by unfold Func.isWrapper; first | (rw [if_pos (by decide +kernel)]; kernel_rfl) | (rw [if_neg (by decide +kernel)]; exact ⟨rfl, rfl⟩))
    (fun os started H enc _ => lifted os started H enc)
theorem proved : Rows.FnExactMatRowsSaid := over
#print axioms proved
end Go.Proofs.Ytgpakhlnjgehhaa.fnExactMatRows
namespace Go.Proofs.Ytgpakhlnjgehhaa
/-- The row, under a short name, for the claim. -/
theorem fnExactMatRows_holds : Rows.FnExactMatRowsSaid := fnExactMatRows.proved
end Go.Proofs.Ytgpakhlnjgehhaa
