/- The row of FnExactMoves: for every argument the law returns true; the arguments read as they did. No conditions. -/
import Derived.Test.YtlocignlkigojaaRows
import Derived.Test.YtlocignlkigojaaOHead
import Derived.Test.YtlocignlkigojaaOTypes
import Derived.Test.YtlocignlkigojaaQf11
import Derived.Test.YtlocignlkigojaaMFnExactMovesa
import Derived.WalkKit
import Derived.ProofKit
import Derived.OpenShut
import Derived.ShutString
import Derived.ChangeOld
import Derived.Below
import Derived.SizedLaws
namespace Go.Proofs.Ytlocignlkigojaa.fnExactMoves
open Go.ChangeShapes Go.WideShapes Go.ChangeAt Go.RowKit
open Go.ChangeMaps (open_string shut_string)
open Go.Proofs.Ytlocignlkigojaa.Opens Go.Proofs.YtlocignlkigojaaW.PrintWords
set_option linter.unusedVariables false
theorem own : ownKnob Try.prog.godebug = none := by kernel_rfl
theorem laidOut : laidOutB Try.prog = true := by kernel_rfl
set_option maxRecDepth 100000 in
theorem lifted (os : Os) (started : os.Started) (H : Type) (enc : TypeId × Value → H) :
    ReturnsInHanded {} Try.checked os 11 .any (Rows.fnExactMovesSpec.pre6 enc Try.prog Try.f11 Rows.fnExactMovesRow.domain false) (Rows.fnExactMovesSpec.post enc Try.prog Try.f11 false true false false) := by
  refine returnsInHanded_of_change_sized (C := Try.checked) own started (by kernel_rfl) Try.func11
    (ChangeSpec.witness6 (enc := enc) (C := Try.checked) false ⟨#[], #[.slice none 0 0, .slice none 0 0], []⟩ 8 (by kernel_rfl) (by kernel_rfl) (by kernel_rfl) (by kernel_rfl)) ?_
  intro W base args ds gs before hval0 hW hcnd hsz0 _
  have hsz : (DataW.weightsEach Try.prog (Try.f11.params.toList ++ Rows.fnExactMovesSpec.plain.varTypes Try.prog) (ds ++ gs)).all (· ≤ reachBytes) = true := hsz0
  have hval : ∀ (j : Nat) t v, Try.f11.params[j]? = some t → args[j]? = some v → Value.okWide Try.prog W .any base t v := hval0
  have hW' := hW
  obtain ⟨p, q, hA0, hV, rfl, hfz, hnd⟩ := hW
  have hA : DataW.TrodAll enc Try.prog W 0 (fun _ => true) true Try.f11.params.toList args.toList ds p := hA0
  rw [Try.params11] at hA hval hsz
  obtain ⟨v0, vs0, d0, ds0, p0, q0, hargs, rfl, rfl, h0, r0⟩ := trodAll_cons hA
  obtain ⟨v1, vs1, d1, ds1, p1, q1, rfl, rfl, rfl, h1, r1⟩ := trodAll_cons r0
  obtain ⟨rfl, rfl, rfl⟩ := trodAll_nil r1
  obtain rfl : args = #[v0, v1] := by cases args; simp_all
  obtain ⟨rfl, rfl⟩ := trodVars_none hV
  have k0 := h0
  have lt0 : ∀ x ∈ p0, x.block < W.heap.size := by obtain ⟨m, hm⟩ := k0; exact DataW.trod_lt m _ _ _ hm
  obtain ⟨A0, n0, c0, l0, rfl, rfl, hl0, hC0, hg0⟩ := open_row Try.underlying87 opens_t87 (hval 0 87 v0 rfl rfl) h0
  have k1 := h1
  have lt1 : ∀ x ∈ p1, x.block < W.heap.size := by obtain ⟨m, hm⟩ := k1; exact DataW.trod_lt m _ _ _ hm
  obtain ⟨A1, n1, c1, l1, rfl, rfl, hl1, hC1, hg1⟩ := open_row Try.underlying87 opens_t87 (hval 1 87 v1 rfl rfl) h1
  clear hA0 hval0 hsz0 hsz
  obtain ⟨k, hk⟩ := Pure.FnExactMoves l0 l1 hg0 hg1
  refine (Q.laws_FnExactMoves.calls (k := k) (A0 := A0) (c0 := c0) (l0 := l0) (A1 := A1) (c1 := c1) (l1 := l1) (r := true) (w := W) (hr0 := hC0) (hc0 := hl0) (hr1 := hC1) (hc1 := hl1) (h := hk)).mono fun e W' ⟨he, bel0⟩ => ?_
  have bel : Below W.heap.size W W' := bel0
  subst he
  exact ⟨_, rfl, _, _, _, [], _, [], hW', trodAll_mk1 (shut_bool Try.underlying4 _), (trodAll_cons_mk (Below.trod laidOut (by kernel_rfl) (of_decide_eq_true (by kernel_rfl)) k0 bel lt0) (trodAll_cons_mk (Below.trod laidOut (by kernel_rfl) (of_decide_eq_true (by kernel_rfl)) k1 bel lt1) trodAll_mk0)), rfl, bel.frame _, fun h => by cases h⟩
theorem fact0 : Rows.fnExactMovesRow.wf (OpenSpec.ofChange Rows.fnExactMovesSpec) = true := by kernel_rfl
theorem fact1 : laidOutB Try.prog = true := by kernel_rfl
theorem fact2 : mapsRowed Try.prog = true := by kernel_rfl
theorem fact3 : Try.f11.params.all (Try.prog.readableRec ·) = true := by kernel_rfl
theorem fact4 : namedTie Try.prog Rows.fnExactMovesRow.named Rows.fnExactMovesSpec.vars = true := by kernel_rfl
theorem fact5 : (Rows.fnExactMovesRow.stops == []) = true := by kernel_rfl
theorem fact6 : (Try.prog.stops == []) = true := by kernel_rfl
theorem fact7 : (Rows.fnExactMovesRow.knobs == []) = true := by kernel_rfl
theorem fact8 : (Try.prog.stopKnobs == []) = true := by kernel_rfl
theorem fact9 : (Rows.fnExactMovesRow.inPlace == Try.prog.inPlace 11) = true := by kernel_rfl
theorem fact10 : (Rows.fnExactMovesRow.unfollowed == Try.prog.unfollowed 11) = true := by kernel_rfl
theorem fact11 : (Rows.fnExactMovesRow.recurses == Try.prog.recurses 11) = true := by kernel_rfl
theorem fact12 : (Rows.fnExactMovesRow.named == Try.prog.varsNamed 11) = true := by kernel_rfl
theorem fact13 : (Rows.fnExactMovesRow.maps == (Try.f11.params.toList ++ Rows.fnExactMovesSpec.plain.varTypes Try.prog).any (Try.prog.mapsRec ·)) = true := by kernel_rfl
theorem fact14 : (Rows.fnExactMovesRow.ifaces == (Try.f11.params.toList ++ Rows.fnExactMovesSpec.plain.varTypes Try.prog).any (Try.prog.ifacesRec ·)) = true := by kernel_rfl
theorem fact15 : (Rows.fnExactMovesRow.mapsOut == Try.prog.mapsAmong Try.f11.resultTypes.toList) = true := by kernel_rfl
theorem fact16 : (Rows.fnExactMovesRow.loops == (Try.f11.params.toList ++ Rows.fnExactMovesSpec.plain.varTypes Try.prog).any (Try.prog.loopsFrom ·)) = true := by kernel_rfl
theorem fact17 : (Rows.fnExactMovesRow.wideKeys == (Try.f11.params.toList ++ Rows.fnExactMovesSpec.plain.varTypes Try.prog ++ Try.f11.resultTypes.toList).any (Try.prog.wideKeysFrom ·)) = true := by kernel_rfl
theorem fact18 : Rows.fnExactMovesSpec.vars.all (Try.prog.varReadable ·) = true := by kernel_rfl
theorem fact19 : Try.f11.resultTypes.all (fun t => Try.prog.readableRec t && decide (t < Try.prog.types.size)) = true := by kernel_rfl
theorem fact20 : (Rows.fnExactMovesRow.ifacesOut == Try.f11.resultTypes.toList.any (Try.prog.ifacesRec ·)) = true := by kernel_rfl
theorem fact21 : (Rows.fnExactMovesRow.loopsOut == Try.f11.resultTypes.toList.any (Try.prog.loopsFrom ·)) = true := by kernel_rfl
theorem fact22 : (Rows.fnExactMovesRow.plainKeys == Try.prog.plainKeys) = true := by kernel_rfl
theorem fact23 : Rows.fnExactMovesRow.shortTexts.isNone = true := by kernel_rfl
theorem fact24 : Try.prog.stopsHeard = true := by kernel_rfl
theorem fact25 : Try.prog.mayEnter = true := Head.mayEnter
theorem fact26 : (Rows.fnExactMovesRow.lifted == Try.prog.liftsFinal) = true := Head.beq_r Head.liftsFinal (by kernel_rfl)
theorem fact27 : (Try.prog.make == some Rows.fnExactMovesRow.make) = true := Head.beq_l Head.make (by kernel_rfl)
theorem fact28 : (Rows.fnExactMovesRow.kinds == (if Rows.fnExactMovesRow.domain.isEmpty then [] else Try.f11.params.toList.map fun t => match Try.prog.underlying t with | some (.int k) => some k | _ => none)) = true := by kernel_rfl
theorem fact29 : (Rows.fnExactMovesRow.pinned == Rows.fnExactMovesRow.pinnedBy) = true := by kernel_rfl
theorem fact30 : (Rows.fnExactMovesRow.veiled == (Try.f11.params.toList ++ Rows.fnExactMovesSpec.plain.varTypes Try.prog ++ Try.f11.resultTypes.toList).any (Try.prog.veiledRec ·)) = true := by kernel_rfl
theorem fact31 : Rows.fnExactMovesRow.veiledFits Try.prog Try.f11.params.toList (Try.f11.params.toList ++ Rows.fnExactMovesSpec.plain.varTypes Try.prog ++ Try.f11.resultTypes.toList) = true := by kernel_rfl
set_option maxRecDepth 100000 in
theorem closed : joinedFacts Try.prog 11 Try.f11 Rows.fnExactMovesSpec Rows.fnExactMovesRow = true := by
  unfold joinedFacts
  with_reducible exact (Head.and_in (Head.and_in (Head.and_in (Head.and_in (Head.and_in (Head.and_in (Head.and_in (Head.and_in (Head.and_in (Head.and_in (Head.and_in (Head.and_in (Head.and_in (Head.and_in (Head.and_in (Head.and_in (Head.and_in (Head.and_in (Head.and_in (Head.and_in (Head.and_in (Head.and_in (Head.and_in (Head.and_in (Head.and_in (Head.and_in (Head.and_in (Head.and_in (Head.and_in (Head.and_in (Head.and_in fact0 fact1) fact2) fact3) fact4) fact5) fact6) fact7) fact8) fact9) fact10) fact11) fact12) fact13) fact14) fact15) fact16) fact17) fact18) fact19) fact20) fact21) fact22) fact23) fact24) fact25) fact26) fact27) (by kernel_rfl)) fact29) fact30) fact31)
theorem over : Rows.fnExactMovesRow.holds Try.pinned (OpenSpec.ofChange Rows.fnExactMovesSpec) :=
  OpenClaim.holds_of_wide 11 Try.f11 rfl rfl rfl rfl rfl rfl rfl ⟨rfl, rfl, rfl, rfl, rfl⟩ rfl rfl rfl rfl rfl (by kernel_rfl) Try.func11 closed
    (of_decide_eq_true (by kernel_rfl)) (by unfold Func.isWrapper; first | (rw [if_pos (by decide +kernel)]; kernel_rfl) | (rw [if_neg (by decide +kernel)]; exact ⟨rfl, rfl⟩))
    (fun os started H enc _ => lifted os started H enc)
theorem proved : Rows.FnExactMovesSaid := over
#print axioms proved
end Go.Proofs.Ytlocignlkigojaa.fnExactMoves
namespace Go.Proofs.Ytlocignlkigojaa
/-- The row, under a short name, for the claim. -/
theorem fnExactMoves_holds : Rows.FnExactMovesSaid := fnExactMoves.proved
end Go.Proofs.Ytlocignlkigojaa
