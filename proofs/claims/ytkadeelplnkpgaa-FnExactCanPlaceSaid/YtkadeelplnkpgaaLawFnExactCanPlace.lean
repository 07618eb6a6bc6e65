/- The row of FnExactCanPlace: for every argument the law returns true; the arguments read as they did. No conditions. -/
import Derived.Test.YtkadeelplnkpgaaRows
import Derived.Test.YtkadeelplnkpgaaOHead
import Derived.Test.YtkadeelplnkpgaaOTypes
import Derived.Test.YtkadeelplnkpgaaMFnExactCanPlaceb
import Derived.WalkKit
import Derived.ProofKit
import Derived.OpenShut
import Derived.ShutString
import Derived.ChangeOld
import Derived.Below
import Derived.SizedLaws
namespace Go.Proofs.Ytkadeelplnkpgaa.fnExactCanPlace
open Go.ChangeShapes Go.WideShapes Go.ChangeAt Go.RowKit
open Go.ChangeMaps (open_string shut_string)
open Go.Proofs.Ytkadeelplnkpgaa.Opens Go.Proofs.YtkadeelplnkpgaaW.PrintWords
set_option linter.unusedVariables false
theorem own : ownKnob Try.prog.godebug = none := by kernel_rfl
theorem laidOut : laidOutB Try.prog = true := by kernel_rfl
set_option maxRecDepth 100000 in
theorem lifted (os : Os) (started : os.Started) (H : Type) (enc : TypeId × Value → H) :
    ReturnsInHanded {} Try.checked os 10 .any (Rows.fnExactCanPlaceSpec.pre6 enc Try.prog Try.f10 Rows.fnExactCanPlaceRow.domain false) (Rows.fnExactCanPlaceSpec.post enc Try.prog Try.f10 false true false false) := by
  refine returnsInHanded_of_change_sized (C := Try.checked) own started (by kernel_rfl) Try.func10
    (ChangeSpec.witness6 (enc := enc) (C := Try.checked) false ⟨#[], #[.agg #[.slice none 0 0, .slice none 0 0], .agg #[.int .i64 0, .int .i64 0, .int .i64 0, .bool false], .slice none 0 0], []⟩ 8 (by kernel_rfl) (by kernel_rfl) (by kernel_rfl) (by kernel_rfl)) ?_
  intro W base args ds gs before hval0 hW hcnd hsz0 _
  have hsz : (DataW.weightsEach Try.prog (Try.f10.params.toList ++ Rows.fnExactCanPlaceSpec.plain.varTypes Try.prog) (ds ++ gs)).all (· ≤ reachBytes) = true := hsz0
  have hval : ∀ (j : Nat) t v, Try.f10.params[j]? = some t → args[j]? = some v → Value.okWide Try.prog W .any base t v := hval0
  have hW' := hW
  obtain ⟨p, q, hA0, hV, rfl, hfz, hnd⟩ := hW
  have hA : DataW.TrodAll enc Try.prog W 0 (fun _ => true) true Try.f10.params.toList args.toList ds p := hA0
  rw [Try.params10] at hA hval hsz
  obtain ⟨v0, vs0, d0, ds0, p0, q0, hargs, rfl, rfl, h0, r0⟩ := trodAll_cons hA
  obtain ⟨v1, vs1, d1, ds1, p1, q1, rfl, rfl, rfl, h1, r1⟩ := trodAll_cons r0
  obtain ⟨v2, vs2, d2, ds2, p2, q2, rfl, rfl, rfl, h2, r2⟩ := trodAll_cons r1
  obtain ⟨rfl, rfl, rfl⟩ := trodAll_nil r2
  obtain rfl : args = #[v0, v1, v2] := by cases args; simp_all
  obtain ⟨rfl, rfl⟩ := trodVars_none hV
  have k0 := h0
  have lt0 : ∀ x ∈ p0, x.block < W.heap.size := by obtain ⟨m, hm⟩ := k0; exact DataW.trod_lt m _ _ _ hm
  obtain ⟨cs0, x0, rfl, hk0, hg0⟩ := open_struct Try.underlying25 raw_t25 (hval 0 25 v0 rfl rfl) h0
  obtain ⟨eu0_0_3, e'u0_0_3, rfl, pu0_0_3, qu0_0_3⟩ := hk0
  obtain ⟨gu0_0_3, g'u0_0_3⟩ := hg0
  obtain ⟨A0_0, c0_0, rfl, hl0_0, hC0_0⟩ := pu0_0_3
  obtain ⟨A0_1, c0_1, rfl, hl0_1, hC0_1⟩ := qu0_0_3
  have k1 := h1
  have lt1 : ∀ x ∈ p1, x.block < W.heap.size := by obtain ⟨m, hm⟩ := k1; exact DataW.trod_lt m _ _ _ hm
  obtain ⟨cs1, x1, rfl, hk1, hg1⟩ := open_struct Try.underlying63 raw_t63 (hval 1 63 v1 rfl rfl) h1
  obtain ⟨eu1_0_10, e'u1_0_10, rfl, pu1_0_10, qu1_0_10⟩ := hk1
  obtain ⟨gu1_0_10, g'u1_0_10⟩ := hg1
  obtain rfl := pu1_0_10
  obtain ⟨eu1_1_13, e'u1_1_13, rfl, pu1_1_13, qu1_1_13⟩ := qu1_0_10
  obtain ⟨gu1_1_13, g'u1_1_13⟩ := g'u1_0_10
  obtain rfl := pu1_1_13
  obtain ⟨eu1_2_16, e'u1_2_16, rfl, pu1_2_16, qu1_2_16⟩ := qu1_1_13
  obtain ⟨gu1_2_16, g'u1_2_16⟩ := g'u1_1_13
  obtain rfl := pu1_2_16
  obtain rfl := qu1_2_16
  have k2 := h2
  have lt2 : ∀ x ∈ p2, x.block < W.heap.size := by obtain ⟨m, hm⟩ := k2; exact DataW.trod_lt m _ _ _ hm
  obtain ⟨A2, n2, c2, l2, rfl, rfl, hl2, hC2, hg2⟩ := open_row Try.underlying34 opens_t34 (hval 2 34 v2 rfl rfl) h2
  clear hA0 hval0 hsz0 hsz
  obtain ⟨k, hk⟩ := Pure.FnExactCanPlace (x0.1) (x0.2) (x1.1) (x1.2.1) (x1.2.2.1) (x1.2.2.2) l2 gu0_0_3 g'u0_0_3 gu1_0_10 gu1_1_13 gu1_2_16 hg2
  refine (Q.laws_FnExactCanPlace.calls (k := k) (A0_0 := A0_0) (c0_0 := c0_0) (l0_0 := x0.1) (A0_1 := A0_1) (c0_1 := c0_1) (l0_1 := x0.2) (a1_3 := x1.2.2.2) (A2 := A2) (c2 := c2) (l2 := l2) (r := true) (w := W) (hr0_0 := hC0_0) (hc0_0 := hl0_0) (hr0_1 := hC0_1) (hc0_1 := hl0_1) (hr2 := hC2) (hc2 := hl2) (h := hk)).mono fun e W' ⟨he, bel0⟩ => ?_
  have bel : Below W.heap.size W W' := bel0
  subst he
  exact ⟨_, rfl, _, _, _, [], _, [], hW', trodAll_mk1 (shut_bool Try.underlying4 _), (trodAll_cons_mk (Below.trod laidOut (by kernel_rfl) (of_decide_eq_true (by kernel_rfl)) k0 bel lt0) (trodAll_cons_mk (Below.trod laidOut (by kernel_rfl) (of_decide_eq_true (by kernel_rfl)) k1 bel lt1) (trodAll_cons_mk (Below.trod laidOut (by kernel_rfl) (of_decide_eq_true (by kernel_rfl)) k2 bel lt2) trodAll_mk0))), rfl, bel.frame _, fun h => by cases h⟩
theorem fact0 : Rows.fnExactCanPlaceRow.wf (OpenSpec.ofChange Rows.fnExactCanPlaceSpec) = true := by kernel_rfl
theorem fact1 : laidOutB Try.prog = true := by kernel_rfl
theorem fact2 : mapsRowed Try.prog = true := by kernel_rfl
theorem fact3 : Try.f10.params.all (Try.prog.readableRec ·) = true := by kernel_rfl
theorem fact4 : namedTie Try.prog Rows.fnExactCanPlaceRow.named Rows.fnExactCanPlaceSpec.vars = true := by kernel_rfl
theorem fact5 : (Rows.fnExactCanPlaceRow.stops == []) = true := by kernel_rfl
theorem fact6 : (Try.prog.stops == []) = true := by kernel_rfl
theorem fact7 : (Rows.fnExactCanPlaceRow.knobs == []) = true := by kernel_rfl
theorem fact8 : (Try.prog.stopKnobs == []) = true := by kernel_rfl
theorem fact9 : (Rows.fnExactCanPlaceRow.inPlace == Try.prog.inPlace 10) = true := by kernel_rfl
theorem fact10 : (Rows.fnExactCanPlaceRow.unfollowed == Try.prog.unfollowed 10) = true := by kernel_rfl
theorem fact11 : (Rows.fnExactCanPlaceRow.recurses == Try.prog.recurses 10) = true := by kernel_rfl
theorem fact12 : (Rows.fnExactCanPlaceRow.named == Try.prog.varsNamed 10) = true := by kernel_rfl
theorem fact13 : (Rows.fnExactCanPlaceRow.maps == (Try.f10.params.toList ++ Rows.fnExactCanPlaceSpec.plain.varTypes Try.prog).any (Try.prog.mapsRec ·)) = true := by kernel_rfl
theorem fact14 : (Rows.fnExactCanPlaceRow.ifaces == (Try.f10.params.toList ++ Rows.fnExactCanPlaceSpec.plain.varTypes Try.prog).any (Try.prog.ifacesRec ·)) = true := by kernel_rfl
theorem fact15 : (Rows.fnExactCanPlaceRow.mapsOut == Try.prog.mapsAmong Try.f10.resultTypes.toList) = true := by kernel_rfl
theorem fact16 : (Rows.fnExactCanPlaceRow.loops == (Try.f10.params.toList ++ Rows.fnExactCanPlaceSpec.plain.varTypes Try.prog).any (Try.prog.loopsFrom ·)) = true := by kernel_rfl
theorem fact17 : (Rows.fnExactCanPlaceRow.wideKeys == (Try.f10.params.toList ++ Rows.fnExactCanPlaceSpec.plain.varTypes Try.prog ++ Try.f10.resultTypes.toList).any (Try.prog.wideKeysFrom ·)) = true := by kernel_rfl
theorem fact18 : Rows.fnExactCanPlaceSpec.vars.all (Try.prog.varReadable ·) = true := by kernel_rfl
theorem fact19 : Try.f10.resultTypes.all (fun t => Try.prog.readableRec t && decide (t < Try.prog.types.size)) = true := by kernel_rfl
theorem fact20 : (Rows.fnExactCanPlaceRow.ifacesOut == Try.f10.resultTypes.toList.any (Try.prog.ifacesRec ·)) = true := by kernel_rfl
theorem fact21 : (Rows.fnExactCanPlaceRow.loopsOut == Try.f10.resultTypes.toList.any (Try.prog.loopsFrom ·)) = true := by kernel_rfl
theorem fact22 : (Rows.fnExactCanPlaceRow.plainKeys == Try.prog.plainKeys) = true := by kernel_rfl
theorem fact23 : Rows.fnExactCanPlaceRow.shortTexts.isNone = true := by kernel_rfl
theorem fact24 : Try.prog.stopsHeard = true := by kernel_rfl
theorem fact25 : Try.prog.mayEnter = true := Head.mayEnter
theorem fact26 : (Rows.fnExactCanPlaceRow.lifted == Try.prog.liftsFinal) = true := Head.beq_r Head.liftsFinal (by kernel_rfl)
theorem fact27 : (Try.prog.make == some Rows.fnExactCanPlaceRow.make) = true := Head.beq_l Head.make (by kernel_rfl)
theorem fact28 : (Rows.fnExactCanPlaceRow.kinds == (if Rows.fnExactCanPlaceRow.domain.isEmpty then [] else Try.f10.params.toList.map fun t => match Try.prog.underlying t with | some (.int k) => some k | _ => none)) = true := by kernel_rfl
theorem fact29 : (Rows.fnExactCanPlaceRow.pinned == Rows.fnExactCanPlaceRow.pinnedBy) = true := by kernel_rfl
theorem fact30 : (Rows.fnExactCanPlaceRow.veiled == (Try.f10.params.toList ++ Rows.fnExactCanPlaceSpec.plain.varTypes Try.prog ++ Try.f10.resultTypes.toList).any (Try.prog.veiledRec ·)) = true := by kernel_rfl
theorem fact31 : Rows.fnExactCanPlaceRow.veiledFits Try.prog Try.f10.params.toList (Try.f10.params.toList ++ Rows.fnExactCanPlaceSpec.plain.varTypes Try.prog ++ Try.f10.resultTypes.toList) = true := by kernel_rfl
set_option maxRecDepth 100000 in
theorem closed : joinedFacts Try.prog 10 Try.f10 Rows.fnExactCanPlaceSpec Rows.fnExactCanPlaceRow = true := by
  unfold joinedFacts
  with_reducible exact (Head.and_in (Head.and_in (Head.and_in (Head.and_in (Head.and_in (Head.and_in (Head.and_in (Head.and_in (Head.and_in (Head.and_in (Head.and_in (Head.and_in (Head.and_in (Head.and_in (Head.and_in (Head.and_in (Head.and_in (Head.and_in (Head.and_in (Head.and_in (Head.and_in (Head.and_in (Head.and_in (Head.and_in (Head.and_in (Head.and_in (Head.and_in (Head.and_in (Head.and_in (Head.and_in (Head.and_in fact0 fact1) fact2) fact3) fact4) fact5) fact6) fact7) fact8) fact9) fact10) fact11) fact12) fact13) fact14) fact15) fact16) fact17) fact18) fact19) fact20) fact21) fact22) fact23) fact24) fact25) fact26) fact27) (by kernel_rfl)) fact29) fact30) fact31)
theorem over : Rows.fnExactCanPlaceRow.holds Try.pinned (OpenSpec.ofChange Rows.fnExactCanPlaceSpec) :=
  OpenClaim.holds_of_wide 10 Try.f10 rfl rfl rfl rfl rfl rfl rfl ⟨rfl, rfl, rfl, rfl, rfl⟩ rfl rfl rfl rfl rfl (by kernel_rfl) Try.func10 closed
    (of_decide_eq_true (by kernel_rfl)) (by unfold Func.isWrapper; first | (rw [if_pos (by decide +kernel)]; kernel_rfl) | (rw [if_neg (by decide +kernel)]; exact ⟨rfl, rfl⟩))
    (fun os started H enc _ => lifted os started H enc)
theorem proved : Rows.FnExactCanPlaceSaid := over
#print axioms proved
end Go.Proofs.Ytkadeelplnkpgaa.fnExactCanPlace
namespace Go.Proofs.Ytkadeelplnkpgaa
/-- The row, under a short name, for the claim. -/
theorem fnExactCanPlace_holds : Rows.FnExactCanPlaceSaid := fnExactCanPlace.proved
end Go.Proofs.Ytkadeelplnkpgaa
