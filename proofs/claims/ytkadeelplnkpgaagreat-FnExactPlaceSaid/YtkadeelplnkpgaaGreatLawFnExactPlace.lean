/- The row of FnExactPlace: for every argument the law returns true; the arguments read as they did. No conditions. -/
import Derived.Test.YtkadeelplnkpgaaGreatRows
import Derived.Test.YtkadeelplnkpgaaGreatOHead
import Derived.Test.YtkadeelplnkpgaaGreatOTypes
import Derived.Test.YtkadeelplnkpgaaGreatMFnExactPlacee
import Derived.WalkKit
import Derived.ProofKit
import Derived.OpenShut
import Derived.ShutString
import Derived.ChangeOld
import Derived.Below
import Derived.SizedLaws
namespace Go.Proofs.YtkadeelplnkpgaaGreat.fnExactPlace
open Go.ChangeShapes Go.WideShapes Go.ChangeAt Go.RowKit
open Go.ChangeMaps (open_string shut_string)
open Go.Proofs.YtkadeelplnkpgaaGreat.Opens Go.Proofs.YtkadeelplnkpgaaGreatW.PrintWords
set_option linter.unusedVariables false
theorem own : ownKnob Tryz.prog.godebug = none := by kernel_rfl
theorem laidOut : laidOutB Tryz.prog = true := by kernel_rfl
set_option maxRecDepth 100000 in
theorem lifted (os : Os) (started : os.Started) (H : Type) (enc : TypeId × Value → H) :
  ReturnsInHanded {} Tryz.checked os 4 .any (Rows.fnExactPlaceSpec.pre6 enc Tryz.prog Tryz.f4 Rows.fnExactPlaceRow.domain false) (Rows.fnExactPlaceSpec.post enc Tryz.prog Tryz.f4 false true false false) := by
 refine returnsInHanded_of_change_sized (C := Tryz.checked) own started (by kernel_rfl) Tryz.func4
  (ChangeSpec.witness6 (enc := enc) (C := Tryz.checked) false ⟨#[], #[.agg #[.slice none 0 0, .slice none 0 0], .agg #[.int .i64 0, .int .i64 0, .int .i64 0, .bool false], .int .i64 0, .int .i64 0, .slice none 0 0], []⟩ 8 (by kernel_rfl) (by kernel_rfl) (by kernel_rfl) (by kernel_rfl)) ?_
 intro W base args ds gs before hval0 hW hcnd hsz0 _
 have hsz : (DataW.weightsEach Tryz.prog (Tryz.f4.params.toList ++ Rows.fnExactPlaceSpec.plain.varTypes Tryz.prog) (ds ++ gs)).all (· ≤ reachBytes) = true := hsz0
 have hval : ∀ (j : Nat) t v, Tryz.f4.params[j]? = some t → args[j]? = some v → Value.okWide Tryz.prog W .any base t v := hval0
 have hW' := hW
 obtain ⟨p, q, hA0, hV, rfl, hfz, hnd⟩ := hW
 have hA : DataW.TrodAll enc Tryz.prog W 0 (fun _ => true) true Tryz.f4.params.toList args.toList ds p := hA0
 rw [Tryz.params4] at hA hval hsz
 obtain ⟨v0, vs0, d0, ds0, p0, q0, hargs, rfl, rfl, h0, r0⟩ := trodAll_cons hA
 obtain ⟨v1, vs1, d1, ds1, p1, q1, rfl, rfl, rfl, h1, r1⟩ := trodAll_cons r0
 obtain ⟨v2, vs2, d2, ds2, p2, q2, rfl, rfl, rfl, h2, r2⟩ := trodAll_cons r1
 obtain ⟨v3, vs3, d3, ds3, p3, q3, rfl, rfl, rfl, h3, r3⟩ := trodAll_cons r2
 obtain ⟨v4, vs4, d4, ds4, p4, q4, rfl, rfl, rfl, h4, r4⟩ := trodAll_cons r3
 obtain ⟨rfl, rfl, rfl⟩ := trodAll_nil r4
 obtain rfl : args = #[v0, v1, v2, v3, v4] := by cases args; simp_all
 obtain ⟨rfl, rfl⟩ := trodVars_none hV
 have k0 := h0
 have lt0 : ∀ x ∈ p0, x.block < W.heap.size := by obtain ⟨m, hm⟩ := k0; exact DataW.trod_lt m _ _ _ hm
 obtain ⟨cs0, x0, rfl, hk0, hg0⟩ := open_struct Tryz.underlying25 raw_t25 (hval 0 25 v0 rfl rfl) h0
 obtain ⟨eu0_0_3, e'u0_0_3, rfl, pu0_0_3, qu0_0_3⟩ := hk0
 obtain ⟨gu0_0_3, g'u0_0_3⟩ := hg0
 obtain ⟨A0_0, c0_0, rfl, hl0_0, hC0_0⟩ := pu0_0_3
 obtain ⟨A0_1, c0_1, rfl, hl0_1, hC0_1⟩ := qu0_0_3
 have k1 := h1
 have lt1 : ∀ x ∈ p1, x.block < W.heap.size := by obtain ⟨m, hm⟩ := k1; exact DataW.trod_lt m _ _ _ hm
 obtain ⟨cs1, x1, rfl, hk1, hg1⟩ := open_struct Tryz.underlying27 raw_t27 (hval 1 27 v1 rfl rfl) h1
 obtain ⟨eu1_0_10, e'u1_0_10, rfl, pu1_0_10, qu1_0_10⟩ := hk1
 obtain ⟨gu1_0_10, g'u1_0_10⟩ := hg1
 obtain rfl := pu1_0_10
 obtain ⟨eu1_1_13, e'u1_1_13, rfl, pu1_1_13, qu1_1_13⟩ := qu1_0_10
 obtain ⟨gu1_1_13, g'u1_1_13⟩ := g'u1_0_10
 obtain rfl := pu1_1_13
 obtain ⟨eu1_2_16, e'u1_2_16, rfl, pu1_2_16, qu1_2_16⟩ := qu1_1_13
 obtain ⟨gu1_2_16, g'u1_2_16⟩ := g'u1_1_13
 obtain rfl := pu1_2_16
 obtain rfl := qu1_2_16
 obtain ⟨a2, rfl, rfl, rfl, w2⟩ := open_int Tryz.underlying2 (hval 2 2 v2 rfl rfl) h2
 obtain ⟨a3, rfl, rfl, rfl, w3⟩ := open_int Tryz.underlying2 (hval 3 2 v3 rfl rfl) h3
 have k4 := h4
 have lt4 : ∀ x ∈ p4, x.block < W.heap.size := by obtain ⟨m, hm⟩ := k4; exact DataW.trod_lt m _ _ _ hm
 obtain ⟨A4, n4, c4, l4, rfl, rfl, hl4, hC4, hg4⟩ := open_row Tryz.underlying29 opens_t29 (hval 4 29 v4 rfl rfl) h4
 clear hA0 hval0 hsz0 hsz
 obtain ⟨k, hk⟩ := Pure.FnExactPlace (x0.1) (x0.2) (x1.1) (x1.2.1) (x1.2.2.1) (x1.2.2.2) a2 a3 l4 gu0_0_3 g'u0_0_3 gu1_0_10 gu1_1_13 gu1_2_16 w2 w3 hg4
 refine (Q.laws_FnExactPlace.calls (k := k) (A0_0 := A0_0) (c0_0 := c0_0) (l0_0 := x0.1) (A0_1 := A0_1) (c0_1 := c0_1) (l0_1 := x0.2) (a1_3 := x1.2.2.2) (A4 := A4) (c4 := c4) (l4 := l4) (r := true) (w := W) (hr0_0 := hC0_0) (hc0_0 := hl0_0) (hr0_1 := hC0_1) (hc0_1 := hl0_1) (hr4 := hC4) (hc4 := hl4) (h := hk)).mono fun e W' ⟨he, bel0⟩ => ?_
 have bel : Below W.heap.size W W' := bel0
 subst he
 exact ⟨_, rfl, _, _, _, [], _, [], hW', trodAll_mk1 (shut_bool Tryz.underlying4 _), (trodAll_cons_mk (Below.trod laidOut (by kernel_rfl) (of_decide_eq_true (by kernel_rfl)) k0 bel lt0) (trodAll_cons_mk (Below.trod laidOut (by kernel_rfl) (of_decide_eq_true (by kernel_rfl)) k1 bel lt1) (trodAll_cons_mk (shut_int Tryz.underlying2 w2) (trodAll_cons_mk (shut_int Tryz.underlying2 w3) (trodAll_cons_mk (Below.trod laidOut (by kernel_rfl) (of_decide_eq_true (by kernel_rfl)) k4 bel lt4) trodAll_mk0))))), rfl, bel.frame _, fun h => by cases h⟩
theorem fact0 : Rows.fnExactPlaceRow.wf (OpenSpec.ofChange Rows.fnExactPlaceSpec) = true := by kernel_rfl
theorem fact1 : laidOutB Tryz.prog = true := by kernel_rfl
theorem fact2 : mapsRowed Tryz.prog = true := by kernel_rfl
theorem fact3 : Tryz.f4.params.all (Tryz.prog.readableRec ·) = true := by kernel_rfl
theorem fact4 : namedTie Tryz.prog Rows.fnExactPlaceRow.named Rows.fnExactPlaceSpec.vars = true := by kernel_rfl
theorem fact5 : (Rows.fnExactPlaceRow.stops == []) = true := by kernel_rfl
theorem fact6 : (Tryz.prog.stops == []) = true := by kernel_rfl
theorem fact7 : (Rows.fnExactPlaceRow.knobs == []) = true := by kernel_rfl
theorem fact8 : (Tryz.prog.stopKnobs == []) = true := by kernel_rfl
theorem fact9 : (Rows.fnExactPlaceRow.inPlace == Tryz.prog.inPlace 4) = true := by kernel_rfl
theorem fact10 : (Rows.fnExactPlaceRow.unfollowed == Tryz.prog.unfollowed 4) = true := by kernel_rfl
theorem fact11 : (Rows.fnExactPlaceRow.recurses == Tryz.prog.recurses 4) = true := by kernel_rfl
theorem fact12 : (Rows.fnExactPlaceRow.named == Tryz.prog.varsNamed 4) = true := by kernel_rfl
theorem fact13 : (Rows.fnExactPlaceRow.maps == (Tryz.f4.params.toList ++ Rows.fnExactPlaceSpec.plain.varTypes Tryz.prog).any (Tryz.prog.mapsRec ·)) = true := by kernel_rfl
theorem fact14 : (Rows.fnExactPlaceRow.ifaces == (Tryz.f4.params.toList ++ Rows.fnExactPlaceSpec.plain.varTypes Tryz.prog).any (Tryz.prog.ifacesRec ·)) = true := by kernel_rfl
theorem fact15 : (Rows.fnExactPlaceRow.mapsOut == Tryz.prog.mapsAmong Tryz.f4.resultTypes.toList) = true := by kernel_rfl
theorem fact16 : (Rows.fnExactPlaceRow.loops == (Tryz.f4.params.toList ++ Rows.fnExactPlaceSpec.plain.varTypes Tryz.prog).any (Tryz.prog.loopsFrom ·)) = true := by kernel_rfl
theorem fact17 : (Rows.fnExactPlaceRow.wideKeys == (Tryz.f4.params.toList ++ Rows.fnExactPlaceSpec.plain.varTypes Tryz.prog ++ Tryz.f4.resultTypes.toList).any (Tryz.prog.wideKeysFrom ·)) = true := by kernel_rfl
theorem fact18 : Rows.fnExactPlaceSpec.vars.all (Tryz.prog.varReadable ·) = true := by kernel_rfl
theorem fact19 : Tryz.f4.resultTypes.all (fun t => Tryz.prog.readableRec t && decide (t < Tryz.prog.types.size)) = true := by kernel_rfl
theorem fact20 : (Rows.fnExactPlaceRow.ifacesOut == Tryz.f4.resultTypes.toList.any (Tryz.prog.ifacesRec ·)) = true := by kernel_rfl
theorem fact21 : (Rows.fnExactPlaceRow.loopsOut == Tryz.f4.resultTypes.toList.any (Tryz.prog.loopsFrom ·)) = true := by kernel_rfl
theorem fact22 : (Rows.fnExactPlaceRow.plainKeys == Tryz.prog.plainKeys) = true := by kernel_rfl
theorem fact23 : Rows.fnExactPlaceRow.shortTexts.isNone = true := by kernel_rfl
theorem fact24 : Tryz.prog.stopsHeard = true := by kernel_rfl
theorem fact25 : Tryz.prog.mayEnter = true := Head.mayEnter
theorem fact26 : (Rows.fnExactPlaceRow.lifted == Tryz.prog.liftsFinal) = true := Head.beq_r Head.liftsFinal (by kernel_rfl)
theorem fact27 : (Tryz.prog.make == some Rows.fnExactPlaceRow.make) = true := Head.beq_l Head.make (by kernel_rfl)
theorem fact28 : (Rows.fnExactPlaceRow.kinds == (if Rows.fnExactPlaceRow.domain.isEmpty then [] else Tryz.f4.params.toList.map fun t => match Tryz.prog.underlying t with | some (.int k) => some k | _ => none)) = true := by kernel_rfl
theorem fact29 : (Rows.fnExactPlaceRow.pinned == Rows.fnExactPlaceRow.pinnedBy) = true := by kernel_rfl
theorem fact30 : (Rows.fnExactPlaceRow.veiled == (Tryz.f4.params.toList ++ Rows.fnExactPlaceSpec.plain.varTypes Tryz.prog ++ Tryz.f4.resultTypes.toList).any (Tryz.prog.veiledRec ·)) = true := by kernel_rfl
theorem fact31 : Rows.fnExactPlaceRow.veiledFits Tryz.prog Tryz.f4.params.toList (Tryz.f4.params.toList ++ Rows.fnExactPlaceSpec.plain.varTypes Tryz.prog ++ Tryz.f4.resultTypes.toList) = true := by kernel_rfl
set_option maxRecDepth 100000 in
theorem closed : joinedFacts Tryz.prog 4 Tryz.f4 Rows.fnExactPlaceSpec Rows.fnExactPlaceRow = true := by
 unfold joinedFacts
 with_reducible exact (Head.and_in (Head.and_in (Head.and_in (Head.and_in (Head.and_in (Head.and_in (Head.and_in (Head.and_in (Head.and_in (Head.and_in (Head.and_in (Head.and_in (Head.and_in (Head.and_in (Head.and_in (Head.and_in (Head.and_in (Head.and_in (Head.and_in (Head.and_in (Head.and_in (Head.and_in (Head.and_in (Head.and_in (Head.and_in (Head.and_in (Head.and_in (Head.and_in (Head.and_in (Head.and_in (Head.and_in fact0 fact1) fact2) fact3) fact4) fact5) fact6) fact7) fact8) fact9) fact10) fact11) fact12) fact13) fact14) fact15) fact16) fact17) fact18) fact19) fact20) fact21) fact22) fact23) fact24) fact25) fact26) fact27) (by kernel_rfl)) fact29) fact30) fact31)
theorem over : Rows.fnExactPlaceRow.holds Tryz.pinned (OpenSpec.ofChange Rows.fnExactPlaceSpec) :=
 OpenClaim.holds_of_wide 4 Tryz.f4 rfl rfl rfl rfl rfl rfl rfl ⟨rfl, rfl, rfl, rfl, rfl⟩ rfl rfl rfl rfl rfl (by kernel_rfl) Tryz.func4 closed
  (of_decide_eq_true (by kernel_rfl)) (by unfold Func.isWrapper; first | (rw [if_pos (by decide +kernel)]; kernel_rfl) | (rw [if_neg (by decide +kernel)]; exact ⟨rfl, rfl⟩))
  (fun os started H enc _ => lifted os started H enc)
theorem proved : Rows.FnExactPlaceSaid := over
#print axioms proved
end Go.Proofs.YtkadeelplnkpgaaGreat.fnExactPlace
namespace Go.Proofs.YtkadeelplnkpgaaGreat
/-- The row, under a short name, for the claim. -/
theorem fnExactPlace_holds : Rows.FnExactPlaceSaid := fnExactPlace.proved
end Go.Proofs.YtkadeelplnkpgaaGreat
