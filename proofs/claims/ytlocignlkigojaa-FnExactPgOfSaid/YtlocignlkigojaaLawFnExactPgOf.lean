/- The row of FnExactPgOf: for every argument the law returns true; the arguments read as they did. No conditions. -/
import Derived.Test.YtlocignlkigojaaRows
import Derived.Test.YtlocignlkigojaaOHead
import Derived.Test.YtlocignlkigojaaOTypes
import Derived.Test.YtlocignlkigojaaQf7
import Derived.Test.YtlocignlkigojaaMFnExactPgOfa
import Derived.WalkKit
import Derived.ProofKit
import Derived.OpenShut
import Derived.ShutString
import Derived.ChangeOld
import Derived.Below
import Derived.SizedLaws
namespace Go.Proofs.Ytlocignlkigojaa.fnExactPgOf
open Go.ChangeShapes Go.WideShapes Go.ChangeAt Go.RowKit
open Go.ChangeMaps (open_string shut_string)
open Go.Proofs.Ytlocignlkigojaa.Opens Go.Proofs.YtlocignlkigojaaW.PrintWords
set_option linter.unusedVariables false
theorem own : ownKnob Try.prog.godebug = none := by kernel_rfl
theorem laidOut : laidOutB Try.prog = true := by kernel_rfl
set_option maxRecDepth 100000 in
theorem lifted (os : Os) (started : os.Started) (H : Type) (enc : TypeId × Value → H) :
    ReturnsInHanded {} Try.checked os 7 .any (Rows.fnExactPgOfSpec.pre6 enc Try.prog Try.f7 Rows.fnExactPgOfRow.domain false) (Rows.fnExactPgOfSpec.post enc Try.prog Try.f7 false true false false) := by
  refine returnsInHanded_of_change_sized (C := Try.checked) own started (by kernel_rfl) Try.func7
    (ChangeSpec.witness6 (enc := enc) (C := Try.checked) false ⟨#[], #[.agg #[.int .i64 0, .int .i64 0, .int .i64 0, .int .i64 0, .int .i64 0, .int .i64 0], .string ByteArray.empty], []⟩ 8 (by kernel_rfl) (by kernel_rfl) (by kernel_rfl) (by kernel_rfl)) ?_
  intro W base args ds gs before hval0 hW hcnd hsz0 _
  have hsz : (DataW.weightsEach Try.prog (Try.f7.params.toList ++ Rows.fnExactPgOfSpec.plain.varTypes Try.prog) (ds ++ gs)).all (· ≤ reachBytes) = true := hsz0
  have hval : ∀ (j : Nat) t v, Try.f7.params[j]? = some t → args[j]? = some v → Value.okWide Try.prog W .any base t v := hval0
  have hW' := hW
  obtain ⟨p, q, hA0, hV, rfl, hfz, hnd⟩ := hW
  have hA : DataW.TrodAll enc Try.prog W 0 (fun _ => true) true Try.f7.params.toList args.toList ds p := hA0
  rw [Try.params7] at hA hval hsz
  obtain ⟨v0, vs0, d0, ds0, p0, q0, hargs, rfl, rfl, h0, r0⟩ := trodAll_cons hA
  obtain ⟨v1, vs1, d1, ds1, p1, q1, rfl, rfl, rfl, h1, r1⟩ := trodAll_cons r0
  obtain ⟨rfl, rfl, rfl⟩ := trodAll_nil r1
  obtain rfl : args = #[v0, v1] := by cases args; simp_all
  obtain ⟨rfl, rfl⟩ := trodVars_none hV
  have k0 := h0
  have lt0 : ∀ x ∈ p0, x.block < W.heap.size := by obtain ⟨m, hm⟩ := k0; exact DataW.trod_lt m _ _ _ hm
  obtain ⟨cs0, x0, rfl, hk0, hg0⟩ := open_struct Try.underlying52 raw_t52 (hval 0 52 v0 rfl rfl) h0
  obtain ⟨eu0_0_3, e'u0_0_3, rfl, pu0_0_3, qu0_0_3⟩ := hk0
  obtain ⟨gu0_0_3, g'u0_0_3⟩ := hg0
  obtain rfl := pu0_0_3
  obtain ⟨eu0_1_6, e'u0_1_6, rfl, pu0_1_6, qu0_1_6⟩ := qu0_0_3
  obtain ⟨gu0_1_6, g'u0_1_6⟩ := g'u0_0_3
  obtain ⟨eu0_1_8, e'u0_1_8, rfl, pu0_1_8, qu0_1_8⟩ := pu0_1_6
  obtain ⟨gu0_1_8, g'u0_1_8⟩ := gu0_1_6
  obtain rfl := pu0_1_8
  obtain rfl := qu0_1_8
  obtain ⟨eu0_3_12, e'u0_3_12, rfl, pu0_3_12, qu0_3_12⟩ := qu0_1_6
  obtain ⟨gu0_3_12, g'u0_3_12⟩ := g'u0_1_6
  obtain rfl := pu0_3_12
  obtain ⟨eu0_4_15, e'u0_4_15, rfl, pu0_4_15, qu0_4_15⟩ := qu0_3_12
  obtain ⟨gu0_4_15, g'u0_4_15⟩ := g'u0_3_12
  obtain rfl := pu0_4_15
  obtain rfl := qu0_4_15
  obtain ⟨a1, rfl, rfl, rfl, y1⟩ := open_string Try.underlying9 (hval 1 9 v1 rfl rfl) h1
  have z1 : a1.size ≤ 9223372036854775807 := by simpa [maxLen] using y1
  clear hA0 hval0 hsz0 hsz
  obtain ⟨k, hk⟩ := Pure.FnExactPgOf (x0.1) (x0.2.1.1) (x0.2.1.2) (x0.2.2.1) (x0.2.2.2.1) (x0.2.2.2.2) a1 gu0_0_3 gu0_1_8 g'u0_1_8 gu0_3_12 gu0_4_15 g'u0_4_15 z1
  refine (Q.laws_FnExactPgOf.calls (k := k) (a0_0 := x0.1) (a0_1 := x0.2.1.1) (a0_2 := x0.2.1.2) (a0_3 := x0.2.2.1) (a0_4 := x0.2.2.2.1) (a0_5 := x0.2.2.2.2) (a1 := a1) (r := true) (w := W) (h := hk)).mono fun e W' ⟨he, bel0⟩ => ?_
  have bel : Below W.heap.size W W' := bel0
  subst he
  exact ⟨_, rfl, _, _, _, [], _, [], hW', trodAll_mk1 (shut_bool Try.underlying4 _), (trodAll_cons_mk (Below.trod laidOut (by kernel_rfl) (of_decide_eq_true (by kernel_rfl)) k0 bel lt0) (trodAll_cons_mk (shut_string Try.underlying9 y1) trodAll_mk0)), rfl, bel.frame _, fun h => by cases h⟩
theorem fact0 : Rows.fnExactPgOfRow.wf (OpenSpec.ofChange Rows.fnExactPgOfSpec) = true := by kernel_rfl
theorem fact1 : laidOutB Try.prog = true := by kernel_rfl
theorem fact2 : mapsRowed Try.prog = true := by kernel_rfl
theorem fact3 : Try.f7.params.all (Try.prog.readableRec ·) = true := by kernel_rfl
theorem fact4 : namedTie Try.prog Rows.fnExactPgOfRow.named Rows.fnExactPgOfSpec.vars = true := by kernel_rfl
theorem fact5 : (Rows.fnExactPgOfRow.stops == []) = true := by kernel_rfl
theorem fact6 : (Try.prog.stops == []) = true := by kernel_rfl
theorem fact7 : (Rows.fnExactPgOfRow.knobs == []) = true := by kernel_rfl
theorem fact8 : (Try.prog.stopKnobs == []) = true := by kernel_rfl
theorem fact9 : (Rows.fnExactPgOfRow.inPlace == Try.prog.inPlace 7) = true := by kernel_rfl
theorem fact10 : (Rows.fnExactPgOfRow.unfollowed == Try.prog.unfollowed 7) = true := by kernel_rfl
theorem fact11 : (Rows.fnExactPgOfRow.recurses == Try.prog.recurses 7) = true := by kernel_rfl
theorem fact12 : (Rows.fnExactPgOfRow.named == Try.prog.varsNamed 7) = true := by kernel_rfl
theorem fact13 : (Rows.fnExactPgOfRow.maps == (Try.f7.params.toList ++ Rows.fnExactPgOfSpec.plain.varTypes Try.prog).any (Try.prog.mapsRec ·)) = true := by kernel_rfl
theorem fact14 : (Rows.fnExactPgOfRow.ifaces == (Try.f7.params.toList ++ Rows.fnExactPgOfSpec.plain.varTypes Try.prog).any (Try.prog.ifacesRec ·)) = true := by kernel_rfl
theorem fact15 : (Rows.fnExactPgOfRow.mapsOut == Try.prog.mapsAmong Try.f7.resultTypes.toList) = true := by kernel_rfl
theorem fact16 : (Rows.fnExactPgOfRow.loops == (Try.f7.params.toList ++ Rows.fnExactPgOfSpec.plain.varTypes Try.prog).any (Try.prog.loopsFrom ·)) = true := by kernel_rfl
theorem fact17 : (Rows.fnExactPgOfRow.wideKeys == (Try.f7.params.toList ++ Rows.fnExactPgOfSpec.plain.varTypes Try.prog ++ Try.f7.resultTypes.toList).any (Try.prog.wideKeysFrom ·)) = true := by kernel_rfl
theorem fact18 : Rows.fnExactPgOfSpec.vars.all (Try.prog.varReadable ·) = true := by kernel_rfl
theorem fact19 : Try.f7.resultTypes.all (fun t => Try.prog.readableRec t && decide (t < Try.prog.types.size)) = true := by kernel_rfl
theorem fact20 : (Rows.fnExactPgOfRow.ifacesOut == Try.f7.resultTypes.toList.any (Try.prog.ifacesRec ·)) = true := by kernel_rfl
theorem fact21 : (Rows.fnExactPgOfRow.loopsOut == Try.f7.resultTypes.toList.any (Try.prog.loopsFrom ·)) = true := by kernel_rfl
theorem fact22 : (Rows.fnExactPgOfRow.plainKeys == Try.prog.plainKeys) = true := by kernel_rfl
theorem fact23 : Rows.fnExactPgOfRow.shortTexts.isNone = true := by kernel_rfl
theorem fact24 : Try.prog.stopsHeard = true := by kernel_rfl
theorem fact25 : Try.prog.mayEnter = true := Head.mayEnter
theorem fact26 : (Rows.fnExactPgOfRow.lifted == Try.prog.liftsFinal) = true := Head.beq_r Head.liftsFinal (by kernel_rfl)
theorem fact27 : (Try.prog.make == some Rows.fnExactPgOfRow.make) = true := Head.beq_l Head.make (by kernel_rfl)
theorem fact28 : (Rows.fnExactPgOfRow.kinds == (if Rows.fnExactPgOfRow.domain.isEmpty then [] else Try.f7.params.toList.map fun t => match Try.prog.underlying t with | some (.int k) => some k | _ => none)) = true := by kernel_rfl
theorem fact29 : (Rows.fnExactPgOfRow.pinned == Rows.fnExactPgOfRow.pinnedBy) = true := by kernel_rfl
theorem fact30 : (Rows.fnExactPgOfRow.veiled == (Try.f7.params.toList ++ Rows.fnExactPgOfSpec.plain.varTypes Try.prog ++ Try.f7.resultTypes.toList).any (Try.prog.veiledRec ·)) = true := by kernel_rfl
theorem fact31 : Rows.fnExactPgOfRow.veiledFits Try.prog Try.f7.params.toList (Try.f7.params.toList ++ Rows.fnExactPgOfSpec.plain.varTypes Try.prog ++ Try.f7.resultTypes.toList) = true := by kernel_rfl
set_option maxRecDepth 100000 in
theorem closed : joinedFacts Try.prog 7 Try.f7 Rows.fnExactPgOfSpec Rows.fnExactPgOfRow = true := by
  unfold joinedFacts
  with_reducible exact (Head.and_in (Head.and_in (Head.and_in (Head.and_in (Head.and_in (Head.and_in (Head.and_in (Head.and_in (Head.and_in (Head.and_in (Head.and_in (Head.and_in (Head.and_in (Head.and_in (Head.and_in (Head.and_in (Head.and_in (Head.and_in (Head.and_in (Head.and_in (Head.and_in (Head.and_in (Head.and_in (Head.and_in (Head.and_in (Head.and_in (Head.and_in (Head.and_in (Head.and_in (Head.and_in (Head.and_in fact0 fact1) fact2) fact3) fact4) fact5) fact6) fact7) fact8) fact9) fact10) fact11) fact12) fact13) fact14) fact15) fact16) fact17) fact18) fact19) fact20) fact21) fact22) fact23) fact24) fact25) fact26) fact27) (by kernel_rfl)) fact29) fact30) fact31)
theorem over : Rows.fnExactPgOfRow.holds Try.pinned (OpenSpec.ofChange Rows.fnExactPgOfSpec) :=
  OpenClaim.holds_of_wide 7 Try.f7 rfl rfl rfl rfl rfl rfl rfl ⟨rfl, rfl, rfl, rfl, rfl⟩ rfl rfl rfl rfl rfl (by kernel_rfl) Try.func7 closed
    (of_decide_eq_true (by kernel_rfl)) (by unfold Func.isWrapper; first | (rw [if_pos (by decide +kernel)]; kernel_rfl) | (rw [if_neg (by decide +kernel)]; exact ⟨rfl, rfl⟩))
    (fun os started H enc _ => lifted os started H enc)
theorem proved : Rows.FnExactPgOfSaid := over
#print axioms proved
end Go.Proofs.Ytlocignlkigojaa.fnExactPgOf
namespace Go.Proofs.Ytlocignlkigojaa
/-- The row, under a short name, for the claim. -/
theorem fnExactPgOf_holds : Rows.FnExactPgOfSaid := fnExactPgOf.proved
end Go.Proofs.Ytlocignlkigojaa
