/- Walks of the Go functions that the laws call: each returns what a plain Lean function says. Written by a program for these claims. -/
import Derived.Test.YtohjpgcmhihdhaaRows
import Derived.Test.YtohjpgcmhihdhaaOHead
import Derived.Test.YtohjpgcmhihdhaaMFnApartc
import Derived.Test.YtohjpgcmhihdhaaMFnApartd
import Derived.WalkKit
import Derived.ProofKit
import Derived.OpenShut
import Derived.ShutString
import Derived.ChangeOld
import Derived.Below
import Derived.SizedLaws
import Derived.Test.YtohjpgcmhihdhaaWBMore
namespace Go.Proofs.Ytohjpgcmhihdhaa.fnApart
open Go.ChangeShapes Go.WideShapes Go.ChangeAt Go.RowKit
open Go.ChangeMaps (open_string shut_string)
set_option linter.unusedVariables false
theorem own : ownKnob Try.prog.godebug = none := by kernel_rfl
theorem laidOut : laidOutB Try.prog = true := by kernel_rfl
def IsRow (k : IntKind) (w : World) (a : Option Addr) (len cap : Nat) (zs : List Int) : Prop :=
  (a = none ∧ len = 0 ∧ cap = 0 ∧ zs = []) ∨
  ∃ x, a = some x ∧ len ≤ cap ∧ cap ≤ maxLen ∧ zs.length = cap ∧ (∀ i, i < zs.length → w.cell? (x.add i) = some (.int k (zs.getD i 0))) ∧ ∀ n ∈ zs, (Lit.int k n).wf = true
set_option maxRecDepth 100000 in
theorem lifted (os : Os) (started : os.Started) (H : Type) (enc : TypeId × Value → H) :
    ReturnsInHanded {} Try.checked os 5 .any (Rows.fnApartSpec.pre6 enc Try.prog Try.f5 Rows.fnApartRow.domain false) (Rows.fnApartSpec.post enc Try.prog Try.f5 false true false false) := by
  refine returnsInHanded_of_change_sized (C := Try.checked) own started (by kernel_rfl) Try.func5
    (ChangeSpec.witness6 (enc := enc) (C := Try.checked) false ⟨#[], #[.slice none 0 0], []⟩ 8 (by kernel_rfl) (by kernel_rfl) (by kernel_rfl) (by kernel_rfl)) ?_
  intro W base args ds gs before hval0 hW hcnd hsz0 _
  have hsz : (DataW.weightsEach Try.prog (Try.f5.params.toList ++ Rows.fnApartSpec.plain.varTypes Try.prog) (ds ++ gs)).all (· ≤ reachBytes) = true := hsz0
  have hval : ∀ (j : Nat) t v, Try.f5.params[j]? = some t → args[j]? = some v → Value.okWide Try.prog W .any base t v := hval0
  have hW' := hW
  obtain ⟨p, q, hA0, hV, rfl, hfz, hnd⟩ := hW
  have hA : DataW.TrodAll enc Try.prog W 0 (fun _ => true) true Try.f5.params.toList args.toList ds p := hA0
  rw [Try.params5] at hA hval hsz
  obtain ⟨v0, vs0, d0, ds0, p0, q0, hargs, rfl, rfl, h0, r0⟩ := trodAll_cons hA
  obtain ⟨rfl, rfl, rfl⟩ := trodAll_nil r0
  obtain rfl : args = #[v0] := by cases args; simp_all
  obtain ⟨rfl, rfl⟩ := trodVars_none hV
  obtain ⟨a0, len0, cap0, rfl⟩ := okWide_slice Try.underlying22 (hval 0 22 v0 rfl rfl)
  have k0 := h0
  have lt0 : ∀ x ∈ p0, x.block < W.heap.size := by obtain ⟨m, hm⟩ := k0; exact DataW.trod_lt m _ _ _ hm
  obtain ⟨z0, w0⟩ : ∃ zs, IsRow .u8 W a0 len0 cap0 zs := by
    obtain ⟨fuel, hf⟩ := h0
    rcases open_ints Try.underlying22 Try.underlying5 (by kernel_rfl) hf with ⟨hcs, _⟩ | ⟨x, l, c, zs, hcs, _, hl, hm, hz, _, hcell, hwz⟩
    · simp [Value.cells] at hcs
      obtain ⟨rfl, rfl, rfl⟩ := hcs
      exact ⟨[], .inl ⟨rfl, rfl, rfl, rfl⟩⟩
    · simp [Value.cells] at hcs
      obtain ⟨rfl, rfl, rfl⟩ := hcs
      exact ⟨zs, .inr ⟨_, rfl, hl, hm, by simpa using hz, hcell, hwz⟩⟩
  have y0 : len0 * 1 ≤ 140737488351232 := Go.Proofs.YtohjpgcmhihdhaaW.PrintWords.sized_ints hsz (j := 0) (t := 22) rfl rfl Try.underlying22 Try.underlying5 (by kernel_rfl) (by kernel_rfl) h0
  clear hA0 hval0 hsz0 hsz
  refine (Q.laws_FnApart.walk Pure.FnApart a0 len0 cap0 z0 W w0 y0).mono fun e W' ⟨he, bel⟩ => ?_
  subst he
  exact ⟨_, rfl, _, _, _, [], _, [], hW', trodAll_mk1 (shut_bool Try.underlying4 _), (trodAll_cons_mk (Below.trod laidOut (by kernel_rfl) (of_decide_eq_true (by kernel_rfl)) k0 bel lt0) trodAll_mk0), rfl, bel.frame _, fun h => by cases h⟩
theorem fact0 : Rows.fnApartRow.wf (OpenSpec.ofChange Rows.fnApartSpec) = true := by kernel_rfl
theorem fact1 : laidOutB Try.prog = true := by kernel_rfl
theorem fact2 : mapsRowed Try.prog = true := by kernel_rfl
theorem fact3 : Try.f5.params.all (Try.prog.readableRec ·) = true := by kernel_rfl
theorem fact4 : namedTie Try.prog Rows.fnApartRow.named Rows.fnApartSpec.vars = true := by kernel_rfl
theorem fact5 : (Rows.fnApartRow.stops == []) = true := by kernel_rfl
theorem fact6 : (Try.prog.stops == []) = true := by kernel_rfl
theorem fact7 : (Rows.fnApartRow.knobs == []) = true := by kernel_rfl
theorem fact8 : (Try.prog.stopKnobs == []) = true := by kernel_rfl
theorem fact9 : (Rows.fnApartRow.inPlace == Try.prog.inPlace 5) = true := by kernel_rfl
theorem fact10 : (Rows.fnApartRow.unfollowed == Try.prog.unfollowed 5) = true := by kernel_rfl
theorem fact11 : (Rows.fnApartRow.recurses == Try.prog.recurses 5) = true := by kernel_rfl
theorem fact12 : (Rows.fnApartRow.named == Try.prog.varsNamed 5) = true := by kernel_rfl
theorem fact13 : (Rows.fnApartRow.maps == (Try.f5.params.toList ++ Rows.fnApartSpec.plain.varTypes Try.prog).any (Try.prog.mapsRec ·)) = true := by kernel_rfl
theorem fact14 : (Rows.fnApartRow.ifaces == (Try.f5.params.toList ++ Rows.fnApartSpec.plain.varTypes Try.prog).any (Try.prog.ifacesRec ·)) = true := by kernel_rfl
theorem fact15 : (Rows.fnApartRow.mapsOut == Try.prog.mapsAmong Try.f5.resultTypes.toList) = true := by kernel_rfl
theorem fact16 : (Rows.fnApartRow.loops == (Try.f5.params.toList ++ Rows.fnApartSpec.plain.varTypes Try.prog).any (Try.prog.loopsFrom ·)) = true := by kernel_rfl
theorem fact17 : (Rows.fnApartRow.wideKeys == (Try.f5.params.toList ++ Rows.fnApartSpec.plain.varTypes Try.prog ++ Try.f5.resultTypes.toList).any (Try.prog.wideKeysFrom ·)) = true := by kernel_rfl
theorem fact18 : Rows.fnApartSpec.vars.all (Try.prog.varReadable ·) = true := by kernel_rfl
theorem fact19 : Try.f5.resultTypes.all (fun t => Try.prog.readableRec t && decide (t < Try.prog.types.size)) = true := by kernel_rfl
theorem fact20 : (Rows.fnApartRow.ifacesOut == Try.f5.resultTypes.toList.any (Try.prog.ifacesRec ·)) = true := by kernel_rfl
theorem fact21 : (Rows.fnApartRow.loopsOut == Try.f5.resultTypes.toList.any (Try.prog.loopsFrom ·)) = true := by kernel_rfl
theorem fact22 : (Rows.fnApartRow.plainKeys == Try.prog.plainKeys) = true := by kernel_rfl
theorem fact23 : Rows.fnApartRow.shortTexts.isNone = true := by kernel_rfl
theorem fact24 : Try.prog.stopsHeard = true := by kernel_rfl
theorem fact25 : Try.prog.mayEnter = true := Head.mayEnter
theorem fact26 : (Rows.fnApartRow.lifted == Try.prog.liftsFinal) = true := Head.beq_r Head.liftsFinal (by kernel_rfl)
theorem fact27 : (Try.prog.make == some Rows.fnApartRow.make) = true := Head.beq_l Head.make (by kernel_rfl)
theorem fact28 : (Rows.fnApartRow.kinds == (if Rows.fnApartRow.domain.isEmpty then [] else Try.f5.params.toList.map fun t => match Try.prog.underlying t with | some (.int k) => some k | _ => none)) = true := by kernel_rfl
theorem fact29 : (Rows.fnApartRow.pinned == Rows.fnApartRow.pinnedBy) = true := by kernel_rfl
theorem fact30 : (Rows.fnApartRow.veiled == (Try.f5.params.toList ++ Rows.fnApartSpec.plain.varTypes Try.prog ++ Try.f5.resultTypes.toList).any (Try.prog.veiledRec ·)) = true := by kernel_rfl
theorem fact31 : Rows.fnApartRow.veiledFits Try.prog Try.f5.params.toList (Try.f5.params.toList ++ Rows.fnApartSpec.plain.varTypes Try.prog ++ Try.f5.resultTypes.toList) = true := by kernel_rfl
set_option maxRecDepth 100000 in
theorem closed : joinedFacts Try.prog 5 Try.f5 Rows.fnApartSpec Rows.fnApartRow = true := by
  unfold joinedFacts
  with_reducible exact (Head.and_in (Head.and_in (Head.and_in (Head.and_in (Head.and_in (Head.and_in (Head.and_in (Head.and_in (Head.and_in (Head.and_in (Head.and_in (Head.and_in (Head.and_in (Head.and_in (Head.and_in (Head.and_in (Head.and_in (Head.and_in (Head.and_in (Head.and_in (Head.and_in (Head.and_in (Head.and_in (Head.and_in (Head.and_in (Head.and_in (Head.and_in (Head.and_in (Head.and_in (Head.and_in (Head.and_in fact0 fact1) fact2) fact3) fact4) fact5) fact6) fact7) fact8) fact9) fact10) fact11) fact12) fact13) fact14) fact15) fact16) fact17) fact18) fact19) fact20) fact21) fact22) fact23) fact24) fact25) fact26) fact27) (by kernel_rfl)) fact29) fact30) fact31)
theorem over : Rows.fnApartRow.holds Try.pinned (OpenSpec.ofChange Rows.fnApartSpec) :=
  OpenClaim.holds_of_wide 5 Try.f5 rfl rfl rfl rfl rfl rfl rfl ⟨rfl, rfl, rfl, rfl, rfl⟩ rfl rfl rfl rfl rfl (by kernel_rfl) Try.func5 closed
    (of_decide_eq_true (by kernel_rfl)) (by unfold Func.isWrapper; first | (rw [if_pos (by decide +kernel)]; kernel_rfl) | (rw [if_neg (by decide +kernel)]; exact ⟨rfl, rfl⟩))
    (fun os started H enc _ => lifted os started H enc)
theorem proved : Rows.FnApartSaid := over
#print axioms proved
end Go.Proofs.Ytohjpgcmhihdhaa.fnApart
namespace Go.Proofs.Ytohjpgcmhihdhaa
/-- The row, under a short name, for the claim. -/
theorem fnApart_holds : Rows.FnApartSaid := fnApart.proved
end Go.Proofs.Ytohjpgcmhihdhaa
