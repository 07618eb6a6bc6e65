/- The row of FnExactTreeText and its tied card: for every argument the law returns true; the arguments read as they did. Conditions: the three listed tables of the library lie as the program's text lays them (the card ties them). -/
import Derived.Test.YtohjpgcmhihdhaaDoorRows
import Derived.Test.YtohjpgcmhihdhaaDoorTie
import Derived.Test.YtohjpgcmhihdhaaDoorCards
import Derived.Test.YtohjpgcmhihdhaaDoorOHead
import Derived.Test.YtohjpgcmhihdhaaDoorOTypes
import Derived.Test.YtohjpgcmhihdhaaDoorMFnExactTreeTexta
import Derived.WalkKit
import Derived.ProofKit
import Derived.OpenShut
import Derived.ShutString
import Derived.ChangeOld
import Derived.Below
import Derived.SizedLaws
import Derived.LaidMore
import Derived.LaidSub
import Derived.SevenTiedAt
import Derived.Stop.Joined
import Derived.Lib.LaidTab
import Derived.Lib.AppendIntMem
namespace Go.Proofs.YtohjpgcmhihdhaaDoor.fnExactTreeText
open Go.ChangeShapes Go.WideShapes Go.ChangeAt Go.RowKit
open Go.ChangeMaps (open_string shut_string)
open Go.Proofs.YtohjpgcmhihdhaaDoor.Opens Go.Proofs.YtohjpgcmhihdhaaDoorW.PrintWords Go.Proofs.YtohjpgcmhihdhaaDoorW.PrintMore
set_option linter.unusedVariables false
theorem own : ownKnob Tryd.prog.godebug = none := by kernel_rfl
theorem laidOut : laidOutB Tryd.prog = true := by kernel_rfl
theorem gPow : Tryd.prog.globalNamed "internal/strconv.uint64pow10" = some 1 := by kernel_rfl
theorem tPow : (Tryd.prog.globals[1]?).map (·.type) = some 143 := by kernel_rfl
/-- The door's own heap meets the condition. -/
theorem door_met (os : Os) (args : Array Value) : laidMetH Tryd.prog Rows.fnExactTreeTextRow.laid ((World.doorLaid Tryd.prog 72 os).forCall (fun _ _ => 0) ⟨#[], args, []⟩).memory :=
  laidMetH_of_parts3 (fuel := 8) (laidMet_of_run' 8 (by kernel_rfl) (by kernel_rfl)) (by kernel_rfl) (by kernel_rfl)
/-- what the condition gives the walks: the table of powers of ten -/
theorem tab_of_laid {W : World} (h : laidMetH Tryd.prog Rows.fnExactTreeTextRow.laid W) : TabW W := by
  have h1 : laidMetH Tryd.prog [("internal/strconv.uint64pow10", Lib.tabData .u64 Lib.pow10Tab)] W := laidMetH.filter (fun x => x.1 == "internal/strconv.uint64pow10") h
  rw [MakeChecks.laidMetH_plain _ _ _ (by kernel_rfl)] at h1
  exact Lib.tabBelow_of_tabIs (Lib.tabIs_of_head gPow tPow Tryd.underlying143 Tryd.underlying85 (by kernel_rfl) (by kernel_rfl) h1)
set_option maxRecDepth 100000 in
theorem lifted (os : Os) (started : os.Started) (H : Type) (enc : TypeId × Value → H) :
    ReturnsInHanded {} Tryd.checked os 3 .any (fun w args => (Rows.fnExactTreeTextSpec.pre enc Tryd.prog Tryd.f3 [] false w args ∧ laidMetH Tryd.prog Rows.fnExactTreeTextRow.laid w) ∧ sizedMet enc Tryd.prog Tryd.f3 (OpenSpec.ofChange Rows.fnExactTreeTextSpec) false w args)
      (Rows.fnExactTreeTextSpec.post enc Tryd.prog Tryd.f3 false true false false) := by
  refine returnsInHanded_of_change_and (C := Tryd.checked) (X := fun w _ => laidMetH Tryd.prog Rows.fnExactTreeTextRow.laid w) (fun _ _ _ hh h => h.of_heap hh) own started (by kernel_rfl) Tryd.func3
    (ChangeSpec.witness_shaped (enc := enc) (C := Tryd.checked) (os := os) (X := fun w _ => laidMetH Tryd.prog Rows.fnExactTreeTextRow.laid w) false (World.doorLaid Tryd.prog 72 os) #[.agg #[.slice none 0 0, .slice none 0 0]] 8 rfl (World.shaped_of_RefB (by kernel_rfl) (by kernel_rfl)) (by kernel_rfl) (by kernel_rfl) (by kernel_rfl) (door_met os _)) ?_
  intro W base args ds gs before hval0 hW _ _ hL _
  have hval : ∀ (j : Nat) t v, Tryd.f3.params[j]? = some t → args[j]? = some v → Value.okWide Tryd.prog W .any base t v := hval0
  have hW' := hW
  obtain ⟨p, q, hA0, hV, rfl, hfz, hnd⟩ := hW
  have hA : DataW.TrodAll enc Tryd.prog W 0 (fun _ => true) true Tryd.f3.params.toList args.toList ds p := hA0
  rw [Tryd.params3] at hA hval
  obtain ⟨v0, vs0, d0, ds0, p0, q0, hargs, rfl, rfl, h0, r0⟩ := trodAll_cons hA
  obtain ⟨rfl, rfl, rfl⟩ := trodAll_nil r0
  obtain rfl : args = #[v0] := by cases args; simp_all
  obtain ⟨rfl, rfl⟩ := trodVars_none hV
  have k0 := h0
  have lt0 : ∀ x ∈ p0, x.block < W.heap.size := by obtain ⟨m, hm⟩ := k0; exact DataW.trod_lt m _ _ _ hm
  obtain ⟨cs0, x0, rfl, hk0, hg0⟩ := open_struct Tryd.underlying25 raw_t25 (hval 0 25 v0 rfl rfl) h0
  obtain ⟨e1, e2, rfl, pu, qu⟩ := hk0
  obtain ⟨gu, gv⟩ := hg0
  obtain ⟨A0_0, c0_0, rfl, hl0_0, hC0_0⟩ := pu
  obtain ⟨A0_1, c0_1, rfl, hl0_1, hC0_1⟩ := qu
  have hT := tab_of_laid hL
  clear hA0 hval0 hL
  obtain ⟨k, t1, D, B, o, e1, e2⟩ := Pure.FnExactTreeText (x0.1) (x0.2) gu gv
  refine (Pure.lawTreeText_at k A0_0 c0_0 x0.1 A0_1 c0_1 x0.2 t1 D B o W hC0_0 hl0_0 hC0_1 hl0_1 e1 e2 hT).mono fun e W' ⟨he, bel⟩ => ?_
  subst he
  exact ⟨_, rfl, _, _, _, [], _, [], hW', trodAll_mk1 (shut_bool Tryd.underlying4 _), (trodAll_cons_mk (Below.trod laidOut (by kernel_rfl) (of_decide_eq_true (by kernel_rfl)) k0 bel lt0) trodAll_mk0), rfl, bel.frame _, fun h => by cases h⟩
theorem over : Rows.FnExactTreeTextSaid :=
  OpenClaim.holds_of_wide 3 Tryd.f3 rfl rfl rfl rfl rfl rfl rfl ⟨rfl, rfl, rfl, rfl, rfl⟩ rfl rfl rfl rfl rfl (by kernel_rfl) Tryd.func3 (by unfold joinedFacts; repeat' (apply Head.and_in); all_goals first | (with_reducible exact Head.mayEnter) | (with_reducible exact Head.beq_r Head.liftsFinal (by kernel_rfl)) | (with_reducible exact Head.beq_l Head.make (by kernel_rfl)) | kernel_rfl)
    (of_decide_eq_true (by kernel_rfl)) (by unfold Func.isWrapper; first | (rw [if_pos (by decide +kernel)]; kernel_rfl) | (rw [if_neg (by decide +kernel)]; exact ⟨rfl, rfl⟩))
    (fun os started H enc _ => lifted os started H enc)
end Go.Proofs.YtohjpgcmhihdhaaDoor.fnExactTreeText
namespace Go.Proofs.YtohjpgcmhihdhaaDoor
/-- The tied card of FnExactTreeText. -/
theorem fnExactTreeText_card : Rows.FnExactTreeTextCardSaid :=
  Claim7.holds_tied_plain_at .later [] [.data, .data, .data] true (true, "b48c06045e5e5afa0b99c0e6a9771ee683da43e680a0b165ea6cbd568e7f4867") true
    fnExactTreeText.over (fun _ h => by cases h) (by kernel_rfl) (fun _ h => by cases h) fnExactTreeText_row_tie rfl ⟨rfl, rfl⟩ (by kernel_rfl) rfl
    (fun f fn hf hfn => by
      obtain rfl : f = 3 := Option.some.inj ((show Tryd.prog.funcNamed "loop.example/g00849/laws.FnExactTreeText" = some 3 by kernel_rfl).symm.trans hf) |>.symm
      obtain rfl : fn = Tryd.f3 := (Option.some.inj (Tryd.func3.symm.trans hfn)).symm
      exact ⟨by kernel_rfl, fun j t ht => by
        rw [Tryd.params3] at ht
        have hm : t ∈ [25] := by simpa using Array.mem_of_getElem? ht
        have hall : ([25].all fun u => !Tryd.prog.wantsStandIn u) = true := by kernel_rfl
        exact (show Tryd.prog.wantsStandIn t = false by simpa using List.all_eq_true.1 hall t hm)⟩)
    (by kernel_rfl)
#print axioms fnExactTreeText_card
end Go.Proofs.YtohjpgcmhihdhaaDoor
