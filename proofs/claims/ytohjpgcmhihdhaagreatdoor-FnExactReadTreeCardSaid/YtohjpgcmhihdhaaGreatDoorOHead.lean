/- The closed facts of a row that read the head of the dump: each is proved over that head as a list of signs. No conditions. -/
import Derived.Test.YtohjpgcmhihdhaaGreatDoorProg
import Derived.ProofKit
import Derived.KernelRfl
import GoSem.ClaimJoined
import Derived.JoinedOf
namespace Go.Proofs.YtohjpgcmhihdhaaGreatDoor.Head
def headNums : List Nat := [104, 97, 114, 110, 101, 115, 115, 32, 101, 49, 57, 57, 100, 52, 50, 48, 98, 49, 55, 50, 49, 55, 57, 97, 49, 101, 99, 48, 51, 100, 52, 56, 55, 56, 48, 50, 50, 100, 101, 48, 56, 99, 56, 57, 102, 51, 49, 100, 57, 53, 102, 57, 102, 57, 56, 57, 99, 48, 56, 102, 98, 48, 57, 100, 55, 49, 56, 101, 55, 53, 100, 51, 32, 99, 117, 116, 32, 97, 116, 32, 108, 111, 111, 112, 46, 101, 120, 97, 109, 112, 108, 101, 47, 103, 48, 48, 56, 52, 57, 47, 108, 97, 119, 115, 46, 70, 110, 69, 120, 97, 99, 116, 82, 101, 97, 100, 84, 114, 101, 101]
def headSigns : List Char := headNums.map Char.ofNat
theorem head_of : Tryz.prog.initOrder = String.ofList headSigns := by kernel_rfl
theorem head_signs : Tryz.prog.initOrder.toList = headSigns := (congrArg String.toList head_of).trans String.toList_ofList
def headWords : List (List Char) := [[99, 117, 116].map Char.ofNat, [97, 116].map Char.ofNat, [108, 111, 111, 112, 46, 101, 120, 97, 109, 112, 108, 101, 47, 103, 48, 48, 56, 52, 57, 47, 108, 97, 119, 115, 46, 70, 110, 69, 120, 97, 99, 116, 82, 101, 97, 100, 84, 114, 101, 101].map Char.ofNat]
theorem words_of {l : List Char} {ws : List (List Char)} (P : Program) (h : P.initOrder.toList = l) (hw : behindMainWord (wordsSigns l) = ws) : behindMainWord (wordsSigns P.initOrder.toList) = ws := by rw [h]; exact hw
theorem head_words : behindMainWord (wordsSigns Tryz.prog.initOrder.toList) = headWords := words_of _ head_signs (by kernel_rfl)
theorem mayEnter_of (P : Program) (c : List Char) (rest : List (List Char)) (h : behindMainWord (wordsSigns P.initOrder.toList) = c :: rest)
    (hc : (((c == "gc".toList || c == "spec".toList) && (rest.isEmpty || rest.head? == some "stop".toList)) || (c == "carried".toList && rest.take 2 == ["gc".toList, "cut".toList] && !P.laysLater && !P.bearsReflect) ||
      ((stripLifts liftWords (c :: rest)).2.head? == some "cut".toList && ((stripLifts liftWords (c :: rest)).1.contains "finals" || !P.laysLater) && ((stripLifts liftWords (c :: rest)).1.contains "reflectrows" || !P.bearsReflect) &&
      ((stripLifts liftWords (c :: rest)).1.contains "reflectrows" || !(stripLifts liftWords (c :: rest)).1.contains "leanrows") && P.doorFits (stripLifts liftWords (c :: rest)).1)) = true) : P.mayEnter = true := by
  unfold Program.mayEnter
  rw [h]
  exact hc
theorem make_of (P : Program) (c : List Char) (rest : List (List Char)) (m : Option Make) (h : behindMainWord (wordsSigns P.initOrder.toList) = c :: rest)
    (hc : (if c == "gc".toList || c == "spec".toList then some Make.whole else if c == "cut".toList || (c == "finals".toList && rest.head? == some "cut".toList) then some .cut else if c == "carried".toList then some .carried else if P.headLifts.isEmpty then none else some (.lifted P.headLifts)) = m) : P.make = m := by
  unfold Program.make
  rw [h]
  exact hc
theorem headLifts_of (P : Program) (ws : List (List Char)) (x : List String) (h : behindMainWord (wordsSigns P.initOrder.toList) = ws) (hc : (if (stripLifts liftWords ws).2.head? == some "cut".toList then (stripLifts liftWords ws).1 else []) = x) : P.headLifts = x := by
  unfold Program.headLifts
  rw [h]
  exact hc
theorem liftsFinal_of (P : Program) (ws : List (List Char)) (x : List String) (b : Bool) (h : behindMainWord (wordsSigns P.initOrder.toList) = ws) (hl : P.headLifts = x)
    (hc : ((ws.head? == some "carried".toList && ws.take 3 != ["carried".toList, "gc".toList, "cut".toList]) || x.contains "finals") = b) : P.liftsFinal = b := by
  unfold Program.liftsFinal
  rw [h, hl]
  exact hc
theorem make : Tryz.prog.make = some .cut := make_of _ _ _ _ head_words (by kernel_rfl)
theorem and_in {a b : Bool} (ha : a = true) (hb : b = true) : (a && b) = true := by rw [ha, hb]; rfl
theorem beq_r {α : Type} [BEq α] {x y z : α} (h : y = z) (hb : (x == z) = true) : (x == y) = true := by rw [h]; exact hb
theorem beq_l {α : Type} [BEq α] {x y z : α} (h : x = z) (hb : (z == y) = true) : (x == y) = true := by rw [h]; exact hb
theorem mayEnter : Tryz.prog.mayEnter = true := mayEnter_of _ _ _ head_words (by kernel_rfl)
theorem headLifts : Tryz.prog.headLifts = [] := headLifts_of _ _ _ head_words (by kernel_rfl)
theorem liftsFinal : Tryz.prog.liftsFinal = false := liftsFinal_of _ _ _ _ head_words headLifts (by kernel_rfl)
end Go.Proofs.YtohjpgcmhihdhaaGreatDoor.Head
