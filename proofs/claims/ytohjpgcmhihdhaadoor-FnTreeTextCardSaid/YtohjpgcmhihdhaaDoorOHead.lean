/- The closed facts of a row that read the head of the dump: each is proved over that head as a list of signs. No conditions. -/
import Derived.Test.YtohjpgcmhihdhaaDoorProg
import Derived.ProofKit
import Derived.KernelRfl
import GoSem.ClaimJoined
import Derived.JoinedOf
namespace Go.Proofs.YtohjpgcmhihdhaaDoor.Head
def headNums : List Nat := [104, 97, 114, 110, 101, 115, 115, 32, 98, 52, 56, 99, 48, 54, 48, 52, 53, 101, 53, 101, 53, 97, 102, 97, 48, 98, 57, 57, 99, 48, 101, 54, 97, 57, 55, 55, 49, 101, 101, 54, 56, 51, 100, 97, 52, 51, 101, 54, 56, 48, 97, 48, 98, 49, 54, 53, 101, 97, 54, 99, 98, 100, 53, 54, 56, 101, 55, 102, 52, 56, 54, 55, 32, 99, 117, 116, 32, 97, 116, 32, 108, 111, 111, 112, 46, 101, 120, 97, 109, 112, 108, 101, 47, 103, 48, 48, 56, 52, 57, 47, 108, 97, 119, 115, 46, 70, 110, 69, 120, 97, 99, 116, 84, 114, 101, 101, 84, 101, 120, 116, 32, 108, 111, 111, 112, 46, 101, 120, 97, 109, 112, 108, 101, 47, 103, 48, 48, 56, 52, 57, 47, 108, 97, 119, 115, 46, 70, 110, 84, 114, 101, 101, 84, 101, 120, 116]
def headSigns : List Char := headNums.map Char.ofNat
theorem head_of : Tryd.prog.initOrder = String.ofList headSigns := by kernel_rfl
theorem head_signs : Tryd.prog.initOrder.toList = headSigns := (congrArg String.toList head_of).trans String.toList_ofList
def headWords : List (List Char) := [[99, 117, 116].map Char.ofNat, [97, 116].map Char.ofNat, [108, 111, 111, 112, 46, 101, 120, 97, 109, 112, 108, 101, 47, 103, 48, 48, 56, 52, 57, 47, 108, 97, 119, 115, 46, 70, 110, 69, 120, 97, 99, 116, 84, 114, 101, 101, 84, 101, 120, 116].map Char.ofNat, [108, 111, 111, 112, 46, 101, 120, 97, 109, 112, 108, 101, 47, 103, 48, 48, 56, 52, 57, 47, 108, 97, 119, 115, 46, 70, 110, 84, 114, 101, 101, 84, 101, 120, 116].map Char.ofNat]
theorem words_of {l : List Char} {ws : List (List Char)} (P : Program) (h : P.initOrder.toList = l) (hw : behindMainWord (wordsSigns l) = ws) : behindMainWord (wordsSigns P.initOrder.toList) = ws := by rw [h]; exact hw
theorem head_words : behindMainWord (wordsSigns Tryd.prog.initOrder.toList) = headWords := words_of _ head_signs (by kernel_rfl)
theorem mayEnter_of (P : Program) (c : List Char) (rest : List (List Char)) (h : behindMainWord (wordsSigns P.initOrder.toList) = c :: rest)
    (hc : (((c == "gc".toList || c == "spec".toList) && (rest.isEmpty || rest.head? == some "stop".toList)) || (c == "carried".toList && rest.take 2 == ["gc".toList, "cut".toList] && !P.laysLater && !P.bearsReflect) ||
      ((stripLifts liftWords (c :: rest)).2.head? == some "cut".toList && ((stripLifts liftWords (c :: rest)).1.contains "finals" || !P.laysLater) && ((stripLifts liftWords (c :: rest)).1.contains "reflectrows" || !P.bearsReflect) &&
      ((stripLifts liftWords (c :: rest)).1.contains "reflectrows" || !(stripLifts liftWords (c :: rest)).1.contains "leanrows") && P.doorFits (stripLifts liftWords (c :: rest)).1)) = true) : P.mayEnter = true := by
  unfold Program.mayEnter
  rw [h]
  exact hc
theorem make_of (P : Program) (c : List Char) (rest : List (List Char)) (m : Option Make) (h : behindMainWord (wordsSigns P.initOrder.toList) = c :: rest)
    (hc : (if c == "gc".toList || c == "spec".toList then some Make.whole else if c == "cut".toList || (c == "finals".toList && rest.head? == some "cut".toList) then some .cut else if c == "carried".toList then some .carried else if P.headLifts.isEmpty then none else some (.lifted P.headLifts)) = m) : P.make = m := by
  unfold Program.make
  rw [h]
  exact hc
theorem headLifts_of (P : Program) (ws : List (List Char)) (x : List String) (h : behindMainWord (wordsSigns P.initOrder.toList) = ws) (hc : (if (stripLifts liftWords ws).2.head? == some "cut".toList then (stripLifts liftWords ws).1 else []) = x) : P.headLifts = x := by
  unfold Program.headLifts
  rw [h]
  exact hc
theorem liftsFinal_of (P : Program) (ws : List (List Char)) (x : List String) (b : Bool) (h : behindMainWord (wordsSigns P.initOrder.toList) = ws) (hl : P.headLifts = x)
    (hc : ((ws.head? == some "carried".toList && ws.take 3 != ["carried".toList, "gc".toList, "cut".toList]) || x.contains "finals") = b) : P.liftsFinal = b := by
  unfold Program.liftsFinal
  rw [h, hl]
  exact hc
theorem make : Tryd.prog.make = some .cut := make_of _ _ _ _ head_words (by kernel_rfl)
theorem and_in {a b : Bool} (ha : a = true) (hb : b = true) : (a && b) = true := by rw [ha, hb]; rfl
theorem beq_r {α : Type} [BEq α] {x y z : α} (h : y = z) (hb : (x == z) = true) : (x == y) = true := by rw [h]; exact hb
theorem beq_l {α : Type} [BEq α] {x y z : α} (h : x = z) (hb : (z == y) = true) : (x == y) = true := by rw [h]; exact hb
theorem mayEnter : Tryd.prog.mayEnter = true := mayEnter_of _ _ _ head_words (by kernel_rfl)
theorem headLifts : Tryd.prog.headLifts = [] := headLifts_of _ _ _ head_words (by kernel_rfl)
theorem liftsFinal : Tryd.prog.liftsFinal = false := liftsFinal_of _ _ _ _ head_words headLifts (by kernel_rfl)
end Go.Proofs.YtohjpgcmhihdhaaDoor.Head
