/- Words for the walks of laws on topologies: a topology of the call's own, as it reads. No conditions beyond each theorem's own. -/
import Derived.Test.YtkadeelplnkpgaaQ0
import Derived.Test.YtkadeelplnkpgaaQf15
import Derived.Test.YtkadeelplnkpgaaQf19
namespace Go.Proofs.Ytkadeelplnkpgaa.Q
open Go.RowKit Go.Proofs.YtkadeelplnkpgaaW.PrintWords Go.Proofs.YtkadeelplnkpgaaW.PrintLast Go.Proofs.YtkadeelplnkpgaaW.PrintMore
set_option linter.unusedVariables false
/-- a topology that reads so -/
structure TreeC (w : World) (A0 : Option Addr) (c0 : Nat) (D : List (S50)) (A1 : Option Addr) (c1 : Nat) (B : List (S108)) : Prop where
  d : Kd.C k50 w A0 D.length D
  hd : D.length ≤ c0
  b : Kd.C k108 w A1 B.length B
  hb : B.length ≤ c1
theorem TreeC.below {w w' : World} {A0 A1 : Option Addr} {c0 c1 : Nat} {D : List (S50)} {B : List (S108)} (h : TreeC w A0 c0 D A1 c1 B) (hb : Below w.heap.size w w') : TreeC w' A0 c0 D A1 c1 B :=
  ⟨Kd.C_below h.d hb, h.hd, Kd.C_below h.b hb, h.hb⟩
theorem toTreeC.calls (k : Nat) (A0_0 : Option Addr) (c0_0 : Nat) (l0_0 : List (S110)) (A0_1 : Option Addr) (c0_1 : Nat) (l0_1 : List (S106)) (r1 : List (S50)) (r2 : List (S108)) (w : World) (hr0_0 : Kd.C k110 w A0_0 l0_0.length l0_0) (hc0_0 : l0_0.length ≤ c0_0) (hr0_1 : Kd.C k106 w A0_1 l0_1.length l0_1) (hc0_1 : l0_1.length ≤ c0_1) (h : laws_toTree.f k l0_0 l0_1 = some (r1, r2)) :
    Calls Try.prog 15 #[.agg #[.slice A0_0 l0_0.length c0_0, .slice A0_1 l0_1.length c0_1]] w fun e w' => ∃ (A0 : Option Addr) (c0 : Nat) (A1 : Option Addr) (c1 : Nat), e = .returned (.agg #[.slice A0 r1.length c0, .slice A1 r2.length c1]) ∧ TreeC w' A0 c0 r1 A1 c1 r2 ∧ Below w.heap.size w w' :=
  (laws_toTree.calls k A0_0 c0_0 l0_0 A0_1 c0_1 l0_1 r1 r2 w hr0_0 hc0_0 hr0_1 hc0_1 h).mono fun e w' ⟨v0, v1, he, h0, h1, hb⟩ => by
    obtain ⟨A0, c0, e0, hl0, hC0⟩ := Kd.R_reads h0
    obtain ⟨A1, c1, e1⟩ := Kd.S_slice h1
    subst e0 e1
    obtain ⟨-, hl1, hC1⟩ := Kd.S_reads' h1
    exact ⟨A0, c0, A1, c1, he, ⟨hC0, hl0, hC1, hl1⟩, hb⟩
/-- whole numbers that read so -/
structure IntsC (w : World) (A : Option Addr) (c : Nat) (l : List Int) : Prop where
  r : Kd.C (Kd.int .i64) w A l.length l
  h : l.length ≤ c
theorem IntsC.below {w w' : World} {A : Option Addr} {c : Nat} {l : List Int} (h : IntsC w A c l) (hb : Below w.heap.size w w') : IntsC w' A c l := ⟨Kd.C_below h.r hb, h.h⟩
theorem toIntsC.calls (k : Nat) (A0 : Option Addr) (c0 : Nat) (l0 : List Int) (r1 : List Int) (w : World) (hr0 : Kd.C (Kd.int .i64) w A0 l0.length l0) (hc0 : l0.length ≤ c0) (h : laws_toInt64S.f k l0 = some r1) :
    Calls Try.prog 19 #[.slice A0 l0.length c0] w fun e w' => ∃ (A : Option Addr) (c : Nat), e = .returned (.slice A r1.length c) ∧ IntsC w' A c r1 ∧ Below w.heap.size w w' :=
  (laws_toInt64S.calls k A0 c0 l0 r1 w hr0 hc0 h).mono fun e w' ⟨v0, he, h0, hb⟩ => by
    obtain ⟨A, c, e0, hl0, hC0⟩ := Kd.R_reads h0
    subst e0
    exact ⟨A, c, he, ⟨hC0, hl0⟩, hb⟩
end Go.Proofs.Ytkadeelplnkpgaa.Q
