/- Words for the walks of regions that draw their order: one step of such a walk in few signs. No conditions beyond each theorem's own. -/
import Derived.Test.YtohjpgcmhihdhaaGreatDoorWBMore
import Derived.Test.YtohjpgcmhihdhaaGreatDoorWBMore
namespace Go.Proofs.YtohjpgcmhihdhaaGreatDoorW.PrintMore
open Go.RowKit Go.Proofs.YtohjpgcmhihdhaaGreatDoorW.PrintWords Go.Proofs.YtohjpgcmhihdhaaGreatDoorW.PrintLast
theorem pq_o : (∀ (l : List Value) (i : Nat) (v : Value), l.toArray.setIfInBounds i v = (l.set i v).toArray) ∧ (∀ (x v : Value) (xs : List Value), (x :: xs).set 0 v = v :: xs) ∧ (∀ (x v : Value) (xs : List Value) (n : Nat), (x :: xs).set (n + 1) v = x :: xs.set n v) ∧ (∀ n : Int, IntKind.i64.wrap n = Go.RowKit.wrap64 n) ∧ (∀ n : Int, IntKind.i32.wrap n = Go.RowKit.wrap32 n) :=
  ⟨fun l i v => List.setIfInBounds_toArray l i v, fun _ _ _ => rfl, fun _ _ _ _ => rfl, i64_w, i32_w⟩
/-- so many true, so many false -/
def az (n m : Nat) : Array Bool := (List.replicate n true ++ List.replicate m false).toArray
section
variable {P : Program} {ops : Array Oper} {Q : Exit → Act → World → Prop} {md : Region.Mode} {S : World → Prop} {ds : List Nat} {oi : Oper} {fuel : Nat} {l : Array Bool} {a : Act} {w : World} {N : Option Tmp} {v : Value} {a' : Act}
/-- an operation that yields in every world -/
theorem pu (i : Nat) (N : Option Tmp) (l' : Array Bool) (hc : anyB md ops l l' i = true) (h : wpAnyLast P md ops Q S ds fuel l' a' w) (hi : ops[i]? = some oi := by rfl) (hN : oi.dst = N := by rfl) (hQ : ∀ c a w, Q (.panic c) (a.put oi.dst v) w → Q (.panic c) a w := by exact fun _ _ _ h => h) (hw : Region.wanted oi (yielded ops a.tmps) = true := by rfl) (hy : ∀ w, (execOp a.eval oi).run P w = .ok (.value v) w := by intro w'; go_simp; with_reducible rfl) (ha : a.put N v = a' := by simp only [Act.put, pq_o]; rfl) : wpAnyLast P md ops Q S ds (fuel + 1) l a w := pure_ l' hi hN hc hQ (Or.inl ⟨hw, hy⟩) ha h
/-- an operation that is not carried out -/
theorem po (i : Nat) (N : Option Tmp) (l' : Array Bool) (hc : anyB md ops l l' i = true) (h : wpAnyLast P md ops Q S ds fuel l' a' w) (hi : ops[i]? = some oi := by rfl) (hN : oi.dst = N := by rfl) (hQ : ∀ c a w, Q (.panic c) (a.put oi.dst undef) w → Q (.panic c) a w := by exact fun _ _ _ h => h) (hw : Region.wanted oi (yielded ops a.tmps) = false := by rfl) (ha : a.put N undef = a' := by simp only [Act.put, pq_o]; rfl) : wpAnyLast P md ops Q S ds (fuel + 1) l a w := pure_ l' hi hN hc hQ (Or.inr ⟨hw, rfl⟩) ha h
/-- a load, its cell told by what is held -/
theorem tk (i : Nat) (N : Option Tmp) (l' : Array Bool) (hS : S w) (hc : takeB md ops ds l l' i = true) (h : wpAnyLast P md ops Q S ds fuel l' a' w) (hi : ops[i]? = some oi := by rfl) (hN : oi.dst = N := by rfl) (hQ : ∀ c a w, Q (.panic c) (a.put oi.dst v) w → Q (.panic c) a w := by exact fun _ _ _ h => h) (hw : Region.wanted oi (yielded ops a.tmps) = true := by rfl) (hy : ∀ w, S w → (execOp a.eval oi).run P w = .ok (.value v) w := by (intro w' hs; (repeat' (first | cases hs with | intro x hs => skip)); go_simp; with_reducible rfl)) (ha : a.put N v = a' := by simp only [Act.put, pq_o]; rfl) : wpAnyLast P md ops Q S ds (fuel + 1) l a w := take_ l' hi hN hc hQ (Or.inl ⟨hw, hy⟩) hS ha h
/-- the frame written out behind a call -/
theorem nr (h : wpAnyLast P md ops Q S ds fuel l a' w) (ha : a = a' := by first | (simp only [Act.put, pq_o]; rfl) | rfl) : wpAnyLast P md ops Q S ds fuel l a w := norm_ ha h
/-- a call of a Go function in a region that keeps its order -/
theorem gl {rest : List Oper} {f : FuncId} {fn : Func} {aS : Array Operand} {ts : Array TypeId} (N : Option Tmp) (hf : P.funcs[f]? = some fn) (args : Array Value) (h : Calls P f args w fun e w' => ∃ v, e = .returned v ∧ wpList P ops Q rest (a.put N v) w') (hd : oi.dst = N := by rfl) (hg : oi.guard = none := by rfl) (hname : (fn.name == "runtime.NumGoroutine") = false := by kernel_rfl) (hb : fn.body.isSome = true := by rfl) (hop : oi.op = .call { callee := .value (.func f), args := aS, argTypes := ts } := by rfl) (hargs : aS.map a.eval = args := by (try simp only [List.map_toArray, List.map_cons, List.map_nil]); first | done | rfl) : wpList P ops Q (oi :: rest) a w := goesL_ N hd hg hf hname hb args hop hargs h
end
end Go.Proofs.YtohjpgcmhihdhaaGreatDoorW.PrintMore
