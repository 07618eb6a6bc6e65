/- Words for the walks that are written by hand: searching a list, bounds. No conditions beyond each theorem's own. -/
import Derived.Test.YtohjpgcmhihdhaaGreatDoorProg
import Derived.Test.YtohjpgcmhihdhaaGreatDoorWBMore
import Derived.Test.YtohjpgcmhihdhaaGreatDoorWWords
import Derived.Carry
import Derived.Deep.QuietTactic
namespace Go.Proofs.YtohjpgcmhihdhaaGreatDoorW.PrintMore
open Go.RowKit Go.Proofs.YtohjpgcmhihdhaaGreatDoorW.PrintWords Go.Proofs.YtohjpgcmhihdhaaGreatDoorW.PrintLast
/-- the index of the first element that p takes, from i on; -1 where there is none -/
def idxFrom {α : Type} (p : α → Bool) : List α → Int → Int
  | [], _ => -1
  | x :: xs, i => if p x then i else idxFrom p xs (i + 1)
theorem idxFrom_drop_hit {α : Type} (p : α → Bool) (l : List α) (i : Nat) (x : α) (h : l[i]? = some x) (hp : p x = true) : idxFrom p (l.drop i) i = i := by
  obtain ⟨hl, rfl⟩ := List.getElem?_eq_some_iff.1 h
  rw [List.drop_eq_getElem_cons hl]
  simp [idxFrom, hp]
theorem idxFrom_drop_miss {α : Type} (p : α → Bool) (l : List α) (i : Nat) (x : α) (h : l[i]? = some x) (hp : p x = false) : idxFrom p (l.drop i) i = idxFrom p (l.drop (i + 1)) ((i + 1 : Nat) : Int) := by
  obtain ⟨hl, rfl⟩ := List.getElem?_eq_some_iff.1 h
  rw [List.drop_eq_getElem_cons hl]
  simp [idxFrom, hp]
theorem idxFrom_end {α : Type} (p : α → Bool) (l : List α) (i : Nat) (h : l.length ≤ i) : idxFrom p (l.drop i) i = -1 := by
  rw [List.drop_of_length_le h]; rfl

theorem idx_here {α : Type} (p : α → Bool) (l : List α) (i : Int) (h0 : 0 ≤ i) (h1 : i < (l.length : Int)) (z : α) :
    (p (l.getD i.toNat z) = true → idxFrom p (l.drop i.toNat) i = i) ∧ (p (l.getD i.toNat z) = false → idxFrom p (l.drop i.toNat) i = idxFrom p (l.drop (i + 1).toNat) (i + 1)) := by
  obtain ⟨n, rfl⟩ := Int.eq_ofNat_of_zero_le h0
  have hl : n < l.length := by omega
  have e : l[n]? = some (l.getD n z) := by rw [List.getD_eq_getElem?_getD, List.getElem?_eq_getElem hl]; rfl
  refine ⟨fun hp => ?_, fun hp => ?_⟩
  · exact idxFrom_drop_hit p l n _ e (by simpa using hp)
  · have := idxFrom_drop_miss p l n _ e (by simpa using hp)
    simpa using this

theorem idx_end {α : Type} (p : α → Bool) (l : List α) (i : Int) (h : i = (l.length : Int)) : idxFrom p (l.drop i.toNat) i = -1 := by
  subst h
  exact idxFrom_end p l _ (by simp)

theorem alloc_new (w : World) (o : Obj) (n : Nat) (hn : n = w.heap.size) : (w.alloc o).heap[n]? = some o := by
  subst hn
  exact blk_new w o

/-- What is asked of a predicate handed to IndexFunc: at a later world, and at the cells of an element, it returns 'p x'. -/
def PredK {α : Type} (d : Kd α) (g : Nat) (lb : Array Value) (p : α → Bool) (w : World) : Prop :=
  ∀ (W : World) (x : α) (cs : List Value), Below w.heap.size w W → d.K W x cs → Calls Tryz.prog g (#[Value.agg cs.toArray] ++ lb) W fun e w' => e = .returned (.bool (p x)) ∧ Below w.heap.size w w'

theorem idxFrom_range {α : Type} (p : α → Bool) : ∀ (l : List α) (i : Int), idxFrom p l i = -1 ∨ (i ≤ idxFrom p l i ∧ idxFrom p l i < i + l.length)
  | [], i => .inl rfl
  | x :: xs, i => by
    unfold idxFrom
    by_cases h : p x = true
    · rw [if_pos h]; right; simp; omega
    · rw [if_neg h]
      rcases idxFrom_range p xs (i + 1) with h1 | ⟨h1, h2⟩
      · exact .inl h1
      · right; simp; omega

/-- The same, whatever form the element has as an argument. -/
def PredV {α : Type} (d : Kd α) (arg : List Value → Value) (g : Nat) (lb : Array Value) (p : α → Bool) (w : World) : Prop :=
  ∀ (W : World) (x : α) (cs : List Value), Below w.heap.size w W → d.K W x cs → Calls Tryz.prog g (#[arg cs] ++ lb) W fun e w' => e = .returned (.bool (p x)) ∧ Below w.heap.size w w'
theorem idx_any {α : Type} (p : α → Bool) : ∀ (l : List α) (i : Int), 0 ≤ i → decide (0 ≤ idxFrom p l i) = l.any p
  | [], i, _ => rfl
  | x :: xs, i, h => by
    unfold idxFrom
    by_cases hx : p x = true
    · rw [if_pos hx, List.any_cons, hx]
      simp [h]
    · rw [if_neg hx, List.any_cons, idx_any p xs (i + 1) (by omega)]
      simp [hx]
def wfI (x : Int) : Bool := decide (-9223372036854775808 ≤ x ∧ x ≤ 9223372036854775807)
theorem i64_min : IntKind.i64.min = -9223372036854775808 := by decide
theorem i64_max : IntKind.i64.max = 9223372036854775807 := by decide
theorem wfI_wf {x : Int} (h : wfI x = true) : (Lit.int .i64 x).wf = true := by
  have h' := of_decide_eq_true h
  show (decide (IntKind.i64.min ≤ x) && decide (x ≤ IntKind.i64.max)) = true
  rw [i64_min, i64_max, decide_eq_true h'.1, decide_eq_true h'.2]
  rfl
theorem wf_wfI {x : Int} (h : (Lit.int .i64 x).wf = true) : wfI x = true := by
  have h' : (decide (IntKind.i64.min ≤ x) && decide (x ≤ IntKind.i64.max)) = true := h
  rw [i64_min, i64_max, Bool.and_eq_true] at h'
  exact decide_eq_true ⟨of_decide_eq_true h'.1, of_decide_eq_true h'.2⟩
/-- a contract that only draws, at a call of a quiet region -/
theorem quietD {P : Program} {f : FuncId} {args : Array Value} {w : World} {n : Nat} {v : Value} (h : Calls P f args (w.drewN n) fun e w' => e = .returned v ∧ Drawn0 (w.drewN n) w') : Calls P f args (w.drewN n) fun e w'' => e = .returned v ∧ ∃ m, w'' = w.drewN m :=
  Calls.quiet_of (h.mono fun _ _ ⟨he, hd⟩ => ⟨he, hd.out⟩)
end Go.Proofs.YtohjpgcmhihdhaaGreatDoorW.PrintMore
