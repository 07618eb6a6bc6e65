/- Words for the walks that are written by hand: a map of the call's own that is a set of whole numbers. No conditions beyond each theorem's own. -/
import Derived.Test.YtohjpgcmhihdhaaGreatDoorOwnWords
import Derived.Maps.Own
import Derived.Maps.OwnOps
import Derived.Maps.OwnSet
import Derived.Maps.Views
import Derived.Carry
namespace Go.Proofs.YtohjpgcmhihdhaaGreatDoorW.PrintMore
open Go.RowKit Go.Proofs.YtohjpgcmhihdhaaGreatDoorW.PrintWords Go.Proofs.YtohjpgcmhihdhaaGreatDoorW.PrintLast
/-! a map[int64]bool of the call's own, in which just the numbers of a list are true -/
section
open Go.Maps (Keyed setOf has_setOf size_setOf setOf_snoc)
def keysOf (S : List Int) : List Lit := S.map fun x => Lit.int .i64 x
def setD (S : List Int) : DataW Unit := setOf (.lit (.bool true)) (keysOf S)
def OwnSet (w : World) (b n : Nat) (S : List Int) : Prop :=
  w.ownsMap Tryz.prog 2 (plainElem (H := Unit) Tryz.prog 4) b n (setD S)
theorem keysOf_key (S : List Int) : ∀ x ∈ keysOf S, WideAt.IsKeyLit x := by
  intro x hx
  obtain ⟨y, _, rfl⟩ := List.mem_map.1 hx
  exact trivial
/-- the numbers of a list, each once -/
def addOnce (acc : List Int) (x : Int) : List Int := if acc.any (fun y => y == x) then acc else acc ++ [x]
def onceOf (S : List Int) : List Int := S.foldl addOnce []
theorem any_keys (S : List Int) (x : Int) : (keysOf S).any (fun y => y.sameKey (.int .i64 x)) = S.any (fun y => y == x) := by
  unfold keysOf
  rw [List.any_map]
  congr 1
  funext y
  rw [Bool.eq_iff_iff]
  simp [Lit.sameKey]
theorem addKey_once (acc : List Int) (x : Int) : Maps.addKey (keysOf acc) (.int .i64 x) = keysOf (addOnce acc x) := by
  unfold Maps.addKey addOnce
  rw [any_keys]
  split
  · rfl
  · simp [keysOf]
theorem fold_once : ∀ (S acc : List Int), (keysOf S).foldl Maps.addKey (keysOf acc) = keysOf (S.foldl addOnce acc)
  | [], acc => rfl
  | x :: S, acc => by
    show (keysOf S).foldl Maps.addKey (Maps.addKey (keysOf acc) (.int .i64 x)) = _
    rw [addKey_once, fold_once S]
    rfl
theorem setD_size (S : List Int) : Maps.size (setD S) = (onceOf S).length := by
  unfold setD
  rw [size_setOf _ _ (keysOf_key S)]
  have h := fold_once S []
  have e : keysOf [] = [] := rfl
  rw [e] at h
  rw [h]
  simp [keysOf, onceOf]
theorem setD_put (S : List Int) (x : Int) : (setD S).put (.int .i64 x) (.lit (.bool true)) = setD (S ++ [x]) := by
  unfold setD keysOf
  rw [List.map_append, List.map_singleton, setOf_snoc]
theorem setD_isMap (S : List Int) : Maps.IsMap (setD S) := (Maps.tidy_setOf _ _ (keysOf_key S)).isMap
theorem setD_at_snoc (S : List Int) (x y : Int) : (setD (S ++ [y])).atKey (.int .i64 x) (.lit (.bool false)) = if y = x then .lit (.bool true) else (setD S).atKey (.int .i64 x) (.lit (.bool false)) := by
  rw [← setD_put]
  by_cases h : y = x
  · subst h
    rw [if_pos rfl, Maps.atKey_put_same (k := Lit.int .i64 y) (setD_isMap S) trivial]
  · rw [if_neg h, Maps.atKey_put_other (by simp; omega)]
theorem setD_at_rev (x : Int) : ∀ S : List Int, (setD S.reverse).atKey (.int .i64 x) (.lit (.bool false)) = .lit (.bool (S.any (fun y => y == x)))
  | [] => rfl
  | y :: S => by
    rw [List.reverse_cons, setD_at_snoc, setD_at_rev x S, List.any_cons]
    by_cases h : y = x
    · subst h; simp
    · rw [if_neg h]
      simp [h]
theorem setD_at (S : List Int) (x : Int) : (setD S).atKey (.int .i64 x) (.lit (.bool false)) = .lit (.bool (S.any (fun y => y == x))) := by
  have := setD_at_rev x S.reverse
  rw [List.reverse_reverse] at this
  rw [this, List.any_reverse]

theorem zeroBool (w : World) : (zeroValue 4).run Tryz.prog w = .ok (.bool false) w := by kernel_rfl
theorem plain_bool {P : Program} {e : TypeId} {v : Value} {c : Bool} {ps : List MemPlace} (he : P.underlying e = some .bool) (hv : plainElem P e v = some ((.lit (.bool c) : DataW Unit), ps)) : v = .bool c := by
  unfold plainElem at hv
  rw [he] at hv
  cases v <;> simp at hv
  obtain ⟨rfl, _⟩ := hv
  rfl
theorem OwnSet.made (w : World) : OwnSet (w.alloc (.map #[] 0)) w.heap.size 0 [] := World.ownsMap_made w Tryz.prog 2 _
theorem OwnSet.look {w : World} {b n : Nat} {S : List Int} (h : OwnSet w b n S) (x : Int) (hx : wfI x = true) :
    (Instr.lookup 59 (.map (some b)) (.int .i64 x) false).run Tryz.prog w = .ok (.bool (S.any (fun y => y == x))) w := by
  obtain ⟨v, ps, hrun, hv⟩ := World.ownsMap.lookup h (Go.Maps.int_keyed Tryz.underlying2) Tryz.underlying59 (zeroBool w) (plainElem_bool Tryz.underlying4 false) (Go.Maps.keyOf_int_mk Tryz.underlying2 (wfI_wf hx))
  have hv' : plainElem Tryz.prog 4 v = some ((.lit (.bool (S.any (fun y => y == x))) : DataW Unit), ps) := hv.trans (congrArg (fun d => some (d, ps)) (setD_at S x))
  rw [hrun, plain_bool Tryz.underlying4 hv']
theorem OwnSet.len {w : World} {b n : Nat} {S : List Int} (h : OwnSet w b n S) (ty : TypeId) : (Builtin.len_ #[59] ty #[.map (some b)]).run Tryz.prog w = .ok (.int .i64 (onceOf S).length) w := by
  rw [World.ownsMap.len h Tryz.underlying59 ty, setD_size]
theorem OwnSet.below {w w' : World} {b n : Nat} {S : List Int} (h : OwnSet w b n S) (hb : Below w.heap.size w w') : OwnSet w' b n S :=
  World.ownsMap.kept h (row := none) (grown_of_below hb none) (by simp)
theorem OwnSet.far {w : World} {b n : Nat} {S : List Int} (h : OwnSet w b n S) {a : Addr} (ha : b ≠ a.block) (u : Value) : OwnSet (w.setCell a u) b n S := World.ownsMap.setCell h ha u
theorem OwnSet.drew1 {w : World} {b n : Nat} {S : List Int} (h : OwnSet w b n S) : OwnSet w.drew b n S := h
theorem OwnSet.lt {w : World} {b n : Nat} {S : List Int} (h : OwnSet w b n S) : b < w.heap.size := World.ownsMap.lt h
theorem OwnSet.put {P : Program} (hP : P = Tryz.prog) {w : World} {ops : Array Oper} {rest : List Oper} {o : Oper} {a : Act} {Q : Exit → Act → World → Prop}
    (hg : o.guard = none) (m x v : Operand) (hop : o.op = Op.mapUpdate 59 m x v) (b n : Nat) (S : List Int)
    (hm : a.eval m = .map (some b)) (h : OwnSet w b n S) (hn : n < 9223372036854775807) (key : Int) (hx : a.eval x = .int .i64 key) (hv : a.eval v = .bool true) (hw : wfI key = true)
    (hK : ∀ w', OwnSet w' b (n + 1) (S ++ [key]) → w.grownBy w' (some b) → wpList P ops Q rest (a.put o.dst undef) w') :
    wpList P ops Q (o :: rest) a w := by
  subst hP
  refine wpList_mapUpdate_own w hg m x v _ hop _ _ (Go.Maps.int_keyed Tryz.underlying2) Tryz.underlying59 _ b n _ hm h (by unfold maxLen; omega) _ _ _ hx hv (Go.Maps.keyOf_int_mk Tryz.underlying2 (wfI_wf hw)) _ _ (plainElem_bool Tryz.underlying4 true) ?_
  intro w' h1 h2
  rw [setD_put] at h1
  exact hK w' h1 h2
end
end Go.Proofs.YtohjpgcmhihdhaaGreatDoorW.PrintMore
