/- Plain laws of the law's own helpers on lists of items. Conditions: the bounds that each theorem names. -/
import Derived.Test.YtlocignlkigojaaOLoop
import Derived.Test.YtlocignlkigojaaQf22
import Derived.Test.YtlocignlkigojaaQf24
import Derived.Test.YtlocignlkigojaaQf26
namespace Go.Proofs.Ytlocignlkigojaa.Pure
open Go.RowKit Go.Proofs.Ytlocignlkigojaa.Q Go.Proofs.YtlocignlkigojaaW.PrintWords Go.Proofs.YtlocignlkigojaaW.PrintLast Go.Proofs.YtlocignlkigojaaW.PrintMore
set_option linter.unusedVariables false
set_option linter.unusedSimpArgs false

/-- a law's item as the program's -/
def itemOf (x : S23) : S26 := ⟨x.f0, x.f1⟩
theorem rd_itemL (l : List S23) (i : Nat) (h : i < l.length) : rd_T23 l (i : Int) = l[i] := by
  unfold rd_T23
  rw [Int.toNat_natCast, getD_get l i _ h]
theorem rd_item (l : List S26) (i : Nat) (h : i < l.length) : rd_T26 l (i : Int) = l[i] := by
  unfold rd_T26
  rw [Int.toNat_natCast, getD_get l i _ h]
theorem szItemS_is (l : List S23) (hl : l.length ≤ 9223372036854775807) : laws_szItemS.f l 1048576 = some (if l.length ≤ 1048576 then (1048576 - (l.length : Int)) else -1) := by
  have e : wrap64 (1048576 - (l.length : Int)) = 1048576 - (l.length : Int) := by unfold wrap64; omega
  unfold laws_szItemS.f
  rw [e]
  by_cases h : l.length ≤ 1048576
  · rw [if_neg (by omega), if_pos h]
  · rw [if_pos (by omega), if_neg h]
theorem toItemS_ev (l : List S23) (hl : l.length ≤ 1048576) : Ev (fun k => laws_toItemS.f k l) (l.map itemOf) := by
  have h := map_loop (fun k y i => laws_toItemS.l0 k l y i) l itemOf (fun i hi y hy => ev_next (fun k => by
    simp only [laws_toItemS.l0, laws_toItem.f, Option.bind_some]
    rw [if_pos (by omega), if_pos (by omega), if_pos (by omega), up64 i l.length hi (by omega), Int.toNat_natCast, rd_itemL l i hi]
    rfl)) (fun k y => by simp only [laws_toItemS.l0]; rw [if_neg (by omega)]) (List.replicate ((l.length : Int) : Int).toNat z26) (by simp)
  refine Ev.congr (fun k => ?_) h
  unfold laws_toItemS.f
  rw [if_pos (by omega), if_pos (by omega)]
theorem eqItemS_ev (l : List S26) (hl : l.length ≤ 9223372036854775807) : Ev (fun k => laws_eqItemS.f k l l) true := by
  refine Ev.congr (fun k => ?_) (eq_loop l.length (fun k i => laws_eqItemS.l0 k l l i) (fun i hi => ev_next (fun k => by
    simp only [laws_eqItemS.l0, laws_eqItem.f, Option.bind_some, if_true]
    rw [if_pos (by omega), if_pos (by omega), if_pos (by omega), up64 i l.length hi hl])) (fun k => by simp only [laws_eqItemS.l0]; rw [if_neg (by omega)]))
  unfold laws_eqItemS.f
  rw [if_pos rfl]

end Go.Proofs.Ytlocignlkigojaa.Pure
