/- Plain laws of the law's own marks on lists of whole numbers. Conditions: the bounds that each theorem names. -/
import Derived.Test.YtgpakhlnjgehhaaOLInt
import Derived.Test.YtgpakhlnjgehhaaQf12
import Derived.Test.YtgpakhlnjgehhaaQf23
namespace Go.Proofs.Ytgpakhlnjgehhaa.Pure
open Go.RowKit Go.Proofs.Ytgpakhlnjgehhaa.Q Go.Proofs.YtgpakhlnjgehhaaW.PrintWords Go.Proofs.YtgpakhlnjgehhaaW.PrintLast Go.Proofs.YtgpakhlnjgehhaaW.PrintMore
set_option linter.unusedVariables false
set_option linter.unusedSimpArgs false

theorem wrap_one (m : Nat) (h : m ≤ 4611686018427387904) : wrap64 ((m : Int) + 1) = ((m + 1 : Nat) : Int) := by unfold wrap64; omega
theorem markInt64S_ev (l : List Int) (c : Nat) (hl : l.length ≤ 1048576) (hc : c ≤ 1000000000) : Ev (fun k => laws_markInt64S.f k l c) (((c + l.length : Nat) : Int), cnt c l.length) :=
  mark_loop l.length c (by omega) (fun k s i => laws_markInt64S.l0 k s.1 s.2 i) (fun k i x m hi hx hm => by
    simp only [laws_markInt64S.l0]
    rw [if_pos (by omega), if_pos (by omega), Int.toNat_natCast, up64 i l.length hi (by omega), wrap_one m hm]) (fun k x m hx => by
    simp only [laws_markInt64S.l0]
    rw [if_neg (by omega)]) l rfl
theorem heldInt64S_ev (c n : Nat) (hn : n ≤ 1048576) (hc : c ≤ 1000000000) : Ev (fun k => laws_heldInt64S.f k (cnt c n) c) ((c + n : Nat) : Int) :=
  held_loop n c (by omega) (fun k s i => laws_heldInt64S.l0 k (cnt c n) s i) (fun k i hi => by
    have hl : i < (cnt c n).length := by rw [cnt_length]; exact hi
    simp only [laws_heldInt64S.l0]
    rw [if_pos (by rw [cnt_length]; omega), if_pos (by omega), rd_get _ i hl, cnt_get, if_pos rfl, up64 i n hi (by omega), wrap_one _ (by omega)]) (fun k m => by
    simp only [laws_heldInt64S.l0]
    rw [if_neg (by rw [cnt_length]; omega)])

end Go.Proofs.Ytgpakhlnjgehhaa.Pure
