/- Plain laws of strings as bytes: what stands where. No conditions beyond each theorem's own. -/
import Derived.Test.YtlocignlkigojaaWMore
import Derived.Laws.BytesArg
namespace Go.Proofs.Ytlocignlkigojaa.Pure
open Go.RowKit Go.Proofs.YtlocignlkigojaaW.PrintWords Go.Proofs.YtlocignlkigojaaW.PrintLast Go.Proofs.YtlocignlkigojaaW.PrintMore
set_option linter.unusedVariables false
set_option linter.unusedSimpArgs false

/-- the bytes of a string as numbers -/
def bl (s : ByteArray) : List Int := s.data.toList.map fun c => (c.toNat : Int)
theorem bl_length (s : ByteArray) : (bl s).length = s.size := by
  unfold bl
  rw [List.length_map, Array.length_toList]
  rfl
theorem bl_get (s : ByteArray) (i : Nat) (h : i < s.size) : (bl s)[i]'(by rw [bl_length]; exact h) = bt s i := by
  unfold bl bt
  rw [List.getElem_map]
  simp only [Int.toNat_natCast, h, dite_true]
  rfl
theorem bl_append (a b : ByteArray) : bl (a ++ b) = bl a ++ bl b := by
  unfold bl
  rw [ByteArray.data_append, Array.toList_append, List.map_append]
theorem bl_nums (l : List Int) (h : ∀ x ∈ l, 0 ≤ x ∧ x ≤ 255) : bl (strOfNums l) = l := by
  unfold bl strOfNums
  simp only [List.map_map]
  conv => rhs; rw [← List.map_id l]
  refine List.map_congr_left fun x hx => ?_
  have := h x hx
  simp only [Function.comp, id]
  rw [UInt8.toNat_ofNat']
  omega
theorem bl_inj (a b : ByteArray) (h : bl a = bl b) : a = b := by
  have h1 : a.data.toList = b.data.toList := by
    unfold bl at h
    refine List.map_inj_right (fun x y e => ?_) |>.1 h
    exact UInt8.toNat_inj.1 (by omega)
  cases a
  cases b
  simp only at h1
  rw [Array.toList_inj.1 h1]
theorem nums_size (l : List Int) : (strOfNums l).size = l.length := by simp [strOfNums, ByteArray.size]
theorem bt_get (s : ByteArray) (l : List Int) (hb : bl s = l) (i : Nat) (h : i < l.length) : bt s i = l[i] := by
  subst hb
  rw [bl_get s i (by rw [← bl_length]; exact h)]
theorem bl_extract (s : ByteArray) (a b : Nat) : bl (s.extract a b) = ((bl s).drop a).take (b - a) := by
  unfold bl
  rw [ByteArray.data_extract, Array.toList_extract, List.extract_eq_take_drop, List.map_take, List.map_drop]
end Go.Proofs.Ytlocignlkigojaa.Pure
