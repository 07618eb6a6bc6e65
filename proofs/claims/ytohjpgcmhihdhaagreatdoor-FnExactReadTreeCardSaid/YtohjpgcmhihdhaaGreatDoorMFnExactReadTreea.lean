/- Walks and plain laws of one claim, several texts in one. -/
import Derived.Test.YtohjpgcmhihdhaaGreatDoorONumT
import Derived.Test.YtohjpgcmhihdhaaGreatDoorQ0
import Derived.Test.YtohjpgcmhihdhaaGreatDoorOValid
import Derived.Test.YtohjpgcmhihdhaaGreatDoorOTreeText
import Derived.Test.YtohjpgcmhihdhaaGreatDoorQf25
import Derived.Test.YtohjpgcmhihdhaaGreatDoorQf6
import Derived.Test.YtohjpgcmhihdhaaGreatDoorQf14
import Derived.Test.YtohjpgcmhihdhaaGreatDoorOLines
import Derived.Test.YtohjpgcmhihdhaaGreatDoorORead3
import Derived.Lib.ParseIntBTie
import Derived.Lib.SplitLaws
import Derived.Lib.CountLaws
import Derived.Lib.IndexBytes
import Derived.Test.YtohjpgcmhihdhaaGreatDoorQf48
import Derived.Test.YtohjpgcmhihdhaaGreatDoorQf30
namespace Go.Proofs.YtohjpgcmhihdhaaGreatDoor.Pure
open Go.RowKit Go.Proofs.YtohjpgcmhihdhaaGreatDoor.Q Go.Proofs.YtohjpgcmhihdhaaGreatDoorW.PrintWords Go.Proofs.YtohjpgcmhihdhaaGreatDoorW.PrintLast Go.Proofs.YtohjpgcmhihdhaaGreatDoorW.PrintMore
set_option linter.unusedVariables false
set_option linter.unusedSimpArgs false
/-- bytes as a text -/
def toB (l : List UInt8) : ByteArray := ⟨l.toArray⟩
theorem toB_app (a b : List UInt8) : toB (a ++ b) = toB a ++ toB b := by
  apply ByteArray.ext
  simp [toB]
theorem toB_bytes (s : ByteArray) : toB s.data.toList = s := by
  apply ByteArray.ext
  simp [toB]
theorem app_assoc (a b c : ByteArray) : (a ++ b) ++ c = a ++ (b ++ c) := ByteArray.append_assoc
/-- a small number: what ids, weights and kinds are -/
def Small6 (n : Int) : Prop := -1000000 ≤ n ∧ n ≤ 1000000
theorem small_in {n : Int} (h : Small6 n) : In64 n := ⟨by have := h.1; omega, by have := h.2; omega⟩
theorem dec_le (n : Int) (h : Small6 n) : (decB n).size ≤ 21 := decB_size n (small_in h).1 (small_in h).2
def sp : ByteArray := ⟨#[32]⟩
def nl : ByteArray := ⟨#[10]⟩
theorem node_line (x : S57) : (((((⟨#[110, 111, 100, 101, 32]⟩ : ByteArray) ++ decB x.f0) ++ (⟨#[32]⟩ : ByteArray)) ++ decB x.f1) ++ (⟨#[10]⟩ : ByteArray)) = nodeLine x := by
  unfold nodeLine lineB
  simp only [List.foldl_cons, List.foldl_nil]
  rw [show (⟨#[110, 111, 100, 101, 32]⟩ : ByteArray) = (⟨#[110, 111, 100, 101]⟩ : ByteArray) ++ (⟨#[32]⟩ : ByteArray) from rfl]
  simp only [app_assoc]
section
variable (D : List S57) (B : List S49)
theorem text_items (x3 : ByteArray) (n : Nat) (b0 b1 : Int) (it : List Int) (hit : it.length ≤ 1000) (hs : ∀ y ∈ it, Small6 y) (r : ByteArray) (h : ∀ s2 : ByteArray, s2 = lineB x3 it → Ev (fun k => spec_l06Text.l1 k (s2 ++ (⟨#[10]⟩ : ByteArray)) (wrap64 ((n : Int) + 1)) D B) r) (hx : x3.size ≤ 1000000000) : Ev (fun k => spec_l06Text.l2 k x3 n 0 D B b0 b1 it) r := by
  have key : ∀ (d i : Nat) (s : ByteArray), i + d = it.length → s.size + 22 * d ≤ 1000000000 + 22000 → lineB s (it.drop i) = lineB x3 it → Ev (fun k => spec_l06Text.l2 k s n i D B b0 b1 it) r := fun d => by
    induction d with
    | zero =>
      intro i s hi hsz he
      obtain rfl : i = it.length := by omega
      rw [List.drop_length] at he
      refine Ev.step (fun k => ?_) (h s he)
      simp only [spec_l06Text.l2]
      have h1 : (⟨#[10]⟩ : ByteArray).size = 1 := rfl
      rw [if_neg (by omega), if_pos (by omega)]
    | succ d ih =>
      intro i s hi hsz he
      have hil : i < it.length := by omega
      have hsm := hs _ (List.getElem_mem hil)
      have hd := dec_le _ hsm
      have hz : ((⟨#[32]⟩ : ByteArray) ++ decB it[i]).size = 1 + (decB it[i]).size := size_app _ _
      refine Ev.step (f := ?zf1) (fun k => ?_) ?_
      rotate_left
      · simp only [spec_l06Text.l2]
        rw [if_pos (by omega), if_pos (by omega), rd_get it i hil, up64 i it.length hil (by omega)]
      · refine Ev.bind (num_ev _ hsm.1 hsm.2) ?_
        simp only [if_pos (show 1 + (decB it[i]).size ≤ 9223372036854775807 by omega), if_pos (show s.size + ((⟨#[32]⟩ : ByteArray) ++ decB it[i]).size ≤ 9223372036854775807 by rw [hz]; omega)]
        refine ih (i + 1) _ (by omega) (by rw [size_app, hz]; omega) ?_
        rw [← he, List.drop_eq_getElem_cons hil, lineB_cons]
  exact key it.length 0 x3 (by omega) (by omega) rfl
end
theorem lineB_app (a : ByteArray) : ∀ (l : List Int) (b : ByteArray), lineB (a ++ b) l = a ++ lineB b l
  | [], b => rfl
  | x :: l, b => by rw [lineB_cons, lineB_cons, app_assoc, lineB_app a l]
theorem toB_nil : toB [] = ByteArray.empty := rfl
theorem app_empty (s : ByteArray) : s ++ ByteArray.empty = s := ByteArray.append_empty
theorem kw_rd (k : Int) (h1 : 1 ≤ k) (h3 : k ≤ 3) : rdOf ByteArray.empty ([(⟨#[104, 111, 115, 116]⟩ : ByteArray), (⟨#[114, 97, 99, 107]⟩ : ByteArray), (⟨#[114, 111, 111, 116]⟩ : ByteArray)] : List ByteArray) (wrap64 (k - 1)) = kwB k := by
  rw [show wrap64 (k - 1) = k - 1 from by unfold wrap64; omega]
  have h : k = 1 ∨ k = 2 ∨ k = 3 := by omega
  rcases h with rfl | rfl | rfl <;> rfl
/-- what a bucket is, for its line -/
def BktS (x : S49) : Prop := Small6 x.f0 ∧ (1 ≤ x.f1 ∧ x.f1 ≤ 3) ∧ x.f2.length ≤ 1000 ∧ ∀ y ∈ x.f2, Small6 y
theorem bkt_size (x : S49) (h : BktS x) : (bktLine x).size ≤ 30000 := by
  have h1 := lineB_size (x.f0 :: x.f2) (kwB x.f1) (fun y hy => by
    rcases List.mem_cons.1 hy with e | e
    · rw [e]; exact small_in h.1
    · exact small_in (h.2.2.2 y e))
  have h3 : (⟨#[10]⟩ : ByteArray).size = 1 := rfl
  have h4 := kwB_size x.f1
  have h5 := h.2.2.1
  rw [List.length_cons] at h1
  unfold bktLine
  rw [size_app]
  omega
theorem node_size (x : S57) (h : Small6 x.f0 ∧ Small6 x.f1) : (nodeLine x).size ≤ 1000 := by
  have h1 := lineB_size [x.f0, x.f1] ⟨#[110, 111, 100, 101]⟩ (by simp; exact ⟨small_in h.1, small_in h.2⟩)
  have h2 : (⟨#[110, 111, 100, 101]⟩ : ByteArray).size = 4 := rfl
  have h3 : (⟨#[10]⟩ : ByteArray).size = 1 := rfl
  simp only [List.length_cons, List.length_nil] at h1
  unfold nodeLine
  rw [size_app]
  omega
theorem bkt_line (x : S49) : lineB ((kwB x.f1 ++ (⟨#[32]⟩ : ByteArray)) ++ decB x.f0) x.f2 ++ (⟨#[10]⟩ : ByteArray) = bktLine x := by
  unfold bktLine
  rw [lineB_cons, app_assoc (kwB x.f1)]
theorem bkts_cons (x : S49) (l : List S49) : toB (bktsT (x :: l)) = bktLine x ++ toB (bktsT l) := by
  unfold bktsT
  rw [List.flatMap_cons, toB_app, toB_bytes]
theorem nodes_cons (x : S57) (l : List S57) : toB (nodesT (x :: l)) = nodeLine x ++ toB (nodesT l) := by
  unfold nodesT
  rw [List.flatMap_cons, toB_app, toB_bytes]
theorem text_bkts (D : List S57) (B : List S49) (hB : B.length ≤ 1000) (hb : ∀ x ∈ B, BktS x) : ∀ (d i : Nat) (s : ByteArray), i + d = B.length → s.size + 30000 * d ≤ 900000000 → Ev (fun k => spec_l06Text.l1 k s i D B) (s ++ toB (bktsT (B.drop i)))
  | 0, i, s, hi, hs => by
    obtain rfl : i = B.length := by omega
    rw [List.drop_length, show toB (bktsT ([] : List S49)) = ByteArray.empty from rfl, app_empty]
    refine ev_end (fun k => ?_)
    simp only [spec_l06Text.l1]
    rw [if_neg (by omega)]
  | d + 1, i, s, hi, hs => by
    have hil : i < B.length := by omega
    have hx := hb _ (List.getElem_mem hil)
    have hd := dec_le _ hx.1
    have hkw := kwB_size B[i].f1
    have hsz := bkt_size _ hx
    have h1 : (⟨#[32]⟩ : ByteArray).size = 1 := rfl
    have z1 : (kwB B[i].f1 ++ (⟨#[32]⟩ : ByteArray)).size = 5 := by rw [size_app, hkw, h1]
    have z2 : ((kwB B[i].f1 ++ (⟨#[32]⟩ : ByteArray)) ++ decB B[i].f0).size = 5 + (decB B[i].f0).size := by rw [size_app, z1]
    have hw : wrap64 (B[i].f1 - 1) = B[i].f1 - 1 := by have := hx.2.1; unfold wrap64; omega
    refine Ev.step (f := ?zf1) (fun k => ?_) ?_
    rotate_left
    · simp only [spec_l06Text.l1]
      rw [if_pos (by omega), if_pos (by omega), rd_bkt B i hil, Option.bind_some, if_pos (by rw [hw]; have := hx.2.1; omega), if_pos (by rw [hw]; have := hx.2.1; simp; omega), kw_rd _ hx.2.1.1 hx.2.1.2, if_pos (by omega)]
    · refine Ev.bind (num_ev _ hx.1.1 hx.1.2) ?_
      simp only [if_pos (show (kwB B[i].f1 ++ (⟨#[32]⟩ : ByteArray)).size + (decB B[i].f0).size ≤ 9223372036854775807 by omega), if_pos (show s.size + ((kwB B[i].f1 ++ (⟨#[32]⟩ : ByteArray)) ++ decB B[i].f0).size ≤ 9223372036854775807 by omega)]
      refine text_items D B _ i _ _ _ hx.2.2.1 hx.2.2.2 _ (fun s2 hs2 => ?_) (by rw [size_app]; omega)
      have e2 : s2 ++ (⟨#[10]⟩ : ByteArray) = s ++ bktLine B[i] := by rw [hs2, lineB_app, app_assoc, bkt_line]
      rw [e2, up64 i B.length hil (by omega), List.drop_eq_getElem_cons hil, bkts_cons, ← app_assoc]
      exact text_bkts D B hB hb d (i + 1) _ (by omega) (by rw [size_app]; omega)
theorem text_nodes (D : List S57) (B : List S49) (hD : D.length ≤ 1000) (hd : ∀ x ∈ D, Small6 x.f0 ∧ Small6 x.f1) (r : ByteArray → ByteArray) (hr : ∀ s : ByteArray, s.size ≤ 2000000 → Ev (fun k => spec_l06Text.l1 k s 0 D B) (r s)) : ∀ (d i : Nat) (s : ByteArray), i + d = D.length → s.size + 1000 * d ≤ 2000000 → Ev (fun k => spec_l06Text.l0 k s i D B) (r (s ++ toB (nodesT (D.drop i))))
  | 0, i, s, hi, hs => by
    obtain rfl : i = D.length := by omega
    rw [List.drop_length, show toB (nodesT ([] : List S57)) = ByteArray.empty from rfl, app_empty]
    refine Ev.step (fun k => ?_) (hr s (by omega))
    simp only [spec_l06Text.l0]
    rw [if_neg (by omega)]
  | d + 1, i, s, hi, hs => by
    have hil : i < D.length := by omega
    have hx := hd _ (List.getElem_mem hil)
    have hd0 := dec_le _ hx.1
    have hd1 := dec_le _ hx.2
    have hsz := node_size _ hx
    have h1 : (⟨#[32]⟩ : ByteArray).size = 1 := rfl
    have h5 : (⟨#[110, 111, 100, 101, 32]⟩ : ByteArray).size = 5 := rfl
    have h10 : (⟨#[10]⟩ : ByteArray).size = 1 := rfl
    have hnl := node_line D[i]
    refine Ev.step (f := ?zf1) (fun k => ?_) ?_
    rotate_left
    · simp only [spec_l06Text.l0]
      rw [if_pos (by omega), if_pos (by omega), rd_dev D i hil]
    · refine Ev.bind (num_ev _ hx.1.1 hx.1.2) ?_
      simp only [if_pos (show 5 + (decB D[i].f0).size ≤ 9223372036854775807 by omega), if_pos (show ((⟨#[110, 111, 100, 101, 32]⟩ : ByteArray) ++ decB D[i].f0).size + 1 ≤ 9223372036854775807 by rw [size_app]; omega)]
      refine Ev.bind (num_ev _ hx.2.1 hx.2.2) ?_
      simp only [hnl, if_pos (show (((⟨#[110, 111, 100, 101, 32]⟩ : ByteArray) ++ decB D[i].f0) ++ (⟨#[32]⟩ : ByteArray)).size + (decB D[i].f1).size ≤ 9223372036854775807 by rw [size_app, size_app]; omega), if_pos (show ((((⟨#[110, 111, 100, 101, 32]⟩ : ByteArray) ++ decB D[i].f0) ++ (⟨#[32]⟩ : ByteArray)) ++ decB D[i].f1).size + 1 ≤ 9223372036854775807 by rw [size_app, size_app, size_app]; omega), if_pos (show s.size + (nodeLine D[i]).size ≤ 9223372036854775807 by omega)]
      rw [up64 i D.length hil (by omega), List.drop_eq_getElem_cons hil, nodes_cons, ← app_assoc]
      exact text_nodes D B hD hd r hr d (i + 1) _ (by omega) (by rw [size_app]; omega)
/-- the topology's text -/
def treeB8 (D : List S57) (B : List S49) : ByteArray := ⟨(nodesT D ++ bktsT B).toArray⟩
theorem treeB8_eq (D : List S57) (B : List S49) : treeB8 D B = toB (nodesT D) ++ toB (bktsT B) := toB_app _ _
/-- what a valid topology holds, for its text -/
structure TextOk (D : List S57) (B : List S49) : Prop where
  dl : D.length ≤ 1000
  bl : B.length ≤ 1000
  d : ∀ x ∈ D, Small6 x.f0 ∧ Small6 x.f1
  b : ∀ x ∈ B, BktS x
theorem text_ev (D : List S57) (B : List S49) (H : TextOk D B) : Ev (fun k => spec_l06Text.f k D B) (treeB8 D B) := by
  have h := text_nodes D B H.dl H.d (fun s => s ++ toB (bktsT B)) (fun s hs => by
    have := text_bkts D B H.bl H.b B.length 0 s (by omega) (by have := H.bl; omega)
    rw [List.drop_zero] at this
    exact this) D.length 0 (⟨#[]⟩ : ByteArray) (by omega) (by have := H.dl; have h0 : (⟨#[]⟩ : ByteArray).size = 0 := rfl; omega)
  rw [List.drop_zero] at h
  have e : ((⟨#[]⟩ : ByteArray) ++ toB (nodesT D)) ++ toB (bktsT B) = treeB8 D B := by
    rw [treeB8_eq, show (⟨#[]⟩ : ByteArray) = ByteArray.empty from rfl, ByteArray.empty_append]
  rw [← e]
  exact h
theorem valid_text {D : List S57} {B : List S49} (V : Valid D B) : TextOk D B := by
  refine ⟨by have := V.dev; omega, by have := V.bkt; omega, fun x hx => ?_, fun x hx => ?_⟩
  · obtain ⟨i, hi, rfl⟩ := List.mem_iff_getElem.1 hx
    have := V.devs i hi
    unfold Small6
    omega
  · obtain ⟨i, hi, rfl⟩ := List.mem_iff_getElem.1 hx
    have hb := V.bkts i hi
    refine ⟨by unfold Small6; omega, hb.2.1, by omega, fun y hy => ?_⟩
    have hk := (item_kind V i hi y hy).1
    by_cases c : 1 ≤ kindAt D B y
    · obtain ⟨n, hn, -, e, -⟩ := kindAt_bucket V y c
      have := V.bkts n hn
      unfold Small6
      omega
    · have e0 : kindAt D B y = if 0 ≤ devAt D y then 0 else if bucketAt B y < 0 then -1 else (rd_T49 B (bucketAt B y)).f1 := rfl
      rcases devAt_hit D y with e | ⟨n, hn, -, e⟩
      · rw [e0, e, if_neg (by omega)] at hk c
        rcases bucketAt_hit B y with e2 | ⟨n, hn, e2, e3⟩
        · rw [e2, if_pos (by omega)] at hk; omega
        · have := V.bkts n hn
          unfold Small6
          omega
      · have := V.devs n hn
        unfold Small6
        omega

end Go.Proofs.YtohjpgcmhihdhaaGreatDoor.Pure

namespace Go.Proofs.YtohjpgcmhihdhaaGreatDoor.Q
open Go.RowKit Go.Proofs.YtohjpgcmhihdhaaGreatDoorW.PrintWords Go.Proofs.YtohjpgcmhihdhaaGreatDoorW.PrintLast Go.Proofs.YtohjpgcmhihdhaaGreatDoorW.PrintMore
set_option linter.unusedVariables false
/-- a topology that reads so -/
structure TreeC (w : World) (A0 : Option Addr) (c0 : Nat) (D : List (S57)) (A1 : Option Addr) (c1 : Nat) (B : List (S49)) : Prop where
  d : Kd.C k57 w A0 D.length D
  hd : D.length ≤ c0
  b : Kd.C k49 w A1 B.length B
  hb : B.length ≤ c1
theorem TreeC.below {w w' : World} {A0 A1 : Option Addr} {c0 c1 : Nat} {D : List (S57)} {B : List (S49)} (h : TreeC w A0 c0 D A1 c1 B) (hb : Below w.heap.size w w') : TreeC w' A0 c0 D A1 c1 B :=
  ⟨Kd.C_below h.d hb, h.hd, Kd.C_below h.b hb, h.hb⟩
/-- whole numbers that read so -/
structure IntsC (w : World) (A : Option Addr) (c : Nat) (l : List Int) : Prop where
  r : Kd.C (Kd.int .i64) w A l.length l
  h : l.length ≤ c
theorem IntsC.below {w w' : World} {A : Option Addr} {c : Nat} {l : List Int} (h : IntsC w A c l) (hb : Below w.heap.size w w') : IntsC w' A c l := ⟨Kd.C_below h.r hb, h.h⟩

end Go.Proofs.YtohjpgcmhihdhaaGreatDoor.Q

namespace Go.Proofs.YtohjpgcmhihdhaaGreatDoor.Pure
open Go.RowKit Go.Proofs.YtohjpgcmhihdhaaGreatDoor.Q Go.Proofs.YtohjpgcmhihdhaaGreatDoorW.PrintWords Go.Proofs.YtohjpgcmhihdhaaGreatDoorW.PrintLast Go.Proofs.YtohjpgcmhihdhaaGreatDoorW.PrintMore
set_option linter.unusedVariables false
set_option linter.unusedSimpArgs false
theorem textOk_walk {D : List S57} {B : List S49} (H : TextOk D B) : (∀ x ∈ D, In64 x.f0 ∧ In64 x.f1) ∧ ∀ x ∈ B, In64 x.f0 ∧ (1 ≤ x.f1 ∧ x.f1 ≤ 3) ∧ x.f2.length ≤ 1000 ∧ ∀ y ∈ x.f2, In64 y :=
  ⟨fun x hx => ⟨small_in (H.d x hx).1, small_in (H.d x hx).2⟩, fun x hx => ⟨small_in (H.b x hx).1, (H.b x hx).2.1, (H.b x hx).2.2.1, fun y hy => small_in ((H.b x hx).2.2.2 y hy)⟩⟩
/-- the program's answer: the text, and which error -/
def textAns (D : List S57) (B : List S49) (o : Bool) : ByteArray × Int := if o = true then (treeB8 D B, 0) else (⟨#[]⟩, 1)

end Go.Proofs.YtohjpgcmhihdhaaGreatDoor.Pure

namespace Go.Proofs.YtohjpgcmhihdhaaGreatDoorW.PrintMore
open Go.RowKit Go.Proofs.YtohjpgcmhihdhaaGreatDoorW.PrintWords Go.Proofs.YtohjpgcmhihdhaaGreatDoorW.PrintLast Go.Proofs.YtohjpgcmhihdhaaGreatDoor.Q Go.Proofs.YtohjpgcmhihdhaaGreatDoor.Pure
attribute [local go_sem] Oper.semAt_some
set_option linter.unusedVariables false
set_option linter.unusedSimpArgs false
/-- a line without its end -/
def trimNl (x : ByteArray) : ByteArray := ⟨(Lib.trimSuffix x.data.toList (⟨#[10]⟩ : ByteArray).data.toList).toArray⟩
/-- lines read one behind the other (k: at least as many as there are bytes) -/
def readL : Nat → ByteArray → List S57 → List S49 → Option (List S57 × List S49)
  | 0, _, D, B => some (D, B)
  | k + 1, r, D, B => if r.size = 0 then some (D, B) else (addM D B (trimNl (cutL r).1)).bind fun y => readL k (cutL r).2 y.1 y.2
def readM (s : ByteArray) : Option (List S57 × List S49) := readL s.size s [] []
theorem readL_end (k : Nat) (r : ByteArray) (D : List S57) (B : List S49) (h : r.size = 0) : readL k r D B = some (D, B) := by
  cases k with
  | zero => rfl
  | succ k => unfold readL; rw [if_pos h]
theorem cutL_size (r : ByteArray) (h : 0 < r.size) : (cutL r).2.size < r.size ∧ (cutL r).1.size ≤ r.size := by
  unfold cutL
  split
  · rw [ByteArray.size_extract, ByteArray.size_extract]
    omega
  · exact ⟨h, Nat.le_refl _⟩
theorem trimNl_size (x : ByteArray) : (trimNl x).size ≤ x.size := by
  unfold trimNl Lib.trimSuffix
  split
  · show (List.take _ x.data.toList).toArray.size ≤ x.data.size
    rw [List.size_toArray, List.length_take, Array.length_toList]
    omega
  · exact Nat.le_refl _
/-- a line adds one at most -/
theorem addM_len {D D' : List S57} {B B' : List S49} {s : ByteArray} (h : addM D B s = some (D', B')) : D'.length + B'.length = D.length + B.length + 1 := by
  unfold addM at h
  obtain ⟨⟨w, n⟩, -, h⟩ := Option.bind_eq_some_iff.1 h
  cases n with
  | nil => cases h
  | cons a r =>
    simp only at h
    split at h
    · cases h
    · split at h
      · split at h
        · injection h with h; injection h with h1 h2; subst h1; subst h2; simp; omega
        · cases h
      · injection h with h; injection h with h1 h2; subst h1; subst h2; simp; omega
/-- what lies in memory while the text is read -/
structure RdS (w0 W : World) (g2 g3 gt bs : Nat) (x : ByteArray) (v0 v1 : Value) (D : List S57) (B : List S49) : Prop where
  t : TreeAt gt W gt v0 v1 D B
  b2 : W.heap[g2]? = some (.cells #[.slice none 0 0, .slice none 0 0] 25 (0, 0))
  b3 : W.heap[g3]? = some (.cells #[.int .i64 0] 2 (0, 0))
  bx : W.heap[bs]? = some (.cells #[.string x] 9 (0, 0))
  bl : Below w0.heap.size w0 W
/-- the blocks' numbers -/
structure RdG (w0 : World) (g2 g3 gt bs : Nat) : Prop where
  l2 : w0.heap.size ≤ g2
  l3 : w0.heap.size ≤ g3
  lt : w0.heap.size ≤ gt
  lb : w0.heap.size ≤ bs
  n2 : g2 ≠ gt
  h3 : g3 < gt
section
variable {w0 W W' : World} {g2 g3 gt bs : Nat} {x y : ByteArray} {v0 v1 : Value} {D : List S57} {B : List S49}
theorem TreeAt.move {base : Nat} (h : TreeAt base W gt v0 v1 D B) (hm : ∀ (k : Nat) (cs : Array Value) (q : Nat), W.heap[k]? = some (.cells cs q (0, 0)) → W'.heap[k]? = W.heap[k]?) : TreeAt base W' gt v0 v1 D B := by
  refine ⟨(hm _ _ _ h.box).trans h.box, Kd.R_mono (Kd.R_move (Kd.R_bound h.d) (fun k hk => ?_)) (fun _ _ => trivial), Kd.S_mono (Kd.S_move (Kd.S_bound h.b) (fun k hk => ?_)) (fun _ _ => trivial)⟩
  · obtain ⟨_, _, _, q, _, cs, hc⟩ := hk
    exact hm _ _ _ hc
  · obtain ⟨_, _, _, q, _, cs, hc⟩ := hk
    exact hm _ _ _ hc
theorem RdS.put (h : RdS w0 W g2 g3 gt bs x v0 v1 D B) {k : Nat} {o : Obj} (hk : W.heap[k]? = some o) (ho : o.isCells = false) (o' : Obj) (hb : w0.heap.size ≤ k) : RdS w0 (W.putObj k o') g2 g3 gt bs x v0 v1 D B := by
  have hm : ∀ (j : Nat) (cs : Array Value) (q : Nat), W.heap[j]? = some (.cells cs q (0, 0)) → (W.putObj k o').heap[j]? = W.heap[j]? := fun j cs q hj => World.putObj_heap_other (fun e => by subst e; rw [hk] at hj; injection hj with hj; subst hj; cases ho)
  refine ⟨h.t.move hm, (hm _ _ _ h.b2).trans h.b2, (hm _ _ _ h.b3).trans h.b3, (hm _ _ _ h.bx).trans h.bx, h.bl.grown (grownBy_putObj' W k o') (by have := (Array.getElem?_eq_some_iff.1 hk).1; have := h.bl.size; omega) (fun j e => by cases e; exact hb)⟩
theorem RdS.alloc (h : RdS w0 W g2 g3 gt bs x v0 v1 D B) (o : Obj) : RdS w0 (W.alloc o) g2 g3 gt bs x v0 v1 D B := by
  have hb := below_alloc (Below.refl W.heap.size W) o
  exact ⟨h.t.below hb, blk_below h.b2 hb, blk_below h.b3 hb, blk_below h.bx hb, below_alloc h.bl o⟩
theorem RdS.drew (h : RdS w0 W g2 g3 gt bs x v0 v1 D B) : RdS w0 W.drew g2 g3 gt bs x v0 v1 D B := by
  have hb := below_drew1 (Below.refl W.heap.size W)
  exact ⟨h.t.below hb, h.b2, h.b3, h.bx, below_drew1 h.bl⟩
theorem RdS.below (h : RdS w0 W g2 g3 gt bs x v0 v1 D B) (hb : Below W.heap.size W W') : RdS w0 W' g2 g3 gt bs x v0 v1 D B :=
  ⟨h.t.below hb, blk_below h.b2 hb, blk_below h.b3 hb, blk_below h.bx hb, below_step h.bl hb⟩
/-- the results are stored -/
theorem RdS.store (h : RdS w0 W g2 g3 gt bs x v0 v1 D B) (hn : g2 ≠ gt) (h3 : g3 < gt) (l2 : w0.heap.size ≤ g2) (l3 : w0.heap.size ≤ g3) (u0 u1 u2 : Value) :
    Kd.R k57 57 (((W.setCell ⟨g2, 0, none⟩ u0).setCell ⟨g2, 1, none⟩ u1).setCell ⟨g3, 0, none⟩ u2) gt (fun _ => True) v0 D ∧ Kd.S kqB 49 (((W.setCell ⟨g2, 0, none⟩ u0).setCell ⟨g2, 1, none⟩ u1).setCell ⟨g3, 0, none⟩ u2) gt (fun _ => True) v1 B ∧
    (((W.setCell ⟨g2, 0, none⟩ u0).setCell ⟨g2, 1, none⟩ u1).setCell ⟨g3, 0, none⟩ u2).heap[g2]? = some (.cells #[u0, u1] 25 (0, 0)) ∧
    (((W.setCell ⟨g2, 0, none⟩ u0).setCell ⟨g2, 1, none⟩ u1).setCell ⟨g3, 0, none⟩ u2).heap[g3]? = some (.cells #[u2] 2 (0, 0)) ∧ Below w0.heap.size w0 (((W.setCell ⟨g2, 0, none⟩ u0).setCell ⟨g2, 1, none⟩ u1).setCell ⟨g3, 0, none⟩ u2) := by
  have n23 := blk_ne h.b2 h.b3 (by decide)
  have b1 : (W.setCell ⟨g2, 0, none⟩ u0).heap[g2]? = some (.cells #[u0, .slice none 0 0] 25 (0, 0)) := blk_put h.b2 0 _ rfl
  have b2 : ((W.setCell ⟨g2, 0, none⟩ u0).setCell ⟨g2, 1, none⟩ u1).heap[g2]? = some (.cells #[u0, u1] 25 (0, 0)) := blk_put b1 1 _ rfl
  have c2 : ((W.setCell ⟨g2, 0, none⟩ u0).setCell ⟨g2, 1, none⟩ u1).heap[g3]? = some (.cells #[.int .i64 0] 2 (0, 0)) := blk_far (blk_far h.b3 n23.symm _) n23.symm _
  have d2 := Kd.R_set (Kd.R_set h.t.d h.b2 (by decide) 0 u0) b1 (by decide) 1 u1
  have e2 := Kd.S_set (Kd.S_set h.t.b h.b2 (by decide) 0 u0) b1 (by decide) 1 u1
  refine ⟨Kd.R_set d2 c2 (by decide) 0 u2, ?_, blk_far b2 n23 _, blk_put c2 0 _ rfl, ((h.bl.setCell l2 _).setCell l2 _).setCell l3 _⟩
  exact Kd.S_mono (Kd.S_far (p := ⟨g3, 0, none⟩) (Kd.S_mono (Kd.S_bound e2) (ok' := fun k => k ≠ g3) (fun k hk => by have := hk.2.1; omega)) (fun k hk => hk) u2) (fun _ _ => trivial)
theorem RdS.fin (h : RdS w0 W g2 g3 gt bs x v0 v1 D B) (hG : RdG w0 g2 g3 gt bs) {DD : Nat} (hD : W.heap[DD]? = some (.deferred (some []))) (hg : w0.heap.size ≤ DD) (u0 u1 u2 : Value) {W' : World} (hW : W' = ((W.setCell ⟨g2, 0, none⟩ u0).setCell ⟨g2, 1, none⟩ u1).setCell ⟨g3, 0, none⟩ u2) :
    W'.heap[DD]? = some (.deferred (some [])) ∧ Kd.R k57 57 (W'.putObj DD (.deferred none)) w0.heap.size (fun _ => True) v0 D ∧ Kd.S kqB 49 (W'.putObj DD (.deferred none)) w0.heap.size (fun _ => True) v1 B ∧
    (W'.putObj DD (.deferred none)).heap[g2]? = some (.cells #[u0, u1] 25 (0, 0)) ∧ (W'.putObj DD (.deferred none)).heap[g3]? = some (.cells #[u2] 2 (0, 0)) ∧ Below w0.heap.size w0 (W'.putObj DD (.deferred none)) := by
  obtain ⟨s1, s2, s3, s4, s5⟩ := h.store hG.n2 hG.h3 hG.l2 hG.l3 u0 u1 u2
  have n2 : DD ≠ g2 := fun e => by have := h.b2; rw [← e, hD] at this; cases this
  have n3 : DD ≠ g3 := fun e => by have := h.b3; rw [← e, hD] at this; cases this
  have hD' : W'.heap[DD]? = some (.deferred (some [])) := by
    rw [hW]
    exact (Below.heap_setCell _ ⟨g3, 0, none⟩ u2 DD n3).trans ((Below.heap_setCell _ ⟨g2, 1, none⟩ u1 DD n2).trans ((Below.heap_setCell _ ⟨g2, 0, none⟩ u0 DD n2).trans hD))
  rw [← hW] at s1 s2 s3 s4 s5
  have nd : ∀ (j : Nat) (cs : Array Value) (q : Nat), W'.heap[j]? = some (.cells cs q (0, 0)) → (W'.putObj DD (.deferred none)).heap[j]? = W'.heap[j]? := fun j cs q hj => World.putObj_heap_other (fun e => by subst e; rw [hD'] at hj; cases hj)
  refine ⟨hD', Kd.R_mono (Kd.R_move (Kd.R_bound (Kd.R_lower s1 hG.lt)) (fun k hk => ?_)) (fun _ _ => trivial), Kd.S_mono (Kd.S_move (Kd.S_bound (Kd.S_lower s2 hG.lt)) (fun k hk => ?_)) (fun _ _ => trivial), (nd _ _ _ s3).trans s3, (nd _ _ _ s4).trans s4, s5.grown (grownBy_putObj' W' DD _) (by have := (Array.getElem?_eq_some_iff.1 hD').1; have := s5.size; omega) (fun j e => by cases e; exact hg)⟩
  · obtain ⟨_, _, _, q, _, cs, hc⟩ := hk
    exact nd _ _ _ hc
  · obtain ⟨_, _, _, q, _, cs, hc⟩ := hk
    exact nd _ _ _ hc
/-- the text in the box is cut -/
theorem RdS.cut (h : RdS w0 W g2 g3 gt bs x v0 v1 D B) (hg : w0.heap.size ≤ bs) : RdS w0 (W.setCell ⟨bs, 0, none⟩ (.string y)) g2 g3 gt bs y v0 v1 D B := by
  have n2 := blk_ne h.b2 h.bx (by decide)
  have n3 := blk_ne h.b3 h.bx (by decide)
  have nt := blk_ne h.t.box h.bx (by decide)
  exact ⟨⟨blk_far h.t.box nt _, Kd.R_set h.t.d h.bx (by decide) 0 _, Kd.S_set h.t.b h.bx (by decide) 0 _⟩, blk_far h.b2 n2 _, blk_far h.b3 n3 _, blk_put h.bx 0 _ rfl, h.bl.setCell hg _⟩
/-- a line was added -/
theorem RdS.line {v0' v1' : Value} {D' : List S57} {B' : List S49} (h : RdS w0 W g2 g3 gt bs x v0 v1 D B) (hn : g2 ≠ gt) (hk : Kept W W' (AddS gt v0 v1)) (hb : Below w0.heap.size W W') (ht : TreeAt gt W' gt v0' v1' D' B') : RdS w0 W' g2 g3 gt bs x v0' v1' D' B' := by
  have far : ∀ (k : Nat) (cs : Array Value) (q : Nat), W.heap[k]? = some (.cells cs q (0, 0)) → k ≠ gt → 57 ≠ q → 49 ≠ q → W'.heap[k]? = some (.cells cs q (0, 0)) := fun k cs q hc h1 h2 h3 =>
    blk_kept hc hk (fun hs => by
      rcases hs with e | e | e
      · exact h1 e
      · exact Kd.R_ne h.t.d hc h2 e.symm
      · exact Kd.R_ne (Kd.S_R h.t.b) hc h3 e.symm)
  exact ⟨ht, far _ _ _ h.b2 hn (by decide) (by decide), far _ _ _ h.b3 (blk_ne h.b3 h.t.box (by decide)) (by decide) (by decide), far _ _ _ h.bx (blk_ne h.bx h.t.box (by decide)) (by decide) (by decide), h.bl.trans hb⟩
/-- the results' cells lie as they lay -/
theorem RdS.res (h : RdS w0 W g2 g3 gt bs x v0 v1 D B) (hn : g2 ≠ gt) (hk : Kept W W' (AddS gt v0 v1)) : W'.heap[g2]? = some (.cells #[.slice none 0 0, .slice none 0 0] 25 (0, 0)) ∧ W'.heap[g3]? = some (.cells #[.int .i64 0] 2 (0, 0)) := by
  have far : ∀ (k : Nat) (cs : Array Value) (q : Nat), W.heap[k]? = some (.cells cs q (0, 0)) → k ≠ gt → 57 ≠ q → 49 ≠ q → W'.heap[k]? = some (.cells cs q (0, 0)) := fun k cs q hc h1 h2 h3 =>
    blk_kept hc hk (fun hs => by
      rcases hs with e | e | e
      · exact h1 e
      · exact Kd.R_ne h.t.d hc h2 e.symm
      · exact Kd.R_ne (Kd.S_R h.t.b) hc h3 e.symm)
  exact ⟨far _ _ _ h.b2 hn (by decide) (by decide), far _ _ _ h.b3 (blk_ne h.b3 h.t.box (by decide)) (by decide) (by decide)⟩
/-- a line's adding keeps what is no cells -/
theorem RdS.others (h : RdS w0 W g2 g3 gt bs x v0 v1 D B) (hk : Kept W W' (AddS gt v0 v1)) : KeepsOthers W W' := by
  refine ⟨hk.1, fun k o ho hc => (hk.2 k (Array.getElem?_eq_some_iff.1 ho).1 (fun hs => ?_)).trans ho⟩
  have key : ∀ (cs : Array Value) (q : Nat), W.heap[k]? = some (.cells cs q (0, 0)) → False := fun cs q e => by
    rw [ho] at e; injection e with e; subst e; cases hc
  rcases hs with e | e | e
  · subst e; exact key _ _ h.t.box
  · obtain ⟨cs, hcs⟩ := Kd.R_typed h.t.d k e; exact key _ _ hcs
  · obtain ⟨cs, hcs⟩ := Kd.S_typed h.t.b k e; exact key _ _ hcs
end
theorem lines_mk (s : ByteArray) (w : World) : Calls Tryz.prog 11 #[.string s] w fun e w' => e = .returned (.func (.func 27) #[] #[.pointer (some ⟨w.heap.size, 0, none⟩)]) ∧ w' = w.alloc (.cells #[.string s] 9) := by
  go_enter Tryz.func11, Tryz.ntmps11
  go_wp2_with fail
  go_ret
  exact ⟨rfl, rfl⟩
theorem run_loadVar_int (w : World) (g : Nat) (v : Value) (h : w.cell? ⟨g, 0, none⟩ = some v) : (loadVar 2 ⟨g, 0, none⟩).run Tryz.prog w = .ok v w := by
  simp [loadVar, go_sem, Tryz.isAgg2, h]
theorem results_ci {fn : Func} {p p' : Tmp} {ty : TypeId} (h : fn.results = #[.cell p ty, .cell p' 2]) (tmps : Array Value) (w : World) (g g' : Nat) (u v : Value)
    (hp : tmps.getD p undef = .pointer (some ⟨g, 0, none⟩)) (hu : (loadVar ty ⟨g, 0, none⟩).run Tryz.prog w = .ok u w)
    (hp' : tmps.getD p' undef = .pointer (some ⟨g', 0, none⟩)) (hv : w.cell? ⟨g', 0, none⟩ = some v) :
    (results fn tmps).run Tryz.prog w = .ok (.tuple #[u, v]) w := by
  have h1 : tmps[p]?.getD undef = .pointer (some ⟨g, 0, none⟩) := by simpa using hp
  have h2 : tmps[p']?.getD undef = .pointer (some ⟨g', 0, none⟩) := by simpa using hp'
  simp [results, h, h1, h2, asAddr, hu, run_loadVar_int w g' v hv]
/-- what ReadTree hands back -/
def ReadOut (s : ByteArray) (ok : List S57 → List S49 → Bool) (e : Ending) (w w' : World) : Prop :=
  ∃ u0 u1 c, e = .returned (.tuple #[.agg #[u0, u1], .int .i64 c]) ∧ Below w.heap.size w w' ∧
    ((∃ D B, readM s = some (D, B) ∧ ok D B = true ∧ treeB8 D B = s ∧ c = 0 ∧ Kd.R k57 57 w' w.heap.size (fun _ => True) u0 D ∧ Kd.S kqB 49 w' w.heap.size (fun _ => True) u1 B) ∨
     (c = 7 ∧ u0 = .slice none 0 0 ∧ u1 = .slice none 0 0 ∧ ∀ D B, readM s = some (D, B) → ok D B = true → treeB8 D B ≠ s))
/-- between two lines -/
def RdI (s : ByteArray) (w : World) (g2 g3 gt bs : Nat) (r : ByteArray) (W : World) : Prop :=
  ∃ D B v0 v1 k, RdS w W g2 g3 gt bs r v0 v1 D B ∧ r.size ≤ k ∧ readL k r D B = readM s ∧ D.length + B.length + r.size ≤ s.size
/-- a line is cut, and not yet added -/
def RdI2 (s : ByteArray) (w : World) (g2 g3 gt bs : Nat) (x r : ByteArray) (W : World) : Prop :=
  ∃ D B v0 v1 k, RdS w W g2 g3 gt bs r v0 v1 D B ∧ r.size ≤ k ∧ ((addM D B (trimNl x)).bind fun y => readL k r y.1 y.2) = readM s ∧ D.length + B.length + 1 + r.size ≤ s.size ∧ x.size ≤ s.size
/-- a line was none -/
def RdX (s : ByteArray) (w : World) (g2 g3 : Nat) (c : Code) (W : World) : Prop :=
  c = .ret ∧ readM s = none ∧ W.heap[g2]? = some (.cells #[.slice none 0 0, .slice none 0 0] 25 (0, 0)) ∧ W.heap[g3]? = some (.cells #[.int .i64 7] 2 (0, 0)) ∧ Below w.heap.size w W
theorem RdI.cut {s : ByteArray} {w W : World} {g2 g3 gt bs : Nat} {r : ByteArray} (h : RdI s w g2 g3 gt bs r W) (hg : w.heap.size ≤ bs) (hr : 0 < r.size) : RdI2 s w g2 g3 gt bs (cutL r).1 (cutL r).2 (W.setCell ⟨bs, 0, none⟩ (.string (cutL r).2)) := by
  obtain ⟨D, B, v0, v1, k, h1, h2, h3, h4⟩ := h
  have hc := cutL_size r hr
  cases k with
  | zero => omega
  | succ k =>
    refine ⟨D, B, v0, v1, k, h1.cut hg, by omega, ?_, by omega, by omega⟩
    unfold readL at h3
    rw [if_neg (by omega)] at h3
    exact h3
theorem RdI2.drew {s : ByteArray} {w W : World} {g2 g3 gt bs : Nat} {x r : ByteArray} (h : RdI2 s w g2 g3 gt bs x r W) : RdI2 s w g2 g3 gt bs x r W.drew := by
  obtain ⟨D, B, v0, v1, k, h1, h2⟩ := h
  exact ⟨D, B, v0, v1, k, h1.drew, h2⟩
theorem RdX.put {s : ByteArray} {w W : World} {g2 g3 : Nat} {c : Code} (h : RdX s w g2 g3 c W) {k : Nat} {o : Obj} (hk : W.heap[k]? = some o) (ho : o.isCells = false) (o' : Obj) (hb : w.heap.size ≤ k) : RdX s w g2 g3 c (W.putObj k o') := by
  obtain ⟨h1, h2, h3, h4, h5⟩ := h
  have hm : ∀ (j : Nat) (cs : Array Value) (q : Nat), W.heap[j]? = some (.cells cs q (0, 0)) → (W.putObj k o').heap[j]? = W.heap[j]? := fun j cs q hj => World.putObj_heap_other (fun e => by subst e; rw [hk] at hj; injection hj with hj; subst hj; cases ho)
  exact ⟨h1, h2, (hm _ _ _ h3).trans h3, (hm _ _ _ h4).trans h4, h5.grown (grownBy_putObj' W k o') (by have := (Array.getElem?_eq_some_iff.1 hk).1; have := h5.size; omega) (fun j e => by cases e; exact hb)⟩
theorem rds_start (s : ByteArray) (w : World) : RdS w ((((w.alloc (.cells #[.slice none 0 0, .slice none 0 0] 25)).alloc (.cells #[.int .i64 0] 2)).alloc (.cells #[.slice none 0 0, .slice none 0 0] 25)).alloc (.cells #[.string s] 9)) w.heap.size (w.heap.size + 1) (w.heap.size + 1 + 1) (w.heap.size + 1 + 1 + 1) s (.slice none 0 0) (.slice none 0 0) [] [] := by
  refine ⟨⟨?_, Kd.R_nil _ _ _ _ _, Kd.S_nil _ _ _ _ _⟩, ?_, ?_, ?_, below_alloc (below_alloc (below_alloc (below_alloc (Below.refl _ _) _) _) _) _⟩
  · have h := blk_alloc (blk_new ((w.alloc (.cells #[.slice none 0 0, .slice none 0 0] 25)).alloc (.cells #[.int .i64 0] 2)) (.cells #[.slice none 0 0, .slice none 0 0] 25)) (.cells #[.string s] 9)
    rw [World.size_alloc, World.size_alloc] at h
    exact h
  · exact blk_alloc (blk_alloc (blk_alloc (blk_new w (.cells #[.slice none 0 0, .slice none 0 0] 25)) _) _) _
  · have h := blk_alloc (blk_alloc (blk_new (w.alloc (.cells #[.slice none 0 0, .slice none 0 0] 25)) (.cells #[.int .i64 0] 2)) (.cells #[.slice none 0 0, .slice none 0 0] 25)) (.cells #[.string s] 9)
    rw [World.size_alloc] at h
    exact h
  · have h := blk_new (((w.alloc (.cells #[.slice none 0 0, .slice none 0 0] 25)).alloc (.cells #[.int .i64 0] 2)).alloc (.cells #[.slice none 0 0, .slice none 0 0] 25)) (.cells #[.string s] 9)
    rw [World.size_alloc, World.size_alloc, World.size_alloc] at h
    exact h
theorem RdI.put {s : ByteArray} {w W : World} {g2 g3 gt bs : Nat} {r : ByteArray} (h : RdI s w g2 g3 gt bs r W) {k : Nat} {o : Obj} (hk : W.heap[k]? = some o) (ho : o.isCells = false) (o' : Obj) (hb : w.heap.size ≤ k) : RdI s w g2 g3 gt bs r (W.putObj k o') := by
  obtain ⟨D, B, v0, v1, q, h1, h2⟩ := h
  exact ⟨D, B, v0, v1, q, h1.put hk ho o' hb, h2⟩
theorem RdI2.put {s : ByteArray} {w W : World} {g2 g3 gt bs : Nat} {x r : ByteArray} (h : RdI2 s w g2 g3 gt bs x r W) {k : Nat} {o : Obj} (hk : W.heap[k]? = some o) (ho : o.isCells = false) (o' : Obj) (hb : w.heap.size ≤ k) : RdI2 s w g2 g3 gt bs x r (W.putObj k o') := by
  obtain ⟨D, B, v0, v1, q, h1, h2⟩ := h
  exact ⟨D, B, v0, v1, q, h1.put hk ho o' hb, h2⟩
theorem RdI.alloc {s : ByteArray} {w W : World} {g2 g3 gt bs : Nat} {r : ByteArray} (h : RdI s w g2 g3 gt bs r W) (o : Obj) : RdI s w g2 g3 gt bs r (W.alloc o) := by
  obtain ⟨D, B, v0, v1, q, h1, h2⟩ := h
  exact ⟨D, B, v0, v1, q, h1.alloc o, h2⟩
theorem RdI.box {s : ByteArray} {w W : World} {g2 g3 gt bs : Nat} {r : ByteArray} (h : RdI s w g2 g3 gt bs r W) (hs : s.size ≤ 1048576) : W.cell? ⟨bs, 0, none⟩ = some (.string r) ∧ W.frozen? ⟨bs, 0, none⟩ = false ∧ r.size ≤ 1048576 := by
  obtain ⟨D, B, v0, v1, q, h1, h2, h3, h4⟩ := h
  exact ⟨(blk_cell h1.bx 0).trans rfl, blk_frozen h1.bx 0, by omega⟩
set_option maxHeartbeats 8000000 in
set_option maxRecDepth 100000 in
theorem readTree_at (s : ByteArray) (w : World) (hs : s.size ≤ 1048576) (hD : DoorW w) (ok : List S57 → List S49 → Bool) (hok : ∀ D B, readM s = some (D, B) → ∃ k, impl_TreeOk.f k D B = some (ok D B) ∧ (ok D B = true → TextOk D B)) :
    Calls Tryz.prog 5 #[.string s] w fun e w' => ReadOut s ok e w w' := by
  have HS := Aside0.mk hs
  have HD := Aside0.mk hD
  have HO := Aside0.mk hok
  clear hs hD hok
  refine (callsIn_wide (n := 5)).1 ?_
  refine callsIn_of_wp_marks Tryz.func5 rfl trivial ?_ rfl
  simp only [Tryz.ntmps5, List.size_toArray, List.length_cons, List.length_nil, Nat.reduceAdd, Nat.reduceSub, Array.replicate_succ, Array.replicate_zero, List.push_toArray, List.append_toArray, List.nil_append, List.cons_append]
  gi_wp2
  refine ⟨trivial, (callsIn_wide.2 (lines_mk s _)).mono ?_⟩
  rintro e w' ⟨rfl, rfl⟩
  gi_wp2
  have h0 := rds_start s w
  generalize ((((w.alloc (.cells #[.slice none 0 0, .slice none 0 0] 25)).alloc (.cells #[.int .i64 0] 2)).alloc (.cells #[.slice none 0 0, .slice none 0 0] 25)).alloc (.cells #[.string s] 9)) = W1 at h0 ⊢
  obtain ⟨g2, e2⟩ : ∃ g, g = w.heap.size := ⟨_, rfl⟩
  obtain ⟨g3, e3⟩ : ∃ g, g = w.heap.size + 1 := ⟨_, rfl⟩
  obtain ⟨gt, e4⟩ : ∃ g, g = w.heap.size + 1 + 1 := ⟨_, rfl⟩
  obtain ⟨bs, e5⟩ : ∃ g, g = w.heap.size + 1 + 1 + 1 := ⟨_, rfl⟩
  rw [← e5, ← e4, ← e3, ← e2] at h0
  rw [← e5, ← e4, ← e3, ← e2]
  have HG := Aside0.mk (show RdG w g2 g3 gt bs from ⟨by omega, by omega, by omega, by omega, by omega, by omega⟩)
  clear e2 e3 e4 e5
  have hW := h0.bl.size
  refine range_lines (by omega) bs (by rfl) (enters_of Tryz.func27 (by kernel_rfl) rfl) (RdI s w g2 g3 gt bs) (RdI2 s w g2 g3 gt bs) (RdX s w g2 g3)
    (fun r W o h => h.alloc o) (fun r W k o o' hk h ho hc => h.put ho hc o' (by omega)) (fun x r W k o o' hk h ho hc => h.put ho hc o' (by omega)) (fun c W k o o' hk h ho hc => h.put ho hc o' (by omega))
    (fun r W h => h.box HS.out) (fun r W h hr => ⟨h.cut HG.out.lb hr, (h.cut HG.out.lb hr).drew⟩) s ⟨[], [], _, _, s.size, h0, Nat.le_refl _, rfl, by simp⟩
    (fun x => { tmps := #[.string s, undef, .pointer (some ⟨g2, 0, none⟩), .pointer (some ⟨g3, 0, none⟩), .pointer (some ⟨gt, 0, none⟩), .string x, .string s, .func (.func 27) #[] #[.pointer (some ⟨bs, 0, none⟩)], .string x, undef, undef, undef, undef, undef, undef, undef, undef, undef, undef, undef, undef, undef, undef, undef, undef], defers := [] }) ?assign ?body ?done ?stop
  case assign =>
    intro l x W K hK
    gi_wp2
    exact hK
  case body =>
    rintro l x r W ⟨D, B, v0, v1, k, hR, hk, hL, hlen, hx⟩
    have HR := Aside0.mk hR
    have HL := Aside0.mk hL
    have HE := Aside0.mk hlen
    have HK := Aside0.mk hk
    have htx := trimNl_size x
    have hx9 : x.size ≤ 9223372036854775807 := by have := HS.out; omega
    have hx2 : (trimNl x).size ≤ 1048576 := by have := HS.out; omega
    have hdl : D.length ≤ 2097152 ∧ B.length ≤ 2097152 := by have := HS.out; omega
    clear hR hL hlen hk htx
    gi_wp2
    refine ⟨trivial, CallsIn.inRound l ((callsIn_wide.2 (Tryz.strings_TrimSuffix x ⟨#[10]⟩ W hx9)).mono ?_)⟩
    rintro e w' ⟨rfl, rfl⟩
    gi_wp2
    refine ⟨trivial, CallsIn.inRound l ((callsIn_wide.2 (addLine_at gt gt (trimNl x) v0 v1 D B _ hx2 (HD.out.on HR.out.bl) HR.out.t (Nat.le_refl _) hdl.1 hdl.2)).mono ?_)⟩
    rintro e w3 ⟨rfl, hnew, hb, hkp⟩
    have HN := Aside0.mk hnew
    have HB := Aside0.mk (hb.mono HG.out.lt)
    have HKP := Aside0.mk hkp
    have HO2 := Aside0.mk (HR.out.others hkp)
    obtain ⟨hr2, hr3⟩ := HR.out.res HG.out.n2 hkp
    have HR2 := Aside0.mk hr2
    have HR3 := Aside0.mk hr3
    clear hnew hb hkp hr2 hr3 hx9 hx2 hdl
    cases hadd : addM D B (trimNl x) with
    | none =>
      rw [hadd] at HL
      have n23 := blk_ne HR2.out HR3.out (by decide)
      have HN23 := Aside0.mk n23
      have c0 := (blk_cell HR2.out 0).trans rfl
      have c1 := (blk_cell HR2.out 1).trans rfl
      have c2 := (blk_cell HR3.out 0).trans rfl
      have f0 := blk_frozen HR2.out 0
      have f1 := blk_frozen HR2.out 1
      have f2 := blk_frozen HR3.out 0
      have n32 := n23.symm
      simp only [Option.isSome_none]
      gi_wp2
      exact ⟨HO2.out.trans (((KeepsOthers.setCell _ _ _).trans (KeepsOthers.setCell _ _ _)).trans (KeepsOthers.setCell _ _ _)), rfl, HL.out.symm, blk_far (blk_put (cs := #[.slice none 0 0, .slice none 0 0]) (blk_put HR2.out 0 _ rfl) 1 _ rfl) HN23.out _, blk_put (cs := #[.int .i64 0]) (blk_far (blk_far HR3.out HN23.out.symm _) HN23.out.symm _) 0 _ rfl, (((HR.out.bl.trans HB.out).setCell HG.out.l2 _).setCell HG.out.l2 _).setCell HG.out.l3 _⟩
    | some y =>
      obtain ⟨D', B'⟩ := y
      rw [hadd] at HL
      obtain ⟨v0', v1', ht⟩ := HN.out D' B' hadd
      have hl2 := addM_len hadd
      have HR4 := Aside0.mk (HR.out.line HG.out.n2 HKP.out HB.out ht)
      clear ht
      simp only [Option.isSome_some]
      gi_wp2
      exact ⟨HO2.out, D', B', v0', v1', k, HR4.out, HK.out, HL.out, by have := HE.out; omega⟩
  case done =>
    rintro DD r W hDg hr ⟨D, B, v0, v1, k, hR, hk, hL, hlen⟩ hD
    have HRM := Aside0.mk (show readM s = some (D, B) from by rw [← hL, readL_end k r D B hr])
    have HR := Aside0.mk hR
    obtain ⟨k1, hk1, htx⟩ := HO.out D B HRM.out
    have HK1 := Aside0.mk hk1
    have HTX := Aside0.mk htx
    have HDD := Aside0.mk hD
    clear hR hk hL hlen hk1 htx hD hr
    obtain ⟨A0, c0, e0, hl0, hC0⟩ := Kd.R_reads HR.out.t.d
    obtain ⟨A1, c1, e1⟩ := Kd.S_slice HR.out.t.b
    subst e0 e1
    obtain ⟨-, hl1, hC1⟩ := Kd.S_reads' HR.out.t.b
    have HC0 := Aside0.mk hC0
    have HC1 := Aside0.mk (kqB_C hC1)
    have HL0 := Aside0.mk hl0
    have HL1 := Aside0.mk hl1
    clear hC0 hC1 hl0 hl1
    have t0 := (blk_cell HR.out.t.box 0).trans rfl
    have t1 := (blk_cell HR.out.t.box 1).trans rfl
    gi_wp2
    refine ⟨trivial, (callsIn_wide.2 (impl_TreeOk.calls k1 A0 c0 D A1 c1 B (ok D B) W HC0.out HL0.out HC1.out HL1.out HK1.out)).mono ?_⟩
    rintro e W2 ⟨rfl, hb⟩
    have HDD2 := Aside0.mk (show W2.heap[DD]? = some (.deferred (some [])) from blk_below HDD.out hb)
    have HR2 := Aside0.mk (HR.out.below hb)
    have HC02 := Aside0.mk (Kd.C_below HC0.out hb)
    have HC12 := Aside0.mk (Kd.C_below HC1.out hb)
    clear hb HR HDD HC0 HC1 t0 t1
    have t0 := (blk_cell HR2.out.t.box 0).trans rfl
    have t1 := (blk_cell HR2.out.t.box 1).trans rfl
    have c0' := (blk_cell HR2.out.b2 0).trans rfl
    have c1' := (blk_cell HR2.out.b2 1).trans rfl
    have c2' := (blk_cell HR2.out.b3 0).trans rfl
    have f0 := blk_frozen HR2.out.b2 0
    have f1 := blk_frozen HR2.out.b2 1
    have f2 := blk_frozen HR2.out.b3 0
    have n23 := blk_ne HR2.out.b2 HR2.out.b3 (by decide)
    have n32 := n23.symm
    cases hokv : ok D B with
    | false =>
      gi_wp2
      refine ⟨trivial, ?_⟩
      gi_wp2
      obtain ⟨s0, s1, s2, s3, s4, s5⟩ := HR2.out.fin HG.out HDD2.out (by omega) (.slice none 0 0) (.slice none 0 0) (.int .i64 7) rfl
      refine ⟨by simp, .inl ⟨_, _, rfl, run_takeDeferred s0, ?_⟩⟩
      refine ⟨_, results_ci rfl _ _ g2 g3 (.agg #[.slice none 0 0, .slice none 0 0]) (.int .i64 7) rfl (run_loadVar_row _ g2 25 25 _ (0, 0) _ s3 Tryz.underlying25 rfl (by kernel_rfl)) rfl ((blk_cell s4 0).trans rfl), ?_⟩
      exact ⟨_, _, 7, rfl, s5, .inr ⟨rfl, rfl, rfl, fun D2 B2 h h2 => by rw [HRM.out] at h; injection h with h; injection h with e1 e2; subst e1; subst e2; rw [hokv] at h2; cases h2⟩⟩
    | true =>
      have HTO := Aside0.mk (HTX.out hokv)
      gi_wp2
      refine ⟨trivial, (callsIn_wide.2 (treeText_at A0 c0 D A1 c1 B _ HC02.out HL0.out HC12.out HL1.out HTO.out.dl HTO.out.bl (textOk_walk HTO.out).1 (textOk_walk HTO.out).2 (HD.out.tab.on HR2.out.bl))).mono ?_⟩
      rintro e W3 ⟨rfl, hb⟩
      have HDD3 := Aside0.mk (show W3.heap[DD]? = some (.deferred (some [])) from blk_below HDD2.out hb)
      have HR3 := Aside0.mk (HR2.out.below hb)
      clear hb HR2 HDD2 HC02 HC12 t0 t1 c0' c1' c2' f0 f1 f2 n23 n32
      have t0 := (blk_cell HR3.out.t.box 0).trans rfl
      have t1 := (blk_cell HR3.out.t.box 1).trans rfl
      have c0' := (blk_cell HR3.out.b2 0).trans rfl
      have c1' := (blk_cell HR3.out.b2 1).trans rfl
      have c2' := (blk_cell HR3.out.b3 0).trans rfl
      have f0 := blk_frozen HR3.out.b2 0
      have f1 := blk_frozen HR3.out.b2 1
      have f2 := blk_frozen HR3.out.b3 0
      have n23 := blk_ne HR3.out.b2 HR3.out.b3 (by decide)
      have n32 := n23.symm
      have etx : (⟨(nodesT D ++ bktsT B).toArray⟩ : ByteArray) = treeB8 D B := rfl
      rw [etx]
      clear etx
      by_cases hts : treeB8 D B = s
      · rw [hts]
        gi_wp2
        obtain ⟨s0, s1, s2, s3, s4, s5⟩ := HR3.out.fin HG.out HDD3.out (by omega) (.slice A0 D.length c0) (.slice A1 B.length c1) (.int .i64 0) rfl
        refine ⟨by simp, .inl ⟨_, _, rfl, run_takeDeferred s0, ?_⟩⟩
        refine ⟨_, results_ci rfl _ _ g2 g3 (.agg #[.slice A0 D.length c0, .slice A1 B.length c1]) (.int .i64 0) rfl (run_loadVar_row _ g2 25 25 _ (0, 0) _ s3 Tryz.underlying25 rfl (by kernel_rfl)) rfl ((blk_cell s4 0).trans rfl), ?_⟩
        exact ⟨_, _, 0, rfl, s5, .inl ⟨D, B, HRM.out, hokv, hts, rfl, s1, s2⟩⟩
      · have hne := str_ne hts
        have hne2 : ((treeB8 D B).toList != s.toList) = true := by rw [bne, hne]; rfl
        obtain ⟨tx, etx⟩ : ∃ tx, treeB8 D B = tx := ⟨_, rfl⟩
        rw [etx] at hne hne2 ⊢
        gi_wp2
        obtain ⟨s0, s1, s2, s3, s4, s5⟩ := HR3.out.fin HG.out HDD3.out (by omega) (.slice none 0 0) (.slice none 0 0) (.int .i64 7) rfl
        refine ⟨by simp, .inl ⟨_, _, rfl, run_takeDeferred s0, ?_⟩⟩
        refine ⟨_, results_ci rfl _ _ g2 g3 (.agg #[.slice none 0 0, .slice none 0 0]) (.int .i64 7) rfl (run_loadVar_row _ g2 25 25 _ (0, 0) _ s3 Tryz.underlying25 rfl (by kernel_rfl)) rfl ((blk_cell s4 0).trans rfl), ?_⟩
        exact ⟨_, _, 7, rfl, s5, .inr ⟨rfl, rfl, rfl, fun D2 B2 h h2 => by rw [HRM.out] at h; injection h with h; injection h with e1 e2; subst e1; subst e2; exact hts⟩⟩
  case stop =>
    rintro DD c W hDg ⟨rfl, hM, hb2, hb3, hbl⟩ hD
    have c0 := (blk_cell hb2 0).trans rfl
    have c1 := (blk_cell hb2 1).trans rfl
    have c2 := (blk_cell hb3 0).trans rfl
    gi_wp2
    have nd : ∀ (j : Nat) (cs : Array Value) (q : Nat), W.heap[j]? = some (.cells cs q (0, 0)) → (W.putObj DD (.deferred none)).heap[j]? = some (.cells cs q (0, 0)) := fun j cs q hj => (World.putObj_heap_other (fun e => by subst e; rw [hD] at hj; cases hj)).trans hj
    refine ⟨by simp, .inl ⟨_, _, rfl, run_takeDeferred hD, ?_⟩⟩
    refine ⟨_, results_ci rfl _ _ g2 g3 (.agg #[.slice none 0 0, .slice none 0 0]) (.int .i64 7) rfl (run_loadVar_row _ g2 25 25 _ (0, 0) _ (nd _ _ _ hb2) Tryz.underlying25 rfl (by kernel_rfl)) rfl ((blk_cell (nd _ _ _ hb3) 0).trans rfl), ?_⟩
    exact ⟨_, _, 7, rfl, hbl.grown (grownBy_putObj' W DD _) (by have := (Array.getElem?_eq_some_iff.1 hD).1; have := hbl.size; omega) (fun j e => by cases e; omega), .inr ⟨rfl, rfl, rfl, fun D B h => by rw [hM] at h; cases h⟩⟩

end Go.Proofs.YtohjpgcmhihdhaaGreatDoorW.PrintMore

namespace Go.Proofs.YtohjpgcmhihdhaaGreatDoor.Pure
open Go.RowKit Go.Proofs.YtohjpgcmhihdhaaGreatDoor.Q Go.Proofs.YtohjpgcmhihdhaaGreatDoorW.PrintWords Go.Proofs.YtohjpgcmhihdhaaGreatDoorW.PrintLast Go.Proofs.YtohjpgcmhihdhaaGreatDoorW.PrintMore
set_option linter.unusedVariables false
set_option linter.unusedSimpArgs false
/-! numerals -/
theorem dig_byte (d : Nat) (h : d < 10) : (UInt8.ofNat (48 + d)).toNat = 48 + d := by
  rw [UInt8.toNat_ofNat']
  omega
theorem digits_all (u : Nat) : ∀ c ∈ Lib.decDigits u, 48 ≤ c.toNat ∧ c.toNat ≤ 57 := by
  induction u using Nat.strongRecOn with
  | _ u ih =>
    intro c hc
    rw [Lib.decDigits] at hc
    split at hc
    · rw [List.mem_singleton] at hc
      rw [hc, dig_byte u (by omega)]
      omega
    · rcases List.mem_append.1 hc with h | h
      · exact ih (u / 10) (by omega) c h
      · rw [List.mem_singleton] at h
        rw [h, dig_byte (u % 10) (by omega)]
        omega
theorem digits_ne (u : Nat) : Lib.decDigits u ≠ [] := by
  rw [Lib.decDigits]
  split <;> simp
theorem parse_digits (u : Nat) (hu : u ≤ 1000000) : ∀ r, Lib.parseUint10 0 (Lib.decDigits u ++ r) = Lib.parseUint10 u r := by
  induction u using Nat.strongRecOn with
  | _ u ih =>
    intro r
    rw [Lib.decDigits]
    split
    · rename_i h
      have hb := dig_byte u h
      simp only [List.singleton_append, Lib.parseUint10]
      rw [hb, if_pos (by omega), if_neg (by omega), if_neg (by omega)]
      congr 1
      omega
    · rename_i h
      have hb := dig_byte (u % 10) (by omega)
      rw [List.append_assoc, ih (u / 10) (by omega) (by omega)]
      simp only [List.singleton_append, Lib.parseUint10]
      rw [hb, if_pos (by omega), if_neg (by omega), if_neg (by omega)]
      congr 1
      omega
theorem parse_itoa (n : Int) (h : Small6 n) : Lib.parseIntB 64 (Lib.itoa n) = .ok n := by
  rw [Lib.parseIntB_64]
  have key : ∀ u : Nat, u ≤ 1000000 → Lib.parseMag (Lib.decDigits u) = .ok u := fun u hu => by
    unfold Lib.parseMag
    rw [if_neg (digits_ne u)]
    have := parse_digits u hu []
    rw [List.append_nil] at this
    rw [this]
    rfl
  unfold Small6 at h
  by_cases c : n < 0
  · obtain ⟨u, rfl⟩ : ∃ u : Nat, n = -(u : Int) := ⟨n.natAbs, by omega⟩
    rw [Lib.itoa_neg u (by omega)]
    unfold Lib.atoiAll
    simp only [show (45 : UInt8).toNat = 45 from rfl, or_true, if_true, key u (by omega)]
    rw [if_neg (by simp), if_neg (by omega)]
  · obtain ⟨u, rfl⟩ := Int.eq_ofNat_of_zero_le (show 0 ≤ n by omega)
    rw [Lib.itoa_nonneg]
    have hd := digits_all u
    have hk := key u (by omega)
    cases hl : Lib.decDigits u with
    | nil => exact absurd hl (digits_ne u)
    | cons b r =>
      have hb := hd b (by rw [hl]; simp)
      rw [hl] at hk
      have n1 : ¬ (b.toNat = 43 ∨ b.toNat = 45) := by omega
      have n2 : ¬ b.toNat = 45 := by omega
      unfold Lib.atoiAll
      simp only [if_neg n1]
      rw [hk]
      simp only [n2, not_false_eq_true, true_and, false_and, if_false]
      rw [if_neg (by omega)]
theorem rdDec_dec (n : Int) (h : Small6 n) : rdDec (decB n) = some n := by
  unfold rdDec
  have e : (decB n).data.toList = Lib.itoa n := by simp [decB]
  rw [e, parse_itoa n h]
  simp
theorem rdNums_dec : ∀ l : List Int, (∀ x ∈ l, Small6 x) → rdNums (l.map decB) = some l
  | [], _ => rfl
  | x :: l, h => by
    show (rdDec (decB x)).bind _ = _
    rw [rdDec_dec x (h x (by simp)), Option.bind_some, rdNums_dec l (fun y hy => h y (by simp [hy]))]
    rfl
/-- a text without a byte -/
def Free (c : UInt8) (s : ByteArray) : Prop := ∀ b ∈ s.data.toList, b ≠ c
theorem free_dec (n : Int) : Free 10 (decB n) ∧ Free 32 (decB n) := by
  have e : (decB n).data.toList = Lib.itoa n := by simp [decB]
  have key : ∀ b ∈ Lib.itoa n, b.toNat = 45 ∨ 48 ≤ b.toNat := fun b hb => by
    unfold Lib.itoa at hb
    split at hb
    · rcases List.mem_cons.1 hb with h | h
      · left; rw [h]; rfl
      · right; exact (digits_all _ b h).1
    · right; exact (digits_all _ b hb).1
  refine ⟨fun b hb he => ?_, fun b hb he => ?_⟩
  · rw [e] at hb
    have := key b hb
    rw [he] at this
    have e2 : (10 : UInt8).toNat = 10 := rfl
    omega
  · rw [e] at hb
    have := key b hb
    rw [he] at this
    have e2 : (32 : UInt8).toNat = 32 := rfl
    omega
theorem free_app {c : UInt8} {a b : ByteArray} (ha : Free c a) (hb : Free c b) : Free c (a ++ b) := fun x hx => by
  rw [ByteArray.data_append, Array.toList_append] at hx
  rcases List.mem_append.1 hx with h | h
  · exact ha x h
  · exact hb x h
/-! where a byte stands -/
theorem index_free (c : UInt8) : ∀ (l r : List UInt8), (∀ b ∈ l, b ≠ c) → Lib.indexByte (l ++ c :: r) c = l.length
  | [], r, _ => by simp [Lib.indexByte]
  | b :: l, r, h => by
    have hb := h b (by simp)
    have ih := index_free c l r (fun x hx => h x (by simp [hx]))
    show (if b == c then 0 else if Lib.indexByte (l ++ c :: r) c == -1 then -1 else Lib.indexByte (l ++ c :: r) c + 1) = _
    rw [ih, if_neg (by simpa using hb), if_neg (by simp), List.length_cons]
    omega
theorem index_none (c : UInt8) : ∀ (l : List UInt8), (∀ b ∈ l, b ≠ c) → Lib.indexByte l c = -1
  | [], _ => rfl
  | b :: l, h => by
    have hb := h b (by simp)
    have ih := index_none c l (fun x hx => h x (by simp [hx]))
    show (if b == c then 0 else if Lib.indexByte l c == -1 then -1 else Lib.indexByte l c + 1) = _
    rw [ih, if_neg (by simpa using hb)]
    rfl
theorem ext_list {a b : ByteArray} (h : a.data.toList = b.data.toList) : a = b := ByteArray.ext (Array.toList_inj.1 h)
theorem list_app (a b : ByteArray) : (a ++ b).data.toList = a.data.toList ++ b.data.toList := by rw [ByteArray.data_append, Array.toList_append]
theorem list_extract (a : ByteArray) (i j : Nat) : (a.extract i j).data.toList = (a.data.toList.take j).drop i := by
  rw [ByteArray.data_extract, Array.toList_extract, List.extract_eq_take_drop, List.drop_take]
/-- a line is cut off -/
theorem cut_line (x r : ByteArray) (h : Free 10 x) : cutL (x ++ ((⟨#[10]⟩ : ByteArray) ++ r)) = (x ++ (⟨#[10]⟩ : ByteArray), r) := by
  have e : (x ++ ((⟨#[10]⟩ : ByteArray) ++ r)).data.toList = x.data.toList ++ 10 :: r.data.toList := by rw [list_app, list_app]; rfl
  have e' : (x ++ ((⟨#[10]⟩ : ByteArray) ++ r)).data.toList = (x.data.toList ++ [10]) ++ r.data.toList := by rw [e]; simp
  have hl : (x.data.toList ++ [10]).length = x.data.toList.length + 1 := by rw [List.length_append]; rfl
  have hi := index_free 10 x.data.toList r.data.toList h
  have hs : (x ++ ((⟨#[10]⟩ : ByteArray) ++ r)).size = x.data.toList.length + 1 + r.size := by
    rw [size_app, size_app]
    have h1 : (⟨#[10]⟩ : ByteArray).size = 1 := rfl
    have h2 : x.data.toList.length = x.size := len_bytes x
    omega
  unfold cutL
  rw [e, hi, if_pos (by omega)]
  refine Prod.ext (ext_list ?_) (ext_list ?_)
  · show ((x ++ _).extract 0 _).data.toList = _
    rw [list_extract, e', list_app, Int.toNat_natCast, List.drop_zero, List.take_left' hl]
  · show ((x ++ _).extract _ _).data.toList = _
    have h2 : r.data.toList.length = r.size := len_bytes r
    rw [list_extract, e', hs, Int.toNat_natCast, List.take_of_length_le (by rw [List.length_append, hl]; omega), List.drop_left' hl]
theorem trim_line (x : ByteArray) : trimNl (x ++ (⟨#[10]⟩ : ByteArray)) = x := by
  apply ext_list
  unfold trimNl Lib.trimSuffix Lib.hasSuffix
  have e : (x ++ (⟨#[10]⟩ : ByteArray)).data.toList = x.data.toList ++ [10] := by rw [list_app]
  rw [e, if_pos (by simp)]
  simp
/-! words -/
theorem sp_list : (⟨#[32]⟩ : ByteArray).data.toList = [32] := rfl
theorem indexB_eq (s : ByteArray) : Lib.indexB s ⟨#[32]⟩ = Lib.indexByte s.data.toList 32 := Lib.index_one _ _
theorem words_one (x : ByteArray) (h : Free 32 x) : wordsB x = [x] := by
  have hi : Lib.indexB x ⟨#[32]⟩ = -1 := by rw [indexB_eq]; exact index_none 32 _ h
  unfold wordsB
  rw [Lib.countB_miss x _ hi]
  rfl
theorem words_cons (x y : ByteArray) (h : Free 32 x) : wordsB (x ++ ((⟨#[32]⟩ : ByteArray) ++ y)) = x :: wordsB y := by
  have e : (x ++ ((⟨#[32]⟩ : ByteArray) ++ y)).data.toList = x.data.toList ++ 32 :: y.data.toList := by rw [list_app, list_app]; rfl
  have e' : (x ++ ((⟨#[32]⟩ : ByteArray) ++ y)).data.toList = (x.data.toList ++ [32]) ++ y.data.toList := by rw [e]; simp
  have hl : (x.data.toList ++ [32]).length = x.size + 1 := by rw [List.length_append, len_bytes]; rfl
  have hi : Lib.indexB (x ++ ((⟨#[32]⟩ : ByteArray) ++ y)) ⟨#[32]⟩ = (x.size : Nat) := by
    rw [indexB_eq, e, index_free 32 _ _ h, len_bytes]
  have h1 : (⟨#[32]⟩ : ByteArray).size = 1 := rfl
  have hs : (x ++ ((⟨#[32]⟩ : ByteArray) ++ y)).size = x.size + 1 + y.size := by rw [size_app, size_app]; omega
  have hx : x.data.toList.length = x.size := len_bytes x
  have hy : y.data.toList.length = y.size := len_bytes y
  have e1 : (x ++ ((⟨#[32]⟩ : ByteArray) ++ y)).extract 0 (x.size + 0) = x := by
    apply ext_list
    rw [list_extract, e, List.drop_zero, List.take_left' (by omega)]
  have e2 : (x ++ ((⟨#[32]⟩ : ByteArray) ++ y)).extract (x.size + 1) (x ++ ((⟨#[32]⟩ : ByteArray) ++ y)).size = y := by
    apply ext_list
    rw [list_extract, e', hs, List.take_of_length_le (by rw [List.length_append, hl]; omega), List.drop_left' hl]
  unfold wordsB
  rw [Lib.countB_hit _ _ x.size (by rw [h1]; omega) hi, h1, e2, Nat.add_comm 1, Lib.splitB_hit _ _ _ _ x.size hi, h1, e1, e2]
theorem words_line : ∀ (l : List Int) (s : ByteArray), Free 32 s → wordsB (lineB s l) = s :: l.map decB
  | [], s, h => words_one s h
  | x :: l, s, h => by
    rw [lineB_cons, ← app_assoc, lineB_app, app_assoc, words_cons s _ h, words_line l (decB x) (free_dec x).2]
    rfl
theorem free_line : ∀ (l : List Int) (s : ByteArray), Free 10 s → Free 10 (lineB s l)
  | [], s, h => h
  | x :: l, s, h => by
    rw [lineB_cons]
    exact free_line l _ (free_app h (free_app (fun b hb => by simp at hb; subst hb; decide) (free_dec x).1))
theorem rdLine_line (s : ByteArray) (l : List Int) (h : Free 32 s) (hl : ∀ x ∈ l, Small6 x) : rdLine (lineB s l) = some (s, l) := by
  unfold rdLine
  rw [words_line l s h, List.tail_cons, rdNums_dec l hl]
  rfl
/-! lines -/
theorem kdW_kwB (k : Int) (h1 : 1 ≤ k) (h3 : k ≤ 3) : kdW (kwB k) = k := by
  have h : k = 1 ∨ k = 2 ∨ k = 3 := by omega
  rcases h with rfl | rfl | rfl <;> rfl
theorem free_kw (k : Int) (c : UInt8) (hc : c = 10 ∨ c = 32) : Free c (kwB k) := by
  unfold kwB
  split
  · intro b hb
    simp at hb
    rcases hc with rfl | rfl <;> rcases hb with rfl | rfl | rfl | rfl <;> decide
  · split
    · intro b hb
      simp at hb
      rcases hc with rfl | rfl <;> rcases hb with rfl | rfl | rfl | rfl <;> decide
    · intro b hb
      simp at hb
      rcases hc with rfl | rfl <;> rcases hb with rfl | rfl | rfl <;> decide
theorem free_node (c : UInt8) (hc : c = 10 ∨ c = 32) : Free c ⟨#[110, 111, 100, 101]⟩ := by
  intro b hb
  simp at hb
  rcases hc with rfl | rfl <;> rcases hb with rfl | rfl | rfl | rfl <;> decide
theorem addM_node (D : List S57) (B : List S49) (x : S57) (h : Small6 x.f0 ∧ Small6 x.f1) : addM D B (lineB ⟨#[110, 111, 100, 101]⟩ [x.f0, x.f1]) = some (D ++ [x], B) := by
  unfold addM
  rw [rdLine_line _ _ (free_node 32 (.inr rfl)) (fun y hy => by
    simp at hy
    rcases hy with rfl | rfl
    · exact h.1
    · exact h.2)]
  rfl
theorem addM_bkt (D : List S57) (B : List S49) (x : S49) (h : BktS x) : addM D B (lineB (kwB x.f1) (x.f0 :: x.f2)) = some (D, B ++ [x]) := by
  unfold addM
  rw [rdLine_line _ _ (free_kw x.f1 32 (.inr rfl)) (fun y hy => by
    rcases List.mem_cons.1 hy with e | e
    · rw [e]; exact h.1
    · exact h.2.2.2 y e), Option.bind_some]
  simp only [kdW_kwB x.f1 h.2.1.1 h.2.1.2]
  rw [if_neg (by have := h.2.1; omega), if_neg (by have := h.2.1; omega)]
theorem read_line (k : Nat) (x r : ByteArray) (D : List S57) (B : List S49) (h : Free 10 x) : readL (k + 1) ((x ++ (⟨#[10]⟩ : ByteArray)) ++ r) D B = (addM D B x).bind fun y => readL k r y.1 y.2 := by
  have e : ∀ s, readL (k + 1) s D B = if s.size = 0 then some (D, B) else (addM D B (trimNl (cutL s).1)).bind fun y => readL k (cutL s).2 y.1 y.2 := fun s => rfl
  have hs : ((x ++ (⟨#[10]⟩ : ByteArray)) ++ r).size = x.size + 1 + r.size := by rw [size_app, size_app]; rfl
  rw [e, if_neg (by omega), app_assoc, cut_line x r h, trim_line]
theorem read_nodes : ∀ (l : List S57), (∀ x ∈ l, Small6 x.f0 ∧ Small6 x.f1) → ∀ (D : List S57) (B : List S49) (rest : ByteArray) (k : Nat), (toB (nodesT l) ++ rest).size ≤ k → ∃ k', rest.size ≤ k' ∧ readL k (toB (nodesT l) ++ rest) D B = readL k' rest (D ++ l) B
  | [], _, D, B, rest, k, hk => by
    have e : toB (nodesT ([] : List S57)) ++ rest = rest := ByteArray.empty_append
    rw [e] at hk ⊢
    exact ⟨k, hk, by rw [List.append_nil]⟩
  | x :: l, h, D, B, rest, k, hk => by
    have hx := h x (by simp)
    have en : nodeLine x = lineB ⟨#[110, 111, 100, 101]⟩ [x.f0, x.f1] ++ (⟨#[10]⟩ : ByteArray) := rfl
    have hf := free_line [x.f0, x.f1] ⟨#[110, 111, 100, 101]⟩ (free_node 10 (.inl rfl))
    rw [nodes_cons, en, app_assoc] at hk ⊢
    have h1 : (⟨#[10]⟩ : ByteArray).size = 1 := rfl
    cases k with
    | zero => rw [size_app, size_app] at hk; omega
    | succ k =>
      obtain ⟨k', h2, h3⟩ := read_nodes l (fun y hy => h y (by simp [hy])) (D ++ [x]) B rest k (by rw [size_app, size_app] at hk; omega)
      refine ⟨k', h2, ?_⟩
      rw [read_line k _ _ D B hf, addM_node D B x hx, Option.bind_some, h3, List.append_assoc]
      rfl
theorem read_bkts : ∀ (l : List S49), (∀ x ∈ l, BktS x) → ∀ (D : List S57) (B : List S49) (rest : ByteArray) (k : Nat), (toB (bktsT l) ++ rest).size ≤ k → ∃ k', rest.size ≤ k' ∧ readL k (toB (bktsT l) ++ rest) D B = readL k' rest D (B ++ l)
  | [], _, D, B, rest, k, hk => by
    have e : toB (bktsT ([] : List S49)) ++ rest = rest := ByteArray.empty_append
    rw [e] at hk ⊢
    exact ⟨k, hk, by rw [List.append_nil]⟩
  | x :: l, h, D, B, rest, k, hk => by
    have hx := h x (by simp)
    have en : bktLine x = lineB (kwB x.f1) (x.f0 :: x.f2) ++ (⟨#[10]⟩ : ByteArray) := rfl
    have hf := free_line (x.f0 :: x.f2) (kwB x.f1) (free_kw x.f1 10 (.inl rfl))
    rw [bkts_cons, en, app_assoc] at hk ⊢
    have h1 : (⟨#[10]⟩ : ByteArray).size = 1 := rfl
    cases k with
    | zero => rw [size_app, size_app] at hk; omega
    | succ k =>
      obtain ⟨k', h2, h3⟩ := read_bkts l (fun y hy => h y (by simp [hy])) D (B ++ [x]) rest k (by rw [size_app, size_app] at hk; omega)
      refine ⟨k', h2, ?_⟩
      rw [read_line k _ _ D B hf, addM_bkt D B x hx, Option.bind_some, h3, List.append_assoc]
      rfl
/-- a topology's text reads as it, and on -/
theorem read_text (D : List S57) (B : List S49) (H : TextOk D B) (rest : ByteArray) : ∃ k', rest.size ≤ k' ∧ readM (treeB8 D B ++ rest) = readL k' rest D B := by
  unfold readM
  rw [treeB8_eq, app_assoc]
  obtain ⟨k1, h1, h2⟩ := read_nodes D H.d [] [] (toB (bktsT B) ++ rest) _ (Nat.le_refl _)
  obtain ⟨k2, h3, h4⟩ := read_bkts B H.b ([] ++ D) [] rest k1 h1
  exact ⟨k2, h3, by rw [h2, h4]; rfl⟩
theorem readM_text (D : List S57) (B : List S49) (H : TextOk D B) : readM (treeB8 D B) = some (D, B) := by
  obtain ⟨k, -, h⟩ := read_text D B H ByteArray.empty
  rw [app_empty] at h
  rw [h, readL_end k _ D B rfl]
theorem readM_more (D : List S57) (B : List S49) (H : TextOk D B) : readM (treeB8 D B ++ (⟨#[10]⟩ : ByteArray)) = none := by
  obtain ⟨k, hk, h⟩ := read_text D B H ⟨#[10]⟩
  have h1 : (⟨#[10]⟩ : ByteArray).size = 1 := rfl
  rw [h]
  cases k with
  | zero => omega
  | succ k =>
    have e : (⟨#[10]⟩ : ByteArray) = (ByteArray.empty ++ (⟨#[10]⟩ : ByteArray)) ++ ByteArray.empty := by rw [app_empty, ByteArray.empty_append]
    rw [e, read_line k ByteArray.empty ByteArray.empty D B (fun b hb => by simp at hb)]
    rfl
/-! what is read are numbers of the machine -/
theorem rdNums_wf : ∀ (l : List ByteArray) (ns : List Int), rdNums l = some ns → ∀ x ∈ ns, In64 x
  | [], ns, h, x, hx => by
    injection h with h
    subst h
    cases hx
  | y :: l, ns, h, x, hx => by
    obtain ⟨v, hv, h⟩ := Option.bind_eq_some_iff.1 h
    obtain ⟨r, hr, rfl⟩ := Option.map_eq_some_iff.1 h
    rcases List.mem_cons.1 hx with rfl | hx
    · unfold rdDec at hv
      split at hv
      · rename_i w hw
        have hb := Lib.parseIntB_bounds hw
        split at hv
        · injection hv with hv
          subst hv
          unfold In64
          omega
        · cases hv
      · cases hv
    · exact rdNums_wf l r hr x hx
theorem wfI_iff (x : Int) : wfI x = true ↔ In64 x := by unfold wfI In64; exact decide_eq_true_iff
theorem wf_iff (D : List S57) (B : List S49) : wfTree D B = true ↔ (∀ x ∈ D, In64 x.f0 ∧ In64 x.f1) ∧ ∀ x ∈ B, In64 x.f0 ∧ In64 x.f1 ∧ ∀ y ∈ x.f2, In64 y := by
  unfold wfTree
  simp only [Bool.and_eq_true, List.all_eq_true, wfI_iff, and_assoc]
theorem kdW_in (s : ByteArray) : In64 (kdW s) := by
  unfold kdW In64
  repeat' split
  all_goals omega
theorem addM_wf {D D' : List S57} {B B' : List S49} {s : ByteArray} (hw : wfTree D B = true) (h : addM D B s = some (D', B')) : wfTree D' B' = true := by
  rw [wf_iff] at hw ⊢
  unfold addM at h
  obtain ⟨⟨w, n⟩, hr, h⟩ := Option.bind_eq_some_iff.1 h
  have hn : ∀ x ∈ n, In64 x := by
    unfold rdLine at hr
    obtain ⟨l, hl, e⟩ := Option.map_eq_some_iff.1 hr
    injection e with e1 e2
    subst e2
    exact rdNums_wf _ _ hl
  cases n with
  | nil => cases h
  | cons a r =>
    simp only at h
    split at h
    · cases h
    · split at h
      · split at h
        · injection h with h
          injection h with h1 h2
          subst h1
          subst h2
          refine ⟨fun x hx => ?_, hw.2⟩
          rcases List.mem_append.1 hx with hx | hx
          · exact hw.1 x hx
          · rw [List.mem_singleton] at hx
            subst hx
            exact ⟨hn _ (by simp), hn _ (by simp)⟩
        · cases h
      · injection h with h
        injection h with h1 h2
        subst h1
        subst h2
        refine ⟨hw.1, fun x hx => ?_⟩
        rcases List.mem_append.1 hx with hx | hx
        · exact hw.2 x hx
        · rw [List.mem_singleton] at hx
          subst hx
          exact ⟨hn _ (by simp), kdW_in w, fun y hy => hn y (by simp [hy])⟩
theorem readL_wf : ∀ (k : Nat) (r : ByteArray) (D : List S57) (B : List S49) (D' : List S57) (B' : List S49), wfTree D B = true → readL k r D B = some (D', B') → wfTree D' B' = true ∧ D'.length + B'.length ≤ D.length + B.length + k
  | 0, r, D, B, D', B', hw, h => by
    injection h with h
    injection h with h1 h2
    subst h1
    subst h2
    exact ⟨hw, Nat.le_refl _⟩
  | k + 1, r, D, B, D', B', hw, h => by
    have e : readL (k + 1) r D B = if r.size = 0 then some (D, B) else (addM D B (trimNl (cutL r).1)).bind fun y => readL k (cutL r).2 y.1 y.2 := rfl
    rw [e] at h
    split at h
    · injection h with h
      injection h with h1 h2
      subst h1
      subst h2
      exact ⟨hw, by omega⟩
    · obtain ⟨⟨D1, B1⟩, h1, h2⟩ := Option.bind_eq_some_iff.1 h
      have h3 := readL_wf k _ D1 B1 D' B' (addM_wf hw h1) h2
      have h4 := addM_len h1
      exact ⟨h3.1, by omega⟩
theorem read_ok (s : ByteArray) (hs : s.size ≤ 1048576) (D : List S57) (B : List S49) (h : readM s = some (D, B)) : ∃ k, impl_TreeOk.f k D B = some (treeOkB D B) ∧ (treeOkB D B = true → TextOk D B) := by
  have hw := readL_wf s.size s [] [] D B (by rw [wf_iff]; simp) h
  simp only [List.length_nil] at hw
  obtain ⟨k, hk⟩ := impl_ok_ev D B (by omega) hw.1
  exact ⟨k, hk k (Nat.le_refl _), fun ho => valid_text (valid_of D B ho)⟩
/-- a valid topology's own text is read -/
theorem read_own {D : List S57} {B : List S49} (ho : treeOkB D B = true) {e : Ending} {w w' : World} (h : ReadOut (treeB8 D B) treeOkB e w w') :
    ∃ u0 u1, e = .returned (.tuple #[.agg #[u0, u1], .int .i64 0]) ∧ Below w.heap.size w w' ∧ Kd.R k57 57 w' w.heap.size (fun _ => True) u0 D ∧ Kd.S kqB 49 w' w.heap.size (fun _ => True) u1 B := by
  have hr := readM_text D B (valid_text (valid_of D B ho))
  obtain ⟨u0, u1, c, rfl, hb, h⟩ := h
  rcases h with ⟨D1, B1, h1, -, -, rfl, h2, h3⟩ | ⟨-, -, -, h4⟩
  · rw [hr] at h1
    injection h1 with h1
    injection h1 with e1 e2
    subst e1
    subst e2
    exact ⟨u0, u1, rfl, hb, h2, h3⟩
  · exact absurd rfl (h4 D B hr ho)
/-- with one line more it is none -/
theorem read_more {D : List S57} {B : List S49} (ho : treeOkB D B = true) {e : Ending} {w w' : World} (h : ReadOut (treeB8 D B ++ (⟨#[10]⟩ : ByteArray)) treeOkB e w w') :
    e = .returned (.tuple #[.agg #[.slice none 0 0, .slice none 0 0], .int .i64 7]) ∧ Below w.heap.size w w' := by
  have hr := readM_more D B (valid_text (valid_of D B ho))
  obtain ⟨u0, u1, c, rfl, hb, h⟩ := h
  rcases h with ⟨D1, B1, h1, -⟩ | ⟨rfl, rfl, rfl, -⟩
  · rw [hr] at h1
    cases h1
  · exact ⟨rfl, hb⟩

end Go.Proofs.YtohjpgcmhihdhaaGreatDoor.Pure

namespace Go.Proofs.YtohjpgcmhihdhaaGreatDoor.Q
open Go.RowKit Go.Proofs.YtohjpgcmhihdhaaGreatDoorW.PrintWords Go.Proofs.YtohjpgcmhihdhaaGreatDoorW.PrintLast Go.Proofs.YtohjpgcmhihdhaaGreatDoorW.PrintMore
attribute [local go_sem] max2_int min2_int max_two min_two max_three min_three max_four min_four   -- for this text's walks alone
set_option linter.unusedVariables false
set_option linter.unusedSimpArgs false
/-! ### spec_l06Cut: function 22 -/
def spec_l06Cut.l0 : Nat → ByteArray → Int → List ByteArray → Int → Int → Option (List ByteArray)
  | 0, _, _, _, _, _ => none
  | k + 1, x0, x1, x5, x6, x7 => if x7 < (x0.size : Int) then (if 0 ≤ x7 then (if (bt x0 x7) = x1 then (if 0 ≤ x6 then (if x6 ≤ x7 then (if x7 ≤ (x0.size : Int) then (if x5.length < 8796093022208 then (spec_l06Cut.l0 k x0 x1 (x5 ++ [x0.extract (x6 : Int).toNat (x7 : Int).toNat]) (wrap64 (x7 + 1)) (wrap64 (x7 + 1))) else (none)) else (none)) else (none)) else (none)) else (spec_l06Cut.l0 k x0 x1 x5 x6 (wrap64 (x7 + 1)))) else (none)) else (if 0 ≤ x6 then (if x6 ≤ (x0.size : Int) then (if x5.length < 8796093022208 then (some (x5 ++ [x0.extract (x6 : Int).toNat x0.size])) else (none)) else (none)) else (none))
def spec_l06Cut.f (k : Nat) (a0 : ByteArray) (a1 : Int) : Option (List ByteArray) := spec_l06Cut.l0 k a0 a1 (([] : List ByteArray)) 0 0
set_option maxHeartbeats 8000000 in
set_option maxRecDepth 100000 in
theorem spec_l06Cut.calls (k : Nat) (a0 : ByteArray) (a1 : Int) (r : List ByteArray) (w : World) (h : spec_l06Cut.f k a0 a1 = some r) :
    Calls Tryz.prog 22 #[.string a0, .int .u8 a1] w fun e w' => ∃ v0_ : Value, e = .returned (v0_) ∧ Kd.R Kd.string 9 w' w.heap.size (fun _ => True) v0_ r ∧ Below w.heap.size w w' := by
  have HB := Aside0.mk (Below.refl w.heap.size w)
  have H : (spec_l06Cut.l0 k a0 a1 (([] : List ByteArray)) 0 0) = some r := h
  clear h
  obtain ⟨y101, hy101⟩ : ∃ y_ : List ByteArray, y_ = (([] : List ByteArray)) := ⟨_, rfl⟩
  replace H : (spec_l06Cut.l0 k a0 a1 y101 0 0) = some r := by first | (rw [hy101]; with_reducible exact H) | (have H2_ := (Option.bind_some _ _).symm.trans H; rw [hy101]; with_reducible exact H2_) | (have H2_ := (Option.bind_some _ _).symm.trans H; with_reducible exact H2_) | with_reducible exact H | (rw [hy101]; exact H) | exact H
  have Ny101 := Aside0.mk hy101
  clear hy101
  have H' := Aside0.mk H
  clear H
  go_enter Tryz.func22, Tryz.ntmps22
  go_wp2_with (first | ((with_reducible refine gate_dst (N := 8) rfl ?_); refine Kd.R_lit Kd.string _ 9 ?hg (N := 8) ?hd (xs := ([] : List ByteArray)) (inner := []) (ok := fun _ => True) (okp := fun _ => True) ?hr ?hp (fun _ hk => hk) trivial (Below.refl _ _) (Nat.le_refl _) (by simp) ?_; (case hd => rfl); (case hg => rfl); (case hr => first | (go_simp; done) | (go_simp; rfl)); (case hp => exact (Reps.none _ _)); intro v102 w3 ho4 hb hg_ hnew_; clear hg_ hnew_; (first | rw [← Ny101.out] at ho4 | (simp only [Int.reduceToNat] at ho4; rw [← Ny101.out] at ho4)); have n0_ := Aside0.mk (Kd.R_lower ho4 (below_size (by repeat first | exact HB.out | apply pw_below_drewN))); have n1_ := Aside0.mk (below_step (by repeat first | exact HB.out | apply pw_below_drewN) hb); clear HB; have HO103 := n0_; have HB := n1_; clear n0_ n1_; clear hb ho4))
  go_loopg [5, 6, 7] k (fun kq v5 v6 v7 w' => ∃ (x5_1 : List ByteArray) (x6_1 : Int) (x7_1 : Int), v6 = .int .i64 x6_1 ∧ v7 = .int .i64 x7_1 ∧ Aside0 (spec_l06Cut.l0 kq a0 a1 x5_1 x6_1 x7_1 = some r) ∧ Aside0 (kq ≤ k) ∧ Aside0 (Kd.R Kd.string 9 w' w.heap.size (fun _ => True) v5 x5_1) ∧ Aside0 (Below w.heap.size w w'))
  case atStart => exact ⟨(y101), (0), (0), (by first | rfl | (simp; done) | (simp [*]; done)), (by first | rfl | (simp; done) | (simp [*]; done)), H', ⟨Nat.le_refl _⟩, ⟨by (with_reducible repeat (first | apply Kd.R_alloc | apply Kd.R_drewN | apply Kd.R_drew)); exact HO103.out⟩, ⟨by repeat first | exact HB.out | apply pw_below_drewN⟩⟩
  case round =>
    clear H'
    try clear c2
    try clear p2
    obtain ⟨x5_1, x6_1, x7_1, rfl, rfl, HA, HK1, HO_5, HB⟩ := hrel
    cases gk with
    | zero => exact absurd HA.out (by simp [spec_l06Cut.l0])
    | succ k1 =>
      have H := HA.out
      clear HA
      simp only [spec_l06Cut.l0] at H
      by_cases c5 : x7_1 < (a0.size : Int)
      · rw [if_pos c5] at H
        have c5b0 : decide (x7_1 < (a0.size : Int)) = true := decide_eq_true c5
        clear c5
        by_cases c6 : 0 ≤ x7_1
        · rw [if_pos c6] at H
          have c6b0 : decide (0 ≤ x7_1) = true := decide_eq_true c6
          clear c6
          by_cases c8 : (bt a0 x7_1) = a1
          · rw [if_pos c8] at H
            have c8b0 : ((bt a0 x7_1) == a1) = true := beq_iff_eq.mpr c8
            have c8b1 : ((bt a0 x7_1) != a1) = false := bne_eq_false_iff_eq.mpr c8
            clear c8
            by_cases c9 : 0 ≤ x6_1
            · rw [if_pos c9] at H
              have c9b0 := eq_true c9
              have c9b1 : decide (0 ≤ x6_1) = true := decide_eq_true c9
              clear c9
              by_cases c10 : x6_1 ≤ x7_1
              · rw [if_pos c10] at H
                have c10b0 := eq_true c10
                have c10b1 : decide (x6_1 ≤ x7_1) = true := decide_eq_true c10
                clear c10
                by_cases c11 : x7_1 ≤ (a0.size : Int)
                · rw [if_pos c11] at H
                  have c11b0 := eq_true c11
                  have c11b1 : decide (x7_1 ≤ (a0.size : Int)) = true := decide_eq_true c11
                  clear c11
                  by_cases c12 : x5_1.length < 8796093022208
                  · rw [if_pos c12] at H
                    have LMc12 := Aside0.mk c12
                    clear c12
                    obtain ⟨y104, hy104⟩ : ∃ y_ : List ByteArray, y_ = (x5_1 ++ [a0.extract (x6_1 : Int).toNat (x7_1 : Int).toNat]) := ⟨_, rfl⟩
                    replace H : (spec_l06Cut.l0 k1 a0 a1 y104 (wrap64 (x7_1 + 1)) (wrap64 (x7_1 + 1))) = some r := by first | (rw [hy104]; with_reducible exact H) | (have H2_ := (Option.bind_some _ _).symm.trans H; rw [hy104]; with_reducible exact H2_) | (have H2_ := (Option.bind_some _ _).symm.trans H; with_reducible exact H2_) | with_reducible exact H | (rw [hy104]; exact H) | exact H
                    have Ny104 := Aside0.mk hy104
                    clear hy104
                    have H' := Aside0.mk H
                    clear H
                    have p7 : 0 ≤ (x7_1 : Int) := of_decide_eq_true (by assumption)
                    have q7 : x7_1 < (a0.size : Int) := of_decide_eq_true (by assumption)
                    have hx7 := bt_at a0 x7_1
                    replace p7 := eq_true p7
                    replace q7 := eq_true q7
                    go_wp2_with (first | ((with_reducible refine gate_builtin (b := .append) (xs := #[.tmp 20, .tmp 25]) rfl ?_); at_builtin; refine Kd.R_append Kd.string (w0 := w) w.heap.size rfl (.tmp 20) (.tmp 25) 44 9 (.string ⟨#[]⟩) 16 rfl Tryz.underlying44 info9 rfl (by decide) (by omega) u5 x5_1 (a0.extract (x6_1 : Int).toNat (x7_1 : Int).toNat) [.string (a0.extract (x6_1 : Int).toNat (x7_1 : Int).toNat)] (fun _ => True) (fun _ => False) rfl rfl ?aP (fun _ hk => hk.elim) ?aF ?aO ?aB ?aS ?aL ?_; (case aP => exact rfl); (case aB => exact (by repeat first | exact HB.out | apply pw_below_drewN)); (case aF => exact (fun _ _ => trivial)); (case aO => exact (by (with_reducible repeat (first | apply Kd.R_alloc | apply Kd.R_drewN | apply Kd.R_drew)); exact HO_5.out)); (case aS => exact (below_size (by repeat first | exact HB.out | apply pw_below_drewN))); (case aL => have := LMc12.out; omega); intro v105 w13 ho hb hg hat; rw [← Ny104.out] at ho; have n0_ := Aside0.mk (hb); have n1_ := Aside0.mk (ho); clear HB; clear HO_5; have HB := n0_; have HO106 := n1_; clear n0_ n1_; clear ho hb hg hat))
                    go_roundg k1
                    case measure => have := HK1.out; omega
                    case rel => exact ⟨(y104), (wrap64 (x7_1 + 1)), (wrap64 (x7_1 + 1)), (by first | rfl | (simp; done) | (simp [*]; done)), (by first | rfl | (simp; done) | (simp [*]; done)), H', ⟨by have := HK1.out; omega⟩, ⟨by (with_reducible repeat (first | apply Kd.R_alloc | apply Kd.R_drewN | apply Kd.R_drew)); exact HO106.out⟩, ⟨by repeat first | exact HB.out | apply pw_below_drewN⟩⟩
                  · rw [if_neg c12] at H
                    exact absurd H (by simp)
                · rw [if_neg c11] at H
                  exact absurd H (by simp)
              · rw [if_neg c10] at H
                exact absurd H (by simp)
            · rw [if_neg c9] at H
              exact absurd H (by simp)
          · rw [if_neg c8] at H
            have c8b0 : ((bt a0 x7_1) == a1) = false := beq_eq_false_iff_ne.mpr c8
            have c8b1 : ((bt a0 x7_1) != a1) = true := bne_iff_ne.mpr c8
            have H' := Aside0.mk H
            clear H
            have p7 : 0 ≤ (x7_1 : Int) := of_decide_eq_true (by assumption)
            have q7 : x7_1 < (a0.size : Int) := of_decide_eq_true (by assumption)
            have hx7 := bt_at a0 x7_1
            replace p7 := eq_true p7
            replace q7 := eq_true q7
            go_wp2
            go_roundg k1
            case measure => have := HK1.out; omega
            case rel => exact ⟨(x5_1), (x6_1), (wrap64 (x7_1 + 1)), (by first | rfl | (simp; done) | (simp [*]; done)), (by first | rfl | (simp; done) | (simp [*]; done)), H', ⟨by have := HK1.out; omega⟩, ⟨by (with_reducible repeat (first | apply Kd.R_alloc | apply Kd.R_drewN | apply Kd.R_drew)); exact HO_5.out⟩, ⟨by repeat first | exact HB.out | apply pw_below_drewN⟩⟩
        · rw [if_neg c6] at H
          exact absurd H (by simp)
      · rw [if_neg c5] at H
        have c5b0 : decide (x7_1 < (a0.size : Int)) = false := decide_eq_false c5
        clear c5
        by_cases c14 : 0 ≤ x6_1
        · rw [if_pos c14] at H
          have c14b0 := eq_true c14
          have c14b1 : decide (0 ≤ x6_1) = true := decide_eq_true c14
          clear c14
          by_cases c15 : x6_1 ≤ (a0.size : Int)
          · rw [if_pos c15] at H
            have c15b0 := eq_true c15
            have c15b1 : decide (x6_1 ≤ (a0.size : Int)) = true := decide_eq_true c15
            clear c15
            by_cases c16 : x5_1.length < 8796093022208
            · rw [if_pos c16] at H
              have LMc16 := Aside0.mk c16
              clear c16
              obtain ⟨y107, hy107⟩ : ∃ y_ : List ByteArray, y_ = (x5_1 ++ [a0.extract (x6_1 : Int).toNat a0.size]) := ⟨_, rfl⟩
              replace H : (some y107) = some r := by first | (rw [hy107]; with_reducible exact H) | (have H2_ := (Option.bind_some _ _).symm.trans H; rw [hy107]; with_reducible exact H2_) | (have H2_ := (Option.bind_some _ _).symm.trans H; with_reducible exact H2_) | with_reducible exact H | (rw [hy107]; exact H) | exact H
              have Ny107 := Aside0.mk hy107
              clear hy107
              obtain rfl := Option.some.inj H
              go_wp2_with (first | ((with_reducible refine gate_builtin (b := .append) (xs := #[.tmp 29, .tmp 33]) rfl ?_); at_builtin; refine Kd.R_append Kd.string (w0 := w) w.heap.size rfl (.tmp 29) (.tmp 33) 44 9 (.string ⟨#[]⟩) 16 rfl Tryz.underlying44 info9 rfl (by decide) (by omega) u5 x5_1 (a0.extract (x6_1 : Int).toNat a0.size) [.string (a0.extract (x6_1 : Int).toNat a0.size)] (fun _ => True) (fun _ => False) rfl rfl ?aP (fun _ hk => hk.elim) ?aF ?aO ?aB ?aS ?aL ?_; (case aP => exact rfl); (case aB => exact (by repeat first | exact HB.out | apply pw_below_drewN)); (case aF => exact (fun _ _ => trivial)); (case aO => exact (by (with_reducible repeat (first | apply Kd.R_alloc | apply Kd.R_drewN | apply Kd.R_drew)); exact HO_5.out)); (case aS => exact (below_size (by repeat first | exact HB.out | apply pw_below_drewN))); (case aL => have := LMc16.out; omega); intro v108 w17 ho hb hg hat; rw [← Ny107.out] at ho; have n0_ := Aside0.mk (hb); have n1_ := Aside0.mk (ho); clear HB; clear HO_5; have HB := n0_; have HO109 := n1_; clear n0_ n1_; clear ho hb hg hat))
              go_ret
              exact ⟨_, by first | rfl | (simp [*, errW_none, errW_some] <;> rfl), by (with_reducible repeat (first | apply Kd.R_alloc | apply Kd.R_drewN | apply Kd.R_drew)); exact HO109.out, by repeat first | exact HB.out | apply pw_below_drewN⟩
            · rw [if_neg c16] at H
              exact absurd H (by simp)
          · rw [if_neg c15] at H
            exact absurd H (by simp)
        · rw [if_neg c14] at H
          exact absurd H (by simp)

/-! ### spec_l06Digits: function 43 -/
def spec_l06Digits.l0 : Nat → ByteArray → Int → Int → Option (Int × Bool)
  | 0, _, _, _ => none
  | k + 1, x0, x4, x5 => if x5 < (x0.size : Int) then (if 0 ≤ x5 then (if (bt x0 x5) ≥ 48 then (if (bt x0 x5) ≤ 57 then (spec_l06Digits.l0 k x0 (wrap64 ((wrap64 ((wrap64 (10 * x4)) + (wrap64 (bt x0 x5)))) - 48)) (wrap64 (x5 + 1))) else (spec_l06Digits.l0 k x0 x4 (wrap64 (x5 + 1)))) else (spec_l06Digits.l0 k x0 x4 (wrap64 (x5 + 1)))) else (none)) else (if (x0.size : Int) > 0 then (if 0 < (x0.size : Int) then (if (bt x0 0) = 45 then ((spec_l06Num.f k (wrap64 (-x4))).bind fun t118 => (some (wrap64 (-x4), (t118.toList == x0.toList)))) else ((spec_l06Num.f k x4).bind fun t119 => (some (x4, (t119.toList == x0.toList))))) else (none)) else ((spec_l06Num.f k x4).bind fun t120 => (some (x4, (t120.toList == x0.toList)))))
def spec_l06Digits.f (k : Nat) (a0 : ByteArray) : Option (Int × Bool) := if (a0.size : Int) > 3 then (some (0, false)) else (spec_l06Digits.l0 k a0 0 0)
set_option maxHeartbeats 8000000 in
set_option maxRecDepth 100000 in
theorem spec_l06Digits.calls (k : Nat) (a0 : ByteArray) (r1 : Int) (r2 : Bool) (w : World) (h : spec_l06Digits.f k a0 = some (r1, r2)) :
    Calls Tryz.prog 43 #[.string a0] w fun e w' => e = .returned (.tuple #[.int .i64 r1, .bool r2]) ∧ Below w.heap.size w w' := by
  have HB := Aside0.mk (Below.refl w.heap.size w)
  have H : (if (a0.size : Int) > 3 then (some (0, false)) else (spec_l06Digits.l0 k a0 0 0)) = some (r1, r2) := h
  clear h
  by_cases c2 : (a0.size : Int) > 3
  · rw [if_pos c2] at H
    have c2b0 : decide (3 < (a0.size : Int)) = true := decide_eq_true c2
    have c2b1 : decide (3 < a0.size) = true := decide_eq_true (by omega)
    clear c2
    simp only [Option.some.injEq, Prod.mk.injEq] at H
    obtain ⟨rfl, rfl⟩ := H
    go_enter Tryz.func43, Tryz.ntmps43
    go_wp2
    go_ret2
    exact ⟨by first | rfl | (simp [*, errW_none, errW_some] <;> rfl), by repeat first | exact HB.out | apply pw_below_drewN⟩
  · rw [if_neg c2] at H
    have c2b0 : decide (3 < (a0.size : Int)) = false := decide_eq_false c2
    have c2b1 : decide (3 < a0.size) = false := decide_eq_false (by omega)
    clear c2
    have H' := Aside0.mk H
    clear H
    go_enter Tryz.func43, Tryz.ntmps43
    go_wp2
    go_loopg [4, 5] k (fun kq v4 v5 w' => ∃ (x4_1 : Int) (x5_1 : Int), v4 = .int .i64 x4_1 ∧ v5 = .int .i64 x5_1 ∧ Aside0 (spec_l06Digits.l0 kq a0 x4_1 x5_1 = some (r1, r2)) ∧ Aside0 (kq ≤ k) ∧ Aside0 (Below w.heap.size w w'))
    case atStart => exact ⟨(0), (0), (by first | rfl | (simp; done) | (simp [*]; done)), (by first | rfl | (simp; done) | (simp [*]; done)), H', ⟨Nat.le_refl _⟩, ⟨by repeat first | exact HB.out | apply pw_below_drewN⟩⟩
    case round =>
      clear H'
      try clear c2
      try clear c2b0
      try clear c2b1
      try clear p2
      obtain ⟨x4_1, x5_1, rfl, rfl, HA, HK1, HB⟩ := hrel
      cases gk with
      | zero => exact absurd HA.out (by simp [spec_l06Digits.l0])
      | succ k1 =>
        have H := HA.out
        clear HA
        simp only [spec_l06Digits.l0] at H
        by_cases c3 : x5_1 < (a0.size : Int)
        · rw [if_pos c3] at H
          have c3b0 : decide (x5_1 < (a0.size : Int)) = true := decide_eq_true c3
          clear c3
          by_cases c4 : 0 ≤ x5_1
          · rw [if_pos c4] at H
            have c4b0 : decide (0 ≤ x5_1) = true := decide_eq_true c4
            clear c4
            by_cases c6 : (bt a0 x5_1) ≥ 48
            · rw [if_pos c6] at H
              have c6b0 : decide (48 ≤ (bt a0 x5_1)) = true := decide_eq_true c6
              clear c6
              by_cases c8 : (bt a0 x5_1) ≤ 57
              · rw [if_pos c8] at H
                have c8b0 : decide ((bt a0 x5_1) ≤ 57) = true := decide_eq_true c8
                clear c8
                have H' := Aside0.mk H
                clear H
                have p5 : 0 ≤ (x5_1 : Int) := of_decide_eq_true (by assumption)
                have q5 : x5_1 < (a0.size : Int) := of_decide_eq_true (by assumption)
                have hx5 := bt_at a0 x5_1
                replace p5 := eq_true p5
                replace q5 := eq_true q5
                have p7 : 0 ≤ (x5_1 : Int) := of_decide_eq_true (by assumption)
                have q7 : x5_1 < (a0.size : Int) := of_decide_eq_true (by assumption)
                have hx7 := bt_at a0 x5_1
                replace p7 := eq_true p7
                replace q7 := eq_true q7
                have p9 : 0 ≤ (x5_1 : Int) := of_decide_eq_true (by assumption)
                have q9 : x5_1 < (a0.size : Int) := of_decide_eq_true (by assumption)
                have hx9 := bt_at a0 x5_1
                replace p9 := eq_true p9
                replace q9 := eq_true q9
                go_wp2
                go_roundg k1
                case measure => have := HK1.out; omega
                case rel => exact ⟨(wrap64 ((wrap64 ((wrap64 (10 * x4_1)) + (wrap64 (bt a0 x5_1)))) - 48)), (wrap64 (x5_1 + 1)), (by first | rfl | (simp; done) | (simp [*]; done)), (by first | rfl | (simp; done) | (simp [*]; done)), H', ⟨by have := HK1.out; omega⟩, ⟨by repeat first | exact HB.out | apply pw_below_drewN⟩⟩
              · rw [if_neg c8] at H
                have c8b0 : decide ((bt a0 x5_1) ≤ 57) = false := decide_eq_false c8
                clear c8
                have H' := Aside0.mk H
                clear H
                have p5 : 0 ≤ (x5_1 : Int) := of_decide_eq_true (by assumption)
                have q5 : x5_1 < (a0.size : Int) := of_decide_eq_true (by assumption)
                have hx5 := bt_at a0 x5_1
                replace p5 := eq_true p5
                replace q5 := eq_true q5
                have p7 : 0 ≤ (x5_1 : Int) := of_decide_eq_true (by assumption)
                have q7 : x5_1 < (a0.size : Int) := of_decide_eq_true (by assumption)
                have hx7 := bt_at a0 x5_1
                replace p7 := eq_true p7
                replace q7 := eq_true q7
                go_wp2
                go_roundg k1
                case measure => have := HK1.out; omega
                case rel => exact ⟨(x4_1), (wrap64 (x5_1 + 1)), (by first | rfl | (simp; done) | (simp [*]; done)), (by first | rfl | (simp; done) | (simp [*]; done)), H', ⟨by have := HK1.out; omega⟩, ⟨by repeat first | exact HB.out | apply pw_below_drewN⟩⟩
            · rw [if_neg c6] at H
              have c6b0 : decide (48 ≤ (bt a0 x5_1)) = false := decide_eq_false c6
              clear c6
              have H' := Aside0.mk H
              clear H
              have p5 : 0 ≤ (x5_1 : Int) := of_decide_eq_true (by assumption)
              have q5 : x5_1 < (a0.size : Int) := of_decide_eq_true (by assumption)
              have hx5 := bt_at a0 x5_1
              replace p5 := eq_true p5
              replace q5 := eq_true q5
              go_wp2
              go_roundg k1
              case measure => have := HK1.out; omega
              case rel => exact ⟨(x4_1), (wrap64 (x5_1 + 1)), (by first | rfl | (simp; done) | (simp [*]; done)), (by first | rfl | (simp; done) | (simp [*]; done)), H', ⟨by have := HK1.out; omega⟩, ⟨by repeat first | exact HB.out | apply pw_below_drewN⟩⟩
          · rw [if_neg c4] at H
            exact absurd H (by simp)
        · rw [if_neg c3] at H
          have c3b0 : decide (x5_1 < (a0.size : Int)) = false := decide_eq_false c3
          clear c3
          by_cases c10 : (a0.size : Int) > 0
          · rw [if_pos c10] at H
            have c10b0 : decide (0 < (a0.size : Int)) = true := decide_eq_true c10
            have c10b1 : decide (0 < a0.size) = true := decide_eq_true (by omega)
            clear c10
            by_cases c11 : 0 < (a0.size : Int)
            · rw [if_pos c11] at H
              have c11b0 : decide (0 < (a0.size : Int)) = true := decide_eq_true c11
              have c11b1 : decide (0 < a0.size) = true := decide_eq_true (by omega)
              clear c11
              by_cases c13 : (bt a0 0) = 45
              · rw [if_pos c13] at H
                have c13b0 : ((bt a0 0) == 45) = true := beq_iff_eq.mpr c13
                have c13b1 : ((bt a0 0) != 45) = false := bne_eq_false_iff_eq.mpr c13
                clear c13
                replace H := Option.bind_eq_some_iff.mp H
                obtain ⟨t118, A140, H⟩ := H
                set_option simprocs false in try dsimp only at H
                have A14 := Aside0.mk A140
                clear A140
                simp only [Option.some.injEq, Prod.mk.injEq] at H
                obtain ⟨rfl, rfl⟩ := H
                have p12 : 0 ≤ (0 : Int) := (by omega)
                have q12 : 0 < a0.size := (by have : (0 : Int) < (a0.size : Int) := of_decide_eq_true (by assumption); omega)
                have hx12 : ∀ h : 0 < a0.size, ((a0[0]'h).toNat : Int) = bt a0 0 := bt_at a0 0
                clear p12
                have qi12 : (0 < (a0.size : Int)) = True := eq_true (of_decide_eq_true (by assumption))
                replace q12 := eq_true q12
                go_wp2_with (first | ((with_reducible refine gate_callee (f := 48) rfl ?_); refine goesL_ (some 45) rfl rfl Tryz.func48 (by kernel_rfl) rfl #[.int .i64 (wrap64 (-x4_1))] rfl (by (try simp only [List.map_toArray, List.map_cons, List.map_nil]); first | done | rfl) ?_; (with_reducible refine (spec_l06Num.calls k1 (wrap64 (-x4_1)) t118 _ A14.out).mono ?_); rintro e w15 ⟨rfl, hb⟩; refine ⟨_, rfl, ?_⟩; have n0_ := Aside0.mk (below_step (by repeat first | exact HB.out | apply pw_below_drewN) hb); clear HB; have HB := n0_; clear n0_; (try clear hb); (try clear hb2); (try clear hk); (try clear hi)))
                go_ret2
                exact ⟨by first | rfl | (simp [*, errW_none, errW_some] <;> rfl), by repeat first | exact HB.out | apply pw_below_drewN⟩
              · rw [if_neg c13] at H
                have c13b0 : ((bt a0 0) == 45) = false := beq_eq_false_iff_ne.mpr c13
                have c13b1 : ((bt a0 0) != 45) = true := bne_iff_ne.mpr c13
                replace H := Option.bind_eq_some_iff.mp H
                obtain ⟨t119, A160, H⟩ := H
                set_option simprocs false in try dsimp only at H
                have A16 := Aside0.mk A160
                clear A160
                simp only [Option.some.injEq, Prod.mk.injEq] at H
                obtain ⟨rfl, rfl⟩ := H
                have p12 : 0 ≤ (0 : Int) := (by omega)
                have q12 : 0 < a0.size := (by have : (0 : Int) < (a0.size : Int) := of_decide_eq_true (by assumption); omega)
                have hx12 : ∀ h : 0 < a0.size, ((a0[0]'h).toNat : Int) = bt a0 0 := bt_at a0 0
                clear p12
                have qi12 : (0 < (a0.size : Int)) = True := eq_true (of_decide_eq_true (by assumption))
                replace q12 := eq_true q12
                go_wp2_with (first | ((with_reducible refine gate_callee (f := 48) rfl ?_); refine goesL_ (some 45) rfl rfl Tryz.func48 (by kernel_rfl) rfl #[.int .i64 x4_1] rfl (by (try simp only [List.map_toArray, List.map_cons, List.map_nil]); first | done | rfl) ?_; (with_reducible refine (spec_l06Num.calls k1 x4_1 t119 _ A16.out).mono ?_); rintro e w17 ⟨rfl, hb⟩; refine ⟨_, rfl, ?_⟩; have n0_ := Aside0.mk (below_step (by repeat first | exact HB.out | apply pw_below_drewN) hb); clear HB; have HB := n0_; clear n0_; (try clear hb); (try clear hb2); (try clear hk); (try clear hi)))
                go_ret2
                exact ⟨by first | rfl | (simp [*, errW_none, errW_some] <;> rfl), by repeat first | exact HB.out | apply pw_below_drewN⟩
            · rw [if_neg c11] at H
              exact absurd H (by simp)
          · rw [if_neg c10] at H
            have c10b0 : decide (0 < (a0.size : Int)) = false := decide_eq_false c10
            have c10b1 : decide (0 < a0.size) = false := decide_eq_false (by omega)
            clear c10
            replace H := Option.bind_eq_some_iff.mp H
            obtain ⟨t120, A180, H⟩ := H
            set_option simprocs false in try dsimp only at H
            have A18 := Aside0.mk A180
            clear A180
            simp only [Option.some.injEq, Prod.mk.injEq] at H
            obtain ⟨rfl, rfl⟩ := H
            go_wp2_with (first | ((with_reducible refine gate_callee (f := 48) rfl ?_); refine goesL_ (some 45) rfl rfl Tryz.func48 (by kernel_rfl) rfl #[.int .i64 x4_1] rfl (by (try simp only [List.map_toArray, List.map_cons, List.map_nil]); first | done | rfl) ?_; (with_reducible refine (spec_l06Num.calls k1 x4_1 t120 _ A18.out).mono ?_); rintro e w19 ⟨rfl, hb⟩; refine ⟨_, rfl, ?_⟩; have n0_ := Aside0.mk (below_step (by repeat first | exact HB.out | apply pw_below_drewN) hb); clear HB; have HB := n0_; clear n0_; (try clear hb); (try clear hb2); (try clear hk); (try clear hi)))
            go_ret2
            exact ⟨by first | rfl | (simp [*, errW_none, errW_some] <;> rfl), by repeat first | exact HB.out | apply pw_below_drewN⟩

end Go.Proofs.YtohjpgcmhihdhaaGreatDoor.Q

namespace Go.Proofs.YtohjpgcmhihdhaaGreatDoor.Pure
open Go.RowKit Go.Proofs.YtohjpgcmhihdhaaGreatDoor.Q Go.Proofs.YtohjpgcmhihdhaaGreatDoorW.PrintWords Go.Proofs.YtohjpgcmhihdhaaGreatDoorW.PrintLast Go.Proofs.YtohjpgcmhihdhaaGreatDoorW.PrintMore
set_option linter.unusedVariables false
set_option linter.unusedSimpArgs false
/-! pieces -/
def cutS (c : UInt8) : List UInt8 → List UInt8 → List (List UInt8)
  | cur, [] => [cur]
  | cur, b :: t => if b = c then cur :: cutS c [] t else cutS c (cur ++ [b]) t
/-- a text cut at a byte -/
def cutB (c : UInt8) (s : ByteArray) : List ByteArray := (cutS c [] s.data.toList).map toB
theorem cutS_free (c : UInt8) : ∀ (l cur : List UInt8), (∀ b ∈ l, b ≠ c) → cutS c cur l = [cur ++ l]
  | [], cur, _ => by simp [cutS]
  | b :: l, cur, h => by
    rw [cutS, if_neg (h b (by simp)), cutS_free c l (cur ++ [b]) (fun x hx => h x (by simp [hx]))]
    simp
theorem cutS_hit (c : UInt8) : ∀ (l cur r : List UInt8), (∀ b ∈ l, b ≠ c) → cutS c cur (l ++ c :: r) = (cur ++ l) :: cutS c [] r
  | [], cur, r, _ => by simp [cutS]
  | b :: l, cur, r, h => by
    rw [List.cons_append, cutS, if_neg (h b (by simp)), cutS_hit c l (cur ++ [b]) r (fun x hx => h x (by simp [hx]))]
    simp
theorem cutB_one {c : UInt8} {x : ByteArray} (h : Free c x) : cutB c x = [x] := by
  unfold cutB
  rw [cutS_free c _ [] h]
  simp [toB_bytes]
theorem cutB_cons {c : UInt8} {x : ByteArray} (y : ByteArray) (h : Free c x) : cutB c (x ++ ((⟨#[c]⟩ : ByteArray) ++ y)) = x :: cutB c y := by
  unfold cutB
  have e : (x ++ ((⟨#[c]⟩ : ByteArray) ++ y)).data.toList = x.data.toList ++ c :: y.data.toList := by rw [list_app, list_app]; rfl
  rw [e, cutS_hit c _ [] _ h]
  simp [toB_bytes]
theorem cutB_line : ∀ (l : List Int) (s : ByteArray), Free 32 s → cutB 32 (lineB s l) = s :: l.map decB
  | [], s, h => cutB_one h
  | x :: l, s, h => by
    rw [lineB_cons, ← app_assoc, lineB_app, app_assoc, cutB_cons _ h, cutB_line l (decB x) (free_dec x).2]
    rfl
theorem cutS_len (c : UInt8) : ∀ (l cur : List UInt8), (cutS c cur l).length ≤ l.length + 1
  | [], cur => by simp [cutS]
  | b :: l, cur => by
    unfold cutS
    split
    · have := cutS_len c l []
      simp only [List.length_cons]
      omega
    · have := cutS_len c l (cur ++ [b])
      simp only [List.length_cons]
      omega
theorem cutS_cons (c : UInt8) (l cur : List UInt8) : ∃ a r, cutS c cur l = a :: r := by
  induction l generalizing cur with
  | nil => exact ⟨_, _, rfl⟩
  | cons b l ih =>
    unfold cutS
    split
    · exact ⟨_, _, rfl⟩
    · exact ih _
theorem cutB_ne (c : UInt8) (s : ByteArray) : ∃ a r, cutB c s = a :: r := by
  obtain ⟨a, r, h⟩ := cutS_cons c s.data.toList []
  exact ⟨toB a, r.map toB, by unfold cutB; rw [h]; rfl⟩
theorem cutB_len (c : UInt8) (s : ByteArray) : (cutB c s).length ≤ s.size + 1 := by
  have h := cutS_len c s.data.toList []
  rw [len_bytes] at h
  unfold cutB
  rw [List.length_map]
  exact h
theorem cutS_sizes (c : UInt8) : ∀ (l cur : List UInt8), ∀ x ∈ cutS c cur l, x.length ≤ cur.length + l.length
  | [], cur, x, hx => by
    simp [cutS] at hx
    subst hx
    simp
  | b :: l, cur, x, hx => by
    unfold cutS at hx
    split at hx
    · rcases List.mem_cons.1 hx with rfl | h
      · omega
      · have := cutS_sizes c l [] x h
        simp only [List.length_nil, List.length_cons] at this ⊢
        omega
    · have := cutS_sizes c l (cur ++ [b]) x hx
      simp only [List.length_append, List.length_cons, List.length_nil] at this ⊢
      omega
theorem cutB_sizes (c : UInt8) (s x : ByteArray) (h : x ∈ cutB c s) : x.size ≤ s.size := by
  unfold cutB at h
  obtain ⟨y, hy, rfl⟩ := List.mem_map.1 h
  have := cutS_sizes c _ _ y hy
  rw [len_bytes, List.length_nil] at this
  have e : (toB y).size = y.length := by simp [toB, ByteArray.size]
  omega
theorem bt_list (s : ByteArray) (i : Nat) (h : i < s.data.toList.length) : bt s i = (s.data.toList[i].toNat : Int) := by
  have hs : i < s.size := by rw [← len_bytes]; exact h
  unfold bt
  rw [dif_pos (by simpa using hs)]
  rfl
theorem cut_loop (s : ByteArray) (c : UInt8) (hs : s.size ≤ 4194304) : ∀ (d i f : Nat) (acc : List ByteArray), i + d = s.size → f ≤ i → acc.length ≤ i → Ev (fun k => spec_l06Cut.l0 k s (c.toNat : Int) acc f i) (acc ++ (cutS c ((s.data.toList.take i).drop f) (s.data.toList.drop i)).map toB)
  | 0, i, f, acc, hi, hf, ha => by
    have hl := len_bytes s
    have e : s.extract ((f : Nat) : Int).toNat s.size = toB ((s.data.toList.take i).drop f) := by
      obtain rfl : i = s.size := by omega
      apply ext_list
      rw [list_extract, Int.toNat_natCast]
      simp [toB]
    refine ev_end (fun k => ?_)
    simp only [spec_l06Cut.l0]
    have e3 : s.data.toList.drop i = [] := List.drop_eq_nil_of_le (by omega)
    rw [if_neg (by omega), if_pos (by omega), if_pos (by omega), if_pos (by omega), e, e3]
    simp [cutS]
  | d + 1, i, f, acc, hi, hf, ha => by
    have hl := len_bytes s
    have hil : i < s.data.toList.length := by omega
    have e : s.extract ((f : Nat) : Int).toNat ((i : Nat) : Int).toNat = toB ((s.data.toList.take i).drop f) := by
      apply ext_list
      rw [list_extract, Int.toNat_natCast, Int.toNat_natCast]
      simp [toB]
    have ew : wrap64 ((i : Int) + 1) = ((i + 1 : Nat) : Int) := by unfold wrap64; omega
    by_cases cb : s.data.toList[i] = c
    · have ih := cut_loop s c hs d (i + 1) (i + 1) (acc ++ [toB ((s.data.toList.take i).drop f)]) (by omega) (by omega) (by simp; omega)
      rw [List.drop_eq_getElem_cons hil, cutS, if_pos cb]
      have e3 : (s.data.toList.take (i + 1)).drop (i + 1) = [] := List.drop_eq_nil_of_le (by rw [List.length_take]; omega)
      rw [e3, List.append_assoc] at ih
      refine Ev.step (fun k => ?_) ih
      simp only [spec_l06Cut.l0]
      rw [if_pos (by omega), if_pos (by omega), if_pos (by rw [bt_list s i hil, cb]), if_pos (by omega), if_pos (by omega), if_pos (by omega), if_pos (by omega), e, ew]
    · have ih := cut_loop s c hs d (i + 1) f acc (by omega) (by omega) (by omega)
      rw [List.drop_eq_getElem_cons hil, cutS, if_neg cb]
      have e2 : (s.data.toList.take (i + 1)).drop f = (s.data.toList.take i).drop f ++ [s.data.toList[i]] := by
        rw [List.take_succ_eq_append_getElem hil, List.drop_append_of_le_length (by rw [List.length_take]; omega)]
      rw [e2] at ih
      refine Ev.step (fun k => ?_) ih
      simp only [spec_l06Cut.l0]
      rw [if_pos (by omega), if_pos (by omega), if_neg (by
        rw [bt_list s i hil]
        intro h
        exact cb (UInt8.toNat_inj.1 (by omega))), ew]
theorem cut_ev (s : ByteArray) (c : UInt8) (hs : s.size ≤ 4194304) : Ev (fun k => spec_l06Cut.f k s (c.toNat : Int)) (cutB c s) := by
  have h := cut_loop s c hs s.size 0 0 [] (by omega) (Nat.le_refl _) (Nat.zero_le _)
  have e : ([] : List ByteArray) ++ (cutS c ((s.data.toList.take 0).drop 0) (s.data.toList.drop 0)).map toB = cutB c s := by simp [cutB]
  rw [e] at h
  exact h
/-! numbers -/
def valS : Int → List UInt8 → Int
  | n, [] => n
  | n, b :: t => valS (if 48 ≤ b.toNat ∧ b.toNat ≤ 57 then 10 * n + b.toNat - 48 else n) t
/-- a word's number, its sign with it -/
def sgnS (x : ByteArray) : Int := if 0 < x.size ∧ bt x 0 = 45 then -valS 0 x.data.toList else valS 0 x.data.toList
def dgS (x : ByteArray) : Int × Bool := if 3 < x.size then (0, false) else (sgnS x, decide (decB (sgnS x) = x))
theorem eqB (a b : ByteArray) : (a.toList == b.toList) = decide (a = b) := by
  by_cases h : a = b
  · subst h
    simp
  · rw [str_ne h]
    simp [h]
theorem dig_loop (x : ByteArray) (hx : x.size ≤ 3) : ∀ (d i : Nat) (n : Int), i + d = x.size → 0 ≤ n → n < 10 ^ i → sgnS x = (if 0 < x.size ∧ bt x 0 = 45 then -valS n (x.data.toList.drop i) else valS n (x.data.toList.drop i)) → Ev (fun k => spec_l06Digits.l0 k x n i) (sgnS x, decide (decB (sgnS x) = x))
  | 0, i, n, hi, h0, h1, hs => by
    have hl := len_bytes x
    rw [List.drop_eq_nil_of_le (by omega)] at hs
    have HS := Aside0.mk hs
    clear hs
    have hn : n < 1000 := by
      have : i = 0 ∨ i = 1 ∨ i = 2 ∨ i = 3 := by omega
      rcases this with rfl | rfl | rfl | rfl <;> omega
    have ew : wrap64 (-n) = -n := by unfold wrap64; omega
    have hnn : -1000000 ≤ -n ∧ -n ≤ 1000000 ∧ -1000000 ≤ n ∧ n ≤ 1000000 := by omega
    have hi0 : ¬ (i : Int) < (x.size : Int) := by omega
    have hs := HS.out
    clear HS h0 h1 hn
    by_cases c0 : 0 < x.size
    · have z0 : (0 : Int) < (x.size : Int) := by omega
      by_cases c1 : bt x 0 = 45
      · rw [if_pos ⟨c0, c1⟩] at hs
        have hs : sgnS x = -n := hs
        rw [hs]
        refine Ev.step (f := ?zf1) (fun k => ?_) ?_
        rotate_left
        · simp only [spec_l06Digits.l0]
          rw [if_neg hi0, if_pos z0, if_pos z0, if_pos c1, ew]
        · refine Ev.bind (num_ev (-n) hnn.1 hnn.2.1) ?_
          rw [eqB]
          exact Ev.now _
      · rw [if_neg (fun h => c1 h.2)] at hs
        have hs : sgnS x = n := hs
        rw [hs]
        refine Ev.step (f := ?zf2) (fun k => ?_) ?_
        rotate_left
        · simp only [spec_l06Digits.l0]
          rw [if_neg hi0, if_pos z0, if_pos z0, if_neg c1]
        · refine Ev.bind (num_ev n hnn.2.2.1 hnn.2.2.2) ?_
          rw [eqB]
          exact Ev.now _
    · rw [if_neg (fun h => c0 h.1)] at hs
      have hs : sgnS x = n := hs
      rw [hs]
      refine Ev.step (f := ?zf3) (fun k => ?_) ?_
      rotate_left
      · simp only [spec_l06Digits.l0]
        rw [if_neg hi0, if_neg (show ¬ (0 : Int) < (x.size : Int) by omega)]
      · refine Ev.bind (num_ev n hnn.2.2.1 hnn.2.2.2) ?_
        rw [eqB]
        exact Ev.now _
  | d + 1, i, n, hi, h0, h1, hs => by
    have hl := len_bytes x
    have hil : i < x.data.toList.length := by omega
    have hb := bt_list x i hil
    have ew : wrap64 ((i : Int) + 1) = ((i + 1 : Nat) : Int) := by unfold wrap64; omega
    have hn : n < 1000 ∧ (10 * n + 9 < 10 ^ (i + 1)) ∧ n < 10 ^ (i + 1) := by
      clear hs hb
      have : i = 0 ∨ i = 1 ∨ i = 2 := by omega
      rcases this with rfl | rfl | rfl <;> omega
    rw [List.drop_eq_getElem_cons hil] at hs
    simp only [valS] at hs
    have HS := Aside0.mk hs
    clear hs
    have HB := Aside0.mk hb
    obtain ⟨q, hq⟩ : ∃ q : Nat, x.data.toList[i].toNat = q := ⟨_, rfl⟩
    rw [hq] at HS HB
    have hlt : (i : Int) < (x.size : Int) := by omega
    have hge : (0 : Int) ≤ (i : Int) := by omega
    clear hb hq
    by_cases c : 48 ≤ q ∧ q ≤ 57
    · have hs := HS.out
      rw [if_pos c] at hs
      have HS2 := Aside0.mk hs
      clear hs HS
      have g1 : (q : Int) ≥ 48 := by omega
      have g2 : (q : Int) ≤ 57 := by omega
      have g3 : wrap64 ((wrap64 ((wrap64 (10 * n)) + (wrap64 ((q : Nat) : Int)))) - 48) = 10 * n + (q : Int) - 48 := by unfold wrap64; omega
      have ih := dig_loop x hx d (i + 1) (10 * n + q - 48) (by omega) (by omega) (by omega) HS2.out
      refine Ev.step (fun k => ?_) ih
      simp only [spec_l06Digits.l0]
      rw [if_pos hlt, if_pos hge, HB.out, if_pos g1, if_pos g2, ew, g3]
    · have hs := HS.out
      rw [if_neg c] at hs
      have HS2 := Aside0.mk hs
      clear hs HS
      have ih := dig_loop x hx d (i + 1) n (by omega) h0 hn.2.2 HS2.out
      refine Ev.step (fun k => ?_) ih
      simp only [spec_l06Digits.l0]
      rw [if_pos hlt, if_pos hge, HB.out]
      by_cases c1 : (q : Int) ≥ 48
      · rw [if_pos c1, if_neg (by omega), ew]
      · rw [if_neg c1, ew]
theorem dig_ev (x : ByteArray) : Ev (fun k => spec_l06Digits.f k x) (dgS x) := by
  unfold dgS
  by_cases c : 3 < x.size
  · rw [if_pos c]
    refine ev_some (fun k => ?_)
    unfold spec_l06Digits.f
    rw [if_pos (by omega)]
  · rw [if_neg c]
    refine Ev.congr (f := fun k => spec_l06Digits.l0 k x 0 0) (fun k => ?_) (dig_loop x (by omega) x.size 0 0 (by omega) (by omega) (by omega) (by simp [sgnS]))
    unfold spec_l06Digits.f
    rw [if_neg (by omega)]
theorem valS_dec (u : Nat) (h : u < 100) : (Lib.decDigits u).length ≤ 2 ∧ ∀ b t, Lib.decDigits u = b :: t → valS 0 (Lib.decDigits u) = u := by
  rw [Lib.decDigits]
  split
  · rename_i c
    have hb := dig_byte u c
    refine ⟨by simp, fun _ _ _ => ?_⟩
    simp only [valS]
    rw [hb, if_pos (by omega)]
    omega
  · rename_i c
    have hb1 := dig_byte (u / 10) (by omega)
    have hb2 := dig_byte (u % 10) (by omega)
    rw [Lib.decDigits, dif_pos (by omega)]
    refine ⟨by simp, fun _ _ _ => ?_⟩
    simp only [List.cons_append, List.nil_append, valS]
    rw [hb1, hb2, if_pos (by omega), if_pos (by omega)]
    omega
/-- a small number's own numeral reads as it -/
theorem dgS_dec (n : Int) (h : -99 ≤ n ∧ n ≤ 99) : dgS (decB n) = (n, true) := by
  have key : (decB n).size ≤ 3 ∧ sgnS (decB n) = n := by
    have hd : (decB n).data.toList = Lib.itoa n := by simp [decB]
    have hl := len_bytes (decB n)
    by_cases c : n < 0
    · obtain ⟨u, rfl⟩ : ∃ u : Nat, n = -(u : Int) := ⟨n.natAbs, by omega⟩
      rw [Lib.itoa_neg u (by omega)] at hd
      obtain ⟨h2, h3⟩ := valS_dec u (by omega)
      obtain ⟨b, t, hbt⟩ : ∃ b t, Lib.decDigits u = b :: t := by
        cases hh : Lib.decDigits u with
        | nil => exact absurd hh (digits_ne u)
        | cons b t => exact ⟨b, t, rfl⟩
      have hv := h3 b t hbt
      rw [hd, List.length_cons] at hl
      have hb0 : bt (decB (-(u : Int))) 0 = 45 := by
        have := bt_list (decB (-(u : Int))) 0 (by rw [hd, List.length_cons]; omega)
        rw [show ((0 : Nat) : Int) = 0 from rfl] at this
        rw [this]
        simp [hd]
      refine ⟨by omega, ?_⟩
      unfold sgnS
      rw [if_pos ⟨by omega, hb0⟩, hd]
      simp only [valS]
      rw [if_neg (show ¬ (48 ≤ (45 : UInt8).toNat ∧ (45 : UInt8).toNat ≤ 57) by decide), hv]
    · obtain ⟨u, rfl⟩ := Int.eq_ofNat_of_zero_le (show 0 ≤ n by omega)
      rw [Lib.itoa_nonneg] at hd
      obtain ⟨h2, h3⟩ := valS_dec u (by omega)
      obtain ⟨b, t, hbt⟩ : ∃ b t, Lib.decDigits u = b :: t := by
        cases hh : Lib.decDigits u with
        | nil => exact absurd hh (digits_ne u)
        | cons b t => exact ⟨b, t, rfl⟩
      have hv := h3 b t hbt
      rw [hd] at hl
      have hb0 : ¬ bt (decB (u : Int)) 0 = 45 := by
        have := bt_list (decB (u : Int)) 0 (by rw [hd, hbt, List.length_cons]; omega)
        rw [show ((0 : Nat) : Int) = 0 from rfl] at this
        rw [this]
        have h5 := digits_all u b (by rw [hbt]; simp)
        simp only [hd, hbt, List.getElem_cons_zero]
        omega
      refine ⟨by omega, ?_⟩
      unfold sgnS
      rw [if_neg (fun h => hb0 h.2), hd, hv]
  unfold dgS
  rw [if_neg (by omega), key.2]
  simp

/-- words read as numbers -/
def spN : List ByteArray → Option (List Int)
  | [] => some []
  | x :: r => if (dgS x).2 = true then (spN r).map ((dgS x).1 :: ·) else none
def addX (D : List S57) (B : List S49) (w0 : ByteArray) (n : List Int) : Option (List S57 × List S49) := match n with
  | [] => none
  | a :: r => if kdW w0 < 0 then none else if kdW w0 = 0 then (match r with | [b] => some (D ++ [⟨a, b⟩], B) | _ => none) else some (D, B ++ [⟨a, kdW w0, r⟩])
/-- a line's words added to what was read so far -/
def spLine (D : List S57) (B : List S49) : List ByteArray → Option (List S57 × List S49)
  | [] => none
  | w0 :: ws => (spN ws).bind (addX D B w0)
theorem spN_here (acc : List Int) (x : ByteArray) (r : List ByteArray) : (spN (x :: r)).map (acc ++ ·) = if (dgS x).2 = true then (spN r).map ((acc ++ [(dgS x).1]) ++ ·) else none := by
  rw [spN]
  split
  · rw [Option.map_map]
    congr 1
    funext l
    simp
  · rfl
def nmB (j : Nat) : ByteArray := if j = 0 then ⟨#[104, 111, 115, 116]⟩ else if j = 1 then ⟨#[114, 97, 99, 107]⟩ else ⟨#[114, 111, 111, 116]⟩
theorem nm_cell (j : Nat) (h : j < 3) : (#[.string ⟨#[104, 111, 115, 116]⟩, .string ⟨#[114, 97, 99, 107]⟩, .string ⟨#[114, 111, 111, 116]⟩] : Array Value)[j]? = some (.string (nmB j)) := by
  have : j = 0 ∨ j = 1 ∨ j = 2 := by omega
  rcases this with rfl | rfl | rfl <;> rfl
theorem nm_kd (j : Nat) (h : j < 3) : kdW (nmB j) = (j : Int) + 1 := by
  have : j = 0 ∨ j = 1 ∨ j = 2 := by omega
  rcases this with rfl | rfl | rfl <;> rfl
theorem addX_none {D : List S57} {B : List S49} {w0 : ByteArray} {acc : List Int} (h1 : ¬ (w0 = ⟨#[110, 111, 100, 101]⟩ ∧ acc.length = 2)) (h2 : ∀ j, j < 3 → ¬ (w0 = nmB j ∧ 0 < acc.length)) : addX D B w0 acc = none := by
  cases acc with
  | nil => rfl
  | cons a r =>
    have k0 : ¬ w0 = ⟨#[104, 111, 115, 116]⟩ := fun h => h2 0 (by omega) ⟨h, by simp⟩
    have k1 : ¬ w0 = ⟨#[114, 97, 99, 107]⟩ := fun h => h2 1 (by omega) ⟨h, by simp⟩
    have k2 : ¬ w0 = ⟨#[114, 111, 111, 116]⟩ := fun h => h2 2 (by omega) ⟨h, by simp⟩
    unfold addX
    by_cases c : w0 = ⟨#[110, 111, 100, 101]⟩
    · have e : kdW w0 = 0 := by unfold kdW; rw [if_pos c]
      simp only [e]
      match r with
      | [] => rfl
      | [b] => exact absurd ⟨c, rfl⟩ h1
      | b :: b2 :: r2 => rfl
    · have e : kdW w0 = -1 := by
        unfold kdW
        rw [if_neg c, if_neg k0, if_neg k1, if_neg k2]
      simp only [e]
      rfl
theorem results_ct {fn : Func} {p p' : Tmp} {ty : TypeId} (h : fn.results = #[.cell p ty, .tmp p']) (tmps : Array Value) (w : World) (g : Nat) (u v : Value)
    (hp : tmps.getD p undef = .pointer (some ⟨g, 0, none⟩)) (hu : (loadVar ty ⟨g, 0, none⟩).run Tryz.prog w = .ok u w) (hv : tmps.getD p' undef = v) :
    (results fn tmps).run Tryz.prog w = .ok (.tuple #[u, v]) w := by
  have h1 : tmps[p]?.getD undef = .pointer (some ⟨g, 0, none⟩) := by simpa using hp
  have h2 : tmps[p']?.getD undef = v := by simpa using hv
  simp [results, h, h1, h2, asAddr, hu]
def SpOut (base : Nat) (v0 v1 : Value) (D : List S57) (B : List S49) (W : List ByteArray) (e : Ending) (w w' : World) : Prop :=
  ∃ u0 u1, e = .returned (.tuple #[.agg #[u0, u1], .bool (spLine D B W).isSome]) ∧ (∃ A n c, u0 = .slice A n c) ∧ (∃ A n c, u1 = .slice A n c) ∧ (∀ D' B', spLine D B W = some (D', B') → Kd.R k57 57 w' base (fun _ => True) u0 D' ∧ Kd.S kqB 49 w' base (fun _ => True) u1 B') ∧ Below base w w' ∧ Kept w w' (fun k => v0.ownBlock = some k ∨ v1.ownBlock = some k)
set_option maxHeartbeats 8000000 in
set_option maxRecDepth 100000 in
theorem spLine_at (base : Nat) (v0 v1 : Value) (D : List S57) (B : List S49) (Aw : Option Addr) (cw : Nat) (w0 : ByteArray) (ws : List ByteArray) (w : World) (hT0 : Kd.R k57 57 w base (fun _ => True) v0 D) (hT1 : Kd.S kqB 49 w base (fun _ => True) v1 B) (hW : Kd.C Kd.string w Aw (w0 :: ws).length (w0 :: ws)) (hcw : (w0 :: ws).length ≤ cw) (hb : base ≤ w.heap.size) (hd : D.length ≤ 2097152) (hbl : B.length ≤ 2097152) (hwl : ws.length ≤ 2097152) :
    Calls Tryz.prog 23 #[.agg #[v0, v1], .slice Aw (w0 :: ws).length cw] w fun e w' => SpOut base v0 v1 D B (w0 :: ws) e w w' := by
  have HD := Aside0.mk hT0
  have HBK := Aside0.mk hT1
  have HW := Aside0.mk hW
  have HCW := Aside0.mk hcw
  have HBS := Aside0.mk hb
  have HDL := Aside0.mk hd
  have HBL := Aside0.mk hbl
  have HWL := Aside0.mk hwl
  have HM := Aside0.mk (show spLine D B (w0 :: ws) = (spN ws).bind (addX D B w0) from rfl)
  clear hT0 hT1 hW hcw hb hd hbl hwl
  obtain ⟨A0, c0, e0⟩ := Kd.R_slice HD.out
  obtain ⟨A1, c1, e1⟩ := Kd.S_slice HBK.out
  subst e0 e1
  go_enter Tryz.func23, Tryz.ntmps23
  go_wp2_with (first | ((with_reducible refine gate_dst (N := 11) rfl ?_); refine Kd.R_lit (Kd.int .i64) _ 2 ?hg (N := 11) ?hd (xs := ([] : List Int)) (inner := []) (ok := fun _ => True) (okp := fun _ => True) ?hr ?hp (fun _ hk => hk) trivial (Below.refl _ _) (Nat.le_refl _) (by simp) ?_; (case hd => rfl); (case hg => rfl); (case hr => first | (go_simp; done) | (go_simp; rfl)); (case hp => exact (Reps.none _ _)); intro v6 w2 ho2 hb2 hg_ hnew_; clear hg_ hnew_))
  have hB1 := below_alloc (below_alloc (Below.refl w.heap.size w) (.cells #[(.slice A0 D.length c0), (.slice A1 B.length c1)] 25)) (.cells #[.slice none 0 0, .slice none 0 0] 25)
  have HB := Aside0.mk (below_step hB1 hb2)
  have BT := Aside0.mk (blk_below (blk_alloc (blk_new w (.cells #[(.slice A0 D.length c0), (.slice A1 B.length c1)] 25)) (.cells #[.slice none 0 0, .slice none 0 0] 25)) hb2)
  have BR := Aside0.mk (show w2.heap[w.heap.size + 1]? = some (.cells #[.slice none 0 0, .slice none 0 0] 25 (0, 0)) from by
    have h := blk_new (w.alloc (.cells #[(.slice A0 D.length c0), (.slice A1 B.length c1)] 25)) (.cells #[.slice none 0 0, .slice none 0 0] 25)
    have h2 := blk_below h hb2
    rw [World.size_alloc] at h2
    exact h2)
  have HN := Aside0.mk (Kd.R_lower ho2 (below_size hB1))
  clear ho2 hb2 hB1
  have HGT := Aside0.mk (show w.heap.size ≤ w.heap.size ∧ w.heap.size ≤ w.heap.size + 1 from ⟨Nat.le_refl _, by omega⟩)
  obtain ⟨gt, egt⟩ : ∃ g, g = w.heap.size := ⟨_, rfl⟩
  obtain ⟨gr, egr⟩ : ∃ g, g = w.heap.size + 1 := ⟨_, rfl⟩
  obtain ⟨ad, ea, -⟩ := Kd.at_string HW.out 0 (by omega) (by simp)
  subst ea
  rw [← egr]
  rw [← egr] at BR
  have HE := Aside0.mk egr
  clear egr
  rw [← egt] at BT ⊢
  have HET := Aside0.mk egt
  clear egt
  go_loopg [6, 7] ws.length (fun gg v6 v7 wr => ∃ (kk : Nat) (i : Int) (acc : List Int), kk ≤ ws.length ∧ (ws.length : Int) - kk ≤ gg ∧ v7 = .int .i64 i ∧ Aside0 (i = (kk : Int) + 1) ∧ Aside0 (acc.length = kk) ∧ Aside0 ((spN (ws.drop kk)).map (acc ++ ·) = spN ws) ∧ Aside0 (Below w.heap.size w wr) ∧ Aside0 (wr.heap[gt]? = some (.cells #[(.slice A0 D.length c0), (.slice A1 B.length c1)] 25 (0, 0))) ∧ Aside0 (wr.heap[gr]? = some (.cells #[.slice none 0 0, .slice none 0 0] 25 (0, 0))) ∧ Aside0 ((Kd.int .i64).R 2 wr w.heap.size (fun _ => True) v6 acc))
  case atStart => exact ⟨0, 1, [], by omega, by omega, rfl, ⟨by omega⟩, ⟨rfl⟩, ⟨by simp⟩, HB, BT, BR, HN⟩
  case round =>
    clear HB BT BR HN
    obtain ⟨kk, i, acc, hk, hg, rfl, HI, HA, HE, HB, BT, BR, HN⟩ := hrel
    have hC := Kd.C_below HW.out HB.out
    by_cases hlt : kk < ws.length
    · have q0 : (0 : Int) ≤ i := by have := HI.out; omega
      have q1 : i < ((ws.length + 1 : Nat) : Int) := by have := HI.out; omega
      obtain ⟨ad2, ea2, hx⟩ := Kd.at_string hC i q0 q1
      cases ea2
      have ex : rdOf ByteArray.empty (w0 :: ws) i = ws[kk] := by
        unfold rdOf
        rw [show i.toNat = kk + 1 from by have := HI.out; omega, List.getD_eq_getElem?_getD, List.getElem?_cons_succ, List.getElem?_eq_getElem hlt]
        rfl
      rw [ex] at hx
      have HN1 := Aside0.mk (show (if (dgS ws[kk]).2 = true then (spN (ws.drop (kk + 1))).map ((acc ++ [(dgS ws[kk]).1]) ++ ·) else none) = spN ws from by rw [← HE.out, List.drop_eq_getElem_cons hlt, spN_here])
      clear HE ex hC
      generalize ws[kk] = x at hx HN1
      obtain ⟨k2, hk2⟩ := (dig_ev x).rounds
      replace q0 := eq_true q0
      replace q1 := eq_true q1
      have q2 : (i < (ws.length : Int) + 1) = True := q1
      go_wp2_with fail
      refine (spec_l06Digits.calls k2 x (dgS x).1 (dgS x).2 wr hk2).mono ?_
      rintro e w3 ⟨rfl, hb⟩
      have HB2 := Aside0.mk (below_step HB.out hb)
      have BT2 := Aside0.mk (blk_below BT.out hb)
      have BR2 := Aside0.mk (blk_below BR.out hb)
      have HO2 := Aside0.mk (Kd.R_below HN.out hb)
      clear hb HB BT BR HN hx
      generalize (dgS x).1 = nn at HN1 ⊢
      cases hd : (dgS x).2 with
      | false =>
        rw [hd, if_neg (by simp)] at HN1
        have HF := Aside0.mk (show spLine D B (w0 :: ws) = none from by rw [HM.out, ← HN1.out]; rfl)
        have hc0 := (blk_cell BT2.out 0).trans rfl
        have hc1 := (blk_cell BT2.out 1).trans rfl
        have hr0 := (blk_cell BR2.out 0).trans rfl
        have hr1 := (blk_cell BR2.out 1).trans rfl
        have hf0 := blk_frozen BR2.out 0
        have hf1 := blk_frozen BR2.out 1
        go_wp2_with fail
        have HBX := Aside0.mk ((HB2.out.setCell (p := ⟨gr, 0, none⟩) (by have := HE.out; show w.heap.size ≤ gr; omega) (.slice A0 D.length c0)).setCell (p := ⟨gr, 1, none⟩) (by have := HE.out; show w.heap.size ≤ gr; omega) (.slice A1 B.length c1))
        have HR3 := blk_put (blk_put BR2.out 0 (.slice A0 D.length c0) rfl) 1 (.slice A1 B.length c1) rfl
        (try simp only [Exit.inBlock, Exit.then])
        refine bodyPost_ret (results_ct rfl _ _ gr (.agg #[.slice A0 D.length c0, .slice A1 B.length c1]) (.bool false) rfl (run_loadVar_row _ gr 25 25 _ (0, 0) _ HR3 Tryz.underlying25 rfl (by kernel_rfl)) rfl) rfl ?_
        exact ⟨_, _, by rw [HF.out]; rfl, ⟨_, _, _, rfl⟩, ⟨_, _, _, rfl⟩, (fun D' B' h => by rw [HF.out] at h; cases h), HBX.out.mono HBS.out, Kept.of_below HBX.out _⟩
      | true =>
        rw [hd, if_pos rfl] at HN1
        go_wp2_with (first | ((with_reducible refine gate_builtin (b := .append) (xs := #[.tmp 29, .tmp 31]) rfl ?_); at_builtin; refine Kd.R_append (Kd.int .i64) (w0 := w) w.heap.size rfl (.tmp 29) (.tmp 31) 47 2 (.int .i64 0) 8 rfl Tryz.underlying47 info2 rfl (by decide) (by omega) _ acc nn [.int .i64 nn] (fun _ => True) (fun _ => False) rfl rfl ?aP (fun _ hk => hk.elim) ?aF ?aO ?aB ?aS ?aL ?_; (case aP => exact string_mk _ _ _ nn); (case aB => exact HB2.out); (case aF => exact (fun _ _ => trivial)); (case aO => exact HO2.out); (case aS => exact below_size HB2.out); (case aL => have := HA.out; have := HWL.out; omega); intro v3 w4 ho3 hb3 hg3 hat3; have HO3 := Aside0.mk ho3; have HB3 := Aside0.mk hb3; have BT3 := Aside0.mk (hg3.block _ (blk_lt BT2.out) (Kd.R_ne HO2.out BT2.out (by decide)) |>.trans BT2.out); have BR3 := Aside0.mk (hg3.block _ (blk_lt BR2.out) (Kd.R_ne HO2.out BR2.out (by decide)) |>.trans BR2.out); clear ho3 hb3 hg3 hat3))
        go_roundg (gk - 1)
        case measure => omega
        case rel => exact ⟨kk + 1, i + 1, acc ++ [nn], by omega, by omega, by rw [show wrap64 (i + 1) = i + 1 from by have := HI.out; have := HWL.out; unfold wrap64; omega], ⟨by have := HI.out; omega⟩, ⟨by rw [List.length_append, HA.out]; rfl⟩, HN1, HB3, BT3, BR3, HO3⟩
    · obtain rfl : kk = ws.length := by omega
      have HS := Aside0.mk (show spLine D B (w0 :: ws) = addX D B w0 acc from by
        have h := HE.out
        rw [List.drop_length] at h
        rw [HM.out, ← h]
        simp [spN])
      have q2 : (i < (ws.length : Int) + 1) = False := eq_false (by have := HI.out; omega)
      obtain ⟨ad2, ea2, hx⟩ := Kd.at_string hC 0 (by omega) (by simp)
      cases ea2
      have hx0 : wr.cell? ad = some (.string w0) := hx
      have HX := Aside0.mk hx0
      clear hx hC HE hg hlt HM
      obtain ⟨A6, c6, e6⟩ := Kd.R_slice HN.out
      subst e6
      have z1 : (0 : Int) < (ws.length : Int) + 1 := by omega
      have HS2 := Aside0.mk (below_size HB.out)
      have HNE := Aside0.mk (show gr ≠ gt by have := HE.out; have := HET.out; omega)
      have HGG := Aside0.mk (show base ≤ gt ∧ base ≤ gr ∧ w.heap.size ≤ gt ∧ w.heap.size ≤ gr by have := HE.out; have := HET.out; have := HBS.out; omega)
      by_cases hnode : w0 = ⟨#[110, 111, 100, 101]⟩ ∧ acc.length = 2
      · obtain ⟨hnode, l2⟩ := hnode
        have cN : (w0.toList == (⟨#[110, 111, 100, 101]⟩ : ByteArray).toList) = true := by rw [hnode]; simp
        obtain ⟨a, b, rfl⟩ : ∃ a b, acc = [a, b] := by
          match acc, l2 with
          | [a, b], _ => exact ⟨a, b, rfl⟩
        have HF := Aside0.mk (show spLine D B (w0 :: ws) = some (D ++ [⟨a, b⟩], B) from by rw [HS.out, hnode]; rfl)
        simp only [List.length_cons, List.length_nil]
        clear l2 HS
        obtain ⟨gn, cn, en, hgn⟩ := Kd.R_form HN.out (by simp)
        injection en with en1 en2 en3
        subst en1
        have HN0 := Aside0.mk (show wr.drew.cell? ⟨gn, 0, none⟩ = some (.int .i64 a) from (Kd.R_cell (0 : Int) HN.out 0 (by omega) (by simp)).1)
        have HN1 := Aside0.mk (show wr.drew.cell? ⟨gn, 1, none⟩ = some (.int .i64 b) from (Kd.R_cell (0 : Int) HN.out 1 (by omega) (by simp)).1)
        have HT4 := Aside0.mk (show TreeAt base wr.drew gt (.slice A0 D.length c0) (.slice A1 B.length c1) D B from (TreeAt.mk BT.out (Kd.R_below HD.out HB.out) (Kd.S_below HBK.out HB.out) : TreeAt base wr gt (.slice A0 D.length c0) (.slice A1 B.length c1) D B).below (below_drew1 (Below.refl _ _)))
        have HP4 := Aside0.mk (show Kept w wr.drew (fun k => Value.ownBlock (.slice A0 D.length c0) = some k ∨ Value.ownBlock (.slice A1 B.length c1) = some k) from (Kept.of_below HB.out _).drew)
        have HW4 := Aside0.mk (show Below base w wr.drew from below_drew1 (HB.out.mono HBS.out))
        have HS4 := Aside0.mk (show base ≤ wr.drew.heap.size from Nat.le_trans HBS.out (below_size (below_drew1 HB.out)))
        have BR4 := Aside0.mk (blk_below BR.out (below_drew1 (Below.refl _ _)))
        clear hgn en2
        go_wp2_with fail
        clear hx0
        refine start_ (n := 13) (S := fun w' => w'.cell? ⟨gt, 0, none⟩ = some (Value.slice A0 D.length c0) ∧ w'.cell? ⟨gn, 0, none⟩ = some (.int .i64 a) ∧ w'.cell? ⟨gn, 1, none⟩ = some (.int .i64 b)) (ds := [10, 12]) #[false, false, false, false, false, false, false, false, false, false, false, false, false] (by kernel_rfl) rfl rfl ⟨(blk_cell HT4.out.box 0).trans rfl, HN0.out, HN1.out⟩ (fun hHeld => ?_)
        refine pure_ (i := 0) (N := some 42) (v := ?_) (a' := ?_) #[true, false, false, false, false, false, false, false, false, false, false, false, false] rfl rfl (by kernel_rfl) (fun _ _ _ h => h) (Or.inl ⟨by rfl, ?_⟩) ?_ ?_
        rotate_left
        · intro w'
          go_simp
          with_reducible rfl
        rotate_left
        · simp only [Act.put, List.setIfInBounds_toArray, List.set_cons_zero, List.set_cons_succ, i64_w, i32_w]
          rfl
        refine pure_ (i := 2) (N := some 44) (v := ?_) (a' := ?_) #[true, false, true, false, false, false, false, false, false, false, false, false, false] rfl rfl (by kernel_rfl) (fun _ _ _ h => h) (Or.inl ⟨by rfl, ?_⟩) ?_ ?_
        rotate_left
        · intro w'
          go_simp
          with_reducible rfl
        rotate_left
        · simp only [Act.put, List.setIfInBounds_toArray, List.set_cons_zero, List.set_cons_succ, i64_w, i32_w]
          rfl
        refine pure_ (i := 3) (N := some 45) (v := ?_) (a' := ?_) #[true, false, true, true, false, false, false, false, false, false, false, false, false] rfl rfl (by kernel_rfl) (fun _ _ _ h => h) (Or.inl ⟨by rfl, ?_⟩) ?_ ?_
        rotate_left
        · intro w'
          go_simp
          with_reducible rfl
        rotate_left
        · simp only [Act.put, List.setIfInBounds_toArray, List.set_cons_zero, List.set_cons_succ, i64_w, i32_w]
          rfl
        refine pure_ (i := 5) (N := some 47) (v := ?_) (a' := ?_) #[true, false, true, true, false, true, false, false, false, false, false, false, false] rfl rfl (by kernel_rfl) (fun _ _ _ h => h) (Or.inl ⟨by rfl, ?_⟩) ?_ ?_
        rotate_left
        · intro w'
          go_simp
          with_reducible rfl
        rotate_left
        · simp only [Act.put, List.setIfInBounds_toArray, List.set_cons_zero, List.set_cons_succ, i64_w, i32_w]
          rfl
        refine pure_ (i := 6) (N := some 48) (v := ?_) (a' := ?_) #[true, false, true, true, false, true, true, false, false, false, false, false, false] rfl rfl (by kernel_rfl) (fun _ _ _ h => h) (Or.inl ⟨by rfl, ?_⟩) ?_ ?_
        rotate_left
        · intro w'
          go_simp
          with_reducible rfl
        rotate_left
        · simp only [Act.put, List.setIfInBounds_toArray, List.set_cons_zero, List.set_cons_succ, i64_w, i32_w]
          rfl
        refine take_ (i := 1) (N := some 43) (v := ?_) (a' := ?_) #[true, true, true, true, false, true, true, false, false, false, false, false, false] rfl rfl (by kernel_rfl) (fun _ _ _ h => h) (Or.inl ⟨by rfl, ?_⟩) hHeld ?_ ?_
        rotate_left
        · rintro w' ⟨s0, s1, s2⟩
          go_simp
          with_reducible rfl
        rotate_left
        · simp only [Act.put, List.setIfInBounds_toArray, List.set_cons_zero, List.set_cons_succ, i64_w, i32_w]
          rfl
        refine take_ (i := 4) (N := some 46) (v := ?_) (a' := ?_) #[true, true, true, true, true, true, true, false, false, false, false, false, false] rfl rfl (by kernel_rfl) (fun _ _ _ h => h) (Or.inl ⟨by rfl, ?_⟩) hHeld ?_ ?_
        rotate_left
        · rintro w' ⟨s0, s1, s2⟩
          go_simp
          with_reducible rfl
        rotate_left
        · simp only [Act.put, List.setIfInBounds_toArray, List.set_cons_zero, List.set_cons_succ, i64_w, i32_w]
          rfl
        refine take_ (i := 7) (N := some 49) (v := ?_) (a' := ?_) #[true, true, true, true, true, true, true, true, false, false, false, false, false] rfl rfl (by kernel_rfl) (fun _ _ _ h => h) (Or.inl ⟨by rfl, ?_⟩) hHeld ?_ ?_
        rotate_left
        · rintro w' ⟨s0, s1, s2⟩
          go_simp
          with_reducible rfl
        rotate_left
        · simp only [Act.put, List.setIfInBounds_toArray, List.set_cons_zero, List.set_cons_succ, i64_w, i32_w]
          rfl
        refine pure_ (i := 8) (N := some 50) (v := ?_) (a' := ?_) #[true, true, true, true, true, true, true, true, true, false, false, false, false] rfl rfl (by kernel_rfl) (fun _ _ _ h => h) (Or.inl ⟨by rfl, ?_⟩) ?_ ?_
        rotate_left
        · intro w'
          go_simp
          with_reducible rfl
        rotate_left
        · simp only [Act.put, List.setIfInBounds_toArray, List.set_cons_zero, List.set_cons_succ, i64_w, i32_w]
          rfl
        refine one_ (i := 9) (N := some 51) #[true, true, true, true, true, true, true, true, true, true, false, false, false] rfl rfl (by kernel_rfl) (by decide) (fun K hK => ?_)
        generalize wr.drew = wd at HT4 HN0 HN1 HP4 HW4 HS4 BR4 hHeld ⊢
        refine value_ (w1 := ?_) (v := ?_) (by rfl) rfl ?_ ?_
        rotate_left 2
        · go_simp
          constructor
          · rfl
          · rfl
        refine hK.out _ _ ⟨(blk_cell (blk_alloc HT4.out.box _) 0).trans rfl, ((below_alloc (Below.refl wd.heap.size wd) _).cell (World.block_lt_of_cell? wd _ HN0.out)).trans HN0.out, ((below_alloc (Below.refl wd.heap.size wd) _).cell (World.block_lt_of_cell? wd _ HN1.out)).trans HN1.out⟩ (fun hHeld => ?_)
        clear hK K
        refine norm_ (a' := ?_) ?_ ?_
        rotate_left
        · show Act.put _ (some 51) _ = _
          simp only [Act.put, List.setIfInBounds_toArray, List.set_cons_zero, List.set_cons_succ, i64_w, i32_w]
          rfl
        refine last_ (i := 10) (N := some 52) #[true, true, true, true, true, true, true, true, true, true, true, false, false] rfl rfl (by kernel_rfl) (by decide) (fun K hK => ?_)
        refine Kd.R_append_step k57 (w0 := wd) base (by rfl) (.tmp 43) (.tmp 51) 22 57 (.agg #[(.int .i64 0), (.int .i64 0)]) 16 rfl Tryz.underlying22 info57 rfl (by decide) (by omega) (.slice A0 D.length c0) D (⟨a, b⟩ : S57) [.int .i64 a, .int .i64 b] (fun _ => True) (fun _ => False) rfl rfl ?aP (fun _ hk => hk.elim) ?aF ?aO ?aB ?aS ?aL ?_
        (case aP => exact k57_mkM _ _ _ (⟨a, b⟩ : S57))
        (case aF => exact (fun _ _ => trivial))
        (case aO => exact HT4.out.d)
        (case aB => exact Below.refl _ _)
        (case aS => exact HS4.out)
        (case aL => have := HDL.out; omega)
        intro v6 w6 ho hb hg6 hat
        have n1 := Aside0.mk (blk_grown HT4.out.box hg6 (Kd.R_ne HT4.out.d HT4.out.box (by decide)))
        have n2 := Aside0.mk (Kd.S_over' HT4.out.b (Kd.R_typed HT4.out.d) (by decide) hg6)
        have n3 := Aside0.mk ho
        have n4 := Aside0.mk (HW4.out.trans hb)
        have n5 := Aside0.mk (Kept.of_grown hg6 HP4.out (fun k e => .inl (.inl e)))
        have n6 := Aside0.mk (blk_grown BR4.out hg6 (Kd.R_ne HT4.out.d BR4.out (by decide)))
        clear ho hb hg6 hat
        obtain ⟨Ao, co, eo⟩ := Kd.R_slice n3.out
        rw [List.length_append, List.length_singleton] at eo
        subst eo
        refine hK.out _ _ ?_
        clear hK K
        refine norm_ (a' := ?_) ?_ ?_
        rotate_left
        · show Act.put _ (some 52) _ = _
          simp only [Act.put, List.setIfInBounds_toArray, List.set_cons_zero, List.set_cons_succ, i64_w, i32_w]
          rfl
        refine pure_ (i := 11) (N := some 53) (v := ?_) (a' := ?_) #[true, true, true, true, true, true, true, true, true, true, true, true, false] rfl rfl (by kernel_rfl) (fun _ _ _ h => h) (Or.inl ⟨by rfl, ?_⟩) ?_ ?_
        rotate_left
        · intro w'
          go_simp
          with_reducible rfl
        rotate_left
        · simp only [Act.put, List.setIfInBounds_toArray, List.set_cons_zero, List.set_cons_succ, i64_w, i32_w]
          rfl
        refine last_ (i := 12) (N := none) #[true, true, true, true, true, true, true, true, true, true, true, true, true] rfl rfl (by kernel_rfl) (by decide) (fun K hK => ?_)
        have hs7 := (blk_cell n1.out 0).trans rfl
        have hf7 := blk_frozen n1.out 0
        refine skip_ (w1 := ?_) (by rfl) rfl ?_ ?_
        rotate_left
        · go_simp
          rfl
        refine hK.out _ _ ?_
        clear hK K
        refine done_ (by kernel_rfl) ?_
        have BT5 := Aside0.mk (blk_put n1.out 0 (.slice Ao (D.length + 1) co) rfl)
        have BR5 := Aside0.mk (blk_far n6.out (p := ⟨gt, 0, none⟩) HNE.out (.slice Ao (D.length + 1) co))
        have ht0 := (blk_cell BT5.out 0).trans rfl
        have ht1 := (blk_cell BT5.out 1).trans rfl
        have hr0 := (blk_cell BR5.out 0).trans rfl
        have hr1 := (blk_cell BR5.out 1).trans rfl
        have hf0 := blk_frozen BR5.out 0
        have hf1 := blk_frozen BR5.out 1
        go_wp2_with fail
        have HR3 := blk_put (blk_put BR5.out 0 (.slice Ao (D.length + 1) co) rfl) 1 (.slice A1 B.length c1) rfl
        (try simp only [Exit.inBlock, Exit.then])
        refine bodyPost_ret (results_ct rfl _ _ gr (.agg #[(.slice Ao (D.length + 1) co), (.slice A1 B.length c1)]) (.bool true) rfl (run_loadVar_row _ gr 25 25 _ (0, 0) _ HR3 Tryz.underlying25 rfl (by kernel_rfl)) rfl) rfl ?_
        refine ⟨_, _, by rw [HF.out]; rfl, ⟨_, _, _, rfl⟩, ⟨_, _, _, rfl⟩, fun D' B' h => ?_, ((n4.out.setCell HGG.out.1 _).setCell HGG.out.2.1 _).setCell HGG.out.2.1 _, ((n5.out.setCell (.inr HGG.out.2.2.1) _).setCell (.inr HGG.out.2.2.2) _).setCell (.inr HGG.out.2.2.2) _⟩
        rw [HF.out] at h
        injection h with h
        injection h with h1 h2
        subst h1
        subst h2
        exact ⟨Kd.R_set (Kd.R_set (Kd.R_set n3.out n1.out (by decide) 0 _) BR5.out (by decide) 0 _) (blk_put BR5.out 0 _ rfl) (by decide) 1 _, Kd.S_set (Kd.S_set (Kd.S_set n2.out n1.out (by decide) 0 _) BR5.out (by decide) 0 _) (blk_put BR5.out 0 _ rfl) (by decide) 1 _⟩
      · have HNN := Aside0.mk hnode
        clear hx0 HX
        obtain ⟨ad3, ea3, hx⟩ := Kd.at_string (Kd.C_below HW.out HB.out) 0 (by omega) (by simp)
        cases ea3
        have hx0 : wr.cell? ad = some (.string w0) := hx
        clear hx
        by_cases cw : w0 = ⟨#[110, 111, 100, 101]⟩
        all_goals (
          first
            | have cN : (w0.toList == (⟨#[110, 111, 100, 101]⟩ : ByteArray).toList) = true := by rw [cw]; simp
              have l2b : ((acc.length : Int) == 2) = false := by
                have : ¬ acc.length = 2 := fun h => HNN.out ⟨cw, h⟩
                simp
                omega
              go_wp2_with fail
              clear cN l2b
            | have cN : (w0.toList == [110, 111, 100, 101]) = false := by
                have h := str_ne cw
                rwa [show (⟨#[110, 111, 100, 101]⟩ : ByteArray).toList = [110, 111, 100, 101] from by rw [ByteArray.toList_eq]] at h
              go_wp2_with fail
              clear cN)
        all_goals (
          clear hx0 cw
          go_loopg [10] 3 (fun gg v10 wr => ∃ kk : Nat, kk ≤ 3 ∧ (3 : Int) - kk ≤ gg ∧ v10 = .int .i64 (kk : Int) ∧ Aside0 (∀ j, j < kk → ¬ (w0 = nmB j ∧ 0 < acc.length)) ∧ Aside0 (Below w.heap.size w wr) ∧ Aside0 (wr.heap[gt]? = some (.cells #[.slice A0 D.length c0, .slice A1 B.length c1] 25 (0, 0))) ∧ Aside0 (wr.heap[gr]? = some (.cells #[.slice none 0 0, .slice none 0 0] 25 (0, 0))) ∧ Aside0 ((Kd.int .i64).R 2 wr w.heap.size (fun _ => True) (.slice A6 acc.length c6) acc))
          case atStart => exact ⟨0, by omega, by omega, rfl, ⟨fun j hj => absurd hj (Nat.not_lt_zero j)⟩, HB, BT, BR, HN⟩
          case round =>
            clear HB BT BR HN
            obtain ⟨kk, hk, hg, rfl, HJ, HB, BT, BR, HN⟩ := hrel
            obtain ⟨ad2, ea2, hx⟩ := Kd.at_string (Kd.C_below HW.out HB.out) 0 (by omega) (by simp)
            cases ea2
            have HX := Aside0.mk (show wr.cell? ad = some (.string w0) from hx)
            clear hx
            by_cases hk3 : kk < 3
            · have q3 : ((kk : Int) < 3) = True := eq_true (by omega)
              have q4 : ((0 : Int) ≤ (kk : Int)) = True := eq_true (by omega)
              by_cases hm : w0 = nmB kk
              · have cM : (w0.toList == (nmB kk).toList) = true := by rw [hm]; simp
                by_cases l0 : 0 < acc.length
                · have l0b : ((0 : Int) < (acc.length : Int)) = True := eq_true (by omega)
                  have l0c := decide_eq_true (show (0 : Int) < (acc.length : Int) by omega)
                  have hd1 := below_drew1 (Below.refl wr.heap.size wr)
                  have HX4 := Aside0.mk ((hd1.cell (World.block_lt_of_cell? wr _ HX.out)).trans HX.out)
                  have BT4 := Aside0.mk (blk_below BT.out hd1)
                  have BR4 := Aside0.mk (blk_below BR.out hd1)
                  have HN4 := Aside0.mk (Kd.R_below HN.out hd1)
                  have HB4 := Aside0.mk (below_step HB.out hd1)
                  clear hd1 HX BT BR HN HB
                  go_wp2_with fail
                  refine start_ (n := 13) (S := fun w' => w'.cell? ad = some (.string w0)) (ds := []) #[false, false, false, false, false, false, false, false, false, false, false, false, false] (by kernel_rfl) rfl rfl (HX4.out) (fun hHeld => ?_)
                  refine pure_ (i := 0) (N := some 59) (v := ?_) (a' := ?_) #[true, false, false, false, false, false, false, false, false, false, false, false, false] rfl rfl (by kernel_rfl) (fun _ _ _ h => h) (Or.inl ⟨by rfl, ?_⟩) ?_ ?_
                  rotate_left
                  · intro w'
                    go_simp
                    with_reducible rfl
                  rotate_left
                  · simp only [Act.put, List.setIfInBounds_toArray, List.set_cons_zero, List.set_cons_succ, i64_w, i32_w]
                    rfl
                  refine pure_ (i := 1) (N := some 60) (v := ?_) (a' := ?_) #[true, true, false, false, false, false, false, false, false, false, false, false, false] rfl rfl (by kernel_rfl) (fun _ _ _ h => h) (Or.inl ⟨by rfl, ?_⟩) ?_ ?_
                  rotate_left
                  · intro w'
                    go_simp
                    with_reducible rfl
                  rotate_left
                  · simp only [Act.put, List.setIfInBounds_toArray, List.set_cons_zero, List.set_cons_succ, i64_w, i32_w]
                    rfl
                  refine pure_ (i := 4) (N := some 63) (v := ?_) (a' := ?_) #[true, true, false, false, true, false, false, false, false, false, false, false, false] rfl rfl (by kernel_rfl) (fun _ _ _ h => h) (Or.inl ⟨by rfl, ?_⟩) ?_ ?_
                  rotate_left
                  · intro w'
                    go_simp
                    with_reducible rfl
                  rotate_left
                  · simp only [Act.put, List.setIfInBounds_toArray, List.set_cons_zero, List.set_cons_succ, i64_w, i32_w]
                    rfl
                  refine take_ (i := 2) (N := some 61) (v := ?_) (a' := ?_) #[true, true, true, false, true, false, false, false, false, false, false, false, false] rfl rfl (by kernel_rfl) (fun _ _ _ h => h) (Or.inl ⟨by rfl, ?_⟩) hHeld ?_ ?_
                  rotate_left
                  · intro w' s0
                    go_simp
                    with_reducible rfl
                  rotate_left
                  · simp only [Act.put, List.setIfInBounds_toArray, List.set_cons_zero, List.set_cons_succ, i64_w, i32_w]
                    rfl
                  refine one_ (i := 3) (N := some 62) #[true, true, true, true, true, false, false, false, false, false, false, false, false] rfl rfl (by kernel_rfl) (by decide) (fun K hK => ?_)
                  generalize wr.drew = wd at HX4 BT4 BR4 HN4 HB4 hHeld ⊢
                  refine value_ (w1 := ?_) (v := ?_) (by rfl) rfl ?_ ?_
                  rotate_left 2
                  · go_simp
                    constructor
                    · rfl
                    · rfl
                  have hcl := (blk_cell (blk_new wd (.cells #[.string ⟨#[104, 111, 115, 116]⟩, .string ⟨#[114, 97, 99, 107]⟩, .string ⟨#[114, 111, 111, 116]⟩] 9)) kk).trans (nm_cell kk hk3)
                  refine hK.out _ _ (((below_alloc (Below.refl wd.heap.size wd) _).cell (World.block_lt_of_cell? wd _ HX4.out)).trans HX4.out) (fun hHeld => ?_)
                  clear hK K
                  refine norm_ (a' := ?_) ?_ ?_
                  rotate_left
                  · show Act.put _ (some 62) _ = _
                    simp only [Act.put, List.setIfInBounds_toArray, List.set_cons_zero, List.set_cons_succ, i64_w, i32_w]
                    rfl
                  refine pure_ (i := 5) (N := some 64) (v := ?_) (a' := ?_) #[true, true, true, true, true, true, false, false, false, false, false, false, false] rfl rfl (by kernel_rfl) (fun _ _ _ h => h) (Or.inl ⟨by rfl, ?_⟩) ?_ ?_
                  rotate_left
                  · intro w'
                    go_simp
                    with_reducible rfl
                  rotate_left
                  · simp only [Act.put, List.setIfInBounds_toArray, List.set_cons_zero, List.set_cons_succ, i64_w, i32_w]
                    rfl
                  refine one_ (i := 6) (N := some 65) #[true, true, true, true, true, true, true, false, false, false, false, false, false] rfl rfl (by kernel_rfl) (by decide) (fun K hK => ?_)
                  refine value_ (w1 := ?_) (v := ?_) (by rfl) rfl ?_ ?_
                  rotate_left 2
                  · go_simp
                    constructor
                    · rfl
                    · rfl
                  refine hK.out _ _ (((below_alloc (Below.refl wd.heap.size wd) _).cell (World.block_lt_of_cell? wd _ HX4.out)).trans HX4.out) (fun hHeld => ?_)
                  clear hK K
                  refine norm_ (a' := ?_) ?_ ?_
                  rotate_left
                  · show Act.put _ (some 65) _ = _
                    simp only [Act.put, List.setIfInBounds_toArray, List.set_cons_zero, List.set_cons_succ, i64_w, i32_w]
                    rfl
                  refine pure_ (i := 7) (N := some 66) (v := ?_) (a' := ?_) #[true, true, true, true, true, true, true, true, false, false, false, false, false] rfl rfl (by kernel_rfl) (fun _ _ _ h => h) (Or.inl ⟨by rfl, ?_⟩) ?_ ?_
                  rotate_left
                  · intro w'
                    go_simp
                    with_reducible rfl
                  rotate_left
                  · simp only [Act.put, List.setIfInBounds_toArray, List.set_cons_zero, List.set_cons_succ, i64_w, i32_w]
                    rfl
                  refine pure_ (i := 8) (N := some 67) (v := ?_) (a' := ?_) #[true, true, true, true, true, true, true, true, true, false, false, false, false] rfl rfl (by kernel_rfl) (fun _ _ _ h => h) (Or.inl ⟨by rfl, ?_⟩) ?_ ?_
                  rotate_left
                  · intro w'
                    go_simp
                    with_reducible rfl
                  rotate_left
                  · simp only [Act.put, List.setIfInBounds_toArray, List.set_cons_zero, List.set_cons_succ, i64_w, i32_w]
                    rfl
                  refine pure_ (i := 9) (N := some 68) (v := ?_) (a' := ?_) #[true, true, true, true, true, true, true, true, true, true, false, false, false] rfl rfl (by kernel_rfl) (fun _ _ _ h => h) (Or.inl ⟨by rfl, ?_⟩) ?_ ?_
                  rotate_left
                  · intro w'
                    go_simp
                    with_reducible rfl
                  rotate_left
                  · simp only [Act.put, List.setIfInBounds_toArray, List.set_cons_zero, List.set_cons_succ, i64_w, i32_w]
                    rfl
                  refine pure_ (i := 10) (N := some 69) (v := ?_) (a' := ?_) #[true, true, true, true, true, true, true, true, true, true, true, false, false] rfl rfl (by kernel_rfl) (fun _ _ _ h => h) (Or.inl ⟨by rfl, ?_⟩) ?_ ?_
                  rotate_left
                  · intro w'
                    go_simp
                    with_reducible rfl
                  rotate_left
                  · simp only [Act.put, List.setIfInBounds_toArray, List.set_cons_zero, List.set_cons_succ, i64_w, i32_w]
                    rfl
                  refine pure_ (i := 11) (N := some 70) (v := ?_) (a' := ?_) #[true, true, true, true, true, true, true, true, true, true, true, true, false] rfl rfl (by kernel_rfl) (fun _ _ _ h => h) (Or.inl ⟨by rfl, ?_⟩) ?_ ?_
                  rotate_left
                  · intro w'
                    go_simp
                    with_reducible rfl
                  rotate_left
                  · simp only [Act.put, List.setIfInBounds_toArray, List.set_cons_zero, List.set_cons_succ, i64_w, i32_w]
                    rfl
                  refine pure_ (i := 12) (N := some 71) (v := ?_) (a' := ?_) #[true, true, true, true, true, true, true, true, true, true, true, true, true] rfl rfl (by kernel_rfl) (fun _ _ _ h => h) (Or.inl ⟨by rfl, ?_⟩) ?_ ?_
                  rotate_left
                  · intro w'
                    go_simp
                    with_reducible rfl
                  rotate_left
                  · simp only [Act.put, List.setIfInBounds_toArray, List.set_cons_zero, List.set_cons_succ, i64_w, i32_w]
                    rfl
                  refine done_ (by kernel_rfl) ?_
                  clear hcl
                  have hb2 := below_alloc (Below.refl wd.heap.size wd) (.cells #[.string ⟨#[104, 111, 115, 116]⟩, .string ⟨#[114, 97, 99, 107]⟩, .string ⟨#[114, 111, 111, 116]⟩] 9)
                  have BT := Aside0.mk (blk_below BT4.out hb2)
                  have BR := Aside0.mk (blk_below BR4.out hb2)
                  have HN := Aside0.mk (Kd.R_below HN4.out hb2)
                  have HB := Aside0.mk (below_step HB4.out hb2)
                  clear hb2 BT4 BR4 HN4 HB4 HX4
                  generalize wd.alloc (.cells #[.string ⟨#[104, 111, 115, 116]⟩, .string ⟨#[114, 97, 99, 107]⟩, .string ⟨#[114, 111, 111, 116]⟩] 9) = wq at BT BR HN HB ⊢
                  obtain ⟨a, r, rfl⟩ : ∃ a r, acc = a :: r := by
                    cases acc with
                    | nil => simp at l0
                    | cons a r => exact ⟨a, r, rfl⟩
                  have HF := Aside0.mk (show spLine D B (w0 :: ws) = some (D, B ++ [⟨a, wrap64 ((kk : Int) + 1), r⟩]) from by
                    rw [HS.out, hm, show wrap64 ((kk : Int) + 1) = (kk : Int) + 1 from by unfold wrap64; omega]
                    unfold addX
                    simp only [nm_kd kk hk3]
                    rw [if_neg (by omega), if_neg (by omega)])
                  obtain ⟨gn, cn, en, hgn⟩ := Kd.R_form HN.out (by simp)
                  injection en with en1 en2 en3
                  subst en1
                  subst en3
                  clear en2
                  have hbd := (Kd.R_reads' HN.out).2.1
                  have HN0 := Aside0.mk (show wq.drew.cell? ⟨gn, 0, none⟩ = some (.int .i64 a) from (Kd.R_cell (0 : Int) HN.out 0 (by omega) (by simp)).1)
                  have hq := Kd.Q_drop (Kd.Q_of_R HN.out) (k := 1) (by simp)
                  have HT4 := Aside0.mk (show TreeAt base wq.drew gt (.slice A0 D.length c0) (.slice A1 B.length c1) D B from (TreeAt.mk BT.out (Kd.R_below HD.out HB.out) (Kd.S_below HBK.out HB.out) : TreeAt base wq gt (.slice A0 D.length c0) (.slice A1 B.length c1) D B).below (below_drew1 (Below.refl _ _)))
                  have HP4 := Aside0.mk (show Kept w wq.drew (fun k => Value.ownBlock (.slice A0 D.length c0) = some k ∨ Value.ownBlock (.slice A1 B.length c1) = some k) from (Kept.of_below HB.out _).drew)
                  have HW4 := Aside0.mk (show Below base w wq.drew from below_drew1 (HB.out.mono HBS.out))
                  have HS4 := Aside0.mk (show base ≤ wq.drew.heap.size from Nat.le_trans HBS.out (below_size (below_drew1 HB.out)))
                  have BR4 := Aside0.mk (blk_below BR.out (below_drew1 (Below.refl _ _)))
                  have HOK := Aside0.mk (show ∀ k, k = gn → True ∧ some k ≠ Value.ownBlock (.slice A1 B.length c1) from fun k hk => ⟨trivial, fun he => by
                    have h1 := Kd.S_lt HBK.out k he.symm
                    have h2 := hgn.1
                    omega⟩)
                  have HB0 := Aside0.mk (show Kd.S kqB 49 wq.drew base (fun k => True ∧ ¬ k = gn) (.slice A1 B.length c1) B from by
                    have h1 := Kd.S_bound HBK.out
                    have h2 := Kd.S_mono (Kd.S_below h1 HB.out) (ok' := fun k => True ∧ ¬ k = gn) (fun k hk => ⟨trivial, fun he => by have := hk.2.2.1; have := hgn.1; omega⟩)
                    exact Kd.S_drew h2)
                  have hb1 : (1 : Int) ≤ (r.length : Int) + 1 := by omega
                  have hb2 : (r.length : Int) + 1 ≤ (c6 : Int) := by simp only [List.length_cons] at hbd; omega
                  by_cases hc1 : c6 = 1
                  · subst hc1
                    obtain rfl : r = [] := List.eq_nil_of_length_eq_zero (by simp only [List.length_cons] at hbd; omega)
                    have HQ := Aside0.mk (show (Kd.int .i64).Q 2 wq.drew base (fun k => k = gn) (.slice (some ⟨gn, 0, none⟩) 0 0) [] from Kd.Q_drew (Kd.Q_mono (Kd.Q_tight rfl (Kd.Q_lower hq HBS.out)) (fun k hk => by simpa [Value.ownBlock] using hk)))
                    clear hq hgn hbd
                    simp only [List.length_cons, List.length_nil]
                    go_wp2_with fail
                    refine start_ (n := 14) (S := fun w' => w'.cell? ⟨gt, 1, none⟩ = some (Value.slice A1 B.length c1) ∧ w'.cell? ⟨gn, 0, none⟩ = some (.int .i64 a)) (ds := [11, 13]) #[false, false, false, false, false, false, false, false, false, false, false, false, false, false] (by kernel_rfl) rfl rfl ⟨(blk_cell HT4.out.box 1).trans rfl, HN0.out⟩ (fun hHeld => ?_)
                    refine pure_ (i := 0) (N := some 72) (v := ?_) (a' := ?_) #[true, false, false, false, false, false, false, false, false, false, false, false, false, false] rfl rfl (by kernel_rfl) (fun _ _ _ h => h) (Or.inl ⟨by rfl, ?_⟩) ?_ ?_
                    rotate_left
                    · intro w'
                      go_simp
                      with_reducible rfl
                    rotate_left
                    · simp only [Act.put, List.setIfInBounds_toArray, List.set_cons_zero, List.set_cons_succ, i64_w, i32_w]
                      rfl
                    refine pure_ (i := 2) (N := some 74) (v := ?_) (a' := ?_) #[true, false, true, false, false, false, false, false, false, false, false, false, false, false] rfl rfl (by kernel_rfl) (fun _ _ _ h => h) (Or.inl ⟨by rfl, ?_⟩) ?_ ?_
                    rotate_left
                    · intro w'
                      go_simp
                      with_reducible rfl
                    rotate_left
                    · simp only [Act.put, List.setIfInBounds_toArray, List.set_cons_zero, List.set_cons_succ, i64_w, i32_w]
                      rfl
                    refine pure_ (i := 3) (N := some 75) (v := ?_) (a' := ?_) #[true, false, true, true, false, false, false, false, false, false, false, false, false, false] rfl rfl (by kernel_rfl) (fun _ _ _ h => h) (Or.inl ⟨by rfl, ?_⟩) ?_ ?_
                    rotate_left
                    · intro w'
                      go_simp
                      with_reducible rfl
                    rotate_left
                    · simp only [Act.put, List.setIfInBounds_toArray, List.set_cons_zero, List.set_cons_succ, i64_w, i32_w]
                      rfl
                    refine pure_ (i := 5) (N := some 77) (v := ?_) (a' := ?_) #[true, false, true, true, false, true, false, false, false, false, false, false, false, false] rfl rfl (by kernel_rfl) (fun _ _ _ h => h) (Or.inl ⟨by rfl, ?_⟩) ?_ ?_
                    rotate_left
                    · intro w'
                      go_simp
                      with_reducible rfl
                    rotate_left
                    · simp only [Act.put, List.setIfInBounds_toArray, List.set_cons_zero, List.set_cons_succ, i64_w, i32_w]
                      rfl
                    refine pure_ (i := 6) (N := some 78) (v := ?_) (a' := ?_) #[true, false, true, true, false, true, true, false, false, false, false, false, false, false] rfl rfl (by kernel_rfl) (fun _ _ _ h => h) (Or.inl ⟨by rfl, ?_⟩) ?_ ?_
                    rotate_left
                    · intro w'
                      go_simp
                      with_reducible rfl
                    rotate_left
                    · simp only [Act.put, List.setIfInBounds_toArray, List.set_cons_zero, List.set_cons_succ, i64_w, i32_w]
                      rfl
                    refine pure_ (i := 7) (N := some 79) (v := ?_) (a' := ?_) #[true, false, true, true, false, true, true, true, false, false, false, false, false, false] rfl rfl (by kernel_rfl) (fun _ _ _ h => h) (Or.inl ⟨by rfl, ?_⟩) ?_ ?_
                    rotate_left
                    · intro w'
                      go_simp
                      with_reducible rfl
                    rotate_left
                    · simp only [Act.put, List.setIfInBounds_toArray, List.set_cons_zero, List.set_cons_succ, i64_w, i32_w]
                      rfl
                    refine pure_ (i := 8) (N := some 80) (v := ?_) (a' := ?_) #[true, false, true, true, false, true, true, true, true, false, false, false, false, false] rfl rfl (by kernel_rfl) (fun _ _ _ h => h) (Or.inl ⟨by rfl, ?_⟩) ?_ ?_
                    rotate_left
                    · intro w'
                      go_simp
                      with_reducible rfl
                    rotate_left
                    · simp only [Act.put, List.setIfInBounds_toArray, List.set_cons_zero, List.set_cons_succ, i64_w, i32_w]
                      rfl
                    refine take_ (i := 1) (N := some 73) (v := ?_) (a' := ?_) #[true, true, true, true, false, true, true, true, true, false, false, false, false, false] rfl rfl (by kernel_rfl) (fun _ _ _ h => h) (Or.inl ⟨by rfl, ?_⟩) hHeld ?_ ?_
                    rotate_left
                    · rintro w' ⟨s0, s1⟩
                      go_simp
                      with_reducible rfl
                    rotate_left
                    · simp only [Act.put, List.setIfInBounds_toArray, List.set_cons_zero, List.set_cons_succ, i64_w, i32_w]
                      rfl
                    refine take_ (i := 4) (N := some 76) (v := ?_) (a' := ?_) #[true, true, true, true, true, true, true, true, true, false, false, false, false, false] rfl rfl (by kernel_rfl) (fun _ _ _ h => h) (Or.inl ⟨by rfl, ?_⟩) hHeld ?_ ?_
                    rotate_left
                    · rintro w' ⟨s0, s1⟩
                      go_simp
                      with_reducible rfl
                    rotate_left
                    · simp only [Act.put, List.setIfInBounds_toArray, List.set_cons_zero, List.set_cons_succ, i64_w, i32_w]
                      rfl
                    refine pure_ (i := 9) (N := some 81) (v := ?_) (a' := ?_) #[true, true, true, true, true, true, true, true, true, true, false, false, false, false] rfl rfl (by kernel_rfl) (fun _ _ _ h => h) (Or.inl ⟨by rfl, ?_⟩) ?_ ?_
                    rotate_left
                    · intro w'
                      go_simp
                      with_reducible rfl
                    rotate_left
                    · simp only [Act.put, List.setIfInBounds_toArray, List.set_cons_zero, List.set_cons_succ, i64_w, i32_w]
                      rfl
                    refine one_ (i := 10) (N := some 82) #[true, true, true, true, true, true, true, true, true, true, true, false, false, false] rfl rfl (by kernel_rfl) (by decide) (fun K hK => ?_)
                    generalize wq.drew = wd at HT4 HN0 HP4 HW4 HS4 BR4 HB0 HQ hHeld ⊢
                    refine value_ (w1 := ?_) (v := ?_) (by rfl) rfl ?_ ?_
                    rotate_left 2
                    · go_simp
                      constructor
                      · rfl
                      · rfl
                    refine hK.out _ _ ⟨(blk_cell (blk_alloc HT4.out.box _) 1).trans rfl, ((below_alloc (Below.refl wd.heap.size wd) _).cell (World.block_lt_of_cell? wd _ HN0.out)).trans HN0.out⟩ (fun hHeld => ?_)
                    clear hK K
                    refine norm_ (a' := ?_) ?_ ?_
                    rotate_left
                    · show Act.put _ (some 82) _ = _
                      simp only [Act.put, List.setIfInBounds_toArray, List.set_cons_zero, List.set_cons_succ, i64_w, i32_w]
                      rfl
                    refine last_ (i := 11) (N := some 83) #[true, true, true, true, true, true, true, true, true, true, true, true, false, false] rfl rfl (by kernel_rfl) (by decide) (fun K hK => ?_)
                    refine Kd.S_append_step kqB (w0 := wd) base (by rfl) (.tmp 73) (.tmp 82) 23 49 (.agg #[(.int .i64 0), (.int .i64 0), (.slice none 0 0)]) 40 rfl Tryz.underlying23 info49 rfl (by decide) (by omega) (.slice A1 B.length c1) B (⟨a, wrap64 ((kk : Int) + 1), []⟩ : S49) [.int .i64 a, .int .i64 (wrap64 ((kk : Int) + 1)), .slice (some ⟨gn, 0, none⟩) 0 0] (fun _ => True) (fun k => k = gn) rfl rfl ?aP HOK.out ?aF ?aO ?aB ?aS ?aL ?_
                    (case aP => exact kqB_mkM _ _ _ (⟨a, wrap64 ((kk : Int) + 1), []⟩ : S49) (by first | exact Nat.le_refl _ | (show r.length ≤ c6 - 1; omega)) HQ.out)
                    (case aF => exact (fun _ _ => trivial))
                    (case aO => exact HB0.out)
                    (case aB => exact Below.refl _ _)
                    (case aS => exact HS4.out)
                    (case aL => have := HBL.out; omega)
                    intro v6 w6 ho hb hg6 hat
                    have n1 := Aside0.mk (blk_grown HT4.out.box hg6 (Kd.R_ne (Kd.S_R HT4.out.b) HT4.out.box (by decide)))
                    have n2 := Aside0.mk (Kd.R_over' HT4.out.d (Kd.S_typed HT4.out.b) (by decide) hg6)
                    have n3 := Aside0.mk ho
                    have n4 := Aside0.mk (HW4.out.trans hb)
                    have n5 := Aside0.mk (Kept.of_grown hg6 HP4.out (fun k e => .inl (.inr e)))
                    have n6 := Aside0.mk (blk_grown BR4.out hg6 (Kd.R_ne (Kd.S_R HT4.out.b) BR4.out (by decide)))
                    clear ho hb hg6 hat
                    obtain ⟨Ao, co, eo⟩ := Kd.S_slice n3.out
                    rw [List.length_append, List.length_singleton] at eo
                    subst eo
                    refine hK.out _ _ ?_
                    clear hK K
                    refine norm_ (a' := ?_) ?_ ?_
                    rotate_left
                    · show Act.put _ (some 83) _ = _
                      simp only [Act.put, List.setIfInBounds_toArray, List.set_cons_zero, List.set_cons_succ, i64_w, i32_w]
                      rfl
                    refine pure_ (i := 12) (N := some 84) (v := ?_) (a' := ?_) #[true, true, true, true, true, true, true, true, true, true, true, true, true, false] rfl rfl (by kernel_rfl) (fun _ _ _ h => h) (Or.inl ⟨by rfl, ?_⟩) ?_ ?_
                    rotate_left
                    · intro w'
                      go_simp
                      with_reducible rfl
                    rotate_left
                    · simp only [Act.put, List.setIfInBounds_toArray, List.set_cons_zero, List.set_cons_succ, i64_w, i32_w]
                      rfl
                    refine last_ (i := 13) (N := none) #[true, true, true, true, true, true, true, true, true, true, true, true, true, true] rfl rfl (by kernel_rfl) (by decide) (fun K hK => ?_)
                    have hs7 := (blk_cell n1.out 1).trans rfl
                    have hf7 := blk_frozen n1.out 1
                    refine skip_ (w1 := ?_) (by rfl) rfl ?_ ?_
                    rotate_left
                    · go_simp
                      rfl
                    refine hK.out _ _ ?_
                    clear hK K
                    refine done_ (by kernel_rfl) ?_
                    have BT5 := Aside0.mk (blk_put n1.out 1 (.slice Ao (B.length + 1) co) rfl)
                    have BR5 := Aside0.mk (blk_far n6.out (p := ⟨gt, 1, none⟩) HNE.out (.slice Ao (B.length + 1) co))
                    have ht0 := (blk_cell BT5.out 0).trans rfl
                    have ht1 := (blk_cell BT5.out 1).trans rfl
                    have hr0 := (blk_cell BR5.out 0).trans rfl
                    have hr1 := (blk_cell BR5.out 1).trans rfl
                    have hf0 := blk_frozen BR5.out 0
                    have hf1 := blk_frozen BR5.out 1
                    go_wp2_with fail
                    have HR3 := blk_put (blk_put BR5.out 0 (.slice A0 D.length c0) rfl) 1 (.slice Ao (B.length + 1) co) rfl
                    (try simp only [Exit.inBlock, Exit.then])
                    refine bodyPost_ret (results_ct rfl _ _ gr (.agg #[(.slice A0 D.length c0), (.slice Ao (B.length + 1) co)]) (.bool true) rfl (run_loadVar_row _ gr 25 25 _ (0, 0) _ HR3 Tryz.underlying25 rfl (by kernel_rfl)) rfl) rfl ?_
                    refine ⟨_, _, by rw [HF.out]; rfl, ⟨_, _, _, rfl⟩, ⟨_, _, _, rfl⟩, fun D' B' h => ?_, ((n4.out.setCell HGG.out.1 _).setCell HGG.out.2.1 _).setCell HGG.out.2.1 _, ((n5.out.setCell (.inr HGG.out.2.2.1) _).setCell (.inr HGG.out.2.2.2) _).setCell (.inr HGG.out.2.2.2) _⟩
                    rw [HF.out] at h
                    injection h with h
                    injection h with h1 h2
                    subst h1
                    subst h2
                    exact ⟨Kd.R_set (Kd.R_set (Kd.R_set n2.out n1.out (by decide) 1 _) BR5.out (by decide) 0 _) (blk_put BR5.out 0 _ rfl) (by decide) 1 _, Kd.S_set (Kd.S_set (Kd.S_set n3.out n1.out (by decide) 1 _) BR5.out (by decide) 0 _) (blk_put BR5.out 0 _ rfl) (by decide) 1 _⟩
                  · have hcn : ¬ c6 = 1 := hc1
                    rw [if_neg hcn] at hq
                    have HQ := Aside0.mk (show (Kd.int .i64).Q 2 wq.drew base (fun k => k = gn) (.slice (some ⟨gn, 1, none⟩) r.length (c6 - 1)) r from Kd.Q_drew (Kd.Q_mono (Kd.Q_tight rfl (Kd.Q_lower hq HBS.out)) (fun k hk => by simpa [Value.ownBlock] using hk)))
                    have hcz : ¬ ((c6 : Int) - 1 = 0) := by omega
                    clear hq hgn hbd
                    simp only [List.length_cons]
                    go_wp2_with fail
                    refine start_ (n := 14) (S := fun w' => w'.cell? ⟨gt, 1, none⟩ = some (Value.slice A1 B.length c1) ∧ w'.cell? ⟨gn, 0, none⟩ = some (.int .i64 a)) (ds := [11, 13]) #[false, false, false, false, false, false, false, false, false, false, false, false, false, false] (by kernel_rfl) rfl rfl ⟨(blk_cell HT4.out.box 1).trans rfl, HN0.out⟩ (fun hHeld => ?_)
                    refine pure_ (i := 0) (N := some 72) (v := ?_) (a' := ?_) #[true, false, false, false, false, false, false, false, false, false, false, false, false, false] rfl rfl (by kernel_rfl) (fun _ _ _ h => h) (Or.inl ⟨by rfl, ?_⟩) ?_ ?_
                    rotate_left
                    · intro w'
                      go_simp
                      with_reducible rfl
                    rotate_left
                    · simp only [Act.put, List.setIfInBounds_toArray, List.set_cons_zero, List.set_cons_succ, i64_w, i32_w]
                      rfl
                    refine pure_ (i := 2) (N := some 74) (v := ?_) (a' := ?_) #[true, false, true, false, false, false, false, false, false, false, false, false, false, false] rfl rfl (by kernel_rfl) (fun _ _ _ h => h) (Or.inl ⟨by rfl, ?_⟩) ?_ ?_
                    rotate_left
                    · intro w'
                      go_simp
                      with_reducible rfl
                    rotate_left
                    · simp only [Act.put, List.setIfInBounds_toArray, List.set_cons_zero, List.set_cons_succ, i64_w, i32_w]
                      rfl
                    refine pure_ (i := 3) (N := some 75) (v := ?_) (a' := ?_) #[true, false, true, true, false, false, false, false, false, false, false, false, false, false] rfl rfl (by kernel_rfl) (fun _ _ _ h => h) (Or.inl ⟨by rfl, ?_⟩) ?_ ?_
                    rotate_left
                    · intro w'
                      go_simp
                      with_reducible rfl
                    rotate_left
                    · simp only [Act.put, List.setIfInBounds_toArray, List.set_cons_zero, List.set_cons_succ, i64_w, i32_w]
                      rfl
                    refine pure_ (i := 5) (N := some 77) (v := ?_) (a' := ?_) #[true, false, true, true, false, true, false, false, false, false, false, false, false, false] rfl rfl (by kernel_rfl) (fun _ _ _ h => h) (Or.inl ⟨by rfl, ?_⟩) ?_ ?_
                    rotate_left
                    · intro w'
                      go_simp
                      with_reducible rfl
                    rotate_left
                    · simp only [Act.put, List.setIfInBounds_toArray, List.set_cons_zero, List.set_cons_succ, i64_w, i32_w]
                      rfl
                    refine pure_ (i := 6) (N := some 78) (v := ?_) (a' := ?_) #[true, false, true, true, false, true, true, false, false, false, false, false, false, false] rfl rfl (by kernel_rfl) (fun _ _ _ h => h) (Or.inl ⟨by rfl, ?_⟩) ?_ ?_
                    rotate_left
                    · intro w'
                      go_simp
                      with_reducible rfl
                    rotate_left
                    · simp only [Act.put, List.setIfInBounds_toArray, List.set_cons_zero, List.set_cons_succ, i64_w, i32_w]
                      rfl
                    refine pure_ (i := 7) (N := some 79) (v := ?_) (a' := ?_) #[true, false, true, true, false, true, true, true, false, false, false, false, false, false] rfl rfl (by kernel_rfl) (fun _ _ _ h => h) (Or.inl ⟨by rfl, ?_⟩) ?_ ?_
                    rotate_left
                    · intro w'
                      go_simp
                      with_reducible rfl
                    rotate_left
                    · simp only [Act.put, List.setIfInBounds_toArray, List.set_cons_zero, List.set_cons_succ, i64_w, i32_w]
                      rfl
                    refine pure_ (i := 8) (N := some 80) (v := ?_) (a' := ?_) #[true, false, true, true, false, true, true, true, true, false, false, false, false, false] rfl rfl (by kernel_rfl) (fun _ _ _ h => h) (Or.inl ⟨by rfl, ?_⟩) ?_ ?_
                    rotate_left
                    · intro w'
                      go_simp
                      with_reducible rfl
                    rotate_left
                    · simp only [Act.put, List.setIfInBounds_toArray, List.set_cons_zero, List.set_cons_succ, i64_w, i32_w]
                      rfl
                    refine take_ (i := 1) (N := some 73) (v := ?_) (a' := ?_) #[true, true, true, true, false, true, true, true, true, false, false, false, false, false] rfl rfl (by kernel_rfl) (fun _ _ _ h => h) (Or.inl ⟨by rfl, ?_⟩) hHeld ?_ ?_
                    rotate_left
                    · rintro w' ⟨s0, s1⟩
                      go_simp
                      with_reducible rfl
                    rotate_left
                    · simp only [Act.put, List.setIfInBounds_toArray, List.set_cons_zero, List.set_cons_succ, i64_w, i32_w]
                      rfl
                    refine take_ (i := 4) (N := some 76) (v := ?_) (a' := ?_) #[true, true, true, true, true, true, true, true, true, false, false, false, false, false] rfl rfl (by kernel_rfl) (fun _ _ _ h => h) (Or.inl ⟨by rfl, ?_⟩) hHeld ?_ ?_
                    rotate_left
                    · rintro w' ⟨s0, s1⟩
                      go_simp
                      with_reducible rfl
                    rotate_left
                    · simp only [Act.put, List.setIfInBounds_toArray, List.set_cons_zero, List.set_cons_succ, i64_w, i32_w]
                      rfl
                    refine pure_ (i := 9) (N := some 81) (v := ?_) (a' := ?_) #[true, true, true, true, true, true, true, true, true, true, false, false, false, false] rfl rfl (by kernel_rfl) (fun _ _ _ h => h) (Or.inl ⟨by rfl, ?_⟩) ?_ ?_
                    rotate_left
                    · intro w'
                      go_simp
                      with_reducible rfl
                    rotate_left
                    · simp only [Act.put, List.setIfInBounds_toArray, List.set_cons_zero, List.set_cons_succ, i64_w, i32_w]
                      rfl
                    refine one_ (i := 10) (N := some 82) #[true, true, true, true, true, true, true, true, true, true, true, false, false, false] rfl rfl (by kernel_rfl) (by decide) (fun K hK => ?_)
                    generalize wq.drew = wd at HT4 HN0 HP4 HW4 HS4 BR4 HB0 HQ hHeld ⊢
                    refine value_ (w1 := ?_) (v := ?_) (by rfl) rfl ?_ ?_
                    rotate_left 2
                    · go_simp
                      constructor
                      · rfl
                      · rfl
                    refine hK.out _ _ ⟨(blk_cell (blk_alloc HT4.out.box _) 1).trans rfl, ((below_alloc (Below.refl wd.heap.size wd) _).cell (World.block_lt_of_cell? wd _ HN0.out)).trans HN0.out⟩ (fun hHeld => ?_)
                    clear hK K
                    refine norm_ (a' := ?_) ?_ ?_
                    rotate_left
                    · show Act.put _ (some 82) _ = _
                      simp only [Act.put, List.setIfInBounds_toArray, List.set_cons_zero, List.set_cons_succ, i64_w, i32_w]
                      rfl
                    refine last_ (i := 11) (N := some 83) #[true, true, true, true, true, true, true, true, true, true, true, true, false, false] rfl rfl (by kernel_rfl) (by decide) (fun K hK => ?_)
                    refine Kd.S_append_step kqB (w0 := wd) base (by rfl) (.tmp 73) (.tmp 82) 23 49 (.agg #[(.int .i64 0), (.int .i64 0), (.slice none 0 0)]) 40 rfl Tryz.underlying23 info49 rfl (by decide) (by omega) (.slice A1 B.length c1) B (⟨a, wrap64 ((kk : Int) + 1), r⟩ : S49) [.int .i64 a, .int .i64 (wrap64 ((kk : Int) + 1)), .slice (some ⟨gn, 1, none⟩) r.length (c6 - 1)] (fun _ => True) (fun k => k = gn) rfl rfl ?aP HOK.out ?aF ?aO ?aB ?aS ?aL ?_
                    (case aP => exact kqB_mkM _ _ _ (⟨a, wrap64 ((kk : Int) + 1), r⟩ : S49) (by first | exact Nat.le_refl _ | (show r.length ≤ c6 - 1; omega)) HQ.out)
                    (case aF => exact (fun _ _ => trivial))
                    (case aO => exact HB0.out)
                    (case aB => exact Below.refl _ _)
                    (case aS => exact HS4.out)
                    (case aL => have := HBL.out; omega)
                    intro v6 w6 ho hb hg6 hat
                    have n1 := Aside0.mk (blk_grown HT4.out.box hg6 (Kd.R_ne (Kd.S_R HT4.out.b) HT4.out.box (by decide)))
                    have n2 := Aside0.mk (Kd.R_over' HT4.out.d (Kd.S_typed HT4.out.b) (by decide) hg6)
                    have n3 := Aside0.mk ho
                    have n4 := Aside0.mk (HW4.out.trans hb)
                    have n5 := Aside0.mk (Kept.of_grown hg6 HP4.out (fun k e => .inl (.inr e)))
                    have n6 := Aside0.mk (blk_grown BR4.out hg6 (Kd.R_ne (Kd.S_R HT4.out.b) BR4.out (by decide)))
                    clear ho hb hg6 hat
                    obtain ⟨Ao, co, eo⟩ := Kd.S_slice n3.out
                    rw [List.length_append, List.length_singleton] at eo
                    subst eo
                    refine hK.out _ _ ?_
                    clear hK K
                    refine norm_ (a' := ?_) ?_ ?_
                    rotate_left
                    · show Act.put _ (some 83) _ = _
                      simp only [Act.put, List.setIfInBounds_toArray, List.set_cons_zero, List.set_cons_succ, i64_w, i32_w]
                      rfl
                    refine pure_ (i := 12) (N := some 84) (v := ?_) (a' := ?_) #[true, true, true, true, true, true, true, true, true, true, true, true, true, false] rfl rfl (by kernel_rfl) (fun _ _ _ h => h) (Or.inl ⟨by rfl, ?_⟩) ?_ ?_
                    rotate_left
                    · intro w'
                      go_simp
                      with_reducible rfl
                    rotate_left
                    · simp only [Act.put, List.setIfInBounds_toArray, List.set_cons_zero, List.set_cons_succ, i64_w, i32_w]
                      rfl
                    refine last_ (i := 13) (N := none) #[true, true, true, true, true, true, true, true, true, true, true, true, true, true] rfl rfl (by kernel_rfl) (by decide) (fun K hK => ?_)
                    have hs7 := (blk_cell n1.out 1).trans rfl
                    have hf7 := blk_frozen n1.out 1
                    refine skip_ (w1 := ?_) (by rfl) rfl ?_ ?_
                    rotate_left
                    · go_simp
                      rfl
                    refine hK.out _ _ ?_
                    clear hK K
                    refine done_ (by kernel_rfl) ?_
                    have BT5 := Aside0.mk (blk_put n1.out 1 (.slice Ao (B.length + 1) co) rfl)
                    have BR5 := Aside0.mk (blk_far n6.out (p := ⟨gt, 1, none⟩) HNE.out (.slice Ao (B.length + 1) co))
                    have ht0 := (blk_cell BT5.out 0).trans rfl
                    have ht1 := (blk_cell BT5.out 1).trans rfl
                    have hr0 := (blk_cell BR5.out 0).trans rfl
                    have hr1 := (blk_cell BR5.out 1).trans rfl
                    have hf0 := blk_frozen BR5.out 0
                    have hf1 := blk_frozen BR5.out 1
                    go_wp2_with fail
                    have HR3 := blk_put (blk_put BR5.out 0 (.slice A0 D.length c0) rfl) 1 (.slice Ao (B.length + 1) co) rfl
                    (try simp only [Exit.inBlock, Exit.then])
                    refine bodyPost_ret (results_ct rfl _ _ gr (.agg #[(.slice A0 D.length c0), (.slice Ao (B.length + 1) co)]) (.bool true) rfl (run_loadVar_row _ gr 25 25 _ (0, 0) _ HR3 Tryz.underlying25 rfl (by kernel_rfl)) rfl) rfl ?_
                    refine ⟨_, _, by rw [HF.out]; rfl, ⟨_, _, _, rfl⟩, ⟨_, _, _, rfl⟩, fun D' B' h => ?_, ((n4.out.setCell HGG.out.1 _).setCell HGG.out.2.1 _).setCell HGG.out.2.1 _, ((n5.out.setCell (.inr HGG.out.2.2.1) _).setCell (.inr HGG.out.2.2.2) _).setCell (.inr HGG.out.2.2.2) _⟩
                    rw [HF.out] at h
                    injection h with h
                    injection h with h1 h2
                    subst h1
                    subst h2
                    exact ⟨Kd.R_set (Kd.R_set (Kd.R_set n2.out n1.out (by decide) 1 _) BR5.out (by decide) 0 _) (blk_put BR5.out 0 _ rfl) (by decide) 1 _, Kd.S_set (Kd.S_set (Kd.S_set n3.out n1.out (by decide) 1 _) BR5.out (by decide) 0 _) (blk_put BR5.out 0 _ rfl) (by decide) 1 _⟩
                · have l0b : ((0 : Int) < (acc.length : Int)) = False := eq_false (by omega)
                  have l0c := decide_eq_false (show ¬ (0 : Int) < (acc.length : Int) by omega)
                  have HNO := Aside0.mk (show ¬ (w0 = nmB kk ∧ 0 < acc.length) from fun h => l0 h.2)
                  have hd1 := below_drew1 (Below.refl wr.heap.size wr)
                  have HX4 := Aside0.mk ((hd1.cell (World.block_lt_of_cell? wr _ HX.out)).trans HX.out)
                  have BT4 := Aside0.mk (blk_below BT.out hd1)
                  have BR4 := Aside0.mk (blk_below BR.out hd1)
                  have HN4 := Aside0.mk (Kd.R_below HN.out hd1)
                  have HB4 := Aside0.mk (below_step HB.out hd1)
                  clear hd1 HX BT BR HN HB
                  go_wp2_with fail
                  refine start_ (n := 13) (S := fun w' => w'.cell? ad = some (.string w0)) (ds := []) #[false, false, false, false, false, false, false, false, false, false, false, false, false] (by kernel_rfl) rfl rfl (HX4.out) (fun hHeld => ?_)
                  refine pure_ (i := 0) (N := some 59) (v := ?_) (a' := ?_) #[true, false, false, false, false, false, false, false, false, false, false, false, false] rfl rfl (by kernel_rfl) (fun _ _ _ h => h) (Or.inl ⟨by rfl, ?_⟩) ?_ ?_
                  rotate_left
                  · intro w'
                    go_simp
                    with_reducible rfl
                  rotate_left
                  · simp only [Act.put, List.setIfInBounds_toArray, List.set_cons_zero, List.set_cons_succ, i64_w, i32_w]
                    rfl
                  refine pure_ (i := 1) (N := some 60) (v := ?_) (a' := ?_) #[true, true, false, false, false, false, false, false, false, false, false, false, false] rfl rfl (by kernel_rfl) (fun _ _ _ h => h) (Or.inl ⟨by rfl, ?_⟩) ?_ ?_
                  rotate_left
                  · intro w'
                    go_simp
                    with_reducible rfl
                  rotate_left
                  · simp only [Act.put, List.setIfInBounds_toArray, List.set_cons_zero, List.set_cons_succ, i64_w, i32_w]
                    rfl
                  refine pure_ (i := 4) (N := some 63) (v := ?_) (a' := ?_) #[true, true, false, false, true, false, false, false, false, false, false, false, false] rfl rfl (by kernel_rfl) (fun _ _ _ h => h) (Or.inl ⟨by rfl, ?_⟩) ?_ ?_
                  rotate_left
                  · intro w'
                    go_simp
                    with_reducible rfl
                  rotate_left
                  · simp only [Act.put, List.setIfInBounds_toArray, List.set_cons_zero, List.set_cons_succ, i64_w, i32_w]
                    rfl
                  refine take_ (i := 2) (N := some 61) (v := ?_) (a' := ?_) #[true, true, true, false, true, false, false, false, false, false, false, false, false] rfl rfl (by kernel_rfl) (fun _ _ _ h => h) (Or.inl ⟨by rfl, ?_⟩) hHeld ?_ ?_
                  rotate_left
                  · intro w' s0
                    go_simp
                    with_reducible rfl
                  rotate_left
                  · simp only [Act.put, List.setIfInBounds_toArray, List.set_cons_zero, List.set_cons_succ, i64_w, i32_w]
                    rfl
                  refine one_ (i := 3) (N := some 62) #[true, true, true, true, true, false, false, false, false, false, false, false, false] rfl rfl (by kernel_rfl) (by decide) (fun K hK => ?_)
                  generalize wr.drew = wd at HX4 BT4 BR4 HN4 HB4 hHeld ⊢
                  refine value_ (w1 := ?_) (v := ?_) (by rfl) rfl ?_ ?_
                  rotate_left 2
                  · go_simp
                    constructor
                    · rfl
                    · rfl
                  have hcl := (blk_cell (blk_new wd (.cells #[.string ⟨#[104, 111, 115, 116]⟩, .string ⟨#[114, 97, 99, 107]⟩, .string ⟨#[114, 111, 111, 116]⟩] 9)) kk).trans (nm_cell kk hk3)
                  refine hK.out _ _ (((below_alloc (Below.refl wd.heap.size wd) _).cell (World.block_lt_of_cell? wd _ HX4.out)).trans HX4.out) (fun hHeld => ?_)
                  clear hK K
                  refine norm_ (a' := ?_) ?_ ?_
                  rotate_left
                  · show Act.put _ (some 62) _ = _
                    simp only [Act.put, List.setIfInBounds_toArray, List.set_cons_zero, List.set_cons_succ, i64_w, i32_w]
                    rfl
                  refine pure_ (i := 5) (N := some 64) (v := ?_) (a' := ?_) #[true, true, true, true, true, true, false, false, false, false, false, false, false] rfl rfl (by kernel_rfl) (fun _ _ _ h => h) (Or.inl ⟨by rfl, ?_⟩) ?_ ?_
                  rotate_left
                  · intro w'
                    go_simp
                    with_reducible rfl
                  rotate_left
                  · simp only [Act.put, List.setIfInBounds_toArray, List.set_cons_zero, List.set_cons_succ, i64_w, i32_w]
                    rfl
                  refine one_ (i := 6) (N := some 65) #[true, true, true, true, true, true, true, false, false, false, false, false, false] rfl rfl (by kernel_rfl) (by decide) (fun K hK => ?_)
                  refine value_ (w1 := ?_) (v := ?_) (by rfl) rfl ?_ ?_
                  rotate_left 2
                  · go_simp
                    constructor
                    · rfl
                    · rfl
                  refine hK.out _ _ (((below_alloc (Below.refl wd.heap.size wd) _).cell (World.block_lt_of_cell? wd _ HX4.out)).trans HX4.out) (fun hHeld => ?_)
                  clear hK K
                  refine norm_ (a' := ?_) ?_ ?_
                  rotate_left
                  · show Act.put _ (some 65) _ = _
                    simp only [Act.put, List.setIfInBounds_toArray, List.set_cons_zero, List.set_cons_succ, i64_w, i32_w]
                    rfl
                  refine pure_ (i := 7) (N := some 66) (v := ?_) (a' := ?_) #[true, true, true, true, true, true, true, true, false, false, false, false, false] rfl rfl (by kernel_rfl) (fun _ _ _ h => h) (Or.inl ⟨by rfl, ?_⟩) ?_ ?_
                  rotate_left
                  · intro w'
                    go_simp
                    with_reducible rfl
                  rotate_left
                  · simp only [Act.put, List.setIfInBounds_toArray, List.set_cons_zero, List.set_cons_succ, i64_w, i32_w]
                    rfl
                  refine pure_ (i := 8) (N := some 67) (v := ?_) (a' := ?_) #[true, true, true, true, true, true, true, true, true, false, false, false, false] rfl rfl (by kernel_rfl) (fun _ _ _ h => h) (Or.inl ⟨by rfl, ?_⟩) ?_ ?_
                  rotate_left
                  · intro w'
                    go_simp
                    with_reducible rfl
                  rotate_left
                  · simp only [Act.put, List.setIfInBounds_toArray, List.set_cons_zero, List.set_cons_succ, i64_w, i32_w]
                    rfl
                  refine pure_ (i := 9) (N := some 68) (v := ?_) (a' := ?_) #[true, true, true, true, true, true, true, true, true, true, false, false, false] rfl rfl (by kernel_rfl) (fun _ _ _ h => h) (Or.inl ⟨by rfl, ?_⟩) ?_ ?_
                  rotate_left
                  · intro w'
                    go_simp
                    with_reducible rfl
                  rotate_left
                  · simp only [Act.put, List.setIfInBounds_toArray, List.set_cons_zero, List.set_cons_succ, i64_w, i32_w]
                    rfl
                  refine pure_ (i := 10) (N := some 69) (v := ?_) (a' := ?_) #[true, true, true, true, true, true, true, true, true, true, true, false, false] rfl rfl (by kernel_rfl) (fun _ _ _ h => h) (Or.inl ⟨by rfl, ?_⟩) ?_ ?_
                  rotate_left
                  · intro w'
                    go_simp
                    with_reducible rfl
                  rotate_left
                  · simp only [Act.put, List.setIfInBounds_toArray, List.set_cons_zero, List.set_cons_succ, i64_w, i32_w]
                    rfl
                  refine pure_ (i := 11) (N := some 70) (v := ?_) (a' := ?_) #[true, true, true, true, true, true, true, true, true, true, true, true, false] rfl rfl (by kernel_rfl) (fun _ _ _ h => h) (Or.inl ⟨by rfl, ?_⟩) ?_ ?_
                  rotate_left
                  · intro w'
                    go_simp
                    with_reducible rfl
                  rotate_left
                  · simp only [Act.put, List.setIfInBounds_toArray, List.set_cons_zero, List.set_cons_succ, i64_w, i32_w]
                    rfl
                  refine pure_ (i := 12) (N := some 71) (v := ?_) (a' := ?_) #[true, true, true, true, true, true, true, true, true, true, true, true, true] rfl rfl (by kernel_rfl) (fun _ _ _ h => h) (Or.inl ⟨by rfl, ?_⟩) ?_ ?_
                  rotate_left
                  · intro w'
                    go_simp
                    with_reducible rfl
                  rotate_left
                  · simp only [Act.put, List.setIfInBounds_toArray, List.set_cons_zero, List.set_cons_succ, i64_w, i32_w]
                    rfl
                  refine done_ (by kernel_rfl) ?_
                  clear hcl
                  have hb2 := below_alloc (Below.refl wd.heap.size wd) (.cells #[.string ⟨#[104, 111, 115, 116]⟩, .string ⟨#[114, 97, 99, 107]⟩, .string ⟨#[114, 111, 111, 116]⟩] 9)
                  have BT := Aside0.mk (blk_below BT4.out hb2)
                  have BR := Aside0.mk (blk_below BR4.out hb2)
                  have HN := Aside0.mk (Kd.R_below HN4.out hb2)
                  have HB := Aside0.mk (below_step HB4.out hb2)
                  clear hb2 BT4 BR4 HN4 HB4 HX4
                  generalize wd.alloc (.cells #[.string ⟨#[104, 111, 115, 116]⟩, .string ⟨#[114, 97, 99, 107]⟩, .string ⟨#[114, 111, 111, 116]⟩] 9) = wq at BT BR HN HB ⊢
                  go_wp2_with fail
                  go_roundg (gk - 1)
                  case measure => omega
                  case rel => exact ⟨kk + 1, by omega, by omega, rfl, ⟨fun j hj hh => by
                    by_cases e : j = kk
                    · subst e
                      exact HNO.out hh
                    · exact HJ.out j (by omega) hh⟩, HB, BT, BR, HN⟩
              · have cM : (w0.toList == (nmB kk).toList) = false := str_ne hm
                have HNO := Aside0.mk (show ¬ (w0 = nmB kk ∧ 0 < acc.length) from fun h => hm h.1)
                have hd1 := below_drew1 (Below.refl wr.heap.size wr)
                have HX4 := Aside0.mk ((hd1.cell (World.block_lt_of_cell? wr _ HX.out)).trans HX.out)
                have BT4 := Aside0.mk (blk_below BT.out hd1)
                have BR4 := Aside0.mk (blk_below BR.out hd1)
                have HN4 := Aside0.mk (Kd.R_below HN.out hd1)
                have HB4 := Aside0.mk (below_step HB.out hd1)
                clear hd1 HX BT BR HN HB
                go_wp2_with fail
                refine start_ (n := 13) (S := fun w' => w'.cell? ad = some (.string w0)) (ds := []) #[false, false, false, false, false, false, false, false, false, false, false, false, false] (by kernel_rfl) rfl rfl (HX4.out) (fun hHeld => ?_)
                refine pure_ (i := 0) (N := some 59) (v := ?_) (a' := ?_) #[true, false, false, false, false, false, false, false, false, false, false, false, false] rfl rfl (by kernel_rfl) (fun _ _ _ h => h) (Or.inl ⟨by rfl, ?_⟩) ?_ ?_
                rotate_left
                · intro w'
                  go_simp
                  with_reducible rfl
                rotate_left
                · simp only [Act.put, List.setIfInBounds_toArray, List.set_cons_zero, List.set_cons_succ, i64_w, i32_w]
                  rfl
                refine pure_ (i := 1) (N := some 60) (v := ?_) (a' := ?_) #[true, true, false, false, false, false, false, false, false, false, false, false, false] rfl rfl (by kernel_rfl) (fun _ _ _ h => h) (Or.inl ⟨by rfl, ?_⟩) ?_ ?_
                rotate_left
                · intro w'
                  go_simp
                  with_reducible rfl
                rotate_left
                · simp only [Act.put, List.setIfInBounds_toArray, List.set_cons_zero, List.set_cons_succ, i64_w, i32_w]
                  rfl
                refine pure_ (i := 4) (N := some 63) (v := ?_) (a' := ?_) #[true, true, false, false, true, false, false, false, false, false, false, false, false] rfl rfl (by kernel_rfl) (fun _ _ _ h => h) (Or.inl ⟨by rfl, ?_⟩) ?_ ?_
                rotate_left
                · intro w'
                  go_simp
                  with_reducible rfl
                rotate_left
                · simp only [Act.put, List.setIfInBounds_toArray, List.set_cons_zero, List.set_cons_succ, i64_w, i32_w]
                  rfl
                refine take_ (i := 2) (N := some 61) (v := ?_) (a' := ?_) #[true, true, true, false, true, false, false, false, false, false, false, false, false] rfl rfl (by kernel_rfl) (fun _ _ _ h => h) (Or.inl ⟨by rfl, ?_⟩) hHeld ?_ ?_
                rotate_left
                · intro w' s0
                  go_simp
                  with_reducible rfl
                rotate_left
                · simp only [Act.put, List.setIfInBounds_toArray, List.set_cons_zero, List.set_cons_succ, i64_w, i32_w]
                  rfl
                refine one_ (i := 3) (N := some 62) #[true, true, true, true, true, false, false, false, false, false, false, false, false] rfl rfl (by kernel_rfl) (by decide) (fun K hK => ?_)
                generalize wr.drew = wd at HX4 BT4 BR4 HN4 HB4 hHeld ⊢
                refine value_ (w1 := ?_) (v := ?_) (by rfl) rfl ?_ ?_
                rotate_left 2
                · go_simp
                  constructor
                  · rfl
                  · rfl
                have hcl := (blk_cell (blk_new wd (.cells #[.string ⟨#[104, 111, 115, 116]⟩, .string ⟨#[114, 97, 99, 107]⟩, .string ⟨#[114, 111, 111, 116]⟩] 9)) kk).trans (nm_cell kk hk3)
                refine hK.out _ _ (((below_alloc (Below.refl wd.heap.size wd) _).cell (World.block_lt_of_cell? wd _ HX4.out)).trans HX4.out) (fun hHeld => ?_)
                clear hK K
                refine norm_ (a' := ?_) ?_ ?_
                rotate_left
                · show Act.put _ (some 62) _ = _
                  simp only [Act.put, List.setIfInBounds_toArray, List.set_cons_zero, List.set_cons_succ, i64_w, i32_w]
                  rfl
                refine pure_ (i := 5) (N := some 64) (v := ?_) (a' := ?_) #[true, true, true, true, true, true, false, false, false, false, false, false, false] rfl rfl (by kernel_rfl) (fun _ _ _ h => h) (Or.inl ⟨by rfl, ?_⟩) ?_ ?_
                rotate_left
                · intro w'
                  go_simp
                  with_reducible rfl
                rotate_left
                · simp only [Act.put, List.setIfInBounds_toArray, List.set_cons_zero, List.set_cons_succ, i64_w, i32_w]
                  rfl
                refine one_ (i := 6) (N := some 65) #[true, true, true, true, true, true, true, false, false, false, false, false, false] rfl rfl (by kernel_rfl) (by decide) (fun K hK => ?_)
                refine value_ (w1 := ?_) (v := ?_) (by rfl) rfl ?_ ?_
                rotate_left 2
                · go_simp
                  constructor
                  · rfl
                  · rfl
                refine hK.out _ _ (((below_alloc (Below.refl wd.heap.size wd) _).cell (World.block_lt_of_cell? wd _ HX4.out)).trans HX4.out) (fun hHeld => ?_)
                clear hK K
                refine norm_ (a' := ?_) ?_ ?_
                rotate_left
                · show Act.put _ (some 65) _ = _
                  simp only [Act.put, List.setIfInBounds_toArray, List.set_cons_zero, List.set_cons_succ, i64_w, i32_w]
                  rfl
                refine pure_ (i := 7) (N := some 66) (v := ?_) (a' := ?_) #[true, true, true, true, true, true, true, true, false, false, false, false, false] rfl rfl (by kernel_rfl) (fun _ _ _ h => h) (Or.inl ⟨by rfl, ?_⟩) ?_ ?_
                rotate_left
                · intro w'
                  go_simp
                  with_reducible rfl
                rotate_left
                · simp only [Act.put, List.setIfInBounds_toArray, List.set_cons_zero, List.set_cons_succ, i64_w, i32_w]
                  rfl
                refine pure_ (i := 8) (N := some 67) (v := ?_) (a' := ?_) #[true, true, true, true, true, true, true, true, true, false, false, false, false] rfl rfl (by kernel_rfl) (fun _ _ _ h => h) (Or.inl ⟨by rfl, ?_⟩) ?_ ?_
                rotate_left
                · intro w'
                  go_simp
                  with_reducible rfl
                rotate_left
                · simp only [Act.put, List.setIfInBounds_toArray, List.set_cons_zero, List.set_cons_succ, i64_w, i32_w]
                  rfl
                refine pure_ (i := 9) (N := some 68) (v := undef) (a' := ?_) #[true, true, true, true, true, true, true, true, true, true, false, false, false] rfl rfl (by kernel_rfl) (fun _ _ _ h => h) (Or.inr ⟨by rfl, rfl⟩) ?_ ?_
                rotate_left
                · simp only [Act.put, List.setIfInBounds_toArray, List.set_cons_zero, List.set_cons_succ, i64_w, i32_w]
                  rfl
                refine pure_ (i := 10) (N := some 69) (v := undef) (a' := ?_) #[true, true, true, true, true, true, true, true, true, true, true, false, false] rfl rfl (by kernel_rfl) (fun _ _ _ h => h) (Or.inr ⟨by rfl, rfl⟩) ?_ ?_
                rotate_left
                · simp only [Act.put, List.setIfInBounds_toArray, List.set_cons_zero, List.set_cons_succ, i64_w, i32_w]
                  rfl
                refine pure_ (i := 11) (N := some 70) (v := undef) (a' := ?_) #[true, true, true, true, true, true, true, true, true, true, true, true, false] rfl rfl (by kernel_rfl) (fun _ _ _ h => h) (Or.inr ⟨by rfl, rfl⟩) ?_ ?_
                rotate_left
                · simp only [Act.put, List.setIfInBounds_toArray, List.set_cons_zero, List.set_cons_succ, i64_w, i32_w]
                  rfl
                refine pure_ (i := 12) (N := some 71) (v := ?_) (a' := ?_) #[true, true, true, true, true, true, true, true, true, true, true, true, true] rfl rfl (by kernel_rfl) (fun _ _ _ h => h) (Or.inl ⟨by rfl, ?_⟩) ?_ ?_
                rotate_left
                · intro w'
                  go_simp
                  with_reducible rfl
                rotate_left
                · simp only [Act.put, List.setIfInBounds_toArray, List.set_cons_zero, List.set_cons_succ, i64_w, i32_w]
                  rfl
                refine done_ (by kernel_rfl) ?_
                clear hcl
                have hb2 := below_alloc (Below.refl wd.heap.size wd) (.cells #[.string ⟨#[104, 111, 115, 116]⟩, .string ⟨#[114, 97, 99, 107]⟩, .string ⟨#[114, 111, 111, 116]⟩] 9)
                have BT := Aside0.mk (blk_below BT4.out hb2)
                have BR := Aside0.mk (blk_below BR4.out hb2)
                have HN := Aside0.mk (Kd.R_below HN4.out hb2)
                have HB := Aside0.mk (below_step HB4.out hb2)
                clear hb2 BT4 BR4 HN4 HB4 HX4
                generalize wd.alloc (.cells #[.string ⟨#[104, 111, 115, 116]⟩, .string ⟨#[114, 97, 99, 107]⟩, .string ⟨#[114, 111, 111, 116]⟩] 9) = wq at BT BR HN HB ⊢
                go_wp2_with fail
                go_roundg (gk - 1)
                case measure => omega
                case rel => exact ⟨kk + 1, by omega, by omega, rfl, ⟨fun j hj hh => by
                  by_cases e : j = kk
                  · subst e
                    exact HNO.out hh
                  · exact HJ.out j (by omega) hh⟩, HB, BT, BR, HN⟩
            · obtain rfl : kk = 3 := by omega
              have HF := Aside0.mk (show spLine D B (w0 :: ws) = none from HS.out.trans (addX_none HNN.out (fun j hj => HJ.out j hj)))
              have hc0 := (blk_cell BT.out 0).trans rfl
              have hc1 := (blk_cell BT.out 1).trans rfl
              have hr0 := (blk_cell BR.out 0).trans rfl
              have hr1 := (blk_cell BR.out 1).trans rfl
              have hf0 := blk_frozen BR.out 0
              have hf1 := blk_frozen BR.out 1
              go_wp2_with fail
              have HBX := Aside0.mk ((HB.out.setCell (p := ⟨gr, 0, none⟩) HGG.out.2.2.2 (.slice A0 D.length c0)).setCell (p := ⟨gr, 1, none⟩) HGG.out.2.2.2 (.slice A1 B.length c1))
              have HR3 := blk_put (blk_put BR.out 0 (.slice A0 D.length c0) rfl) 1 (.slice A1 B.length c1) rfl
              (try simp only [Exit.inBlock, Exit.then])
              refine bodyPost_ret (results_ct rfl _ _ gr (.agg #[.slice A0 D.length c0, .slice A1 B.length c1]) (.bool false) rfl (run_loadVar_row _ gr 25 25 _ (0, 0) _ HR3 Tryz.underlying25 rfl (by kernel_rfl)) rfl) rfl ?_
              exact ⟨_, _, by rw [HF.out]; rfl, ⟨_, _, _, rfl⟩, ⟨_, _, _, rfl⟩, (fun D' B' h => by rw [HF.out] at h; cases h), HBX.out.mono HBS.out, Kept.of_below HBX.out _⟩)

end Go.Proofs.YtohjpgcmhihdhaaGreatDoor.Pure
