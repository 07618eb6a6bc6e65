/- Plain laws of the law's own helpers on topologies: a copy, comparing one with itself, the size. Conditions: the bounds that each theorem names. -/
import Derived.Test.YtohjpgcmhihdhaaDoorOLInt
import Derived.Test.YtohjpgcmhihdhaaDoorQ0
import Derived.Test.YtohjpgcmhihdhaaDoorOTypes
import Derived.Test.YtohjpgcmhihdhaaDoorQf19
import Derived.Test.YtohjpgcmhihdhaaDoorQf5
import Derived.Test.YtohjpgcmhihdhaaDoorQf7
import Derived.Test.YtohjpgcmhihdhaaDoorQf9
import Derived.Test.YtohjpgcmhihdhaaDoorQf45
import Derived.Test.YtohjpgcmhihdhaaDoorQf22
import Derived.Test.YtohjpgcmhihdhaaDoorQf44
import Derived.Test.YtohjpgcmhihdhaaDoorQf21
import Derived.Test.YtohjpgcmhihdhaaDoorQf29
import Derived.Test.YtohjpgcmhihdhaaDoorQf14
import Derived.Test.YtohjpgcmhihdhaaDoorQf13
import Derived.Test.YtohjpgcmhihdhaaDoorQf58
import Derived.Test.YtohjpgcmhihdhaaDoorQf36
import Derived.Test.YtohjpgcmhihdhaaDoorQf18
import Derived.Test.YtohjpgcmhihdhaaDoorQf35
import Derived.Test.YtohjpgcmhihdhaaDoorQf17
namespace Go.Proofs.YtohjpgcmhihdhaaDoor.Pure
open Go.RowKit Go.Proofs.YtohjpgcmhihdhaaDoor.Q Go.Proofs.YtohjpgcmhihdhaaDoor.Opens Go.Proofs.YtohjpgcmhihdhaaDoorW.PrintWords Go.Proofs.YtohjpgcmhihdhaaDoorW.PrintLast Go.Proofs.YtohjpgcmhihdhaaDoorW.PrintMore
set_option linter.unusedVariables false
set_option linter.unusedSimpArgs false

def devOf (x : S68) : S65 := ⟨x.f0, x.f1⟩
def bktOf (x : S60) : S62 := ⟨x.f0, x.f1, x.f2⟩
theorem rd_devL (l : List S68) (i : Nat) (h : i < l.length) : rd_T68 l (i : Int) = l[i] := by
  unfold rd_T68
  rw [Int.toNat_natCast, getD_get l i _ h]
theorem rd_dev (l : List S65) (i : Nat) (h : i < l.length) : rd_T65 l (i : Int) = l[i] := by
  unfold rd_T65
  rw [Int.toNat_natCast, getD_get l i _ h]
theorem rd_bktL (l : List S60) (i : Nat) (h : i < l.length) : rd_T60 l (i : Int) = l[i] := by
  unfold rd_T60
  rw [Int.toNat_natCast, getD_get l i _ h]
theorem rd_bkt (l : List S62) (i : Nat) (h : i < l.length) : rd_T62 l (i : Int) = l[i] := by
  unfold rd_T62
  rw [Int.toNat_natCast, getD_get l i _ h]
theorem toDeviceS_ev (l : List S68) (hl : l.length ≤ 1048576) : Ev (fun k => laws_toDeviceS.f k l) (l.map devOf) := by
  have h := map_loop (fun k y i => laws_toDeviceS.l0 k l y i) l devOf (fun i hi y hy => ev_next (fun k => by
    simp only [laws_toDeviceS.l0, laws_toDevice.f, Option.bind_some]
    rw [if_pos (by omega), if_pos (by omega), if_pos (by omega), up64 i l.length hi (by omega), Int.toNat_natCast, rd_devL l i hi]
    all_goals exact rfl)) (fun k y => by simp only [laws_toDeviceS.l0]; rw [if_neg (by omega)]) (List.replicate ((l.length : Int) : Int).toNat z65) (by simp)
  refine Ev.congr (fun k => ?_) h
  unfold laws_toDeviceS.f
  rw [if_pos (by omega), if_pos (by omega)]
theorem toBucketS_ev (l : List S60) (hl : l.length ≤ 1048576) (hb : ∀ x ∈ l, x.f2.length ≤ 1048576) : Ev (fun k => laws_toBucketS.f k l) (l.map bktOf) := by
  have h := map_loop (fun k y i => laws_toBucketS.l0 k l y i) l bktOf (fun i hi y hy => fun r hr => by
    refine Ev.step (f := ?f) (fun k => ?_) ?_
    rotate_left
    · simp only [laws_toBucketS.l0]
      rw [if_pos (by omega), if_pos (by omega), rd_bktL l i hi, up64 i l.length hi (by omega), Int.toNat_natCast]
      all_goals exact rfl
    · refine Ev.bind (a := (l[i].f0, l[i].f1, l[i].f2)) ?_ ?_
      · unfold laws_toBucket.f
        exact Ev.bind (toInt64S_ev _ (hb _ (List.getElem_mem hi))) (Ev.now _)
      · refine Ev.congr (fun k => ?_) hr
        rw [if_pos (by omega)]
        rfl) (fun k y => by simp only [laws_toBucketS.l0]; rw [if_neg (by omega)]) (List.replicate ((l.length : Int) : Int).toNat z62) (by simp)
  refine Ev.congr (fun k => ?_) h
  unfold laws_toBucketS.f
  rw [if_pos (by omega), if_pos (by omega)]
theorem eqDeviceS_ev (l : List S65) (hl : l.length ≤ 9223372036854775807) : Ev (fun k => laws_eqDeviceS.f k l l) true := by
  refine Ev.congr (fun k => ?_) (eq_loop l.length (fun k i => laws_eqDeviceS.l0 k l l i) (fun i hi => ev_next (fun k => by
    simp only [laws_eqDeviceS.l0, laws_eqDevice.f, Option.bind_some, if_true]
    rw [if_pos (by omega), if_pos (by omega), if_pos (by omega), up64 i l.length hi hl])) (fun k => by simp only [laws_eqDeviceS.l0]; rw [if_neg (by omega)]))
  unfold laws_eqDeviceS.f
  rw [if_pos rfl]
theorem eqBucketS_ev (l : List S62) (hl : l.length ≤ 9223372036854775807) (hb : ∀ x ∈ l, x.f2.length ≤ 9223372036854775807) : Ev (fun k => laws_eqBucketS.f k l l) true := by
  refine Ev.congr (fun k => ?_) (eq_loop l.length (fun k i => laws_eqBucketS.l0 k l l i) (fun i hi => fun r hr => by
    refine Ev.step (f := ?f) (fun k => ?_) ?_
    rotate_left
    · simp only [laws_eqBucketS.l0]
      rw [if_pos (by omega), if_pos (by omega), if_pos (by omega), up64 i l.length hi hl, rd_bkt l i hi]
      all_goals exact rfl
    · refine Ev.bind (a := true) ?_ (Ev.congr (fun k => if_pos rfl) hr)
      unfold laws_eqBucket.f
      simp only [if_true]
      exact Ev.bind (eqInt64S_ev _ (hb _ (List.getElem_mem hi))) (ev_some fun k => if_pos rfl)) (fun k => by simp only [laws_eqBucketS.l0]; rw [if_neg (by omega)]))
  unfold laws_eqBucketS.f
  rw [if_pos rfl]
theorem szInt64S_left (l : List Int) (left : Int) (hl : l.length ≤ 9223372036854775807) (h0 : 0 ≤ left) (h1 : left ≤ 1048576) : laws_szInt64S.f l left = some (if (l.length : Int) ≤ left then left - (l.length : Int) else -1) := by
  have e : wrap64 (left - (l.length : Int)) = left - (l.length : Int) := by unfold wrap64; omega
  unfold laws_szInt64S.f
  rw [e]
  by_cases h : (l.length : Int) ≤ left
  · rw [if_neg (by omega), if_pos h]
  · rw [if_pos (by omega), if_neg h]
theorem szDeviceS_left (l : List S68) (left : Int) (hl : l.length ≤ 9223372036854775807) (h0 : 0 ≤ left) (h1 : left ≤ 1048576) : laws_szDeviceS.f l left = some (if (l.length : Int) ≤ left then left - (l.length : Int) else -1) := by
  have e : wrap64 (left - (l.length : Int)) = left - (l.length : Int) := by unfold wrap64; omega
  unfold laws_szDeviceS.f
  rw [e]
  by_cases h : (l.length : Int) ≤ left
  · rw [if_neg (by omega), if_pos h]
  · rw [if_pos (by omega), if_neg h]
/-- the sizes are small -/
def Small (d : List S68) (b : List S60) : Prop := d.length ≤ 1048576 ∧ b.length ≤ 1048576 ∧ ∀ x ∈ b, x.f2.length ≤ 1048576
theorem szBucketS_ev (l : List S60) (left : Int) (hl : l.length ≤ 9223372036854775807) (hb : ∀ x ∈ l, x.f2.length ≤ 9223372036854775807) (h0 : 0 ≤ left) (h1 : left ≤ 1048576) :
    ∃ t, (0 ≤ t → t ≤ 1048576 ∧ l.length ≤ 1048576 ∧ ∀ x ∈ l, x.f2.length ≤ 1048576) ∧ Ev (fun k => laws_szBucketS.f k l left) t := by
  have e : wrap64 (left - (l.length : Int)) = left - (l.length : Int) := by unfold wrap64; omega
  unfold laws_szBucketS.f
  simp only [e]
  by_cases h : (left - (l.length : Int)) < 0
  · simp only [if_pos h]
    exact ⟨-1, by omega, Ev.now _⟩
  · simp only [if_neg h]
    refine loop_up l.length (fun k s i => laws_szBucketS.l0 k l s i) (fun i s => 0 ≤ s ∧ s ≤ 1048576 ∧ ∀ x ∈ l.take i, x.f2.length ≤ 1048576) _ ?_ ?_ _ ⟨by omega, by omega, by simp⟩
    · intro i s hi ⟨g0, g1, g2⟩
      have hsz := hb l[i] (List.getElem_mem hi)
      have hz := szInt64S_left l[i].f2 s hsz g0 g1
      have hu : ∀ k, laws_szBucketS.l0 (k + 1) l s i = (laws_szBucket.f l[i].f0 l[i].f1 l[i].f2 s).bind fun t => if t < 0 then some (-1) else laws_szBucketS.l0 k l t ((i + 1 : Nat) : Int) := fun k => by
        simp only [laws_szBucketS.l0]
        rw [if_pos (by omega), if_pos (by omega), rd_bktL l i hi, up64 i l.length hi hl]
      unfold laws_szBucket.f at hu
      by_cases c : (l[i].f2.length : Int) ≤ s
      · refine .inr ⟨s - (l[i].f2.length : Int), ⟨by omega, by omega, fun x hx => ?_⟩, ev_next (fun k => ?_)⟩
        · rw [List.take_succ_eq_append_getElem hi] at hx
          rcases List.mem_append.1 hx with hx | hx
          · exact g2 x hx
          · simp only [List.mem_singleton] at hx
            subst hx
            omega
        · rw [hu k, hz, if_pos c]
          simp only [Option.bind_some]
          rw [if_neg (by omega), Option.bind_some, if_neg (by omega)]
      · refine .inl ⟨-1, by omega, ev_end (fun k => ?_)⟩
        rw [hu k, hz, if_neg c]
        simp
    · intro s ⟨g0, g1, g2⟩
      rw [List.take_length] at g2
      refine ⟨s, fun _ => ⟨by omega, by omega, g2⟩, ev_end (fun k => ?_)⟩
      simp only [laws_szBucketS.l0]
      rw [if_neg (by omega)]
theorem szTree_ev (d : List S68) (b : List S60) (left : Int) (hd : d.length ≤ 9223372036854775807) (hl : b.length ≤ 9223372036854775807) (hb : ∀ x ∈ b, x.f2.length ≤ 9223372036854775807) (h0 : 0 ≤ left) (h1 : left ≤ 1048576) :
    ∃ t, (0 ≤ t → t ≤ 1048576 ∧ Small d b) ∧ Ev (fun k => laws_szTree.f k d b left) t := by
  unfold laws_szTree.f
  simp only [szDeviceS_left d left hd h0 h1, Option.bind_some]
  by_cases c : (d.length : Int) ≤ left
  · simp only [if_pos c, show ¬ (left - (d.length : Int) < 0) by omega, if_false]
    obtain ⟨t, ht, hE⟩ := szBucketS_ev b (left - (d.length : Int)) hl hb (by omega) (by omega)
    by_cases c2 : t < 0
    · exact ⟨-1, by omega, Ev.bind hE (ev_some fun k => if_pos c2)⟩
    · have := ht (by omega)
      exact ⟨t, fun _ => ⟨this.1, by omega, this.2.1, this.2.2⟩, Ev.bind hE (ev_some fun k => if_neg c2)⟩
  · simp only [if_neg c]
    exact ⟨-1, by omega, ev_some fun k => by simp⟩
theorem toTree_ev (d : List S68) (b : List S60) (h : Small d b) : Ev (fun k => laws_toTree.f k d b) (d.map devOf, b.map bktOf) := by
  unfold laws_toTree.f
  exact Ev.bind (toDeviceS_ev d h.1) (Ev.bind (toBucketS_ev b h.2.1 h.2.2) (Ev.now _))
theorem eqTree_ev (d : List S68) (b : List S60) (h : Small d b) : Ev (fun k => laws_eqTree.f k (d.map devOf) (b.map bktOf) (d.map devOf) (b.map bktOf)) true := by
  obtain ⟨h1, h2, h3⟩ := h
  unfold laws_eqTree.f
  refine Ev.bind (eqDeviceS_ev _ (by rw [List.length_map]; omega)) ?_
  simp only [if_true]
  refine Ev.bind (eqBucketS_ev _ (by rw [List.length_map]; omega) (fun x hx => ?_)) (ev_some fun k => if_pos rfl)
  obtain ⟨y, hy, rfl⟩ := List.mem_map.1 hx
  have := h3 y hy
  show y.f2.length ≤ _
  omega
/-- the numbers of a law's topology are of their kind -/
theorem wf_of_good (d : List S68) (b : List S60) (hd : good_t22 d) (hb : good_t23 b) : wfTree (d.map devOf) (b.map bktOf) = true := by
  unfold wfTree
  rw [Bool.and_eq_true, List.all_eq_true, List.all_eq_true]
  constructor
  · intro x hx
    obtain ⟨y, hy, rfl⟩ := List.mem_map.1 hx
    have := hd.2 y hy
    rw [Bool.and_eq_true]
    exact ⟨wf_wfI this.1, wf_wfI this.2⟩
  · intro x hx
    obtain ⟨y, hy, rfl⟩ := List.mem_map.1 hx
    have := hb.2 y hy
    rw [Bool.and_eq_true, Bool.and_eq_true]
    refine ⟨⟨wf_wfI this.1, wf_wfI this.2.1⟩, ?_⟩
    rw [List.all_eq_true]
    intro z hz
    exact wf_wfI (this.2.2.2 z hz)
theorem small_of_good (d : List S68) (b : List S60) (hd : good_t22 d) (hb : good_t23 b) : d.length ≤ 9223372036854775807 ∧ b.length ≤ 9223372036854775807 ∧ ∀ x ∈ b, x.f2.length ≤ 9223372036854775807 :=
  ⟨hd.1, hb.1, fun x hx => (hb.2 x hx).2.2.1⟩

end Go.Proofs.YtohjpgcmhihdhaaDoor.Pure
