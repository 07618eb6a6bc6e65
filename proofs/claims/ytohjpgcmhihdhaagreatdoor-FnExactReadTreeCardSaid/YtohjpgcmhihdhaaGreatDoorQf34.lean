/- Walks of the Go functions that the laws call: each returns what a plain Lean function says. Written by a program for these claims. -/
import Derived.Test.YtohjpgcmhihdhaaGreatDoorQ0
import Derived.Test.YtohjpgcmhihdhaaGreatDoorQf54
import Derived.Test.YtohjpgcmhihdhaaGreatDoorQf65
namespace Go.Proofs.YtohjpgcmhihdhaaGreatDoor.Q
open Go.RowKit Go.Proofs.YtohjpgcmhihdhaaGreatDoorW.PrintWords Go.Proofs.YtohjpgcmhihdhaaGreatDoorW.PrintLast Go.Proofs.YtohjpgcmhihdhaaGreatDoorW.PrintMore
attribute [local go_sem] max2_int min2_int max_two min_two max_three min_three max_four min_four   -- for this text's walks alone
set_option linter.unusedVariables false
set_option linter.unusedSimpArgs false

/-! ### impl_Tree_itemsOk: function 34 -/
/-- every number of a topology is an int64 -/
def wfTree (l0 : List (S57)) (l1 : List (S49)) : Bool :=
  l0.all (fun d => wfI d.f0 && wfI d.f1) && l1.all (fun b => wfI b.f0 && wfI b.f1 && b.f2.all wfI)
theorem wf_bucket {l0 : List (S57)} {l1 : List (S49)} (h : wfTree l0 l1 = true) (i : Int) (h0 : 0 ≤ i) (h1 : i < l1.length) : wfI (rd_T49 l1 i).f0 = true ∧ wfI (rd_T49 l1 i).f1 = true ∧ (rd_T49 l1 i).f2.all wfI = true := by
  unfold wfTree at h
  rw [Bool.and_eq_true, List.all_eq_true, List.all_eq_true] at h
  have hl : i.toNat < l1.length := by omega
  have hm : rd_T49 l1 i ∈ l1 := by
    unfold rd_T49
    rw [List.getD_eq_getElem?_getD, List.getElem?_eq_getElem hl]
    exact List.getElem_mem hl
  have := h.2 _ hm
  simp only [Bool.and_eq_true] at this
  exact ⟨this.1.1, this.1.2, this.2⟩
theorem wf_kindAt {l0 : List (S57)} {l1 : List (S49)} (h : wfTree l0 l1 = true) (id : Int) : wfI (kindAt l0 l1 id) = true := by
  unfold kindAt
  split
  · decide
  · split
    · decide
    · rename_i hb
      have h0 : 0 ≤ bucketAt l1 id := by omega
      exact (wf_bucket h _ h0 (bucketAt_lt l1 id h0)).2.1
theorem wf_wrap64 (x : Int) : wfI (wrap64 x) = true := by
  unfold wfI wrap64
  exact decide_eq_true (by omega)
def itemsOkB (l0 : List (S57)) (l1 : List (S49)) (kind : Int) (items : List Int) : Bool :=
  if items.length = 0 then true
  else if 1 < (onceOf (items.map (kindAt l0 l1))).length then false
  else if kind = 3 then (items.map (kindAt l0 l1)).any (fun y => y == 1) || (items.map (kindAt l0 l1)).any (fun y => y == 2)
  else (items.map (kindAt l0 l1)).any (fun y => y == wrap64 (kind - 1))
def impl_Tree_itemsOk.f (l0_0 : List (S57)) (l0_1 : List (S49)) (a1_0 : Int) (a1_1 : Int) (l1_2 : List Int) : Option Bool :=
  if wfTree l0_0 l0_1 = true then some (itemsOkB l0_0 l0_1 a1_1 l1_2) else none
theorem take_map_snoc {α β : Type} (f : α → β) (l : List α) (i : Int) (h0 : 0 ≤ i) (h1 : i < (l.length : Int)) (z : α) : (l.map f).take (i + 1).toNat = (l.map f).take i.toNat ++ [f (l.getD i.toNat z)] := by
  obtain ⟨n, rfl⟩ := Int.eq_ofNat_of_zero_le h0
  have hl : n < l.length := by omega
  have e : ((n : Int) + 1).toNat = n + 1 := by omega
  rw [e, Int.toNat_natCast, List.take_succ_eq_append_getElem (by simpa using hl), List.getElem_map, List.getD_eq_getElem?_getD, List.getElem?_eq_getElem hl]
  rfl
set_option maxHeartbeats 4000000 in
set_option maxRecDepth 100000 in
theorem impl_Tree_itemsOk.calls (A0_0 : Option Addr) (c0_0 : Nat) (l0_0 : List (S57)) (A0_1 : Option Addr) (c0_1 : Nat) (l0_1 : List (S49)) (a1_0 : Int) (a1_1 : Int) (A1_2 : Option Addr) (c1_2 : Nat) (l1_2 : List Int) (r : Bool) (w : World) (hr0_0 : Kd.C k57 w A0_0 l0_0.length l0_0) (hc0_0 : l0_0.length ≤ c0_0) (hr0_1 : Kd.C k49 w A0_1 l0_1.length l0_1) (hc0_1 : l0_1.length ≤ c0_1) (hr1_2 : Kd.C (Kd.int .i64) w A1_2 l1_2.length l1_2) (hc1_2 : l1_2.length ≤ c1_2) (h : impl_Tree_itemsOk.f l0_0 l0_1 a1_0 a1_1 l1_2 = some r) :
    Calls Tryz.prog 34 #[.agg #[.slice A0_0 l0_0.length c0_0, .slice A0_1 l0_1.length c0_1], .agg #[.int .i64 a1_0, .int .i64 a1_1, .slice A1_2 l1_2.length c1_2]] w fun e w' => e = .returned (.bool r) ∧ Below w.heap.size w w' := by
  have hm := Kd.C_max hr1_2
  have HR0 := Aside0.mk hr0_0
  have HR1 := Aside0.mk hr0_1
  have HRI := Aside0.mk hr1_2
  have HC0 := Aside0.mk hc0_0
  have HC1 := Aside0.mk hc0_1
  clear hr0_0 hr0_1 hc0_0 hc0_1 hr1_2
  unfold impl_Tree_itemsOk.f at h
  by_cases hwf : wfTree l0_0 l0_1 = true
  case neg => rw [if_neg hwf] at h; cases h
  rw [if_pos hwf] at h
  obtain rfl := Option.some.inj h
  clear h
  have HW := Aside0.mk hwf
  clear hwf
  have hmm := @run_makeMap Tryz.prog
  go_enter Tryz.func34, Tryz.ntmps34
  go_wp2_with fail
  have HB0 : Aside0 (Below w.heap.size w (((w.alloc (.cells #[.slice A0_0 l0_0.length c0_0, .slice A0_1 l0_1.length c0_1] 25)).alloc (.cells #[.int .i64 a1_0, .int .i64 a1_1, .slice A1_2 l1_2.length c1_2] 49)).alloc (.map #[] 0))) := ⟨below_alloc (below_alloc (below_alloc (Below.refl _ _) _) _) _⟩
  have HS0 : Aside0 (OwnSet (((w.alloc (.cells #[.slice A0_0 l0_0.length c0_0, .slice A0_1 l0_1.length c0_1] 25)).alloc (.cells #[.int .i64 a1_0, .int .i64 a1_1, .slice A1_2 l1_2.length c1_2] 49)).alloc (.map #[] 0)) (w.heap.size + 1 + 1) 0 []) := ⟨by have := OwnSet.made ((w.alloc (.cells #[.slice A0_0 l0_0.length c0_0, .slice A0_1 l0_1.length c0_1] 25)).alloc (.cells #[.int .i64 a1_0, .int .i64 a1_1, .slice A1_2 l1_2.length c1_2] 49)); simpa using this⟩
  have HX0 : Aside0 ((((w.alloc (.cells #[.slice A0_0 l0_0.length c0_0, .slice A0_1 l0_1.length c0_1] 25)).alloc (.cells #[.int .i64 a1_0, .int .i64 a1_1, .slice A1_2 l1_2.length c1_2] 49)).alloc (.map #[] 0)).heap[w.heap.size]? = some (.cells #[.slice A0_0 l0_0.length c0_0, .slice A0_1 l0_1.length c0_1] 25 (0, 0))) := ⟨blk_alloc (blk_alloc (blk_new w _) _) _⟩
  have HY0 : Aside0 ((((w.alloc (.cells #[.slice A0_0 l0_0.length c0_0, .slice A0_1 l0_1.length c0_1] 25)).alloc (.cells #[.int .i64 a1_0, .int .i64 a1_1, .slice A1_2 l1_2.length c1_2] 49)).alloc (.map #[] 0)).heap[w.heap.size + 1]? = some (.cells #[.int .i64 a1_0, .int .i64 a1_1, .slice A1_2 l1_2.length c1_2] 49 (0, 0))) := ⟨blk_alloc (alloc_new _ _ _ (by simp)) _⟩
  go_loopg [7, 12] l1_2.length (fun gg _ s12 wr => ∃ kk : Int, 0 ≤ kk ∧ kk ≤ l1_2.length ∧ (l1_2.length : Int) - kk ≤ gg ∧ s12 = .int .i64 kk ∧ Aside0 (Below w.heap.size w wr) ∧ Aside0 (OwnSet wr (w.heap.size + 1 + 1) kk.toNat ((l1_2.map (kindAt l0_0 l0_1)).take kk.toNat)) ∧ Aside0 (wr.heap[w.heap.size]? = some (.cells #[.slice A0_0 l0_0.length c0_0, .slice A0_1 l0_1.length c0_1] 25 (0, 0))) ∧ Aside0 (wr.heap[w.heap.size + 1]? = some (.cells #[.int .i64 a1_0, .int .i64 a1_1, .slice A1_2 l1_2.length c1_2] 49 (0, 0))))
  case atStart => exact ⟨0, by omega, by omega, by omega, rfl, HB0, HS0, HX0, HY0⟩
  case round =>
    clear HB0 HS0 HX0 HY0
    obtain ⟨kk, h0, hkk, hg, rfl, BW, HS, HX, HY⟩ := hrel
    have hcx0 := (blk_cell HX.out 0).trans rfl
    have hcx1 := (blk_cell HX.out 1).trans rfl
    have hcy0 := (blk_cell HY.out 0).trans rfl
    have hcy1 := (blk_cell HY.out 1).trans rfl
    have hcy2 := (blk_cell HY.out 2).trans rfl
    by_cases hlt : kk < (l1_2.length : Int)
    · obtain ⟨ad, rfl, hx0⟩ := Kd.at_int HRI.out kk h0 hlt
      replace hx0 := (BW.out.cell (World.block_lt_of_cell? w _ hx0)).trans hx0
      have q0 := eq_true h0
      have q1 := eq_true hlt
      have HM := Aside0.mk (take_map_snoc (kindAt l0_0 l0_1) l1_2 kk h0 hlt 0)
      go_wp2_with fail
      refine (impl_Tree_kindOf.calls A0_0 c0_0 l0_0 A0_1 c0_1 l0_1 _ _ _ (Kd.C_below HR0.out BW.out) HC0.out (Kd.C_below HR1.out BW.out) HC1.out rfl).mono ?_
      rintro e w1 ⟨rfl, hb1⟩
      have HB1 := Aside0.mk (BW.out.trans (hb1.mono BW.out.size))
      have HS1 := Aside0.mk (OwnSet.below HS.out hb1)
      have HX1 := Aside0.mk ((hb1.block _ (blk_lt HX.out)).trans HX.out)
      have HY1 := Aside0.mk ((hb1.block _ (blk_lt HY.out)).trans HY.out)
      clear hb1 BW HS HX HY hcx0 hcx1 hcy0 hcy1 hcy2 hx0
      go_wp2_with (at_mapUpdate; refine OwnSet.put rfl rfl _ _ _ rfl _ _ _ rfl HS1.out (by omega) _ rfl rfl (wf_kindAt HW.out _) ?_; intro w2 hs2 hg2; have HS2 := Aside0.mk hs2; have HG2 := Aside0.mk hg2; clear hs2 hg2)
      have hkn : (kk + 1).toNat = kk.toNat + 1 := by omega
      go_roundg (gk - 1)
      case measure => omega
      case rel =>
        exact ⟨kk + 1, by omega, by omega, by omega, by go_num, ⟨pw_below_grown HB1.out (some (w.heap.size + 1 + 1)) HB1.out.size HG2.out (by intro k hk; cases hk; omega)⟩,
          ⟨by rw [HM.out, hkn]; exact HS2.out⟩,
          ⟨(HG2.out.block _ (blk_lt HX1.out) (by simp; omega)).trans HX1.out⟩, ⟨(HG2.out.block _ (blk_lt HY1.out) (by simp)).trans HY1.out⟩⟩
    · have : kk = l1_2.length := by omega
      subst this
      have HS' : Aside0 (OwnSet wr (w.heap.size + 1 + 1) l1_2.length (l1_2.map (kindAt l0_0 l0_1))) := ⟨by have := HS.out; rw [List.take_of_length_le (by simp)] at this; simpa using this⟩
      clear HS HR0 HR1 HC0 HC1
      have hd : itemsOkB l0_0 l0_1 a1_1 l1_2 = if l1_2.length = 0 then true
        else if 1 < (onceOf (l1_2.map (kindAt l0_0 l0_1))).length then false
        else if a1_1 = 3 then (l1_2.map (kindAt l0_0 l0_1)).any (fun y => y == 1) || (l1_2.map (kindAt l0_0 l0_1)).any (fun y => y == 2)
        else (l1_2.map (kindAt l0_0 l0_1)).any (fun y => y == wrap64 (a1_1 - 1)) := rfl
      have hlook := fun (x : Int) (hx : wfI x = true) => OwnSet.look (w := wr) (HS'.out) x hx
      have hlen := OwnSet.len HS'.out
      have HL := Aside0.mk hlook
      clear hlook
      have ke := wf_wrap64 (a1_1 - 1)
      generalize l1_2.map (kindAt l0_0 l0_1) = ks at hd HL hlen
      by_cases c1 : l1_2.length = 0
      · rw [if_pos c1] at hd
        have HD := Aside0.mk hd
        clear hd hlen
        have c1' : ((l1_2.length : Int) == 0) = true := by simp [c1]
        have HC := Aside0.mk c1
        clear c1
        go_wp2_with fail
        go_ret
        exact ⟨by rw [HD.out]; rfl, BW.out⟩
      · rw [if_neg c1] at hd
        have c1' : ((l1_2.length : Int) == 0) = false := by simp; simpa using c1
        clear c1
        by_cases c2 : 1 < (onceOf ks).length
        · rw [if_pos c2] at hd
          have HD := Aside0.mk hd
          clear hd
          have c2' : decide (1 < ((onceOf ks).length : Int)) = true := decide_eq_true (by omega)
          clear c2
          go_wp2_with fail
          go_ret
          exact ⟨by rw [HD.out]; rfl, BW.out⟩
        · rw [if_neg c2] at hd
          have c2' : decide (1 < ((onceOf ks).length : Int)) = false := decide_eq_false (by omega)
          clear c2
          by_cases c3 : a1_1 = 3
          · rw [if_pos c3] at hd
            have HD := Aside0.mk hd
            clear hd
            have c3' : (a1_1 == 3) = true := by simp [c3]
            clear c3
            have hl1 := HL.out 1 (by decide)
            have hl2 := HL.out 2 (by decide)
            generalize ks.any (fun y => y == 1) = x1 at hl1 HD
            generalize ks.any (fun y => y == 2) = x2 at hl2 HD
            cases x1 with
            | true =>
              go_wp2_with fail
              go_ret
              exact ⟨by rw [HD.out]; rfl, BW.out⟩
            | false =>
              go_wp2_with fail
              go_ret
              exact ⟨by rw [HD.out]; rfl, BW.out⟩
          · rw [if_neg c3] at hd
            have HD := Aside0.mk hd
            clear hd
            have c3' : (a1_1 == 3) = false := by simp [c3]
            clear c3
            have hl0 := HL.out (wrap64 (a1_1 - 1)) ke
            go_wp2_with fail
            go_ret
            exact ⟨by rw [HD.out]; rfl, BW.out⟩

end Go.Proofs.YtohjpgcmhihdhaaGreatDoor.Q
