/- Walks and plain laws of one claim, several texts in one. -/
import Derived.Test.YtohjpgcmhihdhaaDoorQ0
import Derived.Test.YtohjpgcmhihdhaaDoorWBMore
import Derived.Laws.BitsLemmas
namespace Go.Proofs.YtohjpgcmhihdhaaDoor.Q
open Go.RowKit Go.Proofs.YtohjpgcmhihdhaaDoorW.PrintWords Go.Proofs.YtohjpgcmhihdhaaDoorW.PrintLast Go.Proofs.YtohjpgcmhihdhaaDoorW.PrintMore
attribute [local go_sem] max2_int min2_int max_two min_two max_three min_three max_four min_four   -- for this text's walks alone
set_option linter.unusedVariables false
set_option linter.unusedSimpArgs false
/-- A state of type 87 at block g of W; what its slices lead to came in by w0. -/
def IsS87 (w0 W : World) (g : Nat) (f0 : List Int) (f1 : Int) (f2 : Int) : Prop := ∃ A0 c0, W.heap[g]? = some (.cells #[.slice A0 f0.length c0, .int .i64 f1, .int .u64 f2] 87 (0, 0)) ∧ w0.heap.size ≤ g ∧ Kd.C (Kd.int .u8) w0 A0 f0.length f0
theorem IsS87.grown {w0 W : World} {g : Nat} {f0 : List Int} {f1 : Int} {f2 : Int} {W1 : World} {row : Option Nat} (h : IsS87 w0 W g f0 f1 f2) (hw : W.grownBy W1 row) (hne : some g ≠ row) : IsS87 w0 W1 g f0 f1 f2 := by
  obtain ⟨A0, c0, hb, hg, hr0⟩ := h
  exact ⟨A0, c0, blk_grown hb hw hne, hg, hr0⟩
theorem IsS87.own_neN {w0 W : World} {g : Nat} {f0 : List Int} {f1 : Int} {f2 : Int} {α : Type} {d : Kd α} {e : Nat} {base : Nat} {ok : Nat → Prop} {v : Value} {xs : List α} (h : IsS87 w0 W g f0 f1 f2) (ho : Kd.N d e W base ok v xs) (ht : e ≠ 87) : some g ≠ v.ownBlock := by
  obtain ⟨A0, c0, hb, hg, hr0⟩ := h
  exact Kd.N_ne ho hb ht
theorem IsS87.fresh {w0 W : World} {g : Nat} {f0 : List Int} {f1 : Int} {f2 : Int} (h : IsS87 w0 W g f0 f1 f2) : ∀ k, W.heap.size ≤ k → k ≠ g := by
  obtain ⟨A0, c0, hb, hg, hr0⟩ := h
  exact Kd.freshB hb
theorem IsS87.kept {w0 W : World} {g : Nat} {f0 : List Int} {f1 : Int} {f2 : Int} {W1 : World} {S : Nat → Prop} (h : IsS87 w0 W g f0 f1 f2) (hk : Kept W W1 S) (hne : ¬ S g) : IsS87 w0 W1 g f0 f1 f2 := by
  obtain ⟨A0, c0, hb, hg, hr0⟩ := h
  exact ⟨A0, c0, blk_kept hb hk hne, hg, hr0⟩
theorem IsS87.below {w0 W : World} {g : Nat} {f0 : List Int} {f1 : Int} {f2 : Int} {W1 : World} (h : IsS87 w0 W g f0 f1 f2) (hw : Below W.heap.size W W1) : IsS87 w0 W1 g f0 f1 f2 := h.grown (grown_of_below hw none) (by simp)
theorem IsS87.alloc {w0 W : World} {g : Nat} {f0 : List Int} {f1 : Int} {f2 : Int} (h : IsS87 w0 W g f0 f1 f2) (o : Obj) : IsS87 w0 (W.alloc o) g f0 f1 f2 := h.below (below_alloc (Below.refl _ _) o)
theorem IsS87.drewN {w0 W : World} {g : Nat} {f0 : List Int} {f1 : Int} {f2 : Int} (h : IsS87 w0 W g f0 f1 f2) (m : Nat) : IsS87 w0 (W.drewN m) g f0 f1 f2 := h
theorem IsS87.drew {w0 W : World} {g : Nat} {f0 : List Int} {f1 : Int} {f2 : Int} (h : IsS87 w0 W g f0 f1 f2) : IsS87 w0 W.drew g f0 f1 f2 := h
theorem IsS87.at_ {w0 W : World} {g : Nat} {f0 : List Int} {f1 : Int} {f2 : Int} {w' : World} {m : Nat} (hq : W.drewN m = w') (h : IsS87 w0 W g f0 f1 f2) : IsS87 w0 w' g f0 f1 f2 := by subst hq; exact IsS87.drewN h m
theorem IsS87.apart {w0 W : World} {g : Nat} {f0 : List Int} {f1 : Int} {f2 : Int} {α : Type} {d : Kd α} {e : Nat} {base : Nat} {ok : Nat → Prop} {v : Value} {xs : List α} (h : IsS87 w0 W g f0 f1 f2) (ho : d.R e W base ok v xs) (ht : ∀ q, q ∈ e :: d.E → q ≠ 87) : d.R e W base (fun k => ok k ∧ k ≠ g) v xs := by
  obtain ⟨A0, c0, hb, hg, hr0⟩ := h
  exact Kd.R_types ho hb ht
theorem IsS87.own_ne {w0 W : World} {g : Nat} {f0 : List Int} {f1 : Int} {f2 : Int} {α : Type} {d : Kd α} {e : Nat} {base : Nat} {ok : Nat → Prop} {v : Value} {xs : List α} (h : IsS87 w0 W g f0 f1 f2) (ho : d.R e W base ok v xs) (ht : e ≠ 87) : some g ≠ v.ownBlock := by
  obtain ⟨A0, c0, hb, hg, hr0⟩ := h
  exact Kd.R_ne ho hb ht
theorem IsS87.apartQ {w0 W : World} {g : Nat} {f0 : List Int} {f1 : Int} {f2 : Int} {α : Type} {d : Kd α} {e : Nat} {base : Nat} {ok : Nat → Prop} {v : Value} {xs : List α} (h : IsS87 w0 W g f0 f1 f2) (ho : d.Q e W base ok v xs) (ht : ∀ q, q ∈ e :: d.E → q ≠ 87) : d.Q e W base (fun k => ok k ∧ k ≠ g) v xs := by
  obtain ⟨A0, c0, hb, hg, hr0⟩ := h
  exact Kd.Q_types ho hb ht
theorem IsS87.own_neQ {w0 W : World} {g : Nat} {f0 : List Int} {f1 : Int} {f2 : Int} {α : Type} {d : Kd α} {e : Nat} {base : Nat} {ok : Nat → Prop} {v : Value} {xs : List α} (h : IsS87 w0 W g f0 f1 f2) (ho : d.Q e W base ok v xs) (ht : e ≠ 87) : some g ≠ v.ownBlock := by
  obtain ⟨A0, c0, hb, hg, hr0⟩ := h
  exact Kd.Q_ne ho hb ht
theorem IsS87.apartS {w0 W : World} {g : Nat} {f0 : List Int} {f1 : Int} {f2 : Int} {α : Type} {d : Kd α} {e : Nat} {base : Nat} {ok : Nat → Prop} {v : Value} {xs : List α} (h : IsS87 w0 W g f0 f1 f2) (ho : d.S e W base ok v xs) (ht : ∀ q, q ∈ e :: d.E → q ≠ 87) : d.S e W base (fun k => ok k ∧ k ≠ g) v xs := by
  obtain ⟨A0, c0, hb, hg, hr0⟩ := h
  exact Kd.S_types ho hb ht
theorem IsS87.own_neS {w0 W : World} {g : Nat} {f0 : List Int} {f1 : Int} {f2 : Int} {α : Type} {d : Kd α} {e : Nat} {base : Nat} {ok : Nat → Prop} {v : Value} {xs : List α} (h : IsS87 w0 W g f0 f1 f2) (ho : d.S e W base ok v xs) (ht : e ≠ 87) : some g ≠ v.ownBlock := by
  obtain ⟨A0, c0, hb, hg, hr0⟩ := h
  exact Kd.S_ne ho hb ht
theorem IsS87.lt {w0 W : World} {g : Nat} {f0 : List Int} {f1 : Int} {f2 : Int} (h : IsS87 w0 W g f0 f1 f2) : g < W.heap.size := by
  obtain ⟨A0, c0, hb, hg, hr0⟩ := h
  exact blk_lt hb
theorem IsS87.ge {w0 W : World} {g : Nat} {f0 : List Int} {f1 : Int} {f2 : Int} (h : IsS87 w0 W g f0 f1 f2) : w0.heap.size ≤ g := by
  obtain ⟨A0, c0, hb, hg, hr0⟩ := h
  exact hg
theorem IsS87.ne_blk {w0 W : World} {g : Nat} {f0 : List Int} {f1 : Int} {f2 : Int} {a : Nat} {cs : Array Value} {t : TypeId} {fr : Nat × Nat} (h : IsS87 w0 W g f0 f1 f2) (hb2 : W.heap[a]? = some (.cells cs t fr)) (ht : t ≠ 87) : g ≠ a := by
  obtain ⟨A0, c0, hb, hg, hr0⟩ := h
  rintro rfl
  rw [hb] at hb2
  injection hb2 with hb2
  injection hb2 with _ ht2
  exact ht ht2.symm
theorem IsS87.far {w0 W : World} {g : Nat} {f0 : List Int} {f1 : Int} {f2 : Int} {p : Addr} (h : IsS87 w0 W g f0 f1 f2) (hne : g ≠ p.block) (u : Value) : IsS87 w0 (W.setCell p u) g f0 f1 f2 := by
  obtain ⟨A0, c0, hb, hg, hr0⟩ := h
  exact ⟨A0, c0, blk_far hb hne u, hg, hr0⟩
theorem cellS87_0 {W : World} {g : Nat} {A0 : Option Addr} {c0 : Nat} {f0 : List Int} {f1 : Int} {f2 : Int} (h : W.heap[g]? = some (.cells #[.slice A0 f0.length c0, .int .i64 f1, .int .u64 f2] 87 (0, 0))) : W.cell? ⟨g, 0, none⟩ = some (.slice A0 f0.length c0) := (blk_cell h 0).trans rfl
theorem cellS87_1 {W : World} {g : Nat} {A0 : Option Addr} {c0 : Nat} {f0 : List Int} {f1 : Int} {f2 : Int} (h : W.heap[g]? = some (.cells #[.slice A0 f0.length c0, .int .i64 f1, .int .u64 f2] 87 (0, 0))) : W.cell? ⟨g, 1, none⟩ = some (.int .i64 f1) := (blk_cell h 1).trans rfl
theorem IsS87.set_1 {w0 W : World} {g : Nat} {f0 : List Int} {f1 : Int} {f2 : Int} (h : IsS87 w0 W g f0 f1 f2) (x : Int) : IsS87 w0 (W.setCell ⟨g, 1, none⟩ (.int .i64 x)) g f0 x f2 := by
  obtain ⟨A0, c0, hb, hg, hr0⟩ := h
  exact ⟨A0, c0, by simpa using blk_set hb 1 (.int .i64 x), hg, hr0⟩
theorem cellS87_2 {W : World} {g : Nat} {A0 : Option Addr} {c0 : Nat} {f0 : List Int} {f1 : Int} {f2 : Int} (h : W.heap[g]? = some (.cells #[.slice A0 f0.length c0, .int .i64 f1, .int .u64 f2] 87 (0, 0))) : W.cell? ⟨g, 2, none⟩ = some (.int .u64 f2) := (blk_cell h 2).trans rfl
theorem IsS87.set_2 {w0 W : World} {g : Nat} {f0 : List Int} {f1 : Int} {f2 : Int} (h : IsS87 w0 W g f0 f1 f2) (x : Int) : IsS87 w0 (W.setCell ⟨g, 2, none⟩ (.int .u64 x)) g f0 f1 x := by
  obtain ⟨A0, c0, hb, hg, hr0⟩ := h
  exact ⟨A0, c0, by simpa using blk_set hb 2 (.int .u64 x), hg, hr0⟩
theorem IsS87.new (w0 W : World) (A0 : Option Addr) (c0 : Nat) (f0 : List Int) (f1 : Int) (f2 : Int) (hB : Below w0.heap.size w0 W) (hr0 : Kd.C (Kd.int .u8) w0 A0 f0.length f0) : IsS87 w0 (W.alloc (.cells #[.slice A0 f0.length c0, .int .i64 f1, .int .u64 f2] 87)) W.heap.size f0 f1 f2 := ⟨A0, c0, by simpa using heap_alloc_new W _, hB.size, hr0⟩

/-! ### spec_l00From: function 23 -/
def spec_l00From.f (l0 : List Int) : Option (List Int × Int × Int) := some (l0, 0, 0)
set_option maxHeartbeats 8000000 in
set_option maxRecDepth 100000 in
theorem spec_l00From.calls (A0 : Option Addr) (c0 : Nat) (l0 : List Int) (r1 : List Int) (r2 : Int) (r3 : Int) (w0 w : World) (hB : Below w0.heap.size w0 w) (hr0 : Kd.C (Kd.int .u8) w0 A0 l0.length l0) (hc0 : l0.length ≤ c0) (h : spec_l00From.f l0 = some (r1, r2, r3)) :
    Calls Tryd.prog 23 #[.slice A0 l0.length c0] w fun e w' => ∃ g_ : Nat, e = .returned (.pointer (some ⟨g_, 0, none⟩)) ∧ IsS87 w0 w' g_ r1 r2 r3 ∧ Below w0.heap.size w0 w' ∧ Below w.heap.size w w' := by
  have hu87 := Tryd.underlying87
  have HR0 := Aside0.mk hr0
  have HC0 := Aside0.mk hc0
  clear hr0 hc0
  have HBW := Aside0.mk (Below.refl w.heap.size w)
  have HW0 := Aside0.mk hB.size
  have HB := Aside0.mk hB
  clear hB
  have H : (some (l0, 0, 0)) = some (r1, r2, r3) := h
  clear h
  simp only [Option.some.injEq, Prod.mk.injEq] at H
  obtain ⟨rfl, rfl, rfl⟩ := H
  go_enter Tryd.func23, Tryd.ntmps23
  go_wp2_with (first | ((with_reducible refine gate_dst (N := 5) rfl ?_); refine box_event ?hg (N := 5) ?hd (cs := #[.slice A0 l0.length c0, .int .i64 0, .int .u64 0]) (t := 87) ?hr ?_; (case hd => rfl); (case hg => rfl); (case hr => first | (go_simp; done) | (go_simp; rfl)); intro gb282 hg w2 hbox hb; have n0_ := Aside0.mk (below_step HBW.out hb); have n1_ := Aside0.mk (below_step (by repeat first | exact HB.out | apply pw_below_drewN) hb); have n2_ := Aside0.mk (hbox); have n3_ := Aside0.mk ((by rw [hg]; exact (below_size (by repeat (first | (with_reducible first | exact HBW.out | apply below_alloc | apply pw_below_drewN | apply below_drew1) | exact HBW.out))) : w.heap.size ≤ gb282)); have n4_ := Aside0.mk ((Nat.le_trans HW0.out (by rw [hg]; exact (below_size (by repeat (first | (with_reducible first | exact HBW.out | apply below_alloc | apply pw_below_drewN | apply below_drew1) | exact HBW.out))) : w.heap.size ≤ gb282) : w0.heap.size ≤ gb282)); clear HBW; clear HB; have HBW := n0_; have HB := n1_; have BK282 := n2_; have GW282 := n3_; have GE282 := n4_; clear n0_ n1_ n2_ n3_ n4_; clear hb hbox hg))
  go_ret
  exact ⟨_, rfl, (show IsS87 w0 _ gb282 l0 0 0 from ⟨_, _, by exact BK282.out, GE282.out, HR0.out⟩), by repeat first | exact HB.out | apply pw_below_drewN, by repeat (first | (with_reducible first | exact HBW.out | apply below_alloc | apply pw_below_drewN | apply below_drew1 | refine below_set ?_ GW282.out) | exact HBW.out)⟩

/-! ### spec_l00Src_next: function 68 -/
def spec_l00Src_next.f (s0_0 : List Int) (s0_1 : Int) (s0_2 : Int) : Option (Int × Int × Int) := if s0_1 < (s0_0.length : Int) then (if 0 ≤ s0_1 then (if (wrap64 (s0_1 + 1)) ≤ (s0_0.length : Int) then (some (wrap64 (rd s0_0 s0_1), wrap64 (s0_1 + 1), IntKind.u64.wrap ((IntKind.u64.wrap ((IntKind.u64.wrap (s0_2 * 6364136223846793005)) + (IntKind.u64.wrap (wrap64 (rd s0_0 s0_1))))) + 1442695040888963407))) else (some (wrap64 (Go.bits .and .u64 ((IntKind.u64.wrap ((IntKind.u64.wrap ((IntKind.u64.wrap (s0_2 * 6364136223846793005)) + (IntKind.u64.wrap (wrap64 (rd s0_0 s0_1))))) + 1442695040888963407)) / 1099511627776) 255), wrap64 (s0_1 + 1), IntKind.u64.wrap ((IntKind.u64.wrap ((IntKind.u64.wrap (s0_2 * 6364136223846793005)) + (IntKind.u64.wrap (wrap64 (rd s0_0 s0_1))))) + 1442695040888963407)))) else (none)) else (if (wrap64 (s0_1 + 1)) ≤ (s0_0.length : Int) then (some (0, wrap64 (s0_1 + 1), IntKind.u64.wrap ((IntKind.u64.wrap ((IntKind.u64.wrap (s0_2 * 6364136223846793005)) + 0)) + 1442695040888963407))) else (some (wrap64 (Go.bits .and .u64 ((IntKind.u64.wrap ((IntKind.u64.wrap ((IntKind.u64.wrap (s0_2 * 6364136223846793005)) + 0)) + 1442695040888963407)) / 1099511627776) 255), wrap64 (s0_1 + 1), IntKind.u64.wrap ((IntKind.u64.wrap ((IntKind.u64.wrap (s0_2 * 6364136223846793005)) + 0)) + 1442695040888963407))))
set_option maxHeartbeats 8000000 in
set_option maxRecDepth 100000 in
theorem spec_l00Src_next.calls (g : Nat) (s0_0 : List Int) (s0_1 : Int) (s0_2 : Int) (r1 : Int) (r2 : Int) (r3 : Int) (w0 w : World) (hI : IsS87 w0 w g s0_0 s0_1 s0_2) (hB : Below w0.heap.size w0 w) (h : spec_l00Src_next.f s0_0 s0_1 s0_2 = some (r1, r2, r3)) :
    Calls Tryd.prog 68 #[.pointer (some ⟨g, 0, none⟩)] w fun e w' => e = .returned (.int .i64 r1) ∧ IsS87 w0 w' g s0_0 r2 r3 ∧ Below w0.heap.size w0 w' ∧ KeepBut w w' g none := by
  have HI0 := Aside0.mk hI
  have HK := Aside0.mk (KeepBut.refl w g none)
  have HL := Aside0.mk hB.size
  clear hI
  have HW0 := Aside0.mk hB.size
  have HB := Aside0.mk hB
  clear hB
  have H : (if s0_1 < (s0_0.length : Int) then (if 0 ≤ s0_1 then (if (wrap64 (s0_1 + 1)) ≤ (s0_0.length : Int) then (some (wrap64 (rd s0_0 s0_1), wrap64 (s0_1 + 1), IntKind.u64.wrap ((IntKind.u64.wrap ((IntKind.u64.wrap (s0_2 * 6364136223846793005)) + (IntKind.u64.wrap (wrap64 (rd s0_0 s0_1))))) + 1442695040888963407))) else (some (wrap64 (Go.bits .and .u64 ((IntKind.u64.wrap ((IntKind.u64.wrap ((IntKind.u64.wrap (s0_2 * 6364136223846793005)) + (IntKind.u64.wrap (wrap64 (rd s0_0 s0_1))))) + 1442695040888963407)) / 1099511627776) 255), wrap64 (s0_1 + 1), IntKind.u64.wrap ((IntKind.u64.wrap ((IntKind.u64.wrap (s0_2 * 6364136223846793005)) + (IntKind.u64.wrap (wrap64 (rd s0_0 s0_1))))) + 1442695040888963407)))) else (none)) else (if (wrap64 (s0_1 + 1)) ≤ (s0_0.length : Int) then (some (0, wrap64 (s0_1 + 1), IntKind.u64.wrap ((IntKind.u64.wrap ((IntKind.u64.wrap (s0_2 * 6364136223846793005)) + 0)) + 1442695040888963407))) else (some (wrap64 (Go.bits .and .u64 ((IntKind.u64.wrap ((IntKind.u64.wrap ((IntKind.u64.wrap (s0_2 * 6364136223846793005)) + 0)) + 1442695040888963407)) / 1099511627776) 255), wrap64 (s0_1 + 1), IntKind.u64.wrap ((IntKind.u64.wrap ((IntKind.u64.wrap (s0_2 * 6364136223846793005)) + 0)) + 1442695040888963407))))) = some (r1, r2, r3) := h
  clear h
  by_cases c2 : s0_1 < (s0_0.length : Int)
  · rw [if_pos c2] at H
    have c2b0 : decide (s0_1 < (s0_0.length : Int)) = true := decide_eq_true c2
    clear c2
    by_cases c3 : 0 ≤ s0_1
    · rw [if_pos c3] at H
      have c3b0 : decide (0 ≤ s0_1) = true := decide_eq_true c3
      clear c3
      by_cases c4 : (wrap64 (s0_1 + 1)) ≤ (s0_0.length : Int)
      · rw [if_pos c4] at H
        have c4b0 : decide ((wrap64 (s0_1 + 1)) ≤ (s0_0.length : Int)) = true := decide_eq_true c4
        clear c4
        simp only [Option.some.injEq, Prod.mk.injEq] at H
        obtain ⟨rfl, rfl, rfl⟩ := H
        obtain ⟨ASz5_0, cSz5_0, HGz5, hgz5, HSz5_0⟩ := HI0.out
        have hcz5_0 := cellS87_0 HGz5
        have hcz5_1 := cellS87_1 HGz5
        have hcz5_2 := cellS87_2 HGz5
        have hfz5_1 := blk_frozen HGz5 1
        have hfz5_2 := blk_frozen HGz5 2
        clear HGz5 hgz5
        have p283 : 0 ≤ (s0_1 : Int) := of_decide_eq_true (by assumption)
        have q283 : s0_1 < (s0_0.length : Int) := of_decide_eq_true (by assumption)
        obtain ⟨ad283, e283, hx283_0⟩ := Kd.at_int HSz5_0 s0_1 p283 q283
        cases e283
        replace hx283_0 := pw_cell_below HB.out hx283_0
        replace p283 := eq_true p283
        replace q283 := eq_true q283
        go_enter Tryd.func68, Tryd.ntmps68
        go_wp2
        repeat (go_quiet (fail); try go_wp2)
        go_ret
        try rw [Int.add_zero]
        exact ⟨by first | rfl | (simp [*, errW_none, errW_some] <;> rfl), by repeat (first | (with_reducible first | exact HI0.out | apply IsS87.alloc | apply IsS87.drewN | apply IsS87.drew | apply IsS87.set_1 | apply IsS87.set_2) | exact HI0.out), by repeat (first | (with_reducible first | exact HB.out | apply below_alloc | apply pw_below_drewN | apply below_drew1 | refine below_set ?_ (IsS87.ge HI0.out)) | exact HB.out), by repeat (first | (with_reducible first | exact HK.out | apply KeepBut.set_ | apply keep_drewN | apply keep_drew | apply keep_alloc) | exact HK.out)⟩
      · rw [if_neg c4] at H
        have c4b0 : decide ((wrap64 (s0_1 + 1)) ≤ (s0_0.length : Int)) = false := decide_eq_false c4
        clear c4
        simp only [Option.some.injEq, Prod.mk.injEq] at H
        obtain ⟨rfl, rfl, rfl⟩ := H
        obtain ⟨ASz6_0, cSz6_0, HGz6, hgz6, HSz6_0⟩ := HI0.out
        have hcz6_0 := cellS87_0 HGz6
        have hcz6_1 := cellS87_1 HGz6
        have hcz6_2 := cellS87_2 HGz6
        have hfz6_1 := blk_frozen HGz6 1
        have hfz6_2 := blk_frozen HGz6 2
        clear HGz6 hgz6
        have p283 : 0 ≤ (s0_1 : Int) := of_decide_eq_true (by assumption)
        have q283 : s0_1 < (s0_0.length : Int) := of_decide_eq_true (by assumption)
        obtain ⟨ad283, e283, hx283_0⟩ := Kd.at_int HSz6_0 s0_1 p283 q283
        cases e283
        replace hx283_0 := pw_cell_below HB.out hx283_0
        replace p283 := eq_true p283
        replace q283 := eq_true q283
        go_enter Tryd.func68, Tryd.ntmps68
        go_wp2
        repeat (go_quiet (fail); try go_wp2)
        go_ret
        try rw [Int.add_zero]
        exact ⟨by first | rfl | (simp [*, errW_none, errW_some] <;> rfl), by repeat (first | (with_reducible first | exact HI0.out | apply IsS87.alloc | apply IsS87.drewN | apply IsS87.drew | apply IsS87.set_1 | apply IsS87.set_2) | exact HI0.out), by repeat (first | (with_reducible first | exact HB.out | apply below_alloc | apply pw_below_drewN | apply below_drew1 | refine below_set ?_ (IsS87.ge HI0.out)) | exact HB.out), by repeat (first | (with_reducible first | exact HK.out | apply KeepBut.set_ | apply keep_drewN | apply keep_drew | apply keep_alloc) | exact HK.out)⟩
    · rw [if_neg c3] at H
      exact absurd H (by simp)
  · rw [if_neg c2] at H
    have c2b0 : decide (s0_1 < (s0_0.length : Int)) = false := decide_eq_false c2
    clear c2
    by_cases c7 : (wrap64 (s0_1 + 1)) ≤ (s0_0.length : Int)
    · rw [if_pos c7] at H
      have c7b0 : decide ((wrap64 (s0_1 + 1)) ≤ (s0_0.length : Int)) = true := decide_eq_true c7
      clear c7
      simp only [Option.some.injEq, Prod.mk.injEq] at H
      obtain ⟨rfl, rfl, rfl⟩ := H
      obtain ⟨ASz8_0, cSz8_0, HGz8, hgz8, HSz8_0⟩ := HI0.out
      have hcz8_0 := cellS87_0 HGz8
      have hcz8_1 := cellS87_1 HGz8
      have hcz8_2 := cellS87_2 HGz8
      have hfz8_1 := blk_frozen HGz8 1
      have hfz8_2 := blk_frozen HGz8 2
      clear HGz8 hgz8
      go_enter Tryd.func68, Tryd.ntmps68
      go_wp2
      repeat (go_quiet (fail); try go_wp2)
      go_ret
      try rw [Int.add_zero]
      exact ⟨by first | rfl | (simp [*, errW_none, errW_some] <;> rfl), by repeat (first | (with_reducible first | exact HI0.out | apply IsS87.alloc | apply IsS87.drewN | apply IsS87.drew | apply IsS87.set_1 | apply IsS87.set_2) | exact HI0.out), by repeat (first | (with_reducible first | exact HB.out | apply below_alloc | apply pw_below_drewN | apply below_drew1 | refine below_set ?_ (IsS87.ge HI0.out)) | exact HB.out), by repeat (first | (with_reducible first | exact HK.out | apply KeepBut.set_ | apply keep_drewN | apply keep_drew | apply keep_alloc) | exact HK.out)⟩
    · rw [if_neg c7] at H
      have c7b0 : decide ((wrap64 (s0_1 + 1)) ≤ (s0_0.length : Int)) = false := decide_eq_false c7
      clear c7
      simp only [Option.some.injEq, Prod.mk.injEq] at H
      obtain ⟨rfl, rfl, rfl⟩ := H
      obtain ⟨ASz9_0, cSz9_0, HGz9, hgz9, HSz9_0⟩ := HI0.out
      have hcz9_0 := cellS87_0 HGz9
      have hcz9_1 := cellS87_1 HGz9
      have hcz9_2 := cellS87_2 HGz9
      have hfz9_1 := blk_frozen HGz9 1
      have hfz9_2 := blk_frozen HGz9 2
      clear HGz9 hgz9
      go_enter Tryd.func68, Tryd.ntmps68
      go_wp2
      repeat (go_quiet (fail); try go_wp2)
      go_ret
      try rw [Int.add_zero]
      exact ⟨by first | rfl | (simp [*, errW_none, errW_some] <;> rfl), by repeat (first | (with_reducible first | exact HI0.out | apply IsS87.alloc | apply IsS87.drewN | apply IsS87.drew | apply IsS87.set_1 | apply IsS87.set_2) | exact HI0.out), by repeat (first | (with_reducible first | exact HB.out | apply below_alloc | apply pw_below_drewN | apply below_drew1 | refine below_set ?_ (IsS87.ge HI0.out)) | exact HB.out), by repeat (first | (with_reducible first | exact HK.out | apply KeepBut.set_ | apply keep_drewN | apply keep_drew | apply keep_alloc) | exact HK.out)⟩

/-! ### spec_l00Src_pick: function 46 -/
def spec_l00Src_pick.f (s0_0 : List Int) (s0_1 : Int) (s0_2 : Int) (a1 : Int) : Option (Int × Int × Int) := if a1 ≤ 1 then (some (0, s0_1, s0_2)) else ((spec_l00Src_next.f s0_0 s0_1 s0_2).bind fun bt284 => (if a1 > 200 then ((spec_l00Src_next.f s0_0 bt284.2.1 bt284.2.2).bind fun bt287 => (if a1 = 0 then (none) else (some (Int.tmod (wrap64 ((wrap64 (bt284.1 * 256)) + bt287.1)) a1, bt287.2.1, bt287.2.2)))) else (if a1 = 0 then (none) else (some (Int.tmod bt284.1 a1, bt284.2.1, bt284.2.2)))))
set_option maxHeartbeats 8000000 in
set_option maxRecDepth 100000 in
theorem spec_l00Src_pick.calls (g : Nat) (s0_0 : List Int) (s0_1 : Int) (s0_2 : Int) (a1 : Int) (r1 : Int) (r2 : Int) (r3 : Int) (w0 w : World) (hI : IsS87 w0 w g s0_0 s0_1 s0_2) (hB : Below w0.heap.size w0 w) (h : spec_l00Src_pick.f s0_0 s0_1 s0_2 a1 = some (r1, r2, r3)) :
    Calls Tryd.prog 46 #[.pointer (some ⟨g, 0, none⟩), .int .i64 a1] w fun e w' => e = .returned (.int .i64 r1) ∧ IsS87 w0 w' g s0_0 r2 r3 ∧ Below w0.heap.size w0 w' ∧ KeepBut w w' g none := by
  have HI0 := Aside0.mk hI
  have HK := Aside0.mk (KeepBut.refl w g none)
  have HL := Aside0.mk hB.size
  clear hI
  have HW0 := Aside0.mk hB.size
  have HB := Aside0.mk hB
  clear hB
  have H : (if a1 ≤ 1 then (some (0, s0_1, s0_2)) else ((spec_l00Src_next.f s0_0 s0_1 s0_2).bind fun bt284 => (if a1 > 200 then ((spec_l00Src_next.f s0_0 bt284.2.1 bt284.2.2).bind fun bt287 => (if a1 = 0 then (none) else (some (Int.tmod (wrap64 ((wrap64 (bt284.1 * 256)) + bt287.1)) a1, bt287.2.1, bt287.2.2)))) else (if a1 = 0 then (none) else (some (Int.tmod bt284.1 a1, bt284.2.1, bt284.2.2)))))) = some (r1, r2, r3) := h
  clear h
  by_cases c3 : a1 ≤ 1
  · rw [if_pos c3] at H
    have c3b0 : decide (a1 ≤ 1) = true := decide_eq_true c3
    clear c3
    simp only [Option.some.injEq, Prod.mk.injEq] at H
    obtain ⟨rfl, rfl, rfl⟩ := H
    go_enter Tryd.func46, Tryd.ntmps46
    go_wp2
    go_ret
    exact ⟨by first | rfl | (simp [*, errW_none, errW_some] <;> rfl), by repeat (first | (with_reducible first | exact HI0.out | apply IsS87.alloc | apply IsS87.drewN | apply IsS87.drew | apply IsS87.set_1 | apply IsS87.set_2) | exact HI0.out), by repeat (first | (with_reducible first | exact HB.out | apply below_alloc | apply pw_below_drewN | apply below_drew1 | refine below_set ?_ (IsS87.ge HI0.out)) | exact HB.out), by repeat (first | (with_reducible first | exact HK.out | apply KeepBut.set_ | apply keep_drewN | apply keep_drew | apply keep_alloc) | exact HK.out)⟩
  · rw [if_neg c3] at H
    have c3b0 : decide (a1 ≤ 1) = false := decide_eq_false c3
    clear c3
    replace H := Option.bind_eq_some_iff.mp H
    obtain ⟨⟨t284, t285, t286⟩, A40, H⟩ := H
    set_option simprocs false in try dsimp only at H
    have A4 := Aside0.mk A40
    clear A40
    by_cases c5 : a1 > 200
    · rw [if_pos c5] at H
      have c5b0 : decide (200 < a1) = true := decide_eq_true c5
      clear c5
      replace H := Option.bind_eq_some_iff.mp H
      obtain ⟨⟨t287, t288, t289⟩, A60, H⟩ := H
      set_option simprocs false in try dsimp only at H
      have A6 := Aside0.mk A60
      clear A60
      by_cases c7 : a1 = 0
      · rw [if_pos c7] at H
        exact absurd H (by simp)
      · rw [if_neg c7] at H
        have c7b0 : (a1 == 0) = false := beq_eq_false_iff_ne.mpr c7
        have c7b1 : (a1 != 0) = true := bne_iff_ne.mpr c7
        simp only [Option.some.injEq, Prod.mk.injEq] at H
        obtain ⟨rfl, rfl, rfl⟩ := H
        go_enter Tryd.func46, Tryd.ntmps46
        go_wp2_with (first | ((with_reducible refine gate_callee (f := 68) rfl ?_); refine goesL_ (some 9) rfl rfl Tryd.func68 (by kernel_rfl) rfl #[.pointer (some ⟨g, 0, none⟩)] rfl (by (try simp only [List.map_toArray, List.map_cons, List.map_nil]); first | done | rfl) ?_; (with_reducible refine (spec_l00Src_next.calls g s0_0 s0_1 s0_2 t284 t285 t286 w0 _ ?side1 ?side2 A4.out).mono ?_); (case side1 => repeat (first | (with_reducible first | exact HI0.out | apply IsS87.alloc | apply IsS87.drewN | apply IsS87.drew | apply IsS87.set_1 | apply IsS87.set_2) | exact HI0.out)); (case side2 => repeat (first | (with_reducible first | exact HB.out | apply below_alloc | apply pw_below_drewN | apply below_drew1 | refine below_set ?_ (IsS87.ge HI0.out)) | exact HB.out)); rintro e w8 ⟨rfl, hi, hb, hk⟩; refine ⟨_, rfl, ?_⟩; have n0_ := Aside0.mk (KeepBut.trans (by repeat (first | (with_reducible first | exact HK.out | apply KeepBut.set_ | apply keep_drewN | apply keep_drew | apply keep_alloc) | exact HK.out)) hk (.inl rfl)); have n1_ := Aside0.mk (hb); have n2_ := Aside0.mk (hi); clear HK; clear HB; clear HI0; have HK := n0_; have HB := n1_; have HI0 := n2_; clear n0_ n1_ n2_; (try clear hb); (try clear hb2); (try clear hk); (try clear hi)) | ((with_reducible refine gate_callee (f := 68) rfl ?_); refine goesL_ (some 15) rfl rfl Tryd.func68 (by kernel_rfl) rfl #[.pointer (some ⟨g, 0, none⟩)] rfl (by (try simp only [List.map_toArray, List.map_cons, List.map_nil]); first | done | rfl) ?_; (with_reducible refine (spec_l00Src_next.calls g s0_0 t285 t286 t287 t288 t289 w0 _ ?side1 ?side2 A6.out).mono ?_); (case side1 => repeat (first | (with_reducible first | exact HI0.out | apply IsS87.alloc | apply IsS87.drewN | apply IsS87.drew | apply IsS87.set_1 | apply IsS87.set_2) | exact HI0.out)); (case side2 => repeat (first | (with_reducible first | exact HB.out | apply below_alloc | apply pw_below_drewN | apply below_drew1 | refine below_set ?_ (IsS87.ge HI0.out)) | exact HB.out)); rintro e w9 ⟨rfl, hi, hb, hk⟩; refine ⟨_, rfl, ?_⟩; have n0_ := Aside0.mk (KeepBut.trans (by repeat (first | (with_reducible first | exact HK.out | apply KeepBut.set_ | apply keep_drewN | apply keep_drew | apply keep_alloc) | exact HK.out)) hk (.inl rfl)); have n1_ := Aside0.mk (hb); have n2_ := Aside0.mk (hi); clear HK; clear HB; clear HI0; have HK := n0_; have HB := n1_; have HI0 := n2_; clear n0_ n1_ n2_; (try clear hb); (try clear hb2); (try clear hk); (try clear hi)))
        go_ret
        exact ⟨by first | rfl | (simp [*, errW_none, errW_some] <;> rfl), by repeat (first | (with_reducible first | exact HI0.out | apply IsS87.alloc | apply IsS87.drewN | apply IsS87.drew | apply IsS87.set_1 | apply IsS87.set_2) | exact HI0.out), by repeat (first | (with_reducible first | exact HB.out | apply below_alloc | apply pw_below_drewN | apply below_drew1 | refine below_set ?_ (IsS87.ge HI0.out)) | exact HB.out), by repeat (first | (with_reducible first | exact HK.out | apply KeepBut.set_ | apply keep_drewN | apply keep_drew | apply keep_alloc) | exact HK.out)⟩
    · rw [if_neg c5] at H
      have c5b0 : decide (200 < a1) = false := decide_eq_false c5
      clear c5
      by_cases c10 : a1 = 0
      · rw [if_pos c10] at H
        exact absurd H (by simp)
      · rw [if_neg c10] at H
        have c10b0 : (a1 == 0) = false := beq_eq_false_iff_ne.mpr c10
        have c10b1 : (a1 != 0) = true := bne_iff_ne.mpr c10
        simp only [Option.some.injEq, Prod.mk.injEq] at H
        obtain ⟨rfl, rfl, rfl⟩ := H
        go_enter Tryd.func46, Tryd.ntmps46
        go_wp2_with (first | ((with_reducible refine gate_callee (f := 68) rfl ?_); refine goesL_ (some 9) rfl rfl Tryd.func68 (by kernel_rfl) rfl #[.pointer (some ⟨g, 0, none⟩)] rfl (by (try simp only [List.map_toArray, List.map_cons, List.map_nil]); first | done | rfl) ?_; (with_reducible refine (spec_l00Src_next.calls g s0_0 s0_1 s0_2 t284 t285 t286 w0 _ ?side1 ?side2 A4.out).mono ?_); (case side1 => repeat (first | (with_reducible first | exact HI0.out | apply IsS87.alloc | apply IsS87.drewN | apply IsS87.drew | apply IsS87.set_1 | apply IsS87.set_2) | exact HI0.out)); (case side2 => repeat (first | (with_reducible first | exact HB.out | apply below_alloc | apply pw_below_drewN | apply below_drew1 | refine below_set ?_ (IsS87.ge HI0.out)) | exact HB.out)); rintro e w11 ⟨rfl, hi, hb, hk⟩; refine ⟨_, rfl, ?_⟩; have n0_ := Aside0.mk (KeepBut.trans (by repeat (first | (with_reducible first | exact HK.out | apply KeepBut.set_ | apply keep_drewN | apply keep_drew | apply keep_alloc) | exact HK.out)) hk (.inl rfl)); have n1_ := Aside0.mk (hb); have n2_ := Aside0.mk (hi); clear HK; clear HB; clear HI0; have HK := n0_; have HB := n1_; have HI0 := n2_; clear n0_ n1_ n2_; (try clear hb); (try clear hb2); (try clear hk); (try clear hi)))
        go_ret
        exact ⟨by first | rfl | (simp [*, errW_none, errW_some] <;> rfl), by repeat (first | (with_reducible first | exact HI0.out | apply IsS87.alloc | apply IsS87.drewN | apply IsS87.drew | apply IsS87.set_1 | apply IsS87.set_2) | exact HI0.out), by repeat (first | (with_reducible first | exact HB.out | apply below_alloc | apply pw_below_drewN | apply below_drew1 | refine below_set ?_ (IsS87.ge HI0.out)) | exact HB.out), by repeat (first | (with_reducible first | exact HK.out | apply KeepBut.set_ | apply keep_drewN | apply keep_drew | apply keep_alloc) | exact HK.out)⟩

end Go.Proofs.YtohjpgcmhihdhaaDoor.Q

namespace Go.Proofs.YtohjpgcmhihdhaaDoor.Pure
open Go.RowKit Go.Proofs.YtohjpgcmhihdhaaDoor.Q Go.Proofs.YtohjpgcmhihdhaaDoorW.PrintWords Go.Proofs.YtohjpgcmhihdhaaDoorW.PrintLast Go.Proofs.YtohjpgcmhihdhaaDoorW.PrintMore
set_option linter.unusedVariables false
set_option linter.unusedSimpArgs false
/-- numbers that are bytes -/
def IsBytes (l : List Int) : Prop := ∀ x ∈ l, 0 ≤ x ∧ x ≤ 255
theorem bytes_of_wf {l : List Int} (h : ∀ x ∈ l, (Lit.int .u8 x).wf = true) : IsBytes l := by
  intro x hx
  have h' : (decide (IntKind.u8.min ≤ x) && decide (x ≤ IntKind.u8.max)) = true := h x hx
  rw [Bool.and_eq_true] at h'
  have h1 := of_decide_eq_true h'.1
  have h2 := of_decide_eq_true h'.2
  have e1 : IntKind.u8.min = 0 := by decide
  have e2 : IntKind.u8.max = 255 := by decide
  omega
theorem rd_bytes {l : List Int} (h : IsBytes l) (i : Int) : 0 ≤ rd l i ∧ rd l i ≤ 255 := by
  unfold rd
  rw [List.getD_eq_getElem?_getD]
  cases e : l[i.toNat]? with
  | none => simp
  | some x => exact h x (List.mem_of_getElem? e)
theorem and255 (x : Int) : 0 ≤ Go.bits .and .u64 x 255 ∧ Go.bits .and .u64 x 255 ≤ 255 := by
  have h : (BitVec.ofInt 64 x &&& BitVec.ofInt 64 255).toNat ≤ 255 := by
    rw [BitVec.toNat_and]
    have e1 : (BitVec.ofInt 64 255).toNat = 255 := by decide
    rw [e1]
    exact Nat.and_le_right
  show 0 ≤ IntKind.u64.wrap ((BitVec.ofInt 64 x &&& BitVec.ofInt 64 255).toNat : Int) ∧ IntKind.u64.wrap ((BitVec.ofInt 64 x &&& BitVec.ofInt 64 255).toNat : Int) ≤ 255
  rw [IntKind.wrap_u64]
  omega
theorem wrap_byte (x : Int) (h : 0 ≤ x ∧ x ≤ 255) : wrap64 x = x := by unfold wrap64; omega
theorem next_is (l : List Int) (hb : IsBytes l) (p sd : Int) (h0 : 0 ≤ p) (h1 : p ≤ 4611686018427387904) : ∃ v sd', spec_l00Src_next.f l p sd = some (v, p + 1, sd') ∧ 0 ≤ v ∧ v ≤ 255 := by
  have ew : wrap64 (p + 1) = p + 1 := by unfold wrap64; omega
  have er := wrap_byte _ (rd_bytes hb p)
  have hr := rd_bytes hb p
  unfold spec_l00Src_next.f
  rw [ew, er]
  by_cases c1 : p < (l.length : Int)
  · rw [if_pos c1, if_pos h0]
    by_cases c2 : p + 1 ≤ (l.length : Int)
    · rw [if_pos c2]
      exact ⟨_, _, rfl, hr⟩
    · rw [if_neg c2]
      have h := and255 ((IntKind.u64.wrap ((IntKind.u64.wrap ((IntKind.u64.wrap (sd * 6364136223846793005)) + (IntKind.u64.wrap (rd l p)))) + 1442695040888963407)) / 1099511627776)
      refine ⟨_, _, rfl, ?_⟩
      rw [wrap_byte _ h]
      exact h
  · rw [if_neg c1]
    by_cases c2 : p + 1 ≤ (l.length : Int)
    · rw [if_pos c2]
      exact ⟨_, _, rfl, by omega, by omega⟩
    · rw [if_neg c2]
      have h := and255 ((IntKind.u64.wrap ((IntKind.u64.wrap ((IntKind.u64.wrap (sd * 6364136223846793005)) + 0)) + 1442695040888963407)) / 1099511627776)
      refine ⟨_, _, rfl, ?_⟩
      rw [wrap_byte _ h]
      exact h
theorem tmod_in (x n : Int) (hx : 0 ≤ x) (hn : 1 < n) : 0 ≤ Int.tmod x n ∧ Int.tmod x n < n := by
  rw [Int.tmod_eq_emod_of_nonneg hx]
  exact ⟨Int.emod_nonneg _ (by omega), Int.emod_lt_of_pos _ (by omega)⟩
/-- a pick of n: from 0 to n - 1, or 0 -/
theorem pick_is (l : List Int) (hb : IsBytes l) (p sd n : Int) (h0 : 0 ≤ p) (h1 : p ≤ 4611686018427387000) : ∃ v p' sd', spec_l00Src_pick.f l p sd n = some (v, p', sd') ∧ p ≤ p' ∧ p' ≤ p + 2 ∧ 0 ≤ v ∧ (v < n ∨ (n ≤ 1 ∧ v = 0)) := by
  unfold spec_l00Src_pick.f
  by_cases c1 : n ≤ 1
  · rw [if_pos c1]
    exact ⟨_, _, _, rfl, by omega, by omega, by omega, .inr ⟨c1, rfl⟩⟩
  · rw [if_neg c1]
    obtain ⟨v, sd1, e1, v0, v1⟩ := next_is l hb p sd h0 (by omega)
    rw [e1, Option.bind_some]
    by_cases c2 : n > 200
    · rw [if_pos c2]
      obtain ⟨u, sd2, e2, u0, u1⟩ := next_is l hb (p + 1) sd1 (by omega) (by omega)
      simp only
      rw [e2, Option.bind_some, if_neg (by omega)]
      have ew : wrap64 (wrap64 (v * 256) + u) = v * 256 + u := by unfold wrap64; omega
      simp only
      rw [ew]
      have h := tmod_in (v * 256 + u) n (by omega) (by omega)
      exact ⟨_, _, _, rfl, by omega, by omega, h.1, .inl h.2⟩
    · rw [if_neg c2]
      simp only
      rw [if_neg (by omega)]
      have h := tmod_in v n (by omega) (by omega)
      exact ⟨_, _, _, rfl, by omega, by omega, h.1, .inl h.2⟩
theorem pick_pos (l : List Int) (hb : IsBytes l) (p sd n : Int) (h0 : 0 ≤ p) (h1 : p ≤ 4611686018427387000) (hn : 1 ≤ n) : ∃ v p' sd', spec_l00Src_pick.f l p sd n = some (v, p', sd') ∧ p ≤ p' ∧ p' ≤ p + 2 ∧ 0 ≤ v ∧ v < n := by
  obtain ⟨v, p', sd', e, a, b, c, d⟩ := pick_is l hb p sd n h0 h1
  exact ⟨v, p', sd', e, a, b, c, by omega⟩

end Go.Proofs.YtohjpgcmhihdhaaDoor.Pure

namespace Go.Proofs.YtohjpgcmhihdhaaDoor.Q
open Go.RowKit Go.Proofs.YtohjpgcmhihdhaaDoorW.PrintWords Go.Proofs.YtohjpgcmhihdhaaDoorW.PrintLast Go.Proofs.YtohjpgcmhihdhaaDoorW.PrintMore
attribute [local go_sem] max2_int min2_int max_two min_two max_three min_three max_four min_four   -- for this text's walks alone
set_option linter.unusedVariables false
set_option linter.unusedSimpArgs false
/-! ### spec_l00Src_among: function 47 -/
def spec_l00Src_among.f (s0_0 : List Int) (s0_1 : Int) (s0_2 : Int) (l1 : List Int) : Option (Int × Int × Int) := (spec_l00Src_pick.f s0_0 s0_1 s0_2 (l1.length : Int)).bind fun bt290 => (if 0 ≤ bt290.1 then (if bt290.1 < (l1.length : Int) then (some (rd l1 bt290.1, bt290.2.1, bt290.2.2)) else (none)) else (none))
set_option maxHeartbeats 8000000 in
set_option maxRecDepth 100000 in
theorem spec_l00Src_among.calls (g : Nat) (s0_0 : List Int) (s0_1 : Int) (s0_2 : Int) (A1 : Option Addr) (c1 : Nat) (l1 : List Int) (r1 : Int) (r2 : Int) (r3 : Int) (w0 w : World) (hI : IsS87 w0 w g s0_0 s0_1 s0_2) (hB : Below w0.heap.size w0 w) (hr1 : Kd.C (Kd.int .i64) w A1 l1.length l1) (hc1 : l1.length ≤ c1) (hf1 : ∀ ad, A1 = some ad → 0 < l1.length → ad.block ≠ g) (h : spec_l00Src_among.f s0_0 s0_1 s0_2 l1 = some (r1, r2, r3)) :
    Calls Tryd.prog 47 #[.pointer (some ⟨g, 0, none⟩), .slice A1 l1.length c1] w fun e w' => e = .returned (.int .i64 r1) ∧ IsS87 w0 w' g s0_0 r2 r3 ∧ Below w0.heap.size w0 w' ∧ KeepBut w w' g none := by
  have HR1 := Aside0.mk hr1
  have HC1 := Aside0.mk hc1
  clear hr1 hc1
  have HI0 := Aside0.mk hI
  have HK := Aside0.mk (KeepBut.refl w g none)
  have HL := Aside0.mk hB.size
  clear hI
  have HW0 := Aside0.mk hB.size
  have HB := Aside0.mk hB
  clear hB
  have H : ((spec_l00Src_pick.f s0_0 s0_1 s0_2 (l1.length : Int)).bind fun bt290 => (if 0 ≤ bt290.1 then (if bt290.1 < (l1.length : Int) then (some (rd l1 bt290.1, bt290.2.1, bt290.2.2)) else (none)) else (none))) = some (r1, r2, r3) := h
  clear h
  replace H := Option.bind_eq_some_iff.mp H
  obtain ⟨⟨t290, t291, t292⟩, A30, H⟩ := H
  set_option simprocs false in try dsimp only at H
  have A3 := Aside0.mk A30
  clear A30
  by_cases c4 : 0 ≤ t290
  · rw [if_pos c4] at H
    have c4b0 : decide (0 ≤ t290) = true := decide_eq_true c4
    clear c4
    by_cases c5 : t290 < (l1.length : Int)
    · rw [if_pos c5] at H
      have c5b0 : decide (t290 < (l1.length : Int)) = true := decide_eq_true c5
      clear c5
      simp only [Option.some.injEq, Prod.mk.injEq] at H
      obtain ⟨rfl, rfl, rfl⟩ := H
      go_enter Tryd.func47, Tryd.ntmps47
      go_wp2_with (first | ((with_reducible refine gate_callee (f := 46) rfl ?_); refine goesL_ (some 9) rfl rfl Tryd.func46 (by kernel_rfl) rfl #[.pointer (some ⟨g, 0, none⟩), .int .i64 (l1.length : Int)] rfl (by (try simp only [List.map_toArray, List.map_cons, List.map_nil]); first | done | rfl) ?_; (with_reducible refine (spec_l00Src_pick.calls g s0_0 s0_1 s0_2 (l1.length : Int) t290 t291 t292 w0 _ ?side1 ?side2 A3.out).mono ?_); (case side1 => repeat (first | (with_reducible first | exact HI0.out | apply IsS87.alloc | apply IsS87.drewN | apply IsS87.drew | apply IsS87.set_1 | apply IsS87.set_2) | exact HI0.out)); (case side2 => repeat (first | (with_reducible first | exact HB.out | apply below_alloc | apply pw_below_drewN | apply below_drew1 | refine below_set ?_ (IsS87.ge HI0.out)) | exact HB.out)); rintro e w6 ⟨rfl, hi, hb, hk⟩; refine ⟨_, rfl, ?_⟩; have n0_ := Aside0.mk (KeepBut.trans (by repeat (first | (with_reducible first | exact HK.out | apply KeepBut.set_ | apply keep_drewN | apply keep_drew | apply keep_alloc) | exact HK.out)) hk (.inl rfl)); have n1_ := Aside0.mk (hb); have n2_ := Aside0.mk (hi); clear HK; clear HB; clear HI0; have HK := n0_; have HB := n1_; have HI0 := n2_; clear n0_ n1_ n2_; (try clear hb); (try clear hb2); (try clear hk); (try clear hi); have p293 : 0 ≤ (t290 : Int) := of_decide_eq_true (by assumption); have q293 : t290 < (l1.length : Int) := of_decide_eq_true (by assumption); obtain ⟨ad293, e293, hx293_0⟩ := Kd.at_int HR1.out t290 p293 q293; cases e293; replace hx293_0 := keep_cell HK.out hx293_0 (by first | (rw [add_block]; exact hf1 _ rfl (by omega)) | exact hf1 _ rfl (by omega) | exact hf1 ad293 rfl (by omega)); replace p293 := eq_true p293; replace q293 := eq_true q293))
      go_ret
      exact ⟨by first | rfl | (simp [*, errW_none, errW_some] <;> rfl), by repeat (first | (with_reducible first | exact HI0.out | apply IsS87.alloc | apply IsS87.drewN | apply IsS87.drew | apply IsS87.set_1 | apply IsS87.set_2) | exact HI0.out), by repeat (first | (with_reducible first | exact HB.out | apply below_alloc | apply pw_below_drewN | apply below_drew1 | refine below_set ?_ (IsS87.ge HI0.out)) | exact HB.out), by repeat (first | (with_reducible first | exact HK.out | apply KeepBut.set_ | apply keep_drewN | apply keep_drew | apply keep_alloc) | exact HK.out)⟩
    · rw [if_neg c5] at H
      exact absurd H (by simp)
  · rw [if_neg c4] at H
    exact absurd H (by simp)

end Go.Proofs.YtohjpgcmhihdhaaDoor.Q

namespace Go.Proofs.YtohjpgcmhihdhaaDoor.Pure
open Go.RowKit Go.Proofs.YtohjpgcmhihdhaaDoor.Q Go.Proofs.YtohjpgcmhihdhaaDoorW.PrintWords Go.Proofs.YtohjpgcmhihdhaaDoorW.PrintLast Go.Proofs.YtohjpgcmhihdhaaDoorW.PrintMore
set_option linter.unusedVariables false
set_option linter.unusedSimpArgs false
theorem among_is (l : List Int) (hb : IsBytes l) (p sd : Int) (xs : List Int) (hx : 1 ≤ xs.length) (h0 : 0 ≤ p) (h1 : p ≤ 4611686018427387000) : ∃ i p' sd', spec_l00Src_among.f l p sd xs = some (rd xs i, p', sd') ∧ p ≤ p' ∧ p' ≤ p + 2 ∧ 0 ≤ i ∧ i < xs.length := by
  obtain ⟨v, p', sd', e, a, b, c, d⟩ := pick_pos l hb p sd (xs.length : Int) h0 h1 (by omega)
  refine ⟨v, p', sd', ?_, a, b, c, d⟩
  unfold spec_l00Src_among.f
  rw [e, Option.bind_some]
  simp only
  rw [if_pos c, if_pos d]
theorem among_bind (l : List Int) (hb : IsBytes l) (p sd : Int) (xs : List Int) (h0 : 0 ≤ p) (h1 : p ≤ 4611686018427387000) (hx : 1 ≤ xs.length) : ∃ v p' sd', ((spec_l00Src_among.f l p sd xs).bind fun b => some (b.1, b.2.1, b.2.2)) = some (v, p', sd') ∧ p ≤ p' ∧ p' ≤ p + 2 := by
  obtain ⟨i, p', sd', e, a, b, _, _⟩ := among_is l hb p sd xs hx h0 h1
  rw [e, Option.bind_some]
  exact ⟨_, _, _, rfl, a, b⟩

end Go.Proofs.YtohjpgcmhihdhaaDoor.Pure

namespace Go.Proofs.YtohjpgcmhihdhaaDoor.Q
open Go.RowKit Go.Proofs.YtohjpgcmhihdhaaDoorW.PrintWords Go.Proofs.YtohjpgcmhihdhaaDoorW.PrintLast Go.Proofs.YtohjpgcmhihdhaaDoorW.PrintMore
attribute [local go_sem] max2_int min2_int max_two min_two max_three min_three max_four min_four   -- for this text's walks alone
set_option linter.unusedVariables false
set_option linter.unusedSimpArgs false
/-! ### spec_l00Src_one: function 48 -/
def spec_l00Src_one.f (s0_0 : List Int) (s0_1 : Int) (s0_2 : Int) (a1 : Int) : Option (Bool × Int × Int) := (spec_l00Src_pick.f s0_0 s0_1 s0_2 a1).bind fun bt294 => (some ((bt294.1 == 0), bt294.2.1, bt294.2.2))
set_option maxHeartbeats 8000000 in
set_option maxRecDepth 100000 in
theorem spec_l00Src_one.calls (g : Nat) (s0_0 : List Int) (s0_1 : Int) (s0_2 : Int) (a1 : Int) (r1 : Bool) (r2 : Int) (r3 : Int) (w0 w : World) (hI : IsS87 w0 w g s0_0 s0_1 s0_2) (hB : Below w0.heap.size w0 w) (h : spec_l00Src_one.f s0_0 s0_1 s0_2 a1 = some (r1, r2, r3)) :
    Calls Tryd.prog 48 #[.pointer (some ⟨g, 0, none⟩), .int .i64 a1] w fun e w' => e = .returned (.bool r1) ∧ IsS87 w0 w' g s0_0 r2 r3 ∧ Below w0.heap.size w0 w' ∧ KeepBut w w' g none := by
  have HI0 := Aside0.mk hI
  have HK := Aside0.mk (KeepBut.refl w g none)
  have HL := Aside0.mk hB.size
  clear hI
  have HW0 := Aside0.mk hB.size
  have HB := Aside0.mk hB
  clear hB
  have H : ((spec_l00Src_pick.f s0_0 s0_1 s0_2 a1).bind fun bt294 => (some ((bt294.1 == 0), bt294.2.1, bt294.2.2))) = some (r1, r2, r3) := h
  clear h
  replace H := Option.bind_eq_some_iff.mp H
  obtain ⟨⟨t294, t295, t296⟩, A30, H⟩ := H
  set_option simprocs false in try dsimp only at H
  have A3 := Aside0.mk A30
  clear A30
  simp only [Option.some.injEq, Prod.mk.injEq] at H
  obtain ⟨rfl, rfl, rfl⟩ := H
  go_enter Tryd.func48, Tryd.ntmps48
  go_wp2_with (first | ((with_reducible refine gate_callee (f := 46) rfl ?_); refine goesL_ (some 7) rfl rfl Tryd.func46 (by kernel_rfl) rfl #[.pointer (some ⟨g, 0, none⟩), .int .i64 a1] rfl (by (try simp only [List.map_toArray, List.map_cons, List.map_nil]); first | done | rfl) ?_; (with_reducible refine (spec_l00Src_pick.calls g s0_0 s0_1 s0_2 a1 t294 t295 t296 w0 _ ?side1 ?side2 A3.out).mono ?_); (case side1 => repeat (first | (with_reducible first | exact HI0.out | apply IsS87.alloc | apply IsS87.drewN | apply IsS87.drew | apply IsS87.set_1 | apply IsS87.set_2) | exact HI0.out)); (case side2 => repeat (first | (with_reducible first | exact HB.out | apply below_alloc | apply pw_below_drewN | apply below_drew1 | refine below_set ?_ (IsS87.ge HI0.out)) | exact HB.out)); rintro e w4 ⟨rfl, hi, hb, hk⟩; refine ⟨_, rfl, ?_⟩; have n0_ := Aside0.mk (KeepBut.trans (by repeat (first | (with_reducible first | exact HK.out | apply KeepBut.set_ | apply keep_drewN | apply keep_drew | apply keep_alloc) | exact HK.out)) hk (.inl rfl)); have n1_ := Aside0.mk (hb); have n2_ := Aside0.mk (hi); clear HK; clear HB; clear HI0; have HK := n0_; have HB := n1_; have HI0 := n2_; clear n0_ n1_ n2_; (try clear hb); (try clear hb2); (try clear hk); (try clear hi)))
  go_ret
  exact ⟨by first | rfl | (simp [*, errW_none, errW_some] <;> rfl), by repeat (first | (with_reducible first | exact HI0.out | apply IsS87.alloc | apply IsS87.drewN | apply IsS87.drew | apply IsS87.set_1 | apply IsS87.set_2) | exact HI0.out), by repeat (first | (with_reducible first | exact HB.out | apply below_alloc | apply pw_below_drewN | apply below_drew1 | refine below_set ?_ (IsS87.ge HI0.out)) | exact HB.out), by repeat (first | (with_reducible first | exact HK.out | apply KeepBut.set_ | apply keep_drewN | apply keep_drew | apply keep_alloc) | exact HK.out)⟩

/-! ### spec_l00Own: function 49 -/
def spec_l00Own.f (l0 : List Int) : Option (List Int) := (some (([] : List Int) : List Int)).bind fun y297 => (if y297.length + l0.length < 17592186044416 then (some (y297 ++ l0)) else (none))
set_option maxHeartbeats 8000000 in
set_option maxRecDepth 100000 in
theorem spec_l00Own.calls (A0 : Option Addr) (c0 : Nat) (l0 : List Int) (r : List Int) (w : World) (hr0 : Kd.C (Kd.int .i64) w A0 l0.length l0) (hc0 : l0.length ≤ c0) (h : spec_l00Own.f l0 = some r) :
    Calls Tryd.prog 49 #[.slice A0 l0.length c0] w fun e w' => ∃ v0_ : Value, e = .returned (v0_) ∧ Kd.R (Kd.int .i64) 2 w' w.heap.size (fun _ => True) v0_ r ∧ Below w.heap.size w w' := by
  have HR0 := Aside0.mk hr0
  have HC0 := Aside0.mk hc0
  clear hr0 hc0
  have HB := Aside0.mk (Below.refl w.heap.size w)
  have H : ((some (([] : List Int) : List Int)).bind fun y297 => (if y297.length + l0.length < 17592186044416 then (some (y297 ++ l0)) else (none))) = some r := h
  clear h
  obtain ⟨y297, hy297⟩ : ∃ y_ : List Int, y_ = (([] : List Int)) := ⟨_, rfl⟩
  replace H : (if y297.length + l0.length < 17592186044416 then (some (y297 ++ l0)) else (none)) = some r := by first | (rw [hy297]; with_reducible exact H) | (have H2_ := (Option.bind_some _ _).symm.trans H; rw [hy297]; with_reducible exact H2_) | (have H2_ := (Option.bind_some _ _).symm.trans H; with_reducible exact H2_) | with_reducible exact H | (rw [hy297]; exact H) | exact H
  have Ny297 := Aside0.mk hy297
  clear hy297
  by_cases c2 : y297.length + l0.length < 17592186044416
  · rw [if_pos c2] at H
    have LMc2 := Aside0.mk c2
    clear c2
    obtain ⟨y300, hy300⟩ : ∃ y_ : List Int, y_ = (y297 ++ l0) := ⟨_, rfl⟩
    replace H : (some y300) = some r := by first | (rw [hy300]; with_reducible exact H) | (have H2_ := (Option.bind_some _ _).symm.trans H; rw [hy300]; with_reducible exact H2_) | (have H2_ := (Option.bind_some _ _).symm.trans H; with_reducible exact H2_) | with_reducible exact H | (rw [hy300]; exact H) | exact H
    have Ny300 := Aside0.mk hy300
    clear hy300
    obtain rfl := Option.some.inj H
    go_enter Tryd.func49, Tryd.ntmps49
    go_wp2_with (first | ((with_reducible refine gate_dst (N := 3) rfl ?_); refine Kd.R_lit (Kd.int .i64) _ 2 ?hg (N := 3) ?hd (xs := ([] : List Int)) (inner := []) (ok := fun _ => True) (okp := fun _ => True) ?hr ?hp (fun _ hk => hk) trivial (Below.refl _ _) (Nat.le_refl _) (by simp) ?_; (case hd => rfl); (case hg => rfl); (case hr => first | (go_simp; done) | (go_simp; rfl)); (case hp => exact (Reps.none _ _)); intro v298 w3 ho4 hb hg_ hnew_; clear hg_ hnew_; (first | rw [← Ny297.out] at ho4 | (simp only [Int.reduceToNat] at ho4; rw [← Ny297.out] at ho4)); have n0_ := Aside0.mk (Kd.R_lower ho4 (below_size (by repeat first | exact HB.out | apply pw_below_drewN))); have n1_ := Aside0.mk (below_step (by repeat first | exact HB.out | apply pw_below_drewN) hb); clear HB; have HO299 := n0_; have HB := n1_; clear n0_ n1_; clear hb ho4) | ((with_reducible refine gate_builtin (b := .append) (xs := #[.tmp 3, .tmp 4]) rfl ?_); at_builtin; refine Kd.R_append_rows (Kd.int .i64) (w0 := w) w.heap.size rfl (.tmp 3) (.tmp 4) 58 2 (.int .i64 0) 8 rfl Tryd.underlying58 info2 rfl (by decide) (by omega) v298 y297 l0 _ _ _ (fun _ => True) (fun _ => False) rfl rfl ?aO ?aR (fun _ _ h => h) (fun _ h => h.elim) ?aF ?aB ?aS ?aL ?_; (case aR => repeat (first | exact (Kd.C_below HR0.out HB.out) | (with_reducible refine Kd.C_alloc ?_ _) | (with_reducible refine Kd.C_drewN ?_ _) | (with_reducible refine Kd.C_drew ?_))); (case aB => exact (by repeat first | exact HB.out | apply pw_below_drewN)); (case aF => exact (fun _ _ => trivial)); (case aO => exact (by (with_reducible repeat (first | apply Kd.R_alloc | apply Kd.R_drewN | apply Kd.R_drew)); exact HO299.out)); (case aS => exact (below_size (by repeat first | exact HB.out | apply pw_below_drewN))); (case aL => have := LMc2.out; omega); intro v301 w5 ho hb hg hat; rw [← Ny300.out] at ho; have n0_ := Aside0.mk (hb); have n1_ := Aside0.mk (ho); clear HB; clear HO299; have HB := n0_; have HO302 := n1_; clear n0_ n1_; clear ho hb hg hat))
    go_ret
    exact ⟨_, by first | rfl | (simp [*, errW_none, errW_some] <;> rfl), by (with_reducible repeat (first | apply Kd.R_alloc | apply Kd.R_drewN | apply Kd.R_drew)); exact HO302.out, by repeat first | exact HB.out | apply pw_below_drewN⟩
  · rw [if_neg c2] at H
    exact absurd H (by simp)

/-! ### spec_l06Draw: function 24 -/
mutual
def spec_l06Draw.l0 : Nat → Int → List Int → Int → List Int → Int → Int → List (S65) → List (S62) → Option ((List (S65)) × (List (S62)) × Int × Int)
  | 0, _, _, _, _, _, _, _, _ => none
  | k + 1, x4, x5, x6, x1000, x1001, x1002, x305000, x305001 => if x6 > 0 then ((spec_l00Src_pick.f x1000 x1001 x1002 3).bind fun bt312 => (spec_l06Draw.l1 k x4 x5 x6 (wrap64 (1 + bt312.1)) x1000 bt312.2.1 bt312.2.2 x305000 x305001 x4 1 ([] : List Int))) else ((spec_l00Src_one.f x1000 x1001 x1002 2).bind fun bt336 => (if bt336.1 = true then (spec_l06Draw.l2 k x4 x5 (([] : List Int)) 0 x1000 bt336.2.1 bt336.2.2 x305000 x305001) else ((spec_l00Own.f x5).bind fun t374 => (if x305001.length < 3518437208883 then (some (x305000, (x305001 ++ [(⟨x4, 3, t374⟩ : S62)]), bt336.2.1, bt336.2.2)) else (none)))))
def spec_l06Draw.l1 : Nat → Int → List Int → Int → Int → List Int → Int → Int → List (S65) → List (S62) → Int → Int → List Int → Option ((List (S65)) × (List (S62)) × Int × Int)
  | 0, _, _, _, _, _, _, _, _, _, _, _, _ => none
  | k + 1, x4, x5, x6, x8, x1000, x1001, x1002, x305000, x305001, x312000, x312001, x312002 => if x8 > 0 then (spec_l06Draw.j2 k x4 x5 x6 x8 (decide ((x305000.length : Int) < 16)) x1000 x1001 x1002 x305000 x305001 x312000 x312001 x312002) else (spec_l06Draw.j2 k x4 x5 x6 x8 false x1000 x1001 x1002 x305000 x305001 x312000 x312001 x312002)
def spec_l06Draw.j2 : Nat → Int → List Int → Int → Int → Bool → List Int → Int → Int → List (S65) → List (S62) → Int → Int → List Int → Option ((List (S65)) × (List (S62)) × Int × Int)
  | 0, _, _, _, _, _, _, _, _, _, _, _, _, _ => none
  | k + 1, x4, x5, x6, x8, x34, x1000, x1001, x1002, x305000, x305001, x312000, x312001, x312002 => if x34 = true then ((spec_l00Src_pick.f x1000 x1001 x1002 9).bind fun bt315 => ((spec_l00Src_among.f x1000 bt315.2.1 bt315.2.2 (([1, 1, 2, 3, bt315.1] : List Int))).bind fun bt321 => (if x305000.length < 8796093022208 then (if x312002.length < 17592186044416 then (spec_l06Draw.l1 k x4 x5 x6 (wrap64 (x8 - 1)) x1000 bt321.2.1 bt321.2.2 (x305000 ++ [(⟨(x305000.length : Int), bt321.1⟩ : S65)]) x305001 x312000 x312001 (x312002 ++ [(x305000.length : Int)])) else (none)) else (none)))) else (if x305001.length < 3518437208883 then (if x5.length < 17592186044416 then (spec_l06Draw.l0 k (wrap64 (x4 - 1)) (x5 ++ [x4]) (wrap64 (x6 - 1)) x1000 x1001 x1002 x305000 (x305001 ++ [(⟨x312000, x312001, x312002⟩ : S62)])) else (none)) else (none))
def spec_l06Draw.l2 : Nat → Int → List Int → List Int → Int → List Int → Int → Int → List (S65) → List (S62) → Option ((List (S65)) × (List (S62)) × Int × Int)
  | 0, _, _, _, _, _, _, _, _, _ => none
  | k + 1, x4, x5, x10, x11, x1000, x1001, x1002, x305000, x305001 => if x11 < (x5.length : Int) then (if (wrap64 (x11 + 2)) > (x5.length : Int) then (if 0 ≤ x11 then (if x11 ≤ (x5.length : Int) then (if (x5.length : Int) ≤ (x5.length : Int) then ((spec_l00Own.f ((x5.take ((x5.length : Int) : Int).toNat).drop (x11 : Int).toNat)).bind fun t346 => (if x305001.length < 3518437208883 then (if x10.length < 17592186044416 then (spec_l06Draw.l2 k (wrap64 (x4 - 1)) x5 (x10 ++ [x4]) (wrap64 (x11 + 2)) x1000 x1001 x1002 x305000 (x305001 ++ [(⟨x4, 2, t346⟩ : S62)])) else (none)) else (none))) else (none)) else (none)) else (none)) else (if 0 ≤ x11 then (if x11 ≤ (wrap64 (x11 + 2)) then (if (wrap64 (x11 + 2)) ≤ (x5.length : Int) then ((spec_l00Own.f ((x5.take ((wrap64 (x11 + 2)) : Int).toNat).drop (x11 : Int).toNat)).bind fun t359 => (if x305001.length < 3518437208883 then (if x10.length < 17592186044416 then (spec_l06Draw.l2 k (wrap64 (x4 - 1)) x5 (x10 ++ [x4]) (wrap64 (x11 + 2)) x1000 x1001 x1002 x305000 (x305001 ++ [(⟨x4, 2, t359⟩ : S62)])) else (none)) else (none))) else (none)) else (none)) else (none))) else ((spec_l00Own.f x10).bind fun t368 => (if x305001.length < 3518437208883 then (some (x305000, (x305001 ++ [(⟨x4, 3, t368⟩ : S62)]), x1001, x1002)) else (none)))
end
def spec_l06Draw.f (k : Nat) (s0_0 : List Int) (s0_1 : Int) (s0_2 : Int) : Option ((List (S65)) × (List (S62)) × Int × Int) := (spec_l00Src_pick.f s0_0 s0_1 s0_2 4).bind fun bt308 => (spec_l06Draw.l0 k (-1) (([] : List Int)) (wrap64 (2 + bt308.1)) s0_0 bt308.2.1 bt308.2.2 ([] : List (S65)) ([] : List (S62)))
def spec_l06Draw.T12 : Bool × List (List Nat × List Nat) := (true, [([], []), ([0], [0]), ([], []), ([], []), ([], []), ([4], [4]), ([5], [5]), ([3, 6, 5], [3, 6]), ([2, 7], [2, 7]), ([8], [8]), ([1, 9, 7], [1, 9]), ([0, 1, 2, 3, 4, 5, 6, 7, 8, 9, 10], []), ([11, 10, 10, 0, 1, 2, 3, 4, 5, 6, 7, 8, 9, 10], [10, 11])])
def spec_l06Draw.B12 : List Nat := [0, 1, 0, 0, 0, 16, 48, 120, 252, 508, 1023, 2047, 4095]
theorem spec_l06Draw.tab12 : rtab .any (opsOf Tryd.f24 12) = spec_l06Draw.T12 := by kernel_rfl
theorem spec_l06Draw.bits12 : waitsOk spec_l06Draw.T12.2 spec_l06Draw.B12 = true := by kernel_rfl
def spec_l06Draw.T26 : Bool × List (List Nat × List Nat) := (true, [([], []), ([0], [0]), ([], []), ([], []), ([], []), ([], []), ([3, 4, 5], [3, 4, 5]), ([6], [6]), ([2, 7], [2, 7]), ([8], [8]), ([1, 9, 7], [1, 9]), ([0, 1, 2, 3, 4, 5, 6, 7, 8, 9, 10], []), ([11, 10, 10, 0, 1, 2, 3, 4, 5, 6, 7, 8, 9, 10], [10, 11])])
def spec_l06Draw.B26 : List Nat := [0, 1, 0, 0, 0, 0, 56, 120, 252, 508, 1023, 2047, 4095]
theorem spec_l06Draw.tab26 : rtab .any (opsOf Tryd.f24 26) = spec_l06Draw.T26 := by kernel_rfl
theorem spec_l06Draw.bits26 : waitsOk spec_l06Draw.T26.2 spec_l06Draw.B26 = true := by kernel_rfl
def spec_l06Draw.T29 : Bool × List (List Nat × List Nat) := (true, [([], []), ([0], [0]), ([], []), ([], []), ([3], [3]), ([2, 4], [2, 4]), ([5], [5]), ([1, 6, 4], [1, 6]), ([0, 1, 2, 3, 4, 5, 6, 7], []), ([8, 7, 7, 0, 1, 2, 3, 4, 5, 6, 7], [7, 8])])
def spec_l06Draw.B29 : List Nat := [0, 1, 0, 0, 8, 28, 60, 127, 255, 511]
theorem spec_l06Draw.tab29 : rtab .any (opsOf Tryd.f24 29) = spec_l06Draw.T29 := by kernel_rfl
theorem spec_l06Draw.bits29 : waitsOk spec_l06Draw.T29.2 spec_l06Draw.B29 = true := by kernel_rfl
def az_z24 (n m : Nat) : Array Bool := (List.replicate n true ++ List.replicate m false).toArray
def mz24_0 : Array Bool := az_z24 0 13
def mz24_1 : Array Bool := az_z24 1 12
def mz24_2 : Array Bool := #[true, false, true, false, false, false, false, false, false, false, false, false, false]
def mz24_3 : Array Bool := #[true, false, true, true, false, false, false, false, false, false, false, false, false]
def mz24_4 : Array Bool := #[true, false, true, true, true, false, false, false, false, false, false, false, false]
def mz24_5 : Array Bool := az_z24 5 8
def mz24_6 : Array Bool := az_z24 6 7
def mz24_7 : Array Bool := az_z24 7 6
def mz24_8 : Array Bool := az_z24 8 5
def mz24_9 : Array Bool := az_z24 9 4
def mz24_10 : Array Bool := az_z24 10 3
def mz24_11 : Array Bool := az_z24 11 2
def mz24_12 : Array Bool := az_z24 12 1
def mz24_13 : Array Bool := az_z24 13 0
def mz24_14 : Array Bool := #[true, false, true, true, true, true, false, false, false, false, false, false, false]
def mz24_15 : Array Bool := #[true, false, true, true, true, true, true, false, false, false, false, false, false]
def mz24_16 : Array Bool := az_z24 0 10
def mz24_17 : Array Bool := az_z24 1 9
def mz24_18 : Array Bool := #[true, false, true, false, false, false, false, false, false, false]
def mz24_19 : Array Bool := #[true, false, true, true, false, false, false, false, false, false]
def mz24_20 : Array Bool := az_z24 4 6
def mz24_21 : Array Bool := az_z24 5 5
def mz24_22 : Array Bool := az_z24 6 4
def mz24_23 : Array Bool := az_z24 7 3
def mz24_24 : Array Bool := az_z24 8 2
def mz24_25 : Array Bool := az_z24 9 1
def mz24_26 : Array Bool := az_z24 10 0
theorem pu_z24 {P : Program} {ops : Array Oper} {Q : Exit → Act → World → Prop} {md : Region.Mode} {S : World → Prop} {ds : List Nat} {oi : Oper} {fuel : Nat} {l : Array Bool} {a : Act} {w : World} (i : Nat) (N : Option Tmp) (v : Value) (l' : Array Bool) (hi : ops[i]? = some oi) (hN : oi.dst = N) (hc : anyB md ops l l' i = true)
    (hQ : ∀ c a w, Q (.panic c) (a.put oi.dst v) w → Q (.panic c) a w) (hy : Yields P ops oi v a) (a' : Act) (ha : a.put N v = a')
    (h : wpAnyLast P md ops Q S ds fuel l' a' w) : wpAnyLast P md ops Q S ds (fuel + 1) l a w := pure_ l' hi hN hc hQ hy ha h
theorem pq_z24 : (∀ (l : List Value) (i : Nat) (v : Value), l.toArray.setIfInBounds i v = (l.set i v).toArray) ∧ (∀ (x v : Value) (xs : List Value), (x :: xs).set 0 v = v :: xs) ∧ (∀ (x v : Value) (xs : List Value) (n : Nat), (x :: xs).set (n + 1) v = x :: xs.set n v) ∧ (∀ n : Int, IntKind.i64.wrap n = Go.RowKit.wrap64 n) ∧ (∀ n : Int, IntKind.i32.wrap n = Go.RowKit.wrap32 n) :=
  ⟨fun l i v => List.setIfInBounds_toArray l i v, fun _ _ _ => rfl, fun _ _ _ _ => rfl, i64_w, i32_w⟩
set_option maxHeartbeats 8000000 in
set_option maxRecDepth 100000 in
theorem spec_l06Draw.calls (k : Nat) (g : Nat) (s0_0 : List Int) (s0_1 : Int) (s0_2 : Int) (r1 : List (S65)) (r2 : List (S62)) (r3 : Int) (r4 : Int) (w0 w : World) (hI : IsS87 w0 w g s0_0 s0_1 s0_2) (hB : Below w0.heap.size w0 w) (h : spec_l06Draw.f k s0_0 s0_1 s0_2 = some (r1, r2, r3, r4)) :
  Calls Tryd.prog 24 #[.pointer (some ⟨g, 0, none⟩)] w fun e w' => ∃ v0_ v1_ : Value, e = .returned (.agg #[v0_, v1_]) ∧ Kd.R k65 65 w' w.heap.size (fun _ => True) v0_ r1 ∧ Kd.S k62 62 w' w.heap.size (fun _ => True) v1_ r2 ∧ IsS87 w0 w' g s0_0 r3 r4 ∧ Below w0.heap.size w0 w' ∧ KeepBut w w' g none := by
 have hu32 := Tryd.underlying32
 have hu62 := Tryd.underlying62
 have hu65 := Tryd.underlying65
 have HI0 := Aside0.mk hI
 have HK := Aside0.mk (KeepBut.refl w g none)
 have HL := Aside0.mk hB.size
 clear hI
 have HW0 := Aside0.mk hB.size
 have HB := Aside0.mk hB
 clear hB
 have H : ((spec_l00Src_pick.f s0_0 s0_1 s0_2 4).bind fun bt308 => (spec_l06Draw.l0 k (-1) (([] : List Int)) (wrap64 (2 + bt308.1)) s0_0 bt308.2.1 bt308.2.2 ([] : List (S65)) ([] : List (S62)))) = some (r1, r2, r3, r4) := h
 clear h
 obtain ⟨y305, hy305⟩ : ∃ y_ : List Int, y_ = (([] : List Int)) := ⟨_, rfl⟩
 replace H : ((spec_l00Src_pick.f s0_0 s0_1 s0_2 4).bind fun bt308 => (spec_l06Draw.l0 k (-1) y305 (wrap64 (2 + bt308.1)) s0_0 bt308.2.1 bt308.2.2 ([] : List (S65)) ([] : List (S62)))) = some (r1, r2, r3, r4) := by first | (rw [hy305]; with_reducible exact H) | (have H2_ := (Option.bind_some _ _).symm.trans H; rw [hy305]; with_reducible exact H2_) | (have H2_ := (Option.bind_some _ _).symm.trans H; with_reducible exact H2_) | with_reducible exact H | (rw [hy305]; exact H) | exact H
 have Ny305 := Aside0.mk hy305
 clear hy305
 replace H := Option.bind_eq_some_iff.mp H
 obtain ⟨⟨t308, t309, t310⟩, A20, H⟩ := H
 replace H : (spec_l06Draw.l0 k (-1) y305 (wrap64 (2 + t308)) s0_0 t309 t310 ([] : List (S65)) ([] : List (S62))) = some (r1, r2, r3, r4) := H
 have A2 := Aside0.mk A20
 clear A20
 have H' := Aside0.mk H
 clear H
 go_enter Tryd.func24, Tryd.ntmps24
 go_wp2_with (first | ((with_reducible refine gate_dst (N := 2) rfl ?_); refine box_event ?hg (N := 2) ?hd (cs := #[.slice none 0 0, .slice none 0 0]) (t := 32) ?hr ?_; (case hd => rfl); (case hg => rfl); (case hr => first | (go_simp; done) | (go_simp; rfl)); intro gb303 hg w3 hbox hb; have n0_ := Aside0.mk (IsS87.below (by repeat (first | (with_reducible first | exact HI0.out | apply IsS87.alloc | apply IsS87.drewN | apply IsS87.drew | apply IsS87.set_1 | apply IsS87.set_2) | exact HI0.out)) hb); have n1_ := Aside0.mk (KeepBut.trans (by repeat (first | (with_reducible first | exact HK.out | apply KeepBut.set_ | apply keep_drewN | apply keep_drew | apply keep_alloc) | exact HK.out)) (KeepBut.of_below hb g none) (.inl rfl)); have n2_ := Aside0.mk (below_step (by repeat (first | (with_reducible first | exact HB.out | apply below_alloc | apply pw_below_drewN | apply below_drew1 | refine below_set ?_ (IsS87.ge HI0.out)) | exact HB.out)) hb); have n3_ := Aside0.mk (hbox); have n4_ := Aside0.mk ((by rw [hg]; exact (keep_size (w := w) (g := g) (row := none) (by repeat (first | (with_reducible first | exact HK.out | apply KeepBut.set_ | apply keep_drewN | apply keep_drew | apply keep_alloc) | exact HK.out))) : w.heap.size ≤ gb303)); have n5_ := Aside0.mk ((Nat.le_trans HW0.out (by rw [hg]; exact (keep_size (w := w) (g := g) (row := none) (by repeat (first | (with_reducible first | exact HK.out | apply KeepBut.set_ | apply keep_drewN | apply keep_drew | apply keep_alloc) | exact HK.out))) : w.heap.size ≤ gb303) : w0.heap.size ≤ gb303)); have n6_ := Aside0.mk ((by rw [hg]; exact Nat.ne_of_lt (IsS87.lt (show IsS87 w0 _ g s0_0 s0_1 s0_2 from by repeat (first | (with_reducible first | exact HI0.out | apply IsS87.alloc | apply IsS87.drewN | apply IsS87.drew | apply IsS87.set_1 | apply IsS87.set_2) | exact HI0.out))) : g ≠ gb303)); have n7_ := Aside0.mk ((by rw [hg]; exact Nat.ne_of_gt (IsS87.lt (show IsS87 w0 _ g s0_0 s0_1 s0_2 from by repeat (first | (with_reducible first | exact HI0.out | apply IsS87.alloc | apply IsS87.drewN | apply IsS87.drew | apply IsS87.set_1 | apply IsS87.set_2) | exact HI0.out))) : gb303 ≠ g)); clear HI0; clear HK; clear HB; have HI0 := n0_; have HK := n1_; have HB := n2_; have BK303 := n3_; have GW303 := n4_; have GE303 := n5_; have NB0_303 := n6_; have NB303_0 := n7_; clear n0_ n1_ n2_ n3_ n4_ n5_ n6_ n7_; clear hb hbox hg) | ((with_reducible refine gate_dst (N := 3) rfl ?_); refine box_event ?hg (N := 3) ?hd (cs := #[.slice none 0 0, .slice none 0 0]) (t := 32) ?hr ?_; (case hd => rfl); (case hg => rfl); (case hr => first | (go_simp; done) | (go_simp; rfl)); intro gb304 hg w4 hbox hb; have n0_ := Aside0.mk (IsS87.below (by repeat (first | (with_reducible first | exact HI0.out | apply IsS87.alloc | apply IsS87.drewN | apply IsS87.drew | apply IsS87.set_1 | apply IsS87.set_2 | refine IsS87.far ?_ NB0_303.out _) | exact HI0.out)) hb); have n1_ := Aside0.mk (blk_below (g := gb303) (o := .cells #[.slice none 0 0, .slice none 0 0] 32 (0, 0)) (by (with_reducible repeat first | apply blk_drewN | apply blk_drew | apply blk_alloc); exact BK303.out) hb); have n2_ := Aside0.mk (KeepBut.trans (by repeat (first | (with_reducible first | exact HK.out | apply KeepBut.set_ | apply keep_drewN | apply keep_drew | apply keep_alloc | refine keep_far ?_ GW303.out _) | exact HK.out)) (KeepBut.of_below hb g none) (.inl rfl)); have n3_ := Aside0.mk (below_step (by repeat (first | (with_reducible first | exact HB.out | apply below_alloc | apply pw_below_drewN | apply below_drew1 | refine below_set ?_ (IsS87.ge HI0.out) | refine below_set ?_ GE303.out) | exact HB.out)) hb); have n4_ := Aside0.mk (hbox); have n5_ := Aside0.mk ((by rw [hg]; exact (keep_size (w := w) (g := g) (row := none) (by repeat (first | (with_reducible first | exact HK.out | apply KeepBut.set_ | apply keep_drewN | apply keep_drew | apply keep_alloc | refine keep_far ?_ GW303.out _) | exact HK.out))) : w.heap.size ≤ gb304)); have n6_ := Aside0.mk ((Nat.le_trans HW0.out (by rw [hg]; exact (keep_size (w := w) (g := g) (row := none) (by repeat (first | (with_reducible first | exact HK.out | apply KeepBut.set_ | apply keep_drewN | apply keep_drew | apply keep_alloc | refine keep_far ?_ GW303.out _) | exact HK.out))) : w.heap.size ≤ gb304) : w0.heap.size ≤ gb304)); have n7_ := Aside0.mk ((by rw [hg]; exact Nat.ne_of_lt (blk_lt (g := gb303) (o := .cells #[.slice none 0 0, .slice none 0 0] 32 (0, 0)) (by (with_reducible repeat first | apply blk_drewN | apply blk_drew | apply blk_alloc); exact BK303.out)) : gb303 ≠ gb304)); have n8_ := Aside0.mk ((by rw [hg]; exact Nat.ne_of_gt (blk_lt (g := gb303) (o := .cells #[.slice none 0 0, .slice none 0 0] 32 (0, 0)) (by (with_reducible repeat first | apply blk_drewN | apply blk_drew | apply blk_alloc); exact BK303.out)) : gb304 ≠ gb303)); have n9_ := Aside0.mk ((by rw [hg]; exact Nat.ne_of_lt (IsS87.lt (show IsS87 w0 _ g s0_0 s0_1 s0_2 from by repeat (first | (with_reducible first | exact HI0.out | apply IsS87.alloc | apply IsS87.drewN | apply IsS87.drew | apply IsS87.set_1 | apply IsS87.set_2 | refine IsS87.far ?_ NB0_303.out _) | exact HI0.out))) : g ≠ gb304)); have n10_ := Aside0.mk ((by rw [hg]; exact Nat.ne_of_gt (IsS87.lt (show IsS87 w0 _ g s0_0 s0_1 s0_2 from by repeat (first | (with_reducible first | exact HI0.out | apply IsS87.alloc | apply IsS87.drewN | apply IsS87.drew | apply IsS87.set_1 | apply IsS87.set_2 | refine IsS87.far ?_ NB0_303.out _) | exact HI0.out))) : gb304 ≠ g)); clear HI0; clear BK303; clear HK; clear HB; have HI0 := n0_; have BK303 := n1_; have HK := n2_; have HB := n3_; have BK304 := n4_; have GW304 := n5_; have GE304 := n6_; have NB303_304 := n7_; have NB304_303 := n8_; have NB0_304 := n9_; have NB304_0 := n10_; clear n0_ n1_ n2_ n3_ n4_ n5_ n6_ n7_ n8_ n9_ n10_; clear hb hbox hg; have hnb5 := NB304_303.out; have hnc5 := NB303_304.out; have hnb6 := NB304_0.out; have hnc6 := NB0_304.out; have hcz7_0 : w4.cell? ⟨gb304, 0, none⟩ = some (.slice none 0 0) := (blk_cell BK304.out 0).trans rfl; have hcz7_1 : w4.cell? ⟨gb304, 1, none⟩ = some (.slice none 0 0) := (blk_cell BK304.out 1).trans rfl; have hfz7_0 := blk_frozen BK304.out 0; have hfz7_1 := blk_frozen BK304.out 1) | ((with_reducible refine gate_dst (N := 14) rfl ?_); refine Kd.R_lit (Kd.int .i64) _ 2 ?hg (N := 14) ?hd (xs := ([] : List Int)) (inner := []) (ok := fun _ => True) (okp := fun _ => True) ?hr ?hp (fun _ hk => hk) trivial (Below.refl _ _) (Nat.le_refl _) (by simp) ?_; (case hd => rfl); (case hg => rfl); (case hr => first | (go_simp; done) | (go_simp; rfl)); (case hp => exact (Reps.none _ _)); intro v306 w8 ho9 hb hg_ hnew_; clear hg_ hnew_; (first | rw [← Ny305.out] at ho9 | (simp only [Int.reduceToNat] at ho9; rw [← Ny305.out] at ho9)); have n0_ := Aside0.mk (Kd.R_lower ho9 (keep_size (w := w) (g := g) (row := none) (by repeat (first | (with_reducible first | exact HK.out | apply KeepBut.set_ | apply keep_drewN | apply keep_drew | apply keep_alloc | refine keep_far ?_ GW303.out _ | refine keep_far ?_ GW304.out _) | exact HK.out)))); have n1_ := Aside0.mk (IsS87.below (show IsS87 w0 ((w4.setCell ⟨gb304, 0, none⟩ (.slice none 0 0)).setCell ⟨gb304, 1, none⟩ (.slice none 0 0)) g s0_0 s0_1 s0_2 from by repeat (first | (with_reducible first | exact HI0.out | apply IsS87.alloc | apply IsS87.drewN | apply IsS87.drew | apply IsS87.set_1 | apply IsS87.set_2 | refine IsS87.far ?_ NB0_303.out _ | refine IsS87.far ?_ NB0_304.out _) | exact HI0.out)) hb); have n2_ := Aside0.mk (blk_below (g := gb303) (o := .cells #[.slice none 0 0, .slice none 0 0] 32 (0, 0)) (by (with_reducible repeat first | apply blk_drewN | apply blk_drew | apply blk_alloc); refine blk_far ?_ NB303_304.out _; (with_reducible repeat first | apply blk_drewN | apply blk_drew | apply blk_alloc); refine blk_far ?_ NB303_304.out _; (with_reducible repeat first | apply blk_drewN | apply blk_drew | apply blk_alloc); exact BK303.out) hb); have n3_ := Aside0.mk (blk_below (g := gb304) (o := .cells #[.slice none 0 0, .slice none 0 0] 32 (0, 0)) (by (with_reducible repeat first | apply blk_drewN | apply blk_drew | apply blk_alloc); refine blk_put (cs := #[.slice none 0 0, .slice none 0 0]) ?_ 1 _ rfl; (with_reducible repeat first | apply blk_drewN | apply blk_drew | apply blk_alloc); refine blk_put (cs := #[.slice none 0 0, .slice none 0 0]) ?_ 0 _ rfl; (with_reducible repeat first | apply blk_drewN | apply blk_drew | apply blk_alloc); exact BK304.out) hb); have n4_ := Aside0.mk (KeepBut.trans (by repeat (first | (with_reducible first | exact HK.out | apply KeepBut.set_ | apply keep_drewN | apply keep_drew | apply keep_alloc | refine keep_far ?_ GW303.out _ | refine keep_far ?_ GW304.out _) | exact HK.out)) (KeepBut.of_below hb g none) (.inl rfl)); have n5_ := Aside0.mk (below_step (by repeat (first | (with_reducible first | exact HB.out | apply below_alloc | apply pw_below_drewN | apply below_drew1 | refine below_set ?_ (IsS87.ge HI0.out) | refine below_set ?_ GE303.out | refine below_set ?_ GE304.out) | exact HB.out)) hb); clear HI0; clear BK303; clear BK304; clear HK; clear HB; have HO307 := n0_; have HI0 := n1_; have BK303 := n2_; have BK304 := n3_; have HK := n4_; have HB := n5_; clear n0_ n1_ n2_ n3_ n4_ n5_; clear hb ho9) | ((with_reducible refine gate_callee (f := 46) rfl ?_); refine goesL_ (some 16) rfl rfl Tryd.func46 (by kernel_rfl) rfl #[.pointer (some ⟨g, 0, none⟩), .int .i64 4] rfl (by (try simp only [List.map_toArray, List.map_cons, List.map_nil]); first | done | rfl | (simp only [List.length_drop, List.length_take]; rfl)) ?_; (with_reducible refine (spec_l00Src_pick.calls g s0_0 s0_1 s0_2 4 t308 t309 t310 w0 _ ?side1 ?side2 A2.out).mono ?_); (case side1 => repeat (first | (with_reducible first | exact HI0.out | apply IsS87.alloc | apply IsS87.drewN | apply IsS87.drew | apply IsS87.set_1 | apply IsS87.set_2 | refine IsS87.far ?_ NB0_303.out _ | refine IsS87.far ?_ NB0_304.out _) | exact HI0.out)); (case side2 => repeat (first | (with_reducible first | exact HB.out | apply below_alloc | apply pw_below_drewN | apply below_drew1 | refine below_set ?_ (IsS87.ge HI0.out) | refine below_set ?_ GE303.out | refine below_set ?_ GE304.out) | exact HB.out)); rintro e w10 ⟨rfl, hi, hb, hk⟩; refine ⟨_, rfl, ?_⟩; have n0_ := Aside0.mk (KeepBut.blk hk (g' := gb303) (o := .cells #[.slice none 0 0, .slice none 0 0] 32 (0, 0)) (by (with_reducible repeat first | apply blk_drewN | apply blk_drew | apply blk_alloc); exact BK303.out) NB303_0.out (by simp)); have n1_ := Aside0.mk (KeepBut.blk hk (g' := gb304) (o := .cells #[.slice none 0 0, .slice none 0 0] 32 (0, 0)) (by (with_reducible repeat first | apply blk_drewN | apply blk_drew | apply blk_alloc); exact BK304.out) NB304_0.out (by simp)); have n2_ := Aside0.mk (Kd.R_mono (Kd.R_keep (IsS87.apart (show IsS87 w0 _ g s0_0 s0_1 s0_2 from by repeat (first | (with_reducible first | exact HI0.out | apply IsS87.alloc | apply IsS87.drewN | apply IsS87.drew | apply IsS87.set_1 | apply IsS87.set_2 | refine IsS87.far ?_ NB0_303.out _ | refine IsS87.far ?_ NB0_304.out _) | exact HI0.out)) (by (with_reducible repeat (first | apply Kd.R_alloc | apply Kd.R_drewN | apply Kd.R_drew)); exact HO307.out) (by decide)) hk (fun _ h => h.2)) (fun _ h => h.1)); have n3_ := Aside0.mk (KeepBut.trans (by repeat (first | (with_reducible first | exact HK.out | apply KeepBut.set_ | apply keep_drewN | apply keep_drew | apply keep_alloc | refine keep_far ?_ GW303.out _ | refine keep_far ?_ GW304.out _) | exact HK.out)) hk (.inl rfl)); have n4_ := Aside0.mk (hb); have n5_ := Aside0.mk (hi); clear BK303; clear BK304; clear HO307; clear HK; clear HB; clear HI0; have BK303 := n0_; have BK304 := n1_; have HO307 := n2_; have HK := n3_; have HB := n4_; have HI0 := n5_; clear n0_ n1_ n2_ n3_ n4_ n5_; (try clear hb); (try clear hb2); (try clear hk); (try clear hi)))
 go_loopg [4, 5, 6] k (fun kq v4 v5 v6 w' => ∃ (x4_1 : Int) (x5_1 : List Int) (x6_1 : Int) (x1001_1 : Int) (x1002_1 : Int) (x305000_1 : List (S65)) (x305001_1 : List (S62)) (u305000 : Value) (u305001 : Value), v4 = .int .i64 x4_1 ∧ v6 = .int .i64 x6_1 ∧ Aside0 (spec_l06Draw.l0 kq x4_1 x5_1 x6_1 s0_0 x1001_1 x1002_1 x305000_1 x305001_1 = some (r1, r2, r3, r4)) ∧ Aside0 (kq ≤ k) ∧ Aside0 (Kd.R (Kd.int .i64) 2 w' w.heap.size (fun _ => True) v5 x5_1) ∧ Aside0 (Kd.R k65 65 w' w.heap.size (fun _ => True) u305000 x305000_1) ∧ Aside0 (Kd.S k62 62 w' w.heap.size (fun k_ => some k_ ≠ (v5 : Value).ownBlock) u305001 x305001_1) ∧ Aside0 (w'.heap[gb303]? = some (.cells #[(.slice none 0 0), (.slice none 0 0)] 32 (0, 0))) ∧ Aside0 (w'.heap[gb304]? = some (.cells #[u305000, u305001] 32 (0, 0))) ∧ Aside0 (IsS87 w0 w' g s0_0 x1001_1 x1002_1) ∧ Aside0 (KeepBut w w' g none) ∧ Aside0 (Below w0.heap.size w0 w'))
 case atStart => exact ⟨((-1)), (y305), (wrap64 (2 + t308)), (t309), (t310), (([] : List (S65))), (([] : List (S62))), (.slice none 0 0), (.slice none 0 0), (by first | rfl | (simp; done) | (simp [*]; done)), (by first | rfl | (simp; done) | (simp [*]; done)), H', ⟨Nat.le_refl _⟩, ⟨by (with_reducible repeat (first | apply Kd.R_alloc | apply Kd.R_drewN | apply Kd.R_drew)); exact HO307.out⟩, ⟨by first | exact Kd.R_nil _ _ _ _ _ | exact Kd.N_nil _ _ _ _ _ | exact Kd.V_nil _ _ _ _ _ | exact Kd.Q_nil _ _ _ _ _ | exact Kd.S_nil _ _ _ _ _⟩, ⟨by first | exact Kd.S_nil _ _ _ _ _ | exact Kd.N_nil _ _ _ _ _ | exact Kd.V_nil _ _ _ _ _ | exact Kd.Q_nil _ _ _ _ _ | exact Kd.R_nil _ _ _ _ _⟩, ⟨by (with_reducible repeat first | apply blk_drewN | apply blk_drew | apply blk_alloc); exact BK303.out⟩, ⟨by (with_reducible repeat first | apply blk_drewN | apply blk_drew | apply blk_alloc); exact BK304.out⟩, ⟨by repeat (first | (with_reducible first | exact HI0.out | apply IsS87.alloc | apply IsS87.drewN | apply IsS87.drew | apply IsS87.set_1 | apply IsS87.set_2 | refine IsS87.far ?_ NB0_303.out _ | refine IsS87.far ?_ NB0_304.out _) | exact HI0.out)⟩, ⟨by repeat (first | (with_reducible first | exact HK.out | apply KeepBut.set_ | apply keep_drewN | apply keep_drew | apply keep_alloc | refine keep_far ?_ GW303.out _ | refine keep_far ?_ GW304.out _) | exact HK.out)⟩, ⟨by repeat (first | (with_reducible first | exact HB.out | apply below_alloc | apply pw_below_drewN | apply below_drew1 | refine below_set ?_ (IsS87.ge HI0.out) | refine below_set ?_ GE303.out | refine below_set ?_ GE304.out) | exact HB.out)⟩⟩
 case round =>
  clear H'
  try clear c2
  try clear p2
  try clear c4
  try clear c5
  try clear c6
  try clear p6
  try clear hcz7_0
  try clear hcz7_1
  try clear hfz7_0
  try clear hfz7_1
  obtain ⟨x4_1, x5_1, x6_1, x1001_1, x1002_1, x305000_1, x305001_1, u305000, u305001, rfl, rfl, HA, HK1, HO_5, HO_305000, HO_305001, BK303, BK304, HI0, HK, HB⟩ := hrel
  cases gk with
  | zero => exact absurd HA.out (by simp [spec_l06Draw.l0])
  | succ k1 =>
   have H := HA.out
   clear HA
   simp only [spec_l06Draw.l0] at H
   by_cases c11 : x6_1 > 0
   ·rw [if_pos c11] at H
    have c11b0 : decide (0 < x6_1) = true := decide_eq_true c11
    clear c11
    replace H := Option.bind_eq_some_iff.mp H
    obtain ⟨⟨t312, t313, t314⟩, A120, H⟩ := H
    replace H : (spec_l06Draw.l1 k1 x4_1 x5_1 x6_1 (wrap64 (1 + t312)) s0_0 t313 t314 x305000_1 x305001_1 x4_1 1 ([] : List Int)) = some (r1, r2, r3, r4) := H
    have A12 := Aside0.mk A120
    clear A120
    have H' := Aside0.mk H
    clear H
    go_wp2_with (first | ((with_reducible refine gate_dst (N := 7) rfl ?_); refine box_event ?hg (N := 7) ?hd (cs := #[.int .i64 0, .int .i64 0, .slice none 0 0]) (t := 62) ?hr ?_; (case hd => rfl); (case hg => rfl); (case hr => first | (go_simp; done) | (go_simp; rfl)); intro gb311 hg w13 hbox hb; have n0_ := Aside0.mk (Kd.R_below (by (with_reducible repeat (first | apply Kd.R_alloc | apply Kd.R_drewN | apply Kd.R_drew)); exact HO_5.out) hb); have n1_ := Aside0.mk (Kd.R_below (by (with_reducible repeat (first | apply Kd.R_alloc | apply Kd.R_drewN | apply Kd.R_drew)); exact HO_305000.out) hb); have n2_ := Aside0.mk (Kd.S_below (Kd.S_elderB (by (with_reducible repeat (first | apply Kd.S_alloc | apply Kd.S_drewN | apply Kd.S_drew)); exact HO_305001.out) gb311 (Nat.le_of_eq hg.symm)) hb); have n3_ := Aside0.mk (blk_below (g := gb303) (o := .cells #[.slice none 0 0, .slice none 0 0] 32 (0, 0)) (by (with_reducible repeat first | apply blk_drewN | apply blk_drew | apply blk_alloc); exact BK303.out) hb); have n4_ := Aside0.mk (blk_below (g := gb304) (o := .cells #[u305000, u305001] 32 (0, 0)) (by (with_reducible repeat first | apply blk_drewN | apply blk_drew | apply blk_alloc); exact BK304.out) hb); have n5_ := Aside0.mk (IsS87.below (by repeat (first | (with_reducible first | exact HI0.out | apply IsS87.alloc | apply IsS87.drewN | apply IsS87.drew | apply IsS87.set_1 | apply IsS87.set_2 | refine IsS87.far ?_ NB0_303.out _ | refine IsS87.far ?_ NB0_304.out _) | exact HI0.out)) hb); have n6_ := Aside0.mk (KeepBut.trans (by repeat (first | (with_reducible first | exact HK.out | apply KeepBut.set_ | apply keep_drewN | apply keep_drew | apply keep_alloc | refine keep_far ?_ GW303.out _ | refine keep_far ?_ GW304.out _) | exact HK.out)) (KeepBut.of_below hb g none) (.inl rfl)); have n7_ := Aside0.mk (below_step (by repeat (first | (with_reducible first | exact HB.out | apply below_alloc | apply pw_below_drewN | apply below_drew1 | refine below_set ?_ (IsS87.ge HI0.out) | refine below_set ?_ GE303.out | refine below_set ?_ GE304.out) | exact HB.out)) hb); have n8_ := Aside0.mk (hbox); have n9_ := Aside0.mk ((by rw [hg]; exact (keep_size (w := w) (g := g) (row := none) (by repeat (first | (with_reducible first | exact HK.out | apply KeepBut.set_ | apply keep_drewN | apply keep_drew | apply keep_alloc | refine keep_far ?_ GW303.out _ | refine keep_far ?_ GW304.out _) | exact HK.out))) : w.heap.size ≤ gb311)); have n10_ := Aside0.mk ((Nat.le_trans HW0.out (by rw [hg]; exact (keep_size (w := w) (g := g) (row := none) (by repeat (first | (with_reducible first | exact HK.out | apply KeepBut.set_ | apply keep_drewN | apply keep_drew | apply keep_alloc | refine keep_far ?_ GW303.out _ | refine keep_far ?_ GW304.out _) | exact HK.out))) : w.heap.size ≤ gb311) : w0.heap.size ≤ gb311)); have n11_ := Aside0.mk ((by rw [hg]; exact Nat.ne_of_lt (blk_lt (g := gb303) (o := .cells #[.slice none 0 0, .slice none 0 0] 32 (0, 0)) (by (with_reducible repeat first | apply blk_drewN | apply blk_drew | apply blk_alloc); exact BK303.out)) : gb303 ≠ gb311)); have n12_ := Aside0.mk ((by rw [hg]; exact Nat.ne_of_gt (blk_lt (g := gb303) (o := .cells #[.slice none 0 0, .slice none 0 0] 32 (0, 0)) (by (with_reducible repeat first | apply blk_drewN | apply blk_drew | apply blk_alloc); exact BK303.out)) : gb311 ≠ gb303)); have n13_ := Aside0.mk ((by rw [hg]; exact Nat.ne_of_lt (blk_lt (g := gb304) (o := .cells #[u305000, u305001] 32 (0, 0)) (by (with_reducible repeat first | apply blk_drewN | apply blk_drew | apply blk_alloc); exact BK304.out)) : gb304 ≠ gb311)); have n14_ := Aside0.mk ((by rw [hg]; exact Nat.ne_of_gt (blk_lt (g := gb304) (o := .cells #[u305000, u305001] 32 (0, 0)) (by (with_reducible repeat first | apply blk_drewN | apply blk_drew | apply blk_alloc); exact BK304.out)) : gb311 ≠ gb304)); have n15_ := Aside0.mk ((by rw [hg]; exact Nat.ne_of_lt (IsS87.lt (show IsS87 w0 _ g s0_0 x1001_1 x1002_1 from by repeat (first | (with_reducible first | exact HI0.out | apply IsS87.alloc | apply IsS87.drewN | apply IsS87.drew | apply IsS87.set_1 | apply IsS87.set_2 | refine IsS87.far ?_ NB0_303.out _ | refine IsS87.far ?_ NB0_304.out _) | exact HI0.out))) : g ≠ gb311)); have n16_ := Aside0.mk ((by rw [hg]; exact Nat.ne_of_gt (IsS87.lt (show IsS87 w0 _ g s0_0 x1001_1 x1002_1 from by repeat (first | (with_reducible first | exact HI0.out | apply IsS87.alloc | apply IsS87.drewN | apply IsS87.drew | apply IsS87.set_1 | apply IsS87.set_2 | refine IsS87.far ?_ NB0_303.out _ | refine IsS87.far ?_ NB0_304.out _) | exact HI0.out))) : gb311 ≠ g)); clear HO_5; clear HO_305000; clear HO_305001; clear BK303; clear BK304; clear HI0; clear HK; clear HB; have HO_5 := n0_; have HO_305000 := n1_; have HO_305001 := n2_; have BK303 := n3_; have BK304 := n4_; have HI0 := n5_; have HK := n6_; have HB := n7_; have BK311 := n8_; have GW311 := n9_; have GE311 := n10_; have NB303_311 := n11_; have NB311_303 := n12_; have NB304_311 := n13_; have NB311_304 := n14_; have NB0_311 := n15_; have NB311_0 := n16_; clear n0_ n1_ n2_ n3_ n4_ n5_ n6_ n7_ n8_ n9_ n10_ n11_ n12_ n13_ n14_ n15_ n16_; clear hb hbox hg; have hnb14 := NB311_303.out; have hnc14 := NB303_311.out; have hnb15 := NB311_304.out; have hnc15 := NB304_311.out; have hnb16 := NB311_0.out; have hnc16 := NB0_311.out; have hcz17_0 : w13.cell? ⟨gb311, 0, none⟩ = some (.int .i64 0) := (blk_cell BK311.out 0).trans rfl; have hcz17_1 : w13.cell? ⟨gb311, 1, none⟩ = some (.int .i64 0) := (blk_cell BK311.out 1).trans rfl; have hcz17_2 : w13.cell? ⟨gb311, 2, none⟩ = some (.slice none 0 0) := (blk_cell BK311.out 2).trans rfl; have hfz17_0 := blk_frozen BK311.out 0; have hfz17_1 := blk_frozen BK311.out 1; have hfz17_2 := blk_frozen BK311.out 2) | ((with_reducible refine gate_callee (f := 46) rfl ?_); refine goesL_ (some 25) rfl rfl Tryd.func46 (by kernel_rfl) rfl #[.pointer (some ⟨g, 0, none⟩), .int .i64 3] rfl (by (try simp only [List.map_toArray, List.map_cons, List.map_nil]); first | done | rfl | (simp only [List.length_drop, List.length_take]; rfl)) ?_; (with_reducible refine (spec_l00Src_pick.calls g s0_0 x1001_1 x1002_1 3 t312 t313 t314 w0 _ ?side1 ?side2 A12.out).mono ?_); (case side1 => repeat (first | (with_reducible first | exact HI0.out | apply IsS87.alloc | apply IsS87.drewN | apply IsS87.drew | apply IsS87.set_1 | apply IsS87.set_2 | refine IsS87.far ?_ NB0_303.out _ | refine IsS87.far ?_ NB0_304.out _ | refine IsS87.far ?_ NB0_311.out _) | exact HI0.out)); (case side2 => repeat (first | (with_reducible first | exact HB.out | apply below_alloc | apply pw_below_drewN | apply below_drew1 | refine below_set ?_ (IsS87.ge HI0.out) | refine below_set ?_ GE303.out | refine below_set ?_ GE304.out | refine below_set ?_ GE311.out) | exact HB.out)); rintro e w18 ⟨rfl, hi, hb, hk⟩; refine ⟨_, rfl, ?_⟩; have n0_ := Aside0.mk (Kd.R_mono (Kd.R_keep (IsS87.apart (show IsS87 w0 _ g s0_0 x1001_1 x1002_1 from by repeat (first | (with_reducible first | exact HI0.out | apply IsS87.alloc | apply IsS87.drewN | apply IsS87.drew | apply IsS87.set_1 | apply IsS87.set_2 | refine IsS87.far ?_ NB0_303.out _ | refine IsS87.far ?_ NB0_304.out _ | refine IsS87.far ?_ NB0_311.out _) | exact HI0.out)) (by (with_reducible repeat (first | apply Kd.R_alloc | apply Kd.R_drewN | apply Kd.R_drew)); exact (Kd.R_mono (Kd.R_far (p := ⟨gb311, 2, none⟩) (Kd.R_far (p := ⟨gb311, 1, none⟩) (Kd.R_far (p := ⟨gb311, 0, none⟩) (Kd.R_types HO_5.out BK311.out (by decide)) (fun _ hk => hk.2) (.int .i64 x4_1)) (fun _ hk => hk.2) (.int .i64 1)) (fun _ hk => hk.2) (.slice none 0 0)) (fun _ h_ => h_.1))) (by decide)) hk (fun _ h => h.2)) (fun _ h => h.1)); have n1_ := Aside0.mk (Kd.R_mono (Kd.R_keep (IsS87.apart (show IsS87 w0 _ g s0_0 x1001_1 x1002_1 from by repeat (first | (with_reducible first | exact HI0.out | apply IsS87.alloc | apply IsS87.drewN | apply IsS87.drew | apply IsS87.set_1 | apply IsS87.set_2 | refine IsS87.far ?_ NB0_303.out _ | refine IsS87.far ?_ NB0_304.out _ | refine IsS87.far ?_ NB0_311.out _) | exact HI0.out)) (by (with_reducible repeat (first | apply Kd.R_alloc | apply Kd.R_drewN | apply Kd.R_drew)); exact (Kd.R_mono (Kd.R_far (p := ⟨gb311, 2, none⟩) (Kd.R_far (p := ⟨gb311, 1, none⟩) (Kd.R_far (p := ⟨gb311, 0, none⟩) (Kd.R_types HO_305000.out BK311.out (by decide)) (fun _ hk => hk.2) (.int .i64 x4_1)) (fun _ hk => hk.2) (.int .i64 1)) (fun _ hk => hk.2) (.slice none 0 0)) (fun _ h_ => h_.1))) (by decide)) hk (fun _ h => h.2)) (fun _ h => h.1)); have n2_ := Aside0.mk (Kd.S_mono (Kd.S_keep (IsS87.apartS (show IsS87 w0 _ g s0_0 x1001_1 x1002_1 from by repeat (first | (with_reducible first | exact HI0.out | apply IsS87.alloc | apply IsS87.drewN | apply IsS87.drew | apply IsS87.set_1 | apply IsS87.set_2 | refine IsS87.far ?_ NB0_303.out _ | refine IsS87.far ?_ NB0_304.out _ | refine IsS87.far ?_ NB0_311.out _) | exact HI0.out)) (by (with_reducible repeat (first | apply Kd.S_alloc | apply Kd.S_drewN | apply Kd.S_drew)); exact (Kd.S_mono (Kd.S_far (p := ⟨gb311, 2, none⟩) (Kd.S_far (p := ⟨gb311, 1, none⟩) (Kd.S_far (p := ⟨gb311, 0, none⟩) (Kd.S_mono HO_305001.out (fun k_ hk => (⟨hk, hk.2⟩ : _ ∧ k_ ≠ gb311))) (fun _ hk => hk.2) (.int .i64 x4_1)) (fun _ hk => hk.2) (.int .i64 1)) (fun _ hk => hk.2) (.slice none 0 0)) (fun _ h_ => h_.1))) (by decide)) hk (fun _ h => h.2)) (fun _ h => h.1)); have n3_ := Aside0.mk (KeepBut.blk hk (g' := gb303) (o := .cells #[.slice none 0 0, .slice none 0 0] 32 (0, 0)) (by (with_reducible repeat first | apply blk_drewN | apply blk_drew | apply blk_alloc); refine blk_far ?_ NB303_311.out _; (with_reducible repeat first | apply blk_drewN | apply blk_drew | apply blk_alloc); refine blk_far ?_ NB303_311.out _; (with_reducible repeat first | apply blk_drewN | apply blk_drew | apply blk_alloc); refine blk_far ?_ NB303_311.out _; (with_reducible repeat first | apply blk_drewN | apply blk_drew | apply blk_alloc); exact BK303.out) NB303_0.out (by simp)); have n4_ := Aside0.mk (KeepBut.blk hk (g' := gb304) (o := .cells #[u305000, u305001] 32 (0, 0)) (by (with_reducible repeat first | apply blk_drewN | apply blk_drew | apply blk_alloc); refine blk_far ?_ NB304_311.out _; (with_reducible repeat first | apply blk_drewN | apply blk_drew | apply blk_alloc); refine blk_far ?_ NB304_311.out _; (with_reducible repeat first | apply blk_drewN | apply blk_drew | apply blk_alloc); refine blk_far ?_ NB304_311.out _; (with_reducible repeat first | apply blk_drewN | apply blk_drew | apply blk_alloc); exact BK304.out) NB304_0.out (by simp)); have n5_ := Aside0.mk (KeepBut.blk hk (g' := gb311) (o := .cells #[.int .i64 x4_1, .int .i64 1, .slice none 0 0] 62 (0, 0)) (by (with_reducible repeat first | apply blk_drewN | apply blk_drew | apply blk_alloc); refine blk_put (cs := #[.int .i64 x4_1, .int .i64 1, .slice none 0 0]) ?_ 2 _ rfl; (with_reducible repeat first | apply blk_drewN | apply blk_drew | apply blk_alloc); refine blk_put (cs := #[.int .i64 x4_1, .int .i64 0, .slice none 0 0]) ?_ 1 _ rfl; (with_reducible repeat first | apply blk_drewN | apply blk_drew | apply blk_alloc); refine blk_put (cs := #[.int .i64 0, .int .i64 0, .slice none 0 0]) ?_ 0 _ rfl; (with_reducible repeat first | apply blk_drewN | apply blk_drew | apply blk_alloc); exact BK311.out) NB311_0.out (by simp)); have n6_ := Aside0.mk (KeepBut.trans (by repeat (first | (with_reducible first | exact HK.out | apply KeepBut.set_ | apply keep_drewN | apply keep_drew | apply keep_alloc | refine keep_far ?_ GW303.out _ | refine keep_far ?_ GW304.out _ | refine keep_far ?_ GW311.out _) | exact HK.out)) hk (.inl rfl)); have n7_ := Aside0.mk (hb); have n8_ := Aside0.mk (hi); clear HO_5; clear HO_305000; clear HO_305001; clear BK303; clear BK304; clear BK311; clear HK; clear HB; clear HI0; have HO_5 := n0_; have HO_305000 := n1_; have HO_305001 := n2_; have BK303 := n3_; have BK304 := n4_; have BK311 := n5_; have HK := n6_; have HB := n7_; have HI0 := n8_; clear n0_ n1_ n2_ n3_ n4_ n5_ n6_ n7_ n8_; (try clear hb); (try clear hb2); (try clear hk); (try clear hi)))
    go_loopg [8] k1 (fun kq v8 w' => ∃ (x8_2 : Int) (x1001_2 : Int) (x1002_2 : Int) (x305000_2 : List (S65)) (x312002_2 : List Int) (u305000 : Value) (u312002 : Value), v8 = .int .i64 x8_2 ∧ Aside0 (spec_l06Draw.l1 kq x4_1 x5_1 x6_1 x8_2 s0_0 x1001_2 x1002_2 x305000_2 x305001_1 x4_1 1 x312002_2 = some (r1, r2, r3, r4)) ∧ Aside0 (kq ≤ k1) ∧ Aside0 (Kd.R (Kd.int .i64) 2 w' w.heap.size (fun k_ => some k_ ≠ (u312002 : Value).ownBlock) u5 x5_1) ∧ Aside0 (Kd.R k65 65 w' w.heap.size (fun _ => True) u305000 x305000_2) ∧ Aside0 (Kd.S k62 62 w' w.heap.size (fun k_ => some k_ ≠ (u5 : Value).ownBlock ∧ some k_ ≠ (u312002 : Value).ownBlock ∧ k_ ≠ gb311) u305001 x305001_1) ∧ Aside0 (Kd.R (Kd.int .i64) 2 w' w.heap.size (fun k_ => some k_ ≠ (u5 : Value).ownBlock) u312002 x312002_2) ∧ Aside0 (w'.heap[gb303]? = some (.cells #[(.slice none 0 0), (.slice none 0 0)] 32 (0, 0))) ∧ Aside0 (w'.heap[gb304]? = some (.cells #[u305000, u305001] 32 (0, 0))) ∧ Aside0 (w'.heap[gb311]? = some (.cells #[.int .i64 x4_1, .int .i64 1, u312002] 62 (0, 0))) ∧ Aside0 (IsS87 w0 w' g s0_0 x1001_2 x1002_2) ∧ Aside0 (KeepBut w w' g none) ∧ Aside0 (Below w0.heap.size w0 w'))
    case atStart => exact ⟨(wrap64 (1 + t312)), (t313), (t314), (x305000_1), (([] : List Int)), (u305000), (.slice none 0 0), (by first | rfl | (simp; done) | (simp [*]; done)), H', ⟨Nat.le_refl _⟩, ⟨by (with_reducible repeat (first | apply Kd.R_alloc | apply Kd.R_drewN | apply Kd.R_drew)); exact Kd.R_mono HO_5.out (fun _ hk => (by simp [Value.ownBlock]))⟩, ⟨by (with_reducible repeat (first | apply Kd.R_alloc | apply Kd.R_drewN | apply Kd.R_drew)); exact HO_305000.out⟩, ⟨by (with_reducible repeat (first | apply Kd.S_alloc | apply Kd.S_drewN | apply Kd.S_drew)); exact Kd.S_mono HO_305001.out (fun _ hk => ⟨hk.1, ⟨(by simp [Value.ownBlock]), hk.2⟩⟩)⟩, ⟨by first | exact Kd.R_nil _ _ _ _ _ | exact Kd.N_nil _ _ _ _ _ | exact Kd.V_nil _ _ _ _ _ | exact Kd.Q_nil _ _ _ _ _ | exact Kd.S_nil _ _ _ _ _⟩, ⟨by (with_reducible repeat first | apply blk_drewN | apply blk_drew | apply blk_alloc); exact BK303.out⟩, ⟨by (with_reducible repeat first | apply blk_drewN | apply blk_drew | apply blk_alloc); exact BK304.out⟩, ⟨by (with_reducible repeat first | apply blk_drewN | apply blk_drew | apply blk_alloc); exact BK311.out⟩, ⟨by repeat (first | (with_reducible first | exact HI0.out | apply IsS87.alloc | apply IsS87.drewN | apply IsS87.drew | apply IsS87.set_1 | apply IsS87.set_2 | refine IsS87.far ?_ NB0_303.out _ | refine IsS87.far ?_ NB0_304.out _ | refine IsS87.far ?_ NB0_311.out _) | exact HI0.out)⟩, ⟨by repeat (first | (with_reducible first | exact HK.out | apply KeepBut.set_ | apply keep_drewN | apply keep_drew | apply keep_alloc | refine keep_far ?_ GW303.out _ | refine keep_far ?_ GW304.out _ | refine keep_far ?_ GW311.out _) | exact HK.out)⟩, ⟨by repeat (first | (with_reducible first | exact HB.out | apply below_alloc | apply pw_below_drewN | apply below_drew1 | refine below_set ?_ (IsS87.ge HI0.out) | refine below_set ?_ GE303.out | refine below_set ?_ GE304.out | refine below_set ?_ GE311.out) | exact HB.out)⟩⟩
    case round =>
     clear H'
     try clear c1
     try clear c2
     try clear p2
     try clear c4
     try clear c5
     try clear c6
     try clear p6
     try clear c11
     try clear c11b0
     try clear c14
     try clear c15
     try clear c16
     try clear hcz17_0
     try clear hcz17_1
     try clear hcz17_2
     try clear hcz7_0
     try clear hcz7_1
     try clear hfz17_0
     try clear hfz17_1
     try clear hfz17_2
     try clear hfz7_0
     try clear hfz7_1
     try clear p2
     try clear p6
     obtain ⟨x8_2, x1001_2, x1002_2, x305000_2, x312002_2, u305000, u312002, rfl, HA, HK2, HO_5, HO_305000, HO_305001, HO_312002, BK303, BK304, BK311, HI0, HK, HB⟩ := hrel
     cases gk with
     | zero => exact absurd HA.out (by simp [spec_l06Draw.l1])
     | succ k2 =>
      have H := HA.out
      clear HA
      simp only [spec_l06Draw.l1] at H
      have HC19 := Aside0.mk H
      clear H
      go_upto_region 9 with (fail)
      go_cut [34] (fun v34 wc => ∃ (kq : Nat) (x34_18 : Bool), v34 = .bool x34_18 ∧ Aside0 (spec_l06Draw.j2 kq x4_1 x5_1 x6_1 x8_2 x34_18 s0_0 x1001_2 x1002_2 x305000_2 x305001_1 x4_1 1 x312002_2 = some (r1, r2, r3, r4)) ∧ Aside0 (kq ≤ k2) ∧ Aside0 (Kd.R (Kd.int .i64) 2 wc w.heap.size (fun k_ => some k_ ≠ (u312002 : Value).ownBlock) u5 x5_1) ∧ Aside0 (Kd.R k65 65 wc w.heap.size (fun _ => True) u305000 x305000_2) ∧ Aside0 (Kd.S k62 62 wc w.heap.size (fun k_ => some k_ ≠ (u5 : Value).ownBlock ∧ some k_ ≠ (u312002 : Value).ownBlock ∧ k_ ≠ gb311) u305001 x305001_1) ∧ Aside0 (Kd.R (Kd.int .i64) 2 wc w.heap.size (fun k_ => some k_ ≠ (u5 : Value).ownBlock) u312002 x312002_2) ∧ Aside0 (wc.heap[gb303]? = some (.cells #[(.slice none 0 0), (.slice none 0 0)] 32 (0, 0))) ∧ Aside0 (wc.heap[gb304]? = some (.cells #[u305000, u305001] 32 (0, 0))) ∧ Aside0 (wc.heap[gb311]? = some (.cells #[.int .i64 x4_1, .int .i64 1, u312002] 62 (0, 0))) ∧ Aside0 (IsS87 w0 wc g s0_0 x1001_2 x1002_2) ∧ Aside0 (KeepBut w wc g none) ∧ Aside0 (Below w0.heap.size w0 wc))
      case first =>
       have H := HC19.out
       clear HC19
       by_cases c20 : x8_2 > 0
       ·rw [if_pos c20] at H
        have c20b0 : decide (0 < x8_2) = true := decide_eq_true c20
        clear c20
        (first | rw [c20b0] | (simp only [i64_w, i32_w]; rw [c20b0]) | skip)
        have H' := Aside0.mk H
        clear H
        have hnb21 := NB304_303.out
        have hnc21 := NB303_304.out
        have hnb22 := NB304_311.out
        have hnc22 := NB311_304.out
        have hnb23 := NB304_0.out
        have hnc23 := NB0_304.out
        have hcz24_0 : wr.cell? ⟨gb304, 0, none⟩ = some (u305000) := (blk_cell BK304.out 0).trans rfl
        have hcz24_1 : wr.cell? ⟨gb304, 1, none⟩ = some (u305001) := (blk_cell BK304.out 1).trans rfl
        have hfz24_0 := blk_frozen BK304.out 0
        have hfz24_1 := blk_frozen BK304.out 1
        obtain ⟨Ao25, co25, eo25⟩ := Kd.R_slice HO_305000.out
        subst eo25
        go_wp2
        go_meet
        case rel => exact ⟨_, (decide ((x305000_2.length : Int) < 16)), (by first | rfl | (simp; done) | (simp [*]; done)), H', ⟨by have := HK1.out; have := HK2.out; first | omega | exact Nat.le_refl _⟩, ⟨by (with_reducible repeat (first | apply Kd.R_alloc | apply Kd.R_drewN | apply Kd.R_drew)); exact HO_5.out⟩, ⟨by (with_reducible repeat (first | apply Kd.R_alloc | apply Kd.R_drewN | apply Kd.R_drew)); exact HO_305000.out⟩, ⟨by (with_reducible repeat (first | apply Kd.S_alloc | apply Kd.S_drewN | apply Kd.S_drew)); exact HO_305001.out⟩, ⟨by (with_reducible repeat (first | apply Kd.R_alloc | apply Kd.R_drewN | apply Kd.R_drew)); exact HO_312002.out⟩, ⟨by (with_reducible repeat first | apply blk_drewN | apply blk_drew | apply blk_alloc); exact BK303.out⟩, ⟨by (with_reducible repeat first | apply blk_drewN | apply blk_drew | apply blk_alloc); exact BK304.out⟩, ⟨by (with_reducible repeat first | apply blk_drewN | apply blk_drew | apply blk_alloc); exact BK311.out⟩, ⟨by repeat (first | (with_reducible first | exact HI0.out | apply IsS87.alloc | apply IsS87.drewN | apply IsS87.drew | apply IsS87.set_1 | apply IsS87.set_2 | refine IsS87.far ?_ NB0_303.out _ | refine IsS87.far ?_ NB0_304.out _ | refine IsS87.far ?_ NB0_311.out _) | exact HI0.out)⟩, ⟨by repeat (first | (with_reducible first | exact HK.out | apply KeepBut.set_ | apply keep_drewN | apply keep_drew | apply keep_alloc | refine keep_far ?_ GW303.out _ | refine keep_far ?_ GW304.out _ | refine keep_far ?_ GW311.out _) | exact HK.out)⟩, ⟨by repeat (first | (with_reducible first | exact HB.out | apply below_alloc | apply pw_below_drewN | apply below_drew1 | refine below_set ?_ (IsS87.ge HI0.out) | refine below_set ?_ GE303.out | refine below_set ?_ GE304.out | refine below_set ?_ GE311.out) | exact HB.out)⟩⟩
       ·rw [if_neg c20] at H
        have c20b0 : decide (0 < x8_2) = false := decide_eq_false c20
        clear c20
        (first | rw [c20b0] | (simp only [i64_w, i32_w]; rw [c20b0]) | skip)
        have H' := Aside0.mk H
        clear H
        go_wp2
        go_meet
        case rel => exact ⟨_, (false), (by first | rfl | (simp; done) | (simp [*]; done)), H', ⟨by have := HK1.out; have := HK2.out; first | omega | exact Nat.le_refl _⟩, ⟨by (with_reducible repeat (first | apply Kd.R_alloc | apply Kd.R_drewN | apply Kd.R_drew)); exact HO_5.out⟩, ⟨by (with_reducible repeat (first | apply Kd.R_alloc | apply Kd.R_drewN | apply Kd.R_drew)); exact HO_305000.out⟩, ⟨by (with_reducible repeat (first | apply Kd.S_alloc | apply Kd.S_drewN | apply Kd.S_drew)); exact HO_305001.out⟩, ⟨by (with_reducible repeat (first | apply Kd.R_alloc | apply Kd.R_drewN | apply Kd.R_drew)); exact HO_312002.out⟩, ⟨by (with_reducible repeat first | apply blk_drewN | apply blk_drew | apply blk_alloc); exact BK303.out⟩, ⟨by (with_reducible repeat first | apply blk_drewN | apply blk_drew | apply blk_alloc); exact BK304.out⟩, ⟨by (with_reducible repeat first | apply blk_drewN | apply blk_drew | apply blk_alloc); exact BK311.out⟩, ⟨by repeat (first | (with_reducible first | exact HI0.out | apply IsS87.alloc | apply IsS87.drewN | apply IsS87.drew | apply IsS87.set_1 | apply IsS87.set_2 | refine IsS87.far ?_ NB0_303.out _ | refine IsS87.far ?_ NB0_304.out _ | refine IsS87.far ?_ NB0_311.out _) | exact HI0.out)⟩, ⟨by repeat (first | (with_reducible first | exact HK.out | apply KeepBut.set_ | apply keep_drewN | apply keep_drew | apply keep_alloc | refine keep_far ?_ GW303.out _ | refine keep_far ?_ GW304.out _ | refine keep_far ?_ GW311.out _) | exact HK.out)⟩, ⟨by repeat (first | (with_reducible first | exact HB.out | apply below_alloc | apply pw_below_drewN | apply below_drew1 | refine below_set ?_ (IsS87.ge HI0.out) | refine below_set ?_ GE303.out | refine below_set ?_ GE304.out | refine below_set ?_ GE311.out) | exact HB.out)⟩⟩
      case rest =>
       clear HC19
       try clear c1
       try clear c2
       try clear p2
       try clear c4
       try clear c5
       try clear c6
       try clear p6
       try clear c11
       try clear c11b0
       try clear c14
       try clear c15
       try clear c16
       try clear c20
       try clear c20b0
       try clear c21
       try clear c22
       try clear c23
       try clear c24
       try clear hcz17_0
       try clear hcz17_1
       try clear hcz17_2
       try clear hcz24_0
       try clear hcz24_1
       try clear hcz7_0
       try clear hcz7_1
       try clear hfz17_0
       try clear hfz17_1
       try clear hfz17_2
       try clear hfz24_0
       try clear hfz24_1
       try clear hfz7_0
       try clear hfz7_1
       try clear p2
       try clear p6
       obtain ⟨kq, x34_18, rfl, HA, HJ18, HO_5, HO_305000, HO_305001, HO_312002, BK303, BK304, BK311, HI0, HK, HB⟩ := hcut
       cases kq with
       | zero => exact absurd HA.out (by simp [spec_l06Draw.j2])
       | succ kj18 =>
        have H := HA.out
        clear HA
        simp only [spec_l06Draw.j2] at H
        by_cases c26 : x34_18 = true
        ·subst c26
         have H1 : ((spec_l00Src_pick.f s0_0 x1001_2 x1002_2 9).bind fun bt315 => ((spec_l00Src_among.f s0_0 bt315.2.1 bt315.2.2 (([1, 1, 2, 3, bt315.1] : List Int))).bind fun bt321 => (if x305000_2.length < 8796093022208 then (if x312002_2.length < 17592186044416 then (spec_l06Draw.l1 kj18 x4_1 x5_1 x6_1 (wrap64 (x8_2 - 1)) s0_0 bt321.2.1 bt321.2.2 (x305000_2 ++ [(⟨(x305000_2.length : Int), bt321.1⟩ : S65)]) x305001_1 x4_1 1 (x312002_2 ++ [(x305000_2.length : Int)])) else (none)) else (none)))) = some (r1, r2, r3, r4) := by rw [if_pos rfl] at H; exact H
         clear H
         have H := H1
         clear H1
         replace H := Option.bind_eq_some_iff.mp H
         obtain ⟨⟨t315, t316, t317⟩, A270, H⟩ := H
         replace H : ((spec_l00Src_among.f s0_0 t316 t317 (([1, 1, 2, 3, t315] : List Int))).bind fun bt321 => (if x305000_2.length < 8796093022208 then (if x312002_2.length < 17592186044416 then (spec_l06Draw.l1 kj18 x4_1 x5_1 x6_1 (wrap64 (x8_2 - 1)) s0_0 bt321.2.1 bt321.2.2 (x305000_2 ++ [(⟨(x305000_2.length : Int), bt321.1⟩ : S65)]) x305001_1 x4_1 1 (x312002_2 ++ [(x305000_2.length : Int)])) else (none)) else (none))) = some (r1, r2, r3, r4) := H
         have A27 := Aside0.mk A270
         clear A270
         obtain ⟨y318, hy318⟩ : ∃ y_ : List Int, y_ = (([1, 1, 2, 3, t315] : List Int)) := ⟨_, rfl⟩
         replace H : ((spec_l00Src_among.f s0_0 t316 t317 y318).bind fun bt321 => (if x305000_2.length < 8796093022208 then (if x312002_2.length < 17592186044416 then (spec_l06Draw.l1 kj18 x4_1 x5_1 x6_1 (wrap64 (x8_2 - 1)) s0_0 bt321.2.1 bt321.2.2 (x305000_2 ++ [(⟨(x305000_2.length : Int), bt321.1⟩ : S65)]) x305001_1 x4_1 1 (x312002_2 ++ [(x305000_2.length : Int)])) else (none)) else (none))) = some (r1, r2, r3, r4) := by first | (rw [hy318]; with_reducible exact H) | (have H2_ := (Option.bind_some _ _).symm.trans H; rw [hy318]; with_reducible exact H2_) | (have H2_ := (Option.bind_some _ _).symm.trans H; with_reducible exact H2_) | with_reducible exact H | (rw [hy318]; exact H) | exact H
         have Ny318 := Aside0.mk hy318
         clear hy318
         replace H := Option.bind_eq_some_iff.mp H
         obtain ⟨⟨t321, t322, t323⟩, A280, H⟩ := H
         replace H : (if x305000_2.length < 8796093022208 then (if x312002_2.length < 17592186044416 then (spec_l06Draw.l1 kj18 x4_1 x5_1 x6_1 (wrap64 (x8_2 - 1)) s0_0 t322 t323 (x305000_2 ++ [(⟨(x305000_2.length : Int), t321⟩ : S65)]) x305001_1 x4_1 1 (x312002_2 ++ [(x305000_2.length : Int)])) else (none)) else (none)) = some (r1, r2, r3, r4) := H
         have A28 := Aside0.mk A280
         clear A280
         by_cases c29 : x305000_2.length < 8796093022208
         ·rw [if_pos c29] at H
          have LMc29 := Aside0.mk c29
          clear c29
          obtain ⟨y324, hy324⟩ : ∃ y_ : List (S65), y_ = (x305000_2 ++ [(⟨(x305000_2.length : Int), t321⟩ : S65)]) := ⟨_, rfl⟩
          replace H : (if x312002_2.length < 17592186044416 then (spec_l06Draw.l1 kj18 x4_1 x5_1 x6_1 (wrap64 (x8_2 - 1)) s0_0 t322 t323 y324 x305001_1 x4_1 1 (x312002_2 ++ [(x305000_2.length : Int)])) else (none)) = some (r1, r2, r3, r4) := by first | (rw [hy324]; with_reducible exact H) | (have H2_ := (Option.bind_some _ _).symm.trans H; rw [hy324]; with_reducible exact H2_) | (have H2_ := (Option.bind_some _ _).symm.trans H; with_reducible exact H2_) | with_reducible exact H | (rw [hy324]; exact H) | exact H
          have Ny324 := Aside0.mk hy324
          clear hy324
          by_cases c30 : x312002_2.length < 17592186044416
          ·rw [if_pos c30] at H
           have LMc30 := Aside0.mk c30
           clear c30
           obtain ⟨y327, hy327⟩ : ∃ y_ : List Int, y_ = (x312002_2 ++ [(x305000_2.length : Int)]) := ⟨_, rfl⟩
           replace H : (spec_l06Draw.l1 kj18 x4_1 x5_1 x6_1 (wrap64 (x8_2 - 1)) s0_0 t322 t323 y324 x305001_1 x4_1 1 y327) = some (r1, r2, r3, r4) := by first | (rw [hy327]; with_reducible exact H) | (have H2_ := (Option.bind_some _ _).symm.trans H; rw [hy327]; with_reducible exact H2_) | (have H2_ := (Option.bind_some _ _).symm.trans H; with_reducible exact H2_) | with_reducible exact H | (rw [hy327]; exact H) | exact H
           have Ny327 := Aside0.mk hy327
           clear hy327
           have H' := Aside0.mk H
           clear H
           have hnb31 := NB304_303.out
           have hnc31 := NB303_304.out
           have hnb32 := NB304_311.out
           have hnc32 := NB311_304.out
           have hnb33 := NB304_0.out
           have hnc33 := NB0_304.out
           have hcz34_0 : wc.cell? ⟨gb304, 0, none⟩ = some (u305000) := (blk_cell BK304.out 0).trans rfl
           have hcz34_1 : wc.cell? ⟨gb304, 1, none⟩ = some (u305001) := (blk_cell BK304.out 1).trans rfl
           have hfz34_0 := blk_frozen BK304.out 0
           have hfz34_1 := blk_frozen BK304.out 1
           obtain ⟨Ao35, co35, eo35⟩ := Kd.R_slice HO_305000.out
           subst eo35
           try go_wp2
           have n0_ := Aside0.mk (Kd.R_drew HO_5.out)
           have n1_ := Aside0.mk (Kd.R_drew HO_305000.out)
           have n2_ := Aside0.mk (Kd.S_drew HO_305001.out)
           have n3_ := Aside0.mk (Kd.R_drew HO_312002.out)
           have n4_ := Aside0.mk (blk_drew BK303.out)
           have n5_ := Aside0.mk (blk_drew BK304.out)
           have n6_ := Aside0.mk (blk_drew BK311.out)
           have n7_ := Aside0.mk (IsS87.drew HI0.out)
           have n8_ := Aside0.mk (keep_drew HK.out)
           have n9_ := Aside0.mk (below_drew1 HB.out)
           clear HO_5
           clear HO_305000
           clear HO_305001
           clear HO_312002
           clear BK303
           clear BK304
           clear BK311
           clear HI0
           clear HK
           clear HB
           have HO_5 := n0_
           have HO_305000 := n1_
           have HO_305001 := n2_
           have HO_312002 := n3_
           have BK303 := n4_
           have BK304 := n5_
           have BK311 := n6_
           have HI0 := n7_
           have HK := n8_
           have HB := n9_
           clear n0_ n1_ n2_ n3_ n4_ n5_ n6_ n7_ n8_ n9_
           refine start_ (n := 13) (S := fun w' => w'.cell? ⟨gb304, 0, none⟩ = some (.slice Ao35 x305000_2.length co35) ∧ w'.cell? ⟨gb304, 1, none⟩ = some (u305001)) (ds := [12]) mz24_0 (by kernel_rfl) rfl rfl ⟨(blk_cell BK304.out 0).trans rfl, (blk_cell BK304.out 1).trans rfl⟩ (fun hHeld => ?_); refine with_tabW spec_l06Draw.tab12 spec_l06Draw.bits12 (fun HT_ HW_ => ?_)
           generalize wc.drew = w36 at HO_5 HO_305000 HO_305001 HO_312002 BK303 BK304 BK311 HI0 HK HB hHeld ⊢
           refine pu_z24 0 (some 40) ?_ mz24_1 rfl rfl (any_of HT_.out (by kernel_rfl)) (fun _ _ _ h => h) (Or.inl ⟨by rfl, ?_⟩) ?_ ?_ ?_
           (rotate_left; ·(intro w'; go_simp; with_reducible rfl)); (rotate_left; ·(simp only [Act.put, pq_z24]; rfl))
           refine pu_z24 2 (some 42) ?_ mz24_2 rfl rfl (any_of HT_.out (by kernel_rfl)) (fun _ _ _ h => h) (Or.inl ⟨by rfl, ?_⟩) ?_ ?_ ?_
           (rotate_left; ·(intro w'; go_simp; with_reducible rfl)); (rotate_left; ·(simp only [Act.put, pq_z24]; rfl))
           refine pu_z24 3 (some 43) ?_ mz24_3 rfl rfl (any_of HT_.out (by kernel_rfl)) (fun _ _ _ h => h) (Or.inl ⟨by rfl, ?_⟩) ?_ ?_ ?_
           (rotate_left; ·(intro w'; go_simp; with_reducible rfl)); (rotate_left; ·(simp only [Act.put, pq_z24]; rfl))
           refine pu_z24 4 (some 44) ?_ mz24_4 rfl rfl (any_of HT_.out (by kernel_rfl)) (fun _ _ _ h => h) (Or.inl ⟨by rfl, ?_⟩) ?_ ?_ ?_
           (rotate_left; ·(intro w'; go_simp; with_reducible rfl)); (rotate_left; ·(simp only [Act.put, pq_z24]; rfl))
           refine take_ (i := 1) (N := some 41) (v := ?_) (a' := ?_) mz24_5 rfl rfl (take_ofW HT_.out HW_.out (by kernel_rfl)) (fun _ _ _ h => h) (Or.inl ⟨by rfl, ?_⟩) hHeld ?_ ?_
           (rotate_left; ·(rintro w' ⟨s0, s1⟩; go_simp; with_reducible rfl)); (rotate_left; ·(simp only [Act.put, pq_z24]; rfl))
           refine one_ (i := 5) (N := some 45) mz24_6 rfl rfl (one_of HT_.out (by kernel_rfl)) (by decide) (fun K hK => ?_)
           refine goes_ Tryd.func46 (by kernel_rfl) rfl #[.pointer (some ⟨g, 0, none⟩), .int .i64 9] (by rfl) rfl rfl (by (try simp only [List.map_toArray, List.map_cons, List.map_nil]); first | done | rfl | (simp only [List.length_drop, List.length_take]; rfl)) ?_
           with_reducible refine (spec_l00Src_pick.calls g s0_0 x1001_2 x1002_2 9 t315 t316 t317 w0 _ ?side1 ?side2 A27.out).mono ?_
           (case side1 => repeat (first | (with_reducible first | exact HI0.out | apply IsS87.alloc | apply IsS87.drewN | apply IsS87.drew | apply IsS87.set_1 | apply IsS87.set_2 | refine IsS87.far ?_ NB0_303.out _ | refine IsS87.far ?_ NB0_304.out _ | refine IsS87.far ?_ NB0_311.out _) | exact HI0.out))
           (case side2 => repeat (first | (with_reducible first | exact HB.out | apply below_alloc | apply pw_below_drewN | apply below_drew1 | refine below_set ?_ (IsS87.ge HI0.out) | refine below_set ?_ GE303.out | refine below_set ?_ GE304.out | refine below_set ?_ GE311.out) | exact HB.out))
           rintro e w37 ⟨rfl, hi, hb, hk⟩
           refine ⟨_, rfl, ?_⟩
           have n0_ := Aside0.mk (Kd.R_mono (Kd.R_keep (IsS87.apart (show IsS87 w0 _ g s0_0 x1001_2 x1002_2 from by repeat (first | (with_reducible first | exact HI0.out | apply IsS87.alloc | apply IsS87.drewN | apply IsS87.drew | apply IsS87.set_1 | apply IsS87.set_2 | refine IsS87.far ?_ NB0_303.out _ | refine IsS87.far ?_ NB0_304.out _ | refine IsS87.far ?_ NB0_311.out _) | exact HI0.out)) (by (with_reducible repeat (first | apply Kd.R_alloc | apply Kd.R_drewN | apply Kd.R_drew)); exact HO_5.out) (by decide)) hk (fun _ h => h.2)) (fun _ h => h.1))
           have n1_ := Aside0.mk (Kd.R_mono (Kd.R_keep (IsS87.apart (show IsS87 w0 _ g s0_0 x1001_2 x1002_2 from by repeat (first | (with_reducible first | exact HI0.out | apply IsS87.alloc | apply IsS87.drewN | apply IsS87.drew | apply IsS87.set_1 | apply IsS87.set_2 | refine IsS87.far ?_ NB0_303.out _ | refine IsS87.far ?_ NB0_304.out _ | refine IsS87.far ?_ NB0_311.out _) | exact HI0.out)) (by (with_reducible repeat (first | apply Kd.R_alloc | apply Kd.R_drewN | apply Kd.R_drew)); exact HO_305000.out) (by decide)) hk (fun _ h => h.2)) (fun _ h => h.1))
           have n2_ := Aside0.mk (Kd.S_mono (Kd.S_keep (IsS87.apartS (show IsS87 w0 _ g s0_0 x1001_2 x1002_2 from by repeat (first | (with_reducible first | exact HI0.out | apply IsS87.alloc | apply IsS87.drewN | apply IsS87.drew | apply IsS87.set_1 | apply IsS87.set_2 | refine IsS87.far ?_ NB0_303.out _ | refine IsS87.far ?_ NB0_304.out _ | refine IsS87.far ?_ NB0_311.out _) | exact HI0.out)) (by (with_reducible repeat (first | apply Kd.S_alloc | apply Kd.S_drewN | apply Kd.S_drew)); exact HO_305001.out) (by decide)) hk (fun _ h => h.2)) (fun _ h => h.1))
           have n3_ := Aside0.mk (Kd.R_mono (Kd.R_keep (IsS87.apart (show IsS87 w0 _ g s0_0 x1001_2 x1002_2 from by repeat (first | (with_reducible first | exact HI0.out | apply IsS87.alloc | apply IsS87.drewN | apply IsS87.drew | apply IsS87.set_1 | apply IsS87.set_2 | refine IsS87.far ?_ NB0_303.out _ | refine IsS87.far ?_ NB0_304.out _ | refine IsS87.far ?_ NB0_311.out _) | exact HI0.out)) (by (with_reducible repeat (first | apply Kd.R_alloc | apply Kd.R_drewN | apply Kd.R_drew)); exact HO_312002.out) (by decide)) hk (fun _ h => h.2)) (fun _ h => h.1))
           have n4_ := Aside0.mk (KeepBut.blk hk (g' := gb303) (o := .cells #[.slice none 0 0, .slice none 0 0] 32 (0, 0)) (by (with_reducible repeat first | apply blk_drewN | apply blk_drew | apply blk_alloc); exact BK303.out) NB303_0.out (by simp))
           have n5_ := Aside0.mk (KeepBut.blk hk (g' := gb304) (o := .cells #[.slice Ao35 x305000_2.length co35, u305001] 32 (0, 0)) (by (with_reducible repeat first | apply blk_drewN | apply blk_drew | apply blk_alloc); exact BK304.out) NB304_0.out (by simp))
           have n6_ := Aside0.mk (KeepBut.blk hk (g' := gb311) (o := .cells #[.int .i64 x4_1, .int .i64 1, u312002] 62 (0, 0)) (by (with_reducible repeat first | apply blk_drewN | apply blk_drew | apply blk_alloc); exact BK311.out) NB311_0.out (by simp))
           have n7_ := Aside0.mk (KeepBut.trans (by repeat (first | (with_reducible first | exact HK.out | apply KeepBut.set_ | apply keep_drewN | apply keep_drew | apply keep_alloc | refine keep_far ?_ GW303.out _ | refine keep_far ?_ GW304.out _ | refine keep_far ?_ GW311.out _) | exact HK.out)) hk (.inl rfl))
           have n8_ := Aside0.mk (hb)
           have n9_ := Aside0.mk (hi)
           clear HO_5
           clear HO_305000
           clear HO_305001
           clear HO_312002
           clear BK303
           clear BK304
           clear BK311
           clear HK
           clear HB
           clear HI0
           have HO_5 := n0_
           have HO_305000 := n1_
           have HO_305001 := n2_
           have HO_312002 := n3_
           have BK303 := n4_
           have BK304 := n5_
           have BK311 := n6_
           have HK := n7_
           have HB := n8_
           have HI0 := n9_
           clear n0_ n1_ n2_ n3_ n4_ n5_ n6_ n7_ n8_ n9_
           (try clear hb)
           (try clear hb2)
           (try clear hk)
           (try clear hi)
           refine hK.out _ _ ⟨(blk_cell BK304.out 0).trans rfl, (blk_cell BK304.out 1).trans rfl⟩ (fun hHeld => ?_)
           clear hK K
           refine norm_ (a' := ?_) ?_ ?_
           (rotate_left; ·(show Act.put _ (some 45) _ = _; simp only [Act.put, pq_z24]; rfl))
           refine one_ (i := 6) (N := some 46) mz24_7 rfl rfl (one_of HT_.out (by kernel_rfl)) (by decide) (fun K hK => ?_)
           refine Kd.R_lit_step (Kd.int .i64) _ 2 ?hg (N := 46) ?hd (xs := ([1, 1, 2, 3, t315] : List Int)) (inner := [.int .i64 1, .int .i64 1, .int .i64 2, .int .i64 3, .int .i64 t315]) (ok := fun _ => True) (okp := fun _ => True) ?hr ?hp (fun _ hk => hk) trivial (Below.refl _ _) (Nat.le_refl _) (by simp) ?_; (case hd => rfl); (case hg => rfl); (case hr => first | (go_simp; done) | (go_simp; rfl)); (case hp => exact (Reps.one (show Kd.M (Kd.int .i64) _ _ _ 1 [.int .i64 1] from rfl) (Reps.one (show Kd.M (Kd.int .i64) _ _ _ 1 [.int .i64 1] from rfl) (Reps.one (show Kd.M (Kd.int .i64) _ _ _ 2 [.int .i64 2] from rfl) (Reps.one (show Kd.M (Kd.int .i64) _ _ _ 3 [.int .i64 3] from rfl) (Reps.one (show Kd.M (Kd.int .i64) _ _ _ t315 [.int .i64 t315] from rfl) (Reps.none _ _)))))))
           intro v319 w38 ho39 hb hg_ hnew_
           clear hg_ hnew_
           (first | rw [← Ny318.out] at ho39 | (simp only [Int.reduceToNat] at ho39; rw [← Ny318.out] at ho39))
           have n0_ := Aside0.mk (Kd.R_elder' (by (with_reducible repeat (first | apply Kd.R_alloc | apply Kd.R_drewN | apply Kd.R_drew)); exact HO_5.out) (Kd.R_base ho39) hb)
           have n1_ := Aside0.mk (Kd.R_below (by (with_reducible repeat (first | apply Kd.R_alloc | apply Kd.R_drewN | apply Kd.R_drew)); exact HO_305000.out) hb)
           have n2_ := Aside0.mk (Kd.S_elder' (by (with_reducible repeat (first | apply Kd.S_alloc | apply Kd.S_drewN | apply Kd.S_drew)); exact HO_305001.out) (Kd.R_base ho39) hb)
           have n3_ := Aside0.mk (Kd.R_elder' (by (with_reducible repeat (first | apply Kd.R_alloc | apply Kd.R_drewN | apply Kd.R_drew)); exact HO_312002.out) (Kd.R_base ho39) hb)
           have n4_ := Aside0.mk (Kd.R_lower (Kd.R_new' (Kd.R_new' ho39 (Kd.R_lt (by (with_reducible repeat (first | apply Kd.R_alloc | apply Kd.R_drewN | apply Kd.R_drew)); exact HO_5.out))) (Kd.R_lt (by (with_reducible repeat (first | apply Kd.R_alloc | apply Kd.R_drewN | apply Kd.R_drew)); exact HO_312002.out))) (keep_size (w := w) (g := g) (row := none) (by repeat (first | (with_reducible first | exact HK.out | apply KeepBut.set_ | apply keep_drewN | apply keep_drew | apply keep_alloc | refine keep_far ?_ GW303.out _ | refine keep_far ?_ GW304.out _ | refine keep_far ?_ GW311.out _) | exact HK.out))))
           have n5_ := Aside0.mk (blk_below (g := gb303) (o := .cells #[.slice none 0 0, .slice none 0 0] 32 (0, 0)) (by (with_reducible repeat first | apply blk_drewN | apply blk_drew | apply blk_alloc); exact BK303.out) hb)
           have n6_ := Aside0.mk (blk_below (g := gb304) (o := .cells #[.slice Ao35 x305000_2.length co35, u305001] 32 (0, 0)) (by (with_reducible repeat first | apply blk_drewN | apply blk_drew | apply blk_alloc); exact BK304.out) hb)
           have n7_ := Aside0.mk (blk_below (g := gb311) (o := .cells #[.int .i64 x4_1, .int .i64 1, u312002] 62 (0, 0)) (by (with_reducible repeat first | apply blk_drewN | apply blk_drew | apply blk_alloc); exact BK311.out) hb)
           have n8_ := Aside0.mk (IsS87.below (by repeat (first | (with_reducible first | exact HI0.out | apply IsS87.alloc | apply IsS87.drewN | apply IsS87.drew | apply IsS87.set_1 | apply IsS87.set_2 | refine IsS87.far ?_ NB0_303.out _ | refine IsS87.far ?_ NB0_304.out _ | refine IsS87.far ?_ NB0_311.out _) | exact HI0.out)) hb)
           have n9_ := Aside0.mk (KeepBut.trans (by repeat (first | (with_reducible first | exact HK.out | apply KeepBut.set_ | apply keep_drewN | apply keep_drew | apply keep_alloc | refine keep_far ?_ GW303.out _ | refine keep_far ?_ GW304.out _ | refine keep_far ?_ GW311.out _) | exact HK.out)) (KeepBut.of_below hb g none) (.inl rfl))
           have n10_ := Aside0.mk (below_step (by repeat (first | (with_reducible first | exact HB.out | apply below_alloc | apply pw_below_drewN | apply below_drew1 | refine below_set ?_ (IsS87.ge HI0.out) | refine below_set ?_ GE303.out | refine below_set ?_ GE304.out | refine below_set ?_ GE311.out) | exact HB.out)) hb)
           clear HO_5
           clear HO_305000
           clear HO_305001
           clear HO_312002
           clear BK303
           clear BK304
           clear BK311
           clear HI0
           clear HK
           clear HB
           have HO_5 := n0_
           have HO_305000 := n1_
           have HO_305001 := n2_
           have HO_312002 := n3_
           have HO320 := n4_
           have BK303 := n5_
           have BK304 := n6_
           have BK311 := n7_
           have HI0 := n8_
           have HK := n9_
           have HB := n10_
           clear n0_ n1_ n2_ n3_ n4_ n5_ n6_ n7_ n8_ n9_ n10_
           clear hb ho39
           obtain ⟨Ao40, co40, eo40⟩ := Kd.R_slice HO320.out
           (first | subst eo40 | (injection eo40 with f1_ f2_ f3_; have f4_ := f1_.symm; have f5_ := f3_.symm; clear f1_ f2_ f3_; subst f4_; subst f5_))
           refine hK.out _ _ ⟨(blk_cell BK304.out 0).trans rfl, (blk_cell BK304.out 1).trans rfl⟩ (fun hHeld => ?_)
           clear hK K
           refine norm_ (a' := ?_) ?_ ?_
           (rotate_left; ·(show Act.put _ (some 46) _ = _; simp only [Act.put, pq_z24]; rfl))
           refine one_ (i := 7) (N := some 47) mz24_8 rfl rfl (one_of HT_.out (by kernel_rfl)) (by decide) (fun K hK => ?_)
           refine goes_ Tryd.func47 (by kernel_rfl) rfl #[.pointer (some ⟨g, 0, none⟩), .slice Ao40 y318.length co40] (by rfl) rfl rfl (by (try simp only [List.map_toArray, List.map_cons, List.map_nil]); first | done | rfl | (simp only [List.length_drop, List.length_take]; rfl)) ?_
           with_reducible refine (spec_l00Src_among.calls g s0_0 t316 t317 _ _ y318 t321 t322 t323 w0 _ ?side1 ?side2 ?side3 ?side4 ?side5 A28.out).mono ?_
           (case side1 => repeat (first | (with_reducible first | exact HI0.out | apply IsS87.alloc | apply IsS87.drewN | apply IsS87.drew | apply IsS87.set_1 | apply IsS87.set_2 | refine IsS87.far ?_ NB0_303.out _ | refine IsS87.far ?_ NB0_304.out _ | refine IsS87.far ?_ NB0_311.out _) | exact HI0.out))
           (case side2 => repeat (first | (with_reducible first | exact HB.out | apply below_alloc | apply pw_below_drewN | apply below_drew1 | refine below_set ?_ (IsS87.ge HI0.out) | refine below_set ?_ GE303.out | refine below_set ?_ GE304.out | refine below_set ?_ GE311.out) | exact HB.out))
           (case side3 => repeat (first | exact (Kd.R_reads' HO320.out).2.2 | (with_reducible refine Kd.C_alloc ?_ _) | (with_reducible refine Kd.C_drewN ?_ _) | (with_reducible refine Kd.C_drew ?_)))
           (case side4 => exact (Kd.R_reads' HO320.out).2.1)
           (case side5 => exact far_slice (IsS87.own_ne HI0.out HO320.out (by decide)))
           rintro e w41 ⟨rfl, hi, hb, hk⟩
           refine ⟨_, rfl, ?_⟩
           have n0_ := Aside0.mk (Kd.R_mono (Kd.R_keep (IsS87.apart (show IsS87 w0 _ g s0_0 t316 t317 from by repeat (first | (with_reducible first | exact HI0.out | apply IsS87.alloc | apply IsS87.drewN | apply IsS87.drew | apply IsS87.set_1 | apply IsS87.set_2 | refine IsS87.far ?_ NB0_303.out _ | refine IsS87.far ?_ NB0_304.out _ | refine IsS87.far ?_ NB0_311.out _) | exact HI0.out)) (by (with_reducible repeat (first | apply Kd.R_alloc | apply Kd.R_drewN | apply Kd.R_drew)); exact HO_5.out) (by decide)) hk (fun _ h => h.2)) (fun _ h => h.1))
           have n1_ := Aside0.mk (Kd.R_mono (Kd.R_keep (IsS87.apart (show IsS87 w0 _ g s0_0 t316 t317 from by repeat (first | (with_reducible first | exact HI0.out | apply IsS87.alloc | apply IsS87.drewN | apply IsS87.drew | apply IsS87.set_1 | apply IsS87.set_2 | refine IsS87.far ?_ NB0_303.out _ | refine IsS87.far ?_ NB0_304.out _ | refine IsS87.far ?_ NB0_311.out _) | exact HI0.out)) (by (with_reducible repeat (first | apply Kd.R_alloc | apply Kd.R_drewN | apply Kd.R_drew)); exact HO_305000.out) (by decide)) hk (fun _ h => h.2)) (fun _ h => h.1))
           have n2_ := Aside0.mk (Kd.S_mono (Kd.S_keep (IsS87.apartS (show IsS87 w0 _ g s0_0 t316 t317 from by repeat (first | (with_reducible first | exact HI0.out | apply IsS87.alloc | apply IsS87.drewN | apply IsS87.drew | apply IsS87.set_1 | apply IsS87.set_2 | refine IsS87.far ?_ NB0_303.out _ | refine IsS87.far ?_ NB0_304.out _ | refine IsS87.far ?_ NB0_311.out _) | exact HI0.out)) (by (with_reducible repeat (first | apply Kd.S_alloc | apply Kd.S_drewN | apply Kd.S_drew)); exact HO_305001.out) (by decide)) hk (fun _ h => h.2)) (fun _ h => h.1))
           have n3_ := Aside0.mk (Kd.R_mono (Kd.R_keep (IsS87.apart (show IsS87 w0 _ g s0_0 t316 t317 from by repeat (first | (with_reducible first | exact HI0.out | apply IsS87.alloc | apply IsS87.drewN | apply IsS87.drew | apply IsS87.set_1 | apply IsS87.set_2 | refine IsS87.far ?_ NB0_303.out _ | refine IsS87.far ?_ NB0_304.out _ | refine IsS87.far ?_ NB0_311.out _) | exact HI0.out)) (by (with_reducible repeat (first | apply Kd.R_alloc | apply Kd.R_drewN | apply Kd.R_drew)); exact HO_312002.out) (by decide)) hk (fun _ h => h.2)) (fun _ h => h.1))
           have n4_ := Aside0.mk (KeepBut.blk hk (g' := gb303) (o := .cells #[.slice none 0 0, .slice none 0 0] 32 (0, 0)) (by (with_reducible repeat first | apply blk_drewN | apply blk_drew | apply blk_alloc); exact BK303.out) NB303_0.out (by simp))
           have n5_ := Aside0.mk (KeepBut.blk hk (g' := gb304) (o := .cells #[.slice Ao35 x305000_2.length co35, u305001] 32 (0, 0)) (by (with_reducible repeat first | apply blk_drewN | apply blk_drew | apply blk_alloc); exact BK304.out) NB304_0.out (by simp))
           have n6_ := Aside0.mk (KeepBut.blk hk (g' := gb311) (o := .cells #[.int .i64 x4_1, .int .i64 1, u312002] 62 (0, 0)) (by (with_reducible repeat first | apply blk_drewN | apply blk_drew | apply blk_alloc); exact BK311.out) NB311_0.out (by simp))
           have n7_ := Aside0.mk (Kd.R_mono (Kd.R_keep (IsS87.apart (show IsS87 w0 _ g s0_0 t316 t317 from by repeat (first | (with_reducible first | exact HI0.out | apply IsS87.alloc | apply IsS87.drewN | apply IsS87.drew | apply IsS87.set_1 | apply IsS87.set_2 | refine IsS87.far ?_ NB0_303.out _ | refine IsS87.far ?_ NB0_304.out _ | refine IsS87.far ?_ NB0_311.out _) | exact HI0.out)) (by (with_reducible repeat (first | apply Kd.R_alloc | apply Kd.R_drewN | apply Kd.R_drew)); exact HO320.out) (by decide)) hk (fun _ h => h.2)) (fun _ h => h.1))
           have n8_ := Aside0.mk (KeepBut.trans (by repeat (first | (with_reducible first | exact HK.out | apply KeepBut.set_ | apply keep_drewN | apply keep_drew | apply keep_alloc | refine keep_far ?_ GW303.out _ | refine keep_far ?_ GW304.out _ | refine keep_far ?_ GW311.out _) | exact HK.out)) hk (.inl rfl))
           have n9_ := Aside0.mk (hb)
           have n10_ := Aside0.mk (hi)
           clear HO_5
           clear HO_305000
           clear HO_305001
           clear HO_312002
           clear BK303
           clear BK304
           clear BK311
           clear HO320
           clear HK
           clear HB
           clear HI0
           have HO_5 := n0_
           have HO_305000 := n1_
           have HO_305001 := n2_
           have HO_312002 := n3_
           have BK303 := n4_
           have BK304 := n5_
           have BK311 := n6_
           have HO320 := n7_
           have HK := n8_
           have HB := n9_
           have HI0 := n10_
           clear n0_ n1_ n2_ n3_ n4_ n5_ n6_ n7_ n8_ n9_ n10_
           (try clear hb)
           (try clear hb2)
           (try clear hk)
           (try clear hi)
           refine hK.out _ _ ⟨(blk_cell BK304.out 0).trans rfl, (blk_cell BK304.out 1).trans rfl⟩ (fun hHeld => ?_)
           clear hK K
           refine norm_ (a' := ?_) ?_ ?_
           (rotate_left; ·(show Act.put _ (some 47) _ = _; simp only [Act.put, pq_z24]; rfl))
           refine pu_z24 8 (some 48) ?_ mz24_9 rfl rfl (any_of HT_.out (by kernel_rfl)) (fun _ _ _ h => h) (Or.inl ⟨by rfl, ?_⟩) ?_ ?_ ?_
           (rotate_left; ·(intro w'; go_simp; with_reducible rfl)); (rotate_left; ·(simp only [Act.put, pq_z24]; rfl))
           refine one_ (i := 9) (N := some 49) mz24_10 rfl rfl (one_of HT_.out (by kernel_rfl)) (by decide) (fun K hK => ?_)
           refine value_ (w1 := ?_) (v := ?_) (by rfl) rfl ?_ ?_
           rotate_left 2
           ·go_simp
            constructor
            ·rfl
            ·rfl
           refine hK.out _ _ ⟨(blk_cell (blk_alloc BK304.out _) 0).trans rfl, (blk_cell (blk_alloc BK304.out _) 1).trans rfl⟩ (fun hHeld => ?_)
           clear hK K
           refine norm_ (a' := ?_) ?_ ?_
           (rotate_left; ·(show Act.put _ (some 49) _ = _; simp only [Act.put, pq_z24]; rfl))
           refine one_ (i := 10) (N := some 50) mz24_11 rfl rfl (one_of HT_.out (by kernel_rfl)) (by decide) (fun K hK => ?_)
           refine Kd.R_append_step k65 w.heap.size (by rfl) (.tmp 41) (.tmp 49) 29 65 (.agg #[(.int .i64 0), (.int .i64 0)]) 16 rfl Tryd.underlying29 info65 rfl (by decide) (by omega) (.slice Ao35 x305000_2.length co35) x305000_2 (⟨(x305000_2.length : Int), t321⟩ : S65) [.int .i64 (x305000_2.length : Int), .int .i64 t321] (fun _ => True) (fun _ => False) rfl rfl ?aP (fun _ hk => hk.elim) ?aF ?aO (Below.refl _ _) ?aS ?aL ?_
           (case aP => exact k65_mkM _ _ _ (⟨(x305000_2.length : Int), t321⟩ : S65))
           (case aF => exact (fun _ _ => trivial))
           (case aO => exact (by (with_reducible repeat (first | apply Kd.R_alloc | apply Kd.R_drewN | apply Kd.R_drew)); exact HO_305000.out))
           (case aS => exact (keep_size (w := w) (g := g) (row := none) (by repeat (first | (with_reducible first | exact HK.out | apply KeepBut.set_ | apply keep_drewN | apply keep_drew | apply keep_alloc | refine keep_far ?_ GW303.out _ | refine keep_far ?_ GW304.out _ | refine keep_far ?_ GW311.out _) | exact HK.out))))
           (case aL => have := LMc29.out; omega)
           intro v325 w42 ho hb hg hat
           rw [← Ny324.out] at ho
           have n0_ := Aside0.mk (Kd.R_over' (by (with_reducible repeat (first | apply Kd.R_alloc | apply Kd.R_drewN | apply Kd.R_drew)); exact HO_5.out) (Kd.R_typed (by (with_reducible repeat (first | apply Kd.R_alloc | apply Kd.R_drewN | apply Kd.R_drew)); exact HO_305000.out)) (by decide) hg)
           have n1_ := Aside0.mk (Kd.S_over' (by (with_reducible repeat (first | apply Kd.S_alloc | apply Kd.S_drewN | apply Kd.S_drew)); exact HO_305001.out) (Kd.R_typed (by (with_reducible repeat (first | apply Kd.R_alloc | apply Kd.R_drewN | apply Kd.R_drew)); exact HO_305000.out)) (by decide) hg)
           have n2_ := Aside0.mk (Kd.R_over' (by (with_reducible repeat (first | apply Kd.R_alloc | apply Kd.R_drewN | apply Kd.R_drew)); exact HO_312002.out) (Kd.R_typed (by (with_reducible repeat (first | apply Kd.R_alloc | apply Kd.R_drewN | apply Kd.R_drew)); exact HO_305000.out)) (by decide) hg)
           have n3_ := Aside0.mk (blk_grown (g := gb303) (o := .cells #[.slice none 0 0, .slice none 0 0] 32 (0, 0)) (by (with_reducible repeat first | apply blk_drewN | apply blk_drew | apply blk_alloc); exact BK303.out) hg (Kd.R_ne HO_305000.out BK303.out (by decide)))
           have n4_ := Aside0.mk (blk_grown (g := gb304) (o := .cells #[.slice Ao35 x305000_2.length co35, u305001] 32 (0, 0)) (by (with_reducible repeat first | apply blk_drewN | apply blk_drew | apply blk_alloc); exact BK304.out) hg (Kd.R_ne HO_305000.out BK304.out (by decide)))
           have n5_ := Aside0.mk (blk_grown (g := gb311) (o := .cells #[.int .i64 x4_1, .int .i64 1, u312002] 62 (0, 0)) (by (with_reducible repeat first | apply blk_drewN | apply blk_drew | apply blk_alloc); exact BK311.out) hg (Kd.R_ne HO_305000.out BK311.out (by decide)))
           have n6_ := Aside0.mk (IsS87.grown (by repeat (first | (with_reducible first | exact HI0.out | apply IsS87.alloc | apply IsS87.drewN | apply IsS87.drew | apply IsS87.set_1 | apply IsS87.set_2 | refine IsS87.far ?_ NB0_303.out _ | refine IsS87.far ?_ NB0_304.out _ | refine IsS87.far ?_ NB0_311.out _) | exact HI0.out)) hg (IsS87.own_ne HI0.out HO_305000.out (by decide)))
           have n7_ := Aside0.mk (Kd.R_over' (by (with_reducible repeat (first | apply Kd.R_alloc | apply Kd.R_drewN | apply Kd.R_drew)); exact HO320.out) (Kd.R_typed (by (with_reducible repeat (first | apply Kd.R_alloc | apply Kd.R_drewN | apply Kd.R_drew)); exact HO_305000.out)) (by decide) hg)
           have n8_ := Aside0.mk (below_weaken (by repeat (first | (with_reducible first | exact HB.out | apply below_alloc | apply pw_below_drewN | apply below_drew1 | refine below_set ?_ (IsS87.ge HI0.out) | refine below_set ?_ GE303.out | refine below_set ?_ GE304.out | refine below_set ?_ GE311.out) | exact HB.out)) HL.out hb)
           have n9_ := Aside0.mk (KeepBut.trans (by repeat (first | (with_reducible first | exact HK.out | apply KeepBut.set_ | apply keep_drewN | apply keep_drew | apply keep_alloc | refine keep_far ?_ GW303.out _ | refine keep_far ?_ GW304.out _ | refine keep_far ?_ GW311.out _) | exact HK.out)) (KeepBut.of_grown hg g) (Kd.R_base2 HO_305000.out))
           have n10_ := Aside0.mk (ho)
           clear HO_5
           clear HO_305001
           clear HO_312002
           clear BK303
           clear BK304
           clear BK311
           clear HI0
           clear HO320
           clear HB
           clear HK
           clear HO_305000
           have HO_5 := n0_
           have HO_305001 := n1_
           have HO_312002 := n2_
           have BK303 := n3_
           have BK304 := n4_
           have BK311 := n5_
           have HI0 := n6_
           have HO320 := n7_
           have HB := n8_
           have HK := n9_
           have HO326 := n10_
           clear n0_ n1_ n2_ n3_ n4_ n5_ n6_ n7_ n8_ n9_ n10_
           clear ho hb hg hat
           obtain ⟨Ao43, co43, eo43⟩ := Kd.R_slice HO326.out
           (first | subst eo43 | (injection eo43 with f1_ f2_ f3_; have f4_ := f1_.symm; have f5_ := f3_.symm; clear f1_ f2_ f3_; subst f4_; subst f5_))
           refine hK.out _ _ ⟨(blk_cell BK304.out 0).trans rfl, (blk_cell BK304.out 1).trans rfl⟩ (fun hHeld => ?_)
           clear hK K
           refine norm_ (a' := ?_) ?_ ?_
           (rotate_left; ·(show Act.put _ (some 50) _ = _; simp only [Act.put, pq_z24]; rfl))
           refine pu_z24 11 (some 51) ?_ mz24_12 rfl rfl (any_of HT_.out (by kernel_rfl)) (fun _ _ _ h => h) (Or.inl ⟨by rfl, ?_⟩) ?_ ?_ ?_
           (rotate_left; ·(intro w'; go_simp; with_reducible rfl)); (rotate_left; ·(simp only [Act.put, pq_z24]; rfl))
           refine last_ (i := 12) (N := none) mz24_13 rfl rfl (one_of HT_.out (by kernel_rfl)) (by decide) (fun K hK => ?_)
           have hs44 : w42.cell? ⟨gb304, 0, none⟩ = some (.slice Ao35 x305000_2.length co35) := (blk_cell BK304.out 0).trans rfl
           have hfs44 := blk_frozen BK304.out 0
           have hns44_0 := NB303_304.out
           have hns44_2 := NB311_304.out
           have hms44_0 := NB304_303.out
           have hms44_2 := NB304_311.out
           refine skip_ (w1 := ?_) (by rfl) rfl ?_ ?_
           rotate_left
           ·go_simp
            rfl
           refine hK.out _ _ ?_
           clear hK K
           refine done_ (done_of HT_.out (by kernel_rfl)) ?_
           have hnb45 := NB311_304.out
           have hnc45 := NB304_311.out
           have hnb46 := NB311_0.out
           have hnc46 := NB0_311.out
           have m0_ := Aside0.mk (Kd.R_mono (Kd.R_far (p := ⟨gb304, 0, none⟩) (Kd.R_types HO_5.out BK304.out (by decide)) (fun _ hk => hk.2) (.slice Ao43 y324.length co43)) (fun _ h_ => h_.1))
           have m1_ := Aside0.mk (Kd.R_mono (Kd.R_far (p := ⟨gb304, 0, none⟩) (Kd.R_types HO320.out BK304.out (by decide)) (fun _ hk => hk.2) (.slice Ao43 y324.length co43)) (fun _ h_ => h_.1))
           have m2_ := Aside0.mk (Kd.R_mono (Kd.R_far (p := ⟨gb304, 0, none⟩) (Kd.R_types HO_312002.out BK304.out (by decide)) (fun _ hk => hk.2) (.slice Ao43 y324.length co43)) (fun _ h_ => h_.1))
           have m3_ := Aside0.mk (Kd.R_mono (Kd.R_far (p := ⟨gb304, 0, none⟩) (Kd.R_types HO326.out BK304.out (by decide)) (fun _ hk => hk.2) (.slice Ao43 y324.length co43)) (fun _ h_ => h_.1))
           have m4_ := Aside0.mk (Kd.S_mono (Kd.S_far (p := ⟨gb304, 0, none⟩) (Kd.S_types HO_305001.out BK304.out (by decide)) (fun _ hk => hk.2) (.slice Ao43 y324.length co43)) (fun _ h_ => h_.1))
           have m5_ := Aside0.mk (blk_far (p := ⟨gb304, 0, none⟩) BK303.out NB303_304.out (.slice Ao43 y324.length co43))
           have m6_ := Aside0.mk (blk_far (p := ⟨gb304, 0, none⟩) BK311.out NB311_304.out (.slice Ao43 y324.length co43))
           have m7_ := Aside0.mk (show (w42.setCell ⟨gb304, 0, none⟩ (.slice Ao43 y324.length co43)).heap[gb304]? = some (.cells #[.slice Ao43 y324.length co43, u305001] 32 (0, 0)) from blk_put (cs := #[.slice Ao35 x305000_2.length co35, u305001]) BK304.out 0 _ rfl)
           have m8_ := Aside0.mk (IsS87.far (p := ⟨gb304, 0, none⟩) HI0.out NB0_304.out (.slice Ao43 y324.length co43))
           have m9_ := Aside0.mk (below_set (v := (.slice Ao43 y324.length co43)) (j := 0) HB.out GE304.out)
           have m10_ := Aside0.mk (keep_far (p := ⟨gb304, 0, none⟩) HK.out GW304.out (.slice Ao43 y324.length co43))
           clear HO_5 HO320 HO_312002 HO326 HO_305001 BK303 BK311 BK304 HI0 HB HK
           generalize (w42.setCell ⟨gb304, 0, none⟩ (.slice Ao43 y324.length co43)) = wz42 at m0_ m1_ m2_ m3_ m4_ m5_ m6_ m7_ m8_ m9_ m10_ ⊢
           have HO_5 := m0_
           have HO320 := m1_
           have HO_312002 := m2_
           have HO326 := m3_
           have HO_305001 := m4_
           have BK303 := m5_
           have BK311 := m6_
           have BK304 := m7_
           have HI0 := m8_
           have HB := m9_
           have HK := m10_
           clear m0_ m1_ m2_ m3_ m4_ m5_ m6_ m7_ m8_ m9_ m10_
           have hcz_2 := (blk_cell BK311.out 2).trans rfl
           have hfz_2 := blk_frozen BK311.out 2
           go_wp2_with (first | ((with_reducible refine gate_builtin (b := .append) (xs := #[.tmp 53, .tmp 55]) rfl ?_); at_builtin; refine Kd.R_append (Kd.int .i64) w.heap.size rfl (.tmp 53) (.tmp 55) 58 2 (.int .i64 0) 8 rfl Tryd.underlying58 info2 rfl (by decide) (by omega) u312002 x312002_2 (x305000_2.length : Int) [.int .i64 (x305000_2.length : Int)] (fun k_ => some k_ ≠ (u5 : Value).ownBlock ∧ some k_ ≠ (.slice Ao40 y318.length co40 : Value).ownBlock) (fun _ => False) rfl rfl ?aP (fun _ hk => hk.elim) ?aF ?aO (Below.refl _ _) ?aS ?aL ?_; (case aP => exact rfl); (case aF => exact (fun k_ hk => ⟨Kd.fresh' (Kd.R_lt (HO_5.out)) k_ hk, Kd.fresh' (Kd.R_lt (HO320.out)) k_ hk⟩)); (case aO => exact (Kd.R_mono HO_312002.out (fun _ hk => ⟨hk.1, hk.2⟩))); (case aS => exact (keep_size HK.out)); (case aL => have := LMc30.out; omega); intro v328 w48 ho hb hg hat; rw [← Ny327.out] at ho; have n0_ := Aside0.mk (Kd.R_after (ok := (fun k_ => some k_ ≠ (.slice Ao40 y318.length co40 : Value).ownBlock)) (Kd.R_mono HO_5.out (fun _ hk => ⟨hk.2, hk.1⟩)) hg hat); have n1_ := Aside0.mk (Kd.S_after (ok := (fun k_ => some k_ ≠ (u5 : Value).ownBlock ∧ some k_ ≠ (.slice Ao40 y318.length co40 : Value).ownBlock ∧ k_ ≠ gb311)) (Kd.S_mono HO_305001.out (fun _ hk => ⟨⟨hk.1.1, ⟨hk.2, hk.1.2.2⟩⟩, hk.1.2.1⟩)) hg hat); have n2_ := Aside0.mk (blk_grown BK303.out hg (Kd.R_ne HO_312002.out BK303.out (by decide))); have n3_ := Aside0.mk (blk_grown BK304.out hg (Kd.R_ne HO_312002.out BK304.out (by decide))); have n4_ := Aside0.mk (blk_grown BK311.out hg (Kd.R_ne HO_312002.out BK311.out (by decide))); have n5_ := Aside0.mk (IsS87.grown HI0.out hg (IsS87.own_ne HI0.out HO_312002.out (by decide))); have n6_ := Aside0.mk (Kd.R_after (ok := (fun k_ => some k_ ≠ (u5 : Value).ownBlock)) (Kd.R_mono HO320.out (fun _ hk => ⟨hk.1.2, hk.2⟩)) hg hat); have n7_ := Aside0.mk (Kd.R_over' (HO326.out) (Kd.R_typed (HO_312002.out)) (by decide) hg); have n8_ := Aside0.mk (below_weaken HB.out HL.out hb); have n9_ := Aside0.mk (KeepBut.trans HK.out (KeepBut.of_grown hg g) (Kd.R_base2 HO_312002.out)); have n10_ := Aside0.mk (ho); clear HO_5; clear HO_305001; clear BK303; clear BK304; clear BK311; clear HI0; clear HO320; clear HO326; clear HB; clear HK; clear HO_312002; have HO_5 := n0_; have HO_305001 := n1_; have BK303 := n2_; have BK304 := n3_; have BK311 := n4_; have HI0 := n5_; have HO320 := n6_; have HO326 := n7_; have HB := n8_; have HK := n9_; have HO329 := n10_; clear n0_ n1_ n2_ n3_ n4_ n5_ n6_ n7_ n8_ n9_ n10_; clear ho hb hg hat; obtain ⟨Ao49, co49, eo49⟩ := Kd.R_slice HO329.out; subst eo49; have hcz50_0 : w48.cell? ⟨gb311, 0, none⟩ = some (.int .i64 x4_1) := (blk_cell BK311.out 0).trans rfl; have hcz50_1 : w48.cell? ⟨gb311, 1, none⟩ = some (.int .i64 1) := (blk_cell BK311.out 1).trans rfl; have hcz50_2 : w48.cell? ⟨gb311, 2, none⟩ = some (u312002) := (blk_cell BK311.out 2).trans rfl; have hfz50_0 := blk_frozen BK311.out 0; have hfz50_1 := blk_frozen BK311.out 1; have hfz50_2 := blk_frozen BK311.out 2))
           go_roundg kj18
           case measure => have := HK1.out; have := HK2.out; have := HJ18.out; omega
           case rel => exact ⟨(wrap64 (x8_2 - 1)), (t322), (t323), (y324), (y327), (.slice Ao43 y324.length co43), (.slice Ao49 y327.length co49), (by first | rfl | (simp; done) | (simp [*]; done)), H', ⟨by have := HK1.out; have := HK2.out; have := HJ18.out; omega⟩, ⟨by (with_reducible repeat (first | apply Kd.R_alloc | apply Kd.R_drewN | apply Kd.R_drew)); exact Kd.R_mono (Kd.R_far (p := ⟨gb311, 2, none⟩) (Kd.R_types HO_5.out BK311.out (by decide)) (fun _ hk => hk.2) (.slice Ao49 y327.length co49)) (fun _ hk => hk.1.2)⟩, ⟨by (with_reducible repeat (first | apply Kd.R_alloc | apply Kd.R_drewN | apply Kd.R_drew)); exact Kd.R_mono (Kd.R_far (p := ⟨gb311, 2, none⟩) (Kd.R_types HO326.out BK311.out (by decide)) (fun _ hk => hk.2) (.slice Ao49 y327.length co49)) (fun _ hk => trivial)⟩, ⟨by (with_reducible repeat (first | apply Kd.S_alloc | apply Kd.S_drewN | apply Kd.S_drew)); exact Kd.S_mono (Kd.S_far (p := ⟨gb311, 2, none⟩) (Kd.S_mono HO_305001.out (fun k_ hk => (⟨hk, hk.1.2.2⟩ : _ ∧ k_ ≠ gb311))) (fun _ hk => hk.2) (.slice Ao49 y327.length co49)) (fun _ hk => ⟨hk.1.1.1, ⟨hk.1.2, hk.1.1.2.2⟩⟩)⟩, ⟨by (with_reducible repeat (first | apply Kd.R_alloc | apply Kd.R_drewN | apply Kd.R_drew)); exact Kd.R_mono (Kd.R_far (p := ⟨gb311, 2, none⟩) (Kd.R_types HO329.out BK311.out (by decide)) (fun _ hk => hk.2) (.slice Ao49 y327.length co49)) (fun _ hk => hk.1.1)⟩, ⟨by (with_reducible repeat first | apply blk_drewN | apply blk_drew | apply blk_alloc); refine blk_far ?_ NB303_311.out _; (with_reducible repeat first | apply blk_drewN | apply blk_drew | apply blk_alloc); exact BK303.out⟩, ⟨by (with_reducible repeat first | apply blk_drewN | apply blk_drew | apply blk_alloc); refine blk_far ?_ NB304_311.out _; (with_reducible repeat first | apply blk_drewN | apply blk_drew | apply blk_alloc); exact BK304.out⟩, ⟨by (with_reducible repeat first | apply blk_drewN | apply blk_drew | apply blk_alloc); refine blk_put (cs := #[.int .i64 x4_1, .int .i64 1, u312002]) ?_ 2 _ rfl; (with_reducible repeat first | apply blk_drewN | apply blk_drew | apply blk_alloc); exact BK311.out⟩, ⟨by repeat (first | (with_reducible first | exact HI0.out | apply IsS87.alloc | apply IsS87.drewN | apply IsS87.drew | apply IsS87.set_1 | apply IsS87.set_2 | refine IsS87.far ?_ NB0_303.out _ | refine IsS87.far ?_ NB0_304.out _ | refine IsS87.far ?_ NB0_311.out _) | exact HI0.out)⟩, ⟨by repeat (first | (with_reducible first | exact HK.out | apply KeepBut.set_ | apply keep_drewN | apply keep_drew | apply keep_alloc | refine keep_far ?_ GW303.out _ | refine keep_far ?_ GW304.out _ | refine keep_far ?_ GW311.out _) | exact HK.out)⟩, ⟨by repeat (first | (with_reducible first | exact HB.out | apply below_alloc | apply pw_below_drewN | apply below_drew1 | refine below_set ?_ (IsS87.ge HI0.out) | refine below_set ?_ GE303.out | refine below_set ?_ GE304.out | refine below_set ?_ GE311.out) | exact HB.out)⟩⟩
          ·rw [if_neg c30] at H
           exact absurd H (by simp)
         ·rw [if_neg c29] at H
          exact absurd H (by simp)
        ·replace c26 := Bool.eq_false_iff.mpr c26
         subst c26
         have H1 : (if x305001_1.length < 3518437208883 then (if x5_1.length < 17592186044416 then (spec_l06Draw.l0 kj18 (wrap64 (x4_1 - 1)) (x5_1 ++ [x4_1]) (wrap64 (x6_1 - 1)) s0_0 x1001_2 x1002_2 x305000_2 (x305001_1 ++ [(⟨x4_1, 1, x312002_2⟩ : S62)])) else (none)) else (none)) = some (r1, r2, r3, r4) := by rw [if_neg (show ¬ (false = true) by decide)] at H; exact H
         clear H
         have H := H1
         clear H1
         by_cases c51 : x305001_1.length < 3518437208883
         ·rw [if_pos c51] at H
          have LMc51 := Aside0.mk c51
          clear c51
          obtain ⟨y330, hy330⟩ : ∃ y_ : List (S62), y_ = (x305001_1 ++ [(⟨x4_1, 1, x312002_2⟩ : S62)]) := ⟨_, rfl⟩
          replace H : (if x5_1.length < 17592186044416 then (spec_l06Draw.l0 kj18 (wrap64 (x4_1 - 1)) (x5_1 ++ [x4_1]) (wrap64 (x6_1 - 1)) s0_0 x1001_2 x1002_2 x305000_2 y330) else (none)) = some (r1, r2, r3, r4) := by first | (rw [hy330]; with_reducible exact H) | (have H2_ := (Option.bind_some _ _).symm.trans H; rw [hy330]; with_reducible exact H2_) | (have H2_ := (Option.bind_some _ _).symm.trans H; with_reducible exact H2_) | with_reducible exact H | (rw [hy330]; exact H) | exact H
          have Ny330 := Aside0.mk hy330
          clear hy330
          by_cases c52 : x5_1.length < 17592186044416
          ·rw [if_pos c52] at H
           have LMc52 := Aside0.mk c52
           clear c52
           obtain ⟨y333, hy333⟩ : ∃ y_ : List Int, y_ = (x5_1 ++ [x4_1]) := ⟨_, rfl⟩
           replace H : (spec_l06Draw.l0 kj18 (wrap64 (x4_1 - 1)) y333 (wrap64 (x6_1 - 1)) s0_0 x1001_2 x1002_2 x305000_2 y330) = some (r1, r2, r3, r4) := by first | (rw [hy333]; with_reducible exact H) | (have H2_ := (Option.bind_some _ _).symm.trans H; rw [hy333]; with_reducible exact H2_) | (have H2_ := (Option.bind_some _ _).symm.trans H; with_reducible exact H2_) | with_reducible exact H | (rw [hy333]; exact H) | exact H
           have Ny333 := Aside0.mk hy333
           clear hy333
           have H' := Aside0.mk H
           clear H
           have hnb53 := NB304_303.out
           have hnc53 := NB303_304.out
           have hnb54 := NB304_311.out
           have hnc54 := NB311_304.out
           have hnb55 := NB304_0.out
           have hnc55 := NB0_304.out
           have hcz56_0 : wc.cell? ⟨gb304, 0, none⟩ = some (u305000) := (blk_cell BK304.out 0).trans rfl
           have hcz56_1 : wc.cell? ⟨gb304, 1, none⟩ = some (u305001) := (blk_cell BK304.out 1).trans rfl
           have hfz56_0 := blk_frozen BK304.out 0
           have hfz56_1 := blk_frozen BK304.out 1
           have hnb57 := NB311_303.out
           have hnc57 := NB303_311.out
           have hnb58 := NB311_0.out
           have hnc58 := NB0_311.out
           have hcz59_0 : wc.cell? ⟨gb311, 0, none⟩ = some (.int .i64 x4_1) := (blk_cell BK311.out 0).trans rfl
           have hcz59_1 : wc.cell? ⟨gb311, 1, none⟩ = some (.int .i64 1) := (blk_cell BK311.out 1).trans rfl
           have hcz59_2 : wc.cell? ⟨gb311, 2, none⟩ = some (u312002) := (blk_cell BK311.out 2).trans rfl
           have hfz59_0 := blk_frozen BK311.out 0
           have hfz59_1 := blk_frozen BK311.out 1
           have hfz59_2 := blk_frozen BK311.out 2
           obtain ⟨Ao61, co61, eo61⟩ := Kd.R_slice HO_312002.out
           subst eo61
           go_wp2_with (first | ((with_reducible refine gate_builtin (b := .append) (xs := #[.tmp 59, .tmp 61]) rfl ?_); at_builtin; refine Kd.S_append k62 w.heap.size rfl (.tmp 59) (.tmp 61) 30 62 (.agg #[(.int .i64 0), (.int .i64 0), (.slice none 0 0)]) 40 rfl Tryd.underlying30 info62 rfl (by decide) (by omega) u305001 x305001_1 (⟨x4_1, 1, x312002_2⟩ : S62) [.int .i64 x4_1, .int .i64 1, .slice Ao61 x312002_2.length co61] (fun k_ => some k_ ≠ (u5 : Value).ownBlock ∧ k_ ≠ gb311) (fun k_ => some k_ = (.slice Ao61 x312002_2.length co61 : Value).ownBlock) rfl rfl ?aP (fun k_ hk_ => ((Kd.R_mono (ok' := fun k_ => ((fun k_ => some k_ ≠ (u5 : Value).ownBlock ∧ k_ ≠ gb311)) k_ ∧ some k_ ≠ (u305001 : Value).ownBlock) (Kd.R_types (Kd.R_apart' (HO_312002.out) (Kd.S_typed HO_305001.out) (by decide)) BK311.out (by decide)) (fun k_ hk => ⟨⟨hk.1.1, hk.2⟩, hk.1.2⟩))).1 k_ hk_.symm) ?aF ?aO (Below.refl _ _) ?aS ?aL ?_; (case aP => exact k62_mkM _ _ _ (⟨x4_1, 1, x312002_2⟩ : S62) (Kd.R_mono (Kd.R_tight rfl (Kd.R_mono (ok' := fun k_ => ((fun k_ => some k_ ≠ (u5 : Value).ownBlock ∧ k_ ≠ gb311)) k_ ∧ some k_ ≠ (u305001 : Value).ownBlock) (Kd.R_types (Kd.R_apart' (HO_312002.out) (Kd.S_typed HO_305001.out) (by decide)) BK311.out (by decide)) (fun k_ hk => ⟨⟨hk.1.1, hk.2⟩, hk.1.2⟩))) (fun _ h_ => h_))); (case aF => exact (fun k_ hk => ⟨Kd.fresh' (Kd.R_lt (by (with_reducible repeat (first | apply Kd.R_alloc | apply Kd.R_drewN | apply Kd.R_drew)); exact HO_5.out)) k_ hk, Kd.freshB (g := gb311) (o := .cells #[.int .i64 x4_1, .int .i64 1, .slice Ao61 x312002_2.length co61] 62 (0, 0)) (by (with_reducible repeat first | apply blk_drewN | apply blk_drew | apply blk_alloc); exact BK311.out) k_ hk⟩)); (case aO => exact (by (with_reducible repeat (first | apply Kd.S_alloc | apply Kd.S_drewN | apply Kd.S_drew)); exact Kd.S_mono HO_305001.out (fun k_ hk => ⟨⟨hk.1, hk.2.2⟩, fun e_ => hk.2.1 e_⟩))); (case aS => exact (keep_size (w := w) (g := g) (row := none) (by repeat (first | (with_reducible first | exact HK.out | apply KeepBut.set_ | apply keep_drewN | apply keep_drew | apply keep_alloc | refine keep_far ?_ GW303.out _ | refine keep_far ?_ GW304.out _ | refine keep_far ?_ GW311.out _) | exact HK.out)))); (case aL => have := LMc51.out; omega); intro v331 w60 ho hb hg hat; rw [← Ny330.out] at ho; have n0_ := Aside0.mk (Kd.R_over' (by (with_reducible repeat (first | apply Kd.R_alloc | apply Kd.R_drewN | apply Kd.R_drew)); exact HO_5.out) (Kd.S_typed (by (with_reducible repeat (first | apply Kd.S_alloc | apply Kd.S_drewN | apply Kd.S_drew)); exact HO_305001.out)) (by decide) hg); have n1_ := Aside0.mk (Kd.R_over' (by (with_reducible repeat (first | apply Kd.R_alloc | apply Kd.R_drewN | apply Kd.R_drew)); exact HO_305000.out) (Kd.S_typed (by (with_reducible repeat (first | apply Kd.S_alloc | apply Kd.S_drewN | apply Kd.S_drew)); exact HO_305001.out)) (by decide) hg); have n2_ := Aside0.mk (blk_grown (g := gb303) (o := .cells #[.slice none 0 0, .slice none 0 0] 32 (0, 0)) (by (with_reducible repeat first | apply blk_drewN | apply blk_drew | apply blk_alloc); exact BK303.out) hg (Kd.S_ne HO_305001.out BK303.out (by decide))); have n3_ := Aside0.mk (blk_grown (g := gb304) (o := .cells #[u305000, u305001] 32 (0, 0)) (by (with_reducible repeat first | apply blk_drewN | apply blk_drew | apply blk_alloc); exact BK304.out) hg (Kd.S_ne HO_305001.out BK304.out (by decide))); have n4_ := Aside0.mk (blk_grown (g := gb311) (o := .cells #[.int .i64 x4_1, .int .i64 1, .slice Ao61 x312002_2.length co61] 62 (0, 0)) (by (with_reducible repeat first | apply blk_drewN | apply blk_drew | apply blk_alloc); exact BK311.out) hg (Kd.S_away HO_305001.out (fun _ hk => hk.2.2))); have n5_ := Aside0.mk (IsS87.grown (by repeat (first | (with_reducible first | exact HI0.out | apply IsS87.alloc | apply IsS87.drewN | apply IsS87.drew | apply IsS87.set_1 | apply IsS87.set_2 | refine IsS87.far ?_ NB0_303.out _ | refine IsS87.far ?_ NB0_304.out _ | refine IsS87.far ?_ NB0_311.out _) | exact HI0.out)) hg (IsS87.own_neS HI0.out HO_305001.out (by decide))); have n6_ := Aside0.mk (below_weaken (by repeat (first | (with_reducible first | exact HB.out | apply below_alloc | apply pw_below_drewN | apply below_drew1 | refine below_set ?_ (IsS87.ge HI0.out) | refine below_set ?_ GE303.out | refine below_set ?_ GE304.out | refine below_set ?_ GE311.out) | exact HB.out)) HL.out hb); have n7_ := Aside0.mk (KeepBut.trans (by repeat (first | (with_reducible first | exact HK.out | apply KeepBut.set_ | apply keep_drewN | apply keep_drew | apply keep_alloc | refine keep_far ?_ GW303.out _ | refine keep_far ?_ GW304.out _ | refine keep_far ?_ GW311.out _) | exact HK.out)) (KeepBut.of_grown hg g) (Kd.S_base2 HO_305001.out)); have n8_ := Aside0.mk (ho); clear HO_5; clear HO_305000; clear BK303; clear BK304; clear BK311; clear HI0; clear HB; clear HK; clear HO_305001; clear HO_312002; have HO_5 := n0_; have HO_305000 := n1_; have BK303 := n2_; have BK304 := n3_; have BK311 := n4_; have HI0 := n5_; have HB := n6_; have HK := n7_; have HO332 := n8_; clear n0_ n1_ n2_ n3_ n4_ n5_ n6_ n7_ n8_; clear ho hb hg hat; obtain ⟨Ao62, co62, eo62⟩ := Kd.S_slice HO332.out; subst eo62; have hcz63_0 : w60.cell? ⟨gb304, 0, none⟩ = some (u305000) := (blk_cell BK304.out 0).trans rfl; have hcz63_1 : w60.cell? ⟨gb304, 1, none⟩ = some (u305001) := (blk_cell BK304.out 1).trans rfl; have hfz63_0 := blk_frozen BK304.out 0; have hfz63_1 := blk_frozen BK304.out 1) | ((with_reducible refine gate_builtin (b := .append) (xs := #[.tmp 64, .tmp 66]) rfl ?_); at_builtin; have m0_ := Aside0.mk (Kd.R_mono (Kd.R_far (p := ⟨gb304, 1, none⟩) (Kd.R_types HO_5.out BK304.out (by decide)) (fun _ hk => hk.2) (.slice Ao62 y330.length co62)) (fun _ h_ => h_.1)); have m1_ := Aside0.mk (Kd.R_mono (Kd.R_far (p := ⟨gb304, 1, none⟩) (Kd.R_types HO_305000.out BK304.out (by decide)) (fun _ hk => hk.2) (.slice Ao62 y330.length co62)) (fun _ h_ => h_.1)); have m2_ := Aside0.mk (Kd.S_mono (Kd.S_far (p := ⟨gb304, 1, none⟩) (Kd.S_types HO332.out BK304.out (by decide)) (fun _ hk => hk.2) (.slice Ao62 y330.length co62)) (fun _ h_ => h_.1)); have m3_ := Aside0.mk (blk_far (p := ⟨gb304, 1, none⟩) BK303.out NB303_304.out (.slice Ao62 y330.length co62)); have m4_ := Aside0.mk (blk_far (p := ⟨gb304, 1, none⟩) BK311.out NB311_304.out (.slice Ao62 y330.length co62)); have m5_ := Aside0.mk (show (w60.setCell ⟨gb304, 1, none⟩ (.slice Ao62 y330.length co62)).heap[gb304]? = some (.cells #[u305000, .slice Ao62 y330.length co62] 32 (0, 0)) from blk_put (cs := #[u305000, u305001]) BK304.out 1 _ rfl); have m6_ := Aside0.mk (IsS87.far (p := ⟨gb304, 1, none⟩) HI0.out NB0_304.out (.slice Ao62 y330.length co62)); have m7_ := Aside0.mk (below_set (v := (.slice Ao62 y330.length co62)) (j := 1) HB.out GE304.out); have m8_ := Aside0.mk (keep_far (p := ⟨gb304, 1, none⟩) HK.out GW304.out (.slice Ao62 y330.length co62)); clear HO_5 HO_305000 HO332 BK303 BK311 BK304 HI0 HB HK; have hsz_ : (w60.setCell ⟨gb304, 1, none⟩ (.slice Ao62 y330.length co62)).heap.size = w60.heap.size := (by simp only [World.size_setCell]); generalize (w60.setCell ⟨gb304, 1, none⟩ (.slice Ao62 y330.length co62)) = wz60 at hsz_ m0_ m1_ m2_ m3_ m4_ m5_ m6_ m7_ m8_ ⊢; have HO_5 := m0_; have HO_305000 := m1_; have HO332 := m2_; have BK303 := m3_; have BK311 := m4_; have BK304 := m5_; have HI0 := m6_; have HB := m7_; have HK := m8_; clear m0_ m1_ m2_ m3_ m4_ m5_ m6_ m7_ m8_; refine Kd.R_append (Kd.int .i64) w.heap.size rfl (.tmp 64) (.tmp 66) 58 2 (.int .i64 0) 8 rfl Tryd.underlying58 info2 rfl (by decide) (by omega) u5 x5_1 x4_1 [.int .i64 x4_1] (fun _ => True) (fun _ => False) rfl (by first | (rw [hsz_]; done) | (rw [hsz_]; rfl)) ?aP (fun _ hk => hk.elim) ?aF ?aO (Below.refl _ _) ?aS ?aL ?_; (case aP => exact rfl); (case aF => exact (fun _ _ => trivial)); (case aO => exact (Kd.R_mono HO_5.out (fun _ hk => trivial))); (case aS => exact (keep_size HK.out)); (case aL => have := LMc52.out; omega); intro v334 w64 ho hb hg hat; rw [← Ny333.out] at ho; have n0_ := Aside0.mk (Kd.R_over' (HO_305000.out) (Kd.R_typed (HO_5.out)) (by decide) hg); have n1_ := Aside0.mk (blk_grown BK303.out hg (Kd.R_ne HO_5.out BK303.out (by decide))); have n2_ := Aside0.mk (blk_grown BK304.out hg (Kd.R_ne HO_5.out BK304.out (by decide))); have n3_ := Aside0.mk (blk_grown BK311.out hg (Kd.R_ne HO_5.out BK311.out (by decide))); have n4_ := Aside0.mk (IsS87.grown HI0.out hg (IsS87.own_ne HI0.out HO_5.out (by decide))); have n5_ := Aside0.mk (Kd.S_after (ok := (fun k_ => k_ ≠ gb311)) (Kd.S_mono HO332.out (fun _ hk => ⟨hk.2, hk.1⟩)) hg hat); have n6_ := Aside0.mk (below_weaken HB.out HL.out hb); have n7_ := Aside0.mk (KeepBut.trans HK.out (KeepBut.of_grown hg g) (Kd.R_base2 HO_5.out)); have n8_ := Aside0.mk (ho); clear HO_305000; clear BK303; clear BK304; clear BK311; clear HI0; clear HO332; clear HB; clear HK; clear HO_5; have HO_305000 := n0_; have BK303 := n1_; have BK304 := n2_; have BK311 := n3_; have HI0 := n4_; have HO332 := n5_; have HB := n6_; have HK := n7_; have HO335 := n8_; clear n0_ n1_ n2_ n3_ n4_ n5_ n6_ n7_ n8_; clear ho hb hg hat))
           go_roundg kj18
           case measure => have := HK1.out; have := HK2.out; have := HJ18.out; omega
           case rel => exact ⟨(wrap64 (x4_1 - 1)), (y333), (wrap64 (x6_1 - 1)), (x1001_2), (x1002_2), (x305000_2), (y330), (u305000), (.slice Ao62 y330.length co62), (by first | rfl | (simp; done) | (simp [*]; done)), (by first | rfl | (simp; done) | (simp [*]; done)), H', ⟨by have := HK1.out; have := HK2.out; have := HJ18.out; omega⟩, ⟨by (with_reducible repeat (first | apply Kd.R_alloc | apply Kd.R_drewN | apply Kd.R_drew)); exact HO335.out⟩, ⟨by (with_reducible repeat (first | apply Kd.R_alloc | apply Kd.R_drewN | apply Kd.R_drew)); exact HO_305000.out⟩, ⟨by (with_reducible repeat (first | apply Kd.S_alloc | apply Kd.S_drewN | apply Kd.S_drew)); exact Kd.S_mono HO332.out (fun _ hk => hk.2)⟩, ⟨by (with_reducible repeat first | apply blk_drewN | apply blk_drew | apply blk_alloc); exact BK303.out⟩, ⟨by (with_reducible repeat first | apply blk_drewN | apply blk_drew | apply blk_alloc); exact BK304.out⟩, ⟨by repeat (first | (with_reducible first | exact HI0.out | apply IsS87.alloc | apply IsS87.drewN | apply IsS87.drew | apply IsS87.set_1 | apply IsS87.set_2 | refine IsS87.far ?_ NB0_303.out _ | refine IsS87.far ?_ NB0_304.out _ | refine IsS87.far ?_ NB0_311.out _) | exact HI0.out)⟩, ⟨by repeat (first | (with_reducible first | exact HK.out | apply KeepBut.set_ | apply keep_drewN | apply keep_drew | apply keep_alloc | refine keep_far ?_ GW303.out _ | refine keep_far ?_ GW304.out _ | refine keep_far ?_ GW311.out _) | exact HK.out)⟩, ⟨by repeat (first | (with_reducible first | exact HB.out | apply below_alloc | apply pw_below_drewN | apply below_drew1 | refine below_set ?_ (IsS87.ge HI0.out) | refine below_set ?_ GE303.out | refine below_set ?_ GE304.out | refine below_set ?_ GE311.out) | exact HB.out)⟩⟩
          ·rw [if_neg c52] at H
           exact absurd H (by simp)
         ·rw [if_neg c51] at H
          exact absurd H (by simp)
   ·rw [if_neg c11] at H
    have c11b0 : decide (0 < x6_1) = false := decide_eq_false c11
    clear c11
    replace H := Option.bind_eq_some_iff.mp H
    obtain ⟨⟨t336, t337, t338⟩, A650, H⟩ := H
    replace H : (if t336 = true then (spec_l06Draw.l2 k1 x4_1 x5_1 (([] : List Int)) 0 s0_0 t337 t338 x305000_1 x305001_1) else ((spec_l00Own.f x5_1).bind fun t374 => (if x305001_1.length < 3518437208883 then (some (x305000_1, (x305001_1 ++ [(⟨x4_1, 3, t374⟩ : S62)]), t337, t338)) else (none)))) = some (r1, r2, r3, r4) := H
    have A65 := Aside0.mk A650
    clear A650
    by_cases c66 : t336 = true
    ·subst c66
     have H1 : (spec_l06Draw.l2 k1 x4_1 x5_1 (([] : List Int)) 0 s0_0 t337 t338 x305000_1 x305001_1) = some (r1, r2, r3, r4) := by rw [if_pos rfl] at H; exact H
     clear H
     have H := H1
     clear H1
     obtain ⟨y339, hy339⟩ : ∃ y_ : List Int, y_ = (([] : List Int)) := ⟨_, rfl⟩
     replace H : (spec_l06Draw.l2 k1 x4_1 x5_1 y339 0 s0_0 t337 t338 x305000_1 x305001_1) = some (r1, r2, r3, r4) := by first | (rw [hy339]; with_reducible exact H) | (have H2_ := (Option.bind_some _ _).symm.trans H; rw [hy339]; with_reducible exact H2_) | (have H2_ := (Option.bind_some _ _).symm.trans H; with_reducible exact H2_) | with_reducible exact H | (rw [hy339]; exact H) | exact H
     have Ny339 := Aside0.mk hy339
     clear hy339
     have H' := Aside0.mk H
     clear H
     go_wp2_with (first | ((with_reducible refine gate_callee (f := 48) rfl ?_); refine goesL_ (some 72) rfl rfl Tryd.func48 (by kernel_rfl) rfl #[.pointer (some ⟨g, 0, none⟩), .int .i64 2] rfl (by (try simp only [List.map_toArray, List.map_cons, List.map_nil]); first | done | rfl | (simp only [List.length_drop, List.length_take]; rfl)) ?_; (with_reducible refine (spec_l00Src_one.calls g s0_0 x1001_1 x1002_1 2 true t337 t338 w0 _ ?side1 ?side2 A65.out).mono ?_); (case side1 => repeat (first | (with_reducible first | exact HI0.out | apply IsS87.alloc | apply IsS87.drewN | apply IsS87.drew | apply IsS87.set_1 | apply IsS87.set_2 | refine IsS87.far ?_ NB0_303.out _ | refine IsS87.far ?_ NB0_304.out _) | exact HI0.out)); (case side2 => repeat (first | (with_reducible first | exact HB.out | apply below_alloc | apply pw_below_drewN | apply below_drew1 | refine below_set ?_ (IsS87.ge HI0.out) | refine below_set ?_ GE303.out | refine below_set ?_ GE304.out) | exact HB.out)); rintro e w67 ⟨rfl, hi, hb, hk⟩; refine ⟨_, rfl, ?_⟩; have n0_ := Aside0.mk (Kd.R_mono (Kd.R_keep (IsS87.apart (show IsS87 w0 _ g s0_0 x1001_1 x1002_1 from by repeat (first | (with_reducible first | exact HI0.out | apply IsS87.alloc | apply IsS87.drewN | apply IsS87.drew | apply IsS87.set_1 | apply IsS87.set_2 | refine IsS87.far ?_ NB0_303.out _ | refine IsS87.far ?_ NB0_304.out _) | exact HI0.out)) (by (with_reducible repeat (first | apply Kd.R_alloc | apply Kd.R_drewN | apply Kd.R_drew)); exact HO_5.out) (by decide)) hk (fun _ h => h.2)) (fun _ h => h.1)); have n1_ := Aside0.mk (Kd.R_mono (Kd.R_keep (IsS87.apart (show IsS87 w0 _ g s0_0 x1001_1 x1002_1 from by repeat (first | (with_reducible first | exact HI0.out | apply IsS87.alloc | apply IsS87.drewN | apply IsS87.drew | apply IsS87.set_1 | apply IsS87.set_2 | refine IsS87.far ?_ NB0_303.out _ | refine IsS87.far ?_ NB0_304.out _) | exact HI0.out)) (by (with_reducible repeat (first | apply Kd.R_alloc | apply Kd.R_drewN | apply Kd.R_drew)); exact HO_305000.out) (by decide)) hk (fun _ h => h.2)) (fun _ h => h.1)); have n2_ := Aside0.mk (Kd.S_mono (Kd.S_keep (IsS87.apartS (show IsS87 w0 _ g s0_0 x1001_1 x1002_1 from by repeat (first | (with_reducible first | exact HI0.out | apply IsS87.alloc | apply IsS87.drewN | apply IsS87.drew | apply IsS87.set_1 | apply IsS87.set_2 | refine IsS87.far ?_ NB0_303.out _ | refine IsS87.far ?_ NB0_304.out _) | exact HI0.out)) (by (with_reducible repeat (first | apply Kd.S_alloc | apply Kd.S_drewN | apply Kd.S_drew)); exact HO_305001.out) (by decide)) hk (fun _ h => h.2)) (fun _ h => h.1)); have n3_ := Aside0.mk (KeepBut.blk hk (g' := gb303) (o := .cells #[.slice none 0 0, .slice none 0 0] 32 (0, 0)) (by (with_reducible repeat first | apply blk_drewN | apply blk_drew | apply blk_alloc); exact BK303.out) NB303_0.out (by simp)); have n4_ := Aside0.mk (KeepBut.blk hk (g' := gb304) (o := .cells #[u305000, u305001] 32 (0, 0)) (by (with_reducible repeat first | apply blk_drewN | apply blk_drew | apply blk_alloc); exact BK304.out) NB304_0.out (by simp)); have n5_ := Aside0.mk (KeepBut.trans (by repeat (first | (with_reducible first | exact HK.out | apply KeepBut.set_ | apply keep_drewN | apply keep_drew | apply keep_alloc | refine keep_far ?_ GW303.out _ | refine keep_far ?_ GW304.out _) | exact HK.out)) hk (.inl rfl)); have n6_ := Aside0.mk (hb); have n7_ := Aside0.mk (hi); clear HO_5; clear HO_305000; clear HO_305001; clear BK303; clear BK304; clear HK; clear HB; clear HI0; have HO_5 := n0_; have HO_305000 := n1_; have HO_305001 := n2_; have BK303 := n3_; have BK304 := n4_; have HK := n5_; have HB := n6_; have HI0 := n7_; clear n0_ n1_ n2_ n3_ n4_ n5_ n6_ n7_; (try clear hb); (try clear hb2); (try clear hk); (try clear hi)) | ((with_reducible refine gate_dst (N := 73) rfl ?_); refine Kd.R_lit (Kd.int .i64) _ 2 ?hg (N := 73) ?hd (xs := ([] : List Int)) (inner := []) (ok := fun _ => True) (okp := fun _ => True) ?hr ?hp (fun _ hk => hk) trivial (Below.refl _ _) (Nat.le_refl _) (by simp) ?_; (case hd => rfl); (case hg => rfl); (case hr => first | (go_simp; done) | (go_simp; rfl)); (case hp => exact (Reps.none _ _)); intro v340 w68 ho69 hb hg_ hnew_; clear hg_ hnew_; (first | rw [← Ny339.out] at ho69 | (simp only [Int.reduceToNat] at ho69; rw [← Ny339.out] at ho69)); have n0_ := Aside0.mk (Kd.R_elder' (by (with_reducible repeat (first | apply Kd.R_alloc | apply Kd.R_drewN | apply Kd.R_drew)); exact HO_5.out) (Kd.R_base ho69) hb); have n1_ := Aside0.mk (Kd.R_below (by (with_reducible repeat (first | apply Kd.R_alloc | apply Kd.R_drewN | apply Kd.R_drew)); exact HO_305000.out) hb); have n2_ := Aside0.mk (Kd.S_elder' (by (with_reducible repeat (first | apply Kd.S_alloc | apply Kd.S_drewN | apply Kd.S_drew)); exact HO_305001.out) (Kd.R_base ho69) hb); have n3_ := Aside0.mk (Kd.R_lower (Kd.R_new' ho69 (Kd.R_lt (by (with_reducible repeat (first | apply Kd.R_alloc | apply Kd.R_drewN | apply Kd.R_drew)); exact HO_5.out))) (keep_size (w := w) (g := g) (row := none) (by repeat (first | (with_reducible first | exact HK.out | apply KeepBut.set_ | apply keep_drewN | apply keep_drew | apply keep_alloc | refine keep_far ?_ GW303.out _ | refine keep_far ?_ GW304.out _) | exact HK.out)))); have n4_ := Aside0.mk (blk_below (g := gb303) (o := .cells #[.slice none 0 0, .slice none 0 0] 32 (0, 0)) (by (with_reducible repeat first | apply blk_drewN | apply blk_drew | apply blk_alloc); exact BK303.out) hb); have n5_ := Aside0.mk (blk_below (g := gb304) (o := .cells #[u305000, u305001] 32 (0, 0)) (by (with_reducible repeat first | apply blk_drewN | apply blk_drew | apply blk_alloc); exact BK304.out) hb); have n6_ := Aside0.mk (IsS87.below (by repeat (first | (with_reducible first | exact HI0.out | apply IsS87.alloc | apply IsS87.drewN | apply IsS87.drew | apply IsS87.set_1 | apply IsS87.set_2 | refine IsS87.far ?_ NB0_303.out _ | refine IsS87.far ?_ NB0_304.out _) | exact HI0.out)) hb); have n7_ := Aside0.mk (KeepBut.trans (by repeat (first | (with_reducible first | exact HK.out | apply KeepBut.set_ | apply keep_drewN | apply keep_drew | apply keep_alloc | refine keep_far ?_ GW303.out _ | refine keep_far ?_ GW304.out _) | exact HK.out)) (KeepBut.of_below hb g none) (.inl rfl)); have n8_ := Aside0.mk (below_step (by repeat (first | (with_reducible first | exact HB.out | apply below_alloc | apply pw_below_drewN | apply below_drew1 | refine below_set ?_ (IsS87.ge HI0.out) | refine below_set ?_ GE303.out | refine below_set ?_ GE304.out) | exact HB.out)) hb); clear HO_5; clear HO_305000; clear HO_305001; clear BK303; clear BK304; clear HI0; clear HK; clear HB; have HO_5 := n0_; have HO_305000 := n1_; have HO_305001 := n2_; have HO341 := n3_; have BK303 := n4_; have BK304 := n5_; have HI0 := n6_; have HK := n7_; have HB := n8_; clear n0_ n1_ n2_ n3_ n4_ n5_ n6_ n7_ n8_; clear hb ho69))
     go_loopg [4, 10, 11] k1 (fun kq v4 v10 v11 w' => ∃ (x4_2 : Int) (x10_2 : List Int) (x11_2 : Int) (x305001_2 : List (S62)) (u305001 : Value), v4 = .int .i64 x4_2 ∧ v11 = .int .i64 x11_2 ∧ Aside0 (spec_l06Draw.l2 kq x4_2 x5_1 x10_2 x11_2 s0_0 t337 t338 x305000_1 x305001_2 = some (r1, r2, r3, r4)) ∧ Aside0 (kq ≤ k1) ∧ Aside0 (Kd.R (Kd.int .i64) 2 w' w.heap.size (fun k_ => some k_ ≠ (v10 : Value).ownBlock) u5 x5_1) ∧ Aside0 (Kd.R (Kd.int .i64) 2 w' w.heap.size (fun k_ => some k_ ≠ (u5 : Value).ownBlock) v10 x10_2) ∧ Aside0 (Kd.R k65 65 w' w.heap.size (fun _ => True) u305000 x305000_1) ∧ Aside0 (Kd.S k62 62 w' w.heap.size (fun k_ => some k_ ≠ (u5 : Value).ownBlock ∧ some k_ ≠ (v10 : Value).ownBlock) u305001 x305001_2) ∧ Aside0 (w'.heap[gb303]? = some (.cells #[(.slice none 0 0), (.slice none 0 0)] 32 (0, 0))) ∧ Aside0 (w'.heap[gb304]? = some (.cells #[u305000, u305001] 32 (0, 0))) ∧ Aside0 (IsS87 w0 w' g s0_0 t337 t338) ∧ Aside0 (KeepBut w w' g none) ∧ Aside0 (Below w0.heap.size w0 w'))
     case atStart => exact ⟨(x4_1), (y339), (0), (x305001_1), (u305001), (by first | rfl | (simp; done) | (simp [*]; done)), (by first | rfl | (simp; done) | (simp [*]; done)), H', ⟨Nat.le_refl _⟩, ⟨by (with_reducible repeat (first | apply Kd.R_alloc | apply Kd.R_drewN | apply Kd.R_drew)); exact Kd.R_mono HO_5.out (fun _ hk => hk.2)⟩, ⟨by (with_reducible repeat (first | apply Kd.R_alloc | apply Kd.R_drewN | apply Kd.R_drew)); exact Kd.R_mono HO341.out (fun _ hk => hk.2)⟩, ⟨by (with_reducible repeat (first | apply Kd.R_alloc | apply Kd.R_drewN | apply Kd.R_drew)); exact HO_305000.out⟩, ⟨by (with_reducible repeat (first | apply Kd.S_alloc | apply Kd.S_drewN | apply Kd.S_drew)); exact HO_305001.out⟩, ⟨by (with_reducible repeat first | apply blk_drewN | apply blk_drew | apply blk_alloc); exact BK303.out⟩, ⟨by (with_reducible repeat first | apply blk_drewN | apply blk_drew | apply blk_alloc); exact BK304.out⟩, ⟨by repeat (first | (with_reducible first | exact HI0.out | apply IsS87.alloc | apply IsS87.drewN | apply IsS87.drew | apply IsS87.set_1 | apply IsS87.set_2 | refine IsS87.far ?_ NB0_303.out _ | refine IsS87.far ?_ NB0_304.out _) | exact HI0.out)⟩, ⟨by repeat (first | (with_reducible first | exact HK.out | apply KeepBut.set_ | apply keep_drewN | apply keep_drew | apply keep_alloc | refine keep_far ?_ GW303.out _ | refine keep_far ?_ GW304.out _) | exact HK.out)⟩, ⟨by repeat (first | (with_reducible first | exact HB.out | apply below_alloc | apply pw_below_drewN | apply below_drew1 | refine below_set ?_ (IsS87.ge HI0.out) | refine below_set ?_ GE303.out | refine below_set ?_ GE304.out) | exact HB.out)⟩⟩
     case round =>
      clear H'
      try clear c1
      try clear c2
      try clear p2
      try clear c3
      try clear c4
      try clear c5
      try clear c6
      try clear p6
      try clear c11
      try clear c11b0
      try clear c14
      try clear c15
      try clear c16
      try clear c20
      try clear c20b0
      try clear c21
      try clear c22
      try clear c23
      try clear c24
      try clear c26
      try clear c29
      try clear c30
      try clear c31
      try clear c32
      try clear c33
      try clear c45
      try clear c46
      try clear c47
      try clear c48
      try clear c51
      try clear c52
      try clear c53
      try clear c54
      try clear c55
      try clear c57
      try clear c58
      try clear p64
      try clear c66
      try clear hcz17_0
      try clear hcz17_1
      try clear hcz17_2
      try clear hcz24_0
      try clear hcz24_1
      try clear hcz34_0
      try clear hcz34_1
      try clear hcz47_0
      try clear hcz47_1
      try clear hcz47_2
      try clear hcz50_0
      try clear hcz50_1
      try clear hcz50_2
      try clear hcz56_0
      try clear hcz56_1
      try clear hcz59_0
      try clear hcz59_1
      try clear hcz59_2
      try clear hcz63_0
      try clear hcz63_1
      try clear hcz7_0
      try clear hcz7_1
      try clear hfz17_0
      try clear hfz17_1
      try clear hfz17_2
      try clear hfz24_0
      try clear hfz24_1
      try clear hfz34_0
      try clear hfz34_1
      try clear hfz47_0
      try clear hfz47_1
      try clear hfz47_2
      try clear hfz50_0
      try clear hfz50_1
      try clear hfz50_2
      try clear hfz56_0
      try clear hfz56_1
      try clear hfz59_0
      try clear hfz59_1
      try clear hfz59_2
      try clear hfz63_0
      try clear hfz63_1
      try clear hfz7_0
      try clear hfz7_1
      try clear p2
      try clear p6
      obtain ⟨x4_2, x10_2, x11_2, x305001_2, u305001, rfl, rfl, HA, HK2, HO_5, HO_10, HO_305000, HO_305001, BK303, BK304, HI0, HK, HB⟩ := hrel
      cases gk with
      | zero => exact absurd HA.out (by simp [spec_l06Draw.l2])
      | succ k2 =>
       have H := HA.out
       clear HA
       simp only [spec_l06Draw.l2] at H
       by_cases c70 : x11_2 < (x5_1.length : Int)
       ·rw [if_pos c70] at H
        have c70b0 : decide (x11_2 < (x5_1.length : Int)) = true := decide_eq_true c70
        clear c70
        by_cases c71 : (wrap64 (x11_2 + 2)) > (x5_1.length : Int)
        ·rw [if_pos c71] at H
         have c71b0 : decide ((x5_1.length : Int) < (wrap64 (x11_2 + 2))) = true := decide_eq_true c71
         clear c71
         by_cases c72 : 0 ≤ x11_2
         ·rw [if_pos c72] at H
          have c72b0 := eq_true c72
          have c72b1 : decide (0 ≤ x11_2) = true := decide_eq_true c72
          clear c72
          by_cases c73 : x11_2 ≤ (x5_1.length : Int)
          ·rw [if_pos c73] at H
           have c73b0 := eq_true c73
           have c73b1 : decide (x11_2 ≤ (x5_1.length : Int)) = true := decide_eq_true c73
           clear c73
           by_cases c74 : (x5_1.length : Int) ≤ (x5_1.length : Int)
           ·rw [if_pos c74] at H
            have c74b0 := eq_true c74
            have c74b1 : decide ((x5_1.length : Int) ≤ (x5_1.length : Int)) = true := decide_eq_true c74
            clear c74
            obtain ⟨y342, hy342⟩ : ∃ y_ : List Int, y_ = ((x5_1.take ((x5_1.length : Int) : Int).toNat).drop (x11_2 : Int).toNat) := ⟨_, rfl⟩
            replace H : ((spec_l00Own.f y342).bind fun t346 => (if x305001_2.length < 3518437208883 then (if x10_2.length < 17592186044416 then (spec_l06Draw.l2 k2 (wrap64 (x4_2 - 1)) x5_1 (x10_2 ++ [x4_2]) (wrap64 (x11_2 + 2)) s0_0 t337 t338 x305000_1 (x305001_2 ++ [(⟨x4_2, 2, t346⟩ : S62)])) else (none)) else (none))) = some (r1, r2, r3, r4) := by first | (rw [hy342]; with_reducible exact H) | (have H2_ := (Option.bind_some _ _).symm.trans H; rw [hy342]; with_reducible exact H2_) | (have H2_ := (Option.bind_some _ _).symm.trans H; with_reducible exact H2_) | with_reducible exact H | (rw [hy342]; exact H) | exact H
            have Ny342 := Aside0.mk hy342
            clear hy342
            replace H := Option.bind_eq_some_iff.mp H
            obtain ⟨t346, A750, H⟩ := H
            replace H : (if x305001_2.length < 3518437208883 then (if x10_2.length < 17592186044416 then (spec_l06Draw.l2 k2 (wrap64 (x4_2 - 1)) x5_1 (x10_2 ++ [x4_2]) (wrap64 (x11_2 + 2)) s0_0 t337 t338 x305000_1 (x305001_2 ++ [(⟨x4_2, 2, t346⟩ : S62)])) else (none)) else (none)) = some (r1, r2, r3, r4) := H
            have A75 := Aside0.mk A750
            clear A750
            by_cases c76 : x305001_2.length < 3518437208883
            ·rw [if_pos c76] at H
             have LMc76 := Aside0.mk c76
             clear c76
             obtain ⟨y349, hy349⟩ : ∃ y_ : List (S62), y_ = (x305001_2 ++ [(⟨x4_2, 2, t346⟩ : S62)]) := ⟨_, rfl⟩
             replace H : (if x10_2.length < 17592186044416 then (spec_l06Draw.l2 k2 (wrap64 (x4_2 - 1)) x5_1 (x10_2 ++ [x4_2]) (wrap64 (x11_2 + 2)) s0_0 t337 t338 x305000_1 y349) else (none)) = some (r1, r2, r3, r4) := by first | (rw [hy349]; with_reducible exact H) | (have H2_ := (Option.bind_some _ _).symm.trans H; rw [hy349]; with_reducible exact H2_) | (have H2_ := (Option.bind_some _ _).symm.trans H; with_reducible exact H2_) | with_reducible exact H | (rw [hy349]; exact H) | exact H
             have Ny349 := Aside0.mk hy349
             clear hy349
             by_cases c77 : x10_2.length < 17592186044416
             ·rw [if_pos c77] at H
              have LMc77 := Aside0.mk c77
              clear c77
              obtain ⟨y352, hy352⟩ : ∃ y_ : List Int, y_ = (x10_2 ++ [x4_2]) := ⟨_, rfl⟩
              replace H : (spec_l06Draw.l2 k2 (wrap64 (x4_2 - 1)) x5_1 y352 (wrap64 (x11_2 + 2)) s0_0 t337 t338 x305000_1 y349) = some (r1, r2, r3, r4) := by first | (rw [hy352]; with_reducible exact H) | (have H2_ := (Option.bind_some _ _).symm.trans H; rw [hy352]; with_reducible exact H2_) | (have H2_ := (Option.bind_some _ _).symm.trans H; with_reducible exact H2_) | with_reducible exact H | (rw [hy352]; exact H) | exact H
              have Ny352 := Aside0.mk hy352
              clear hy352
              have H' := Aside0.mk H
              clear H
              obtain ⟨Ao78, co78, eo78⟩ := Kd.R_slice HO_5.out
              subst eo78
              try go_wp2
              have n0_ := Aside0.mk (Kd.R_drew HO_5.out)
              have n1_ := Aside0.mk (Kd.R_drew HO_10.out)
              have n2_ := Aside0.mk (Kd.R_drew HO_305000.out)
              have n3_ := Aside0.mk (Kd.S_drew HO_305001.out)
              have n4_ := Aside0.mk (blk_drew BK303.out)
              have n5_ := Aside0.mk (blk_drew BK304.out)
              have n6_ := Aside0.mk (IsS87.drew HI0.out)
              have n7_ := Aside0.mk (keep_drew HK.out)
              have n8_ := Aside0.mk (below_drew1 HB.out)
              clear HO_5
              clear HO_10
              clear HO_305000
              clear HO_305001
              clear BK303
              clear BK304
              clear HI0
              clear HK
              clear HB
              have HO_5 := n0_
              have HO_10 := n1_
              have HO_305000 := n2_
              have HO_305001 := n3_
              have BK303 := n4_
              have BK304 := n5_
              have HI0 := n6_
              have HK := n7_
              have HB := n8_
              clear n0_ n1_ n2_ n3_ n4_ n5_ n6_ n7_ n8_
              have q80 : ((x5_1.length : Int) : Int) ≤ ((x5_1.length : Int) : Int) := of_decide_eq_true (by assumption)
              obtain ⟨i080, hi080, _, hsz80, _⟩ := info_parts info2
              have hroom80 : x5_1.length ≤ co78 := (Kd.R_reads' HO_5.out).2.1
              have hC80 : Kd.C (Kd.int .i64) _ Ao78 x5_1.length x5_1 := (Kd.R_reads' HO_5.out).2.2
              have ql80 : (x11_2 : Int) ≤ ((x5_1.length : Int) : Int) := of_decide_eq_true (by assumption)
              have q080 : (0 : Int) ≤ (x11_2 : Int) := of_decide_eq_true (by assumption)
              have hcut80 := cut_mid (P := Tryd.prog) 58 2 .i64 .i64 Tryd.underlying58 hi080 1 hsz80 Ao78 x5_1.length co78 x11_2 (x5_1.length : Int) q080 ql80 q80 hroom80
              have hr80 := Kd.C_mid (lo := (x11_2 : Int).toNat) (hi := ((x5_1.length : Int) : Int).toNat) (c := co78) hC80 (by omega) (by omega) hroom80
              obtain ⟨A80, hA80⟩ : ∃ A1, A1 = (if co78 = (x11_2 : Int).toNat then Ao78 else (Ao78 : Option Addr).map (·.add ((x11_2 : Int).toNat * 1))) := ⟨_, rfl⟩
              obtain ⟨c80, hc80⟩ : ∃ c1, c1 = co78 - (x11_2 : Int).toNat := ⟨_, rfl⟩
              have hy80 : y342.length = ((x5_1.length : Int) : Int).toNat - (x11_2 : Int).toNat := (by rw [Ny342.out, List.length_drop, List.length_take] <;> omega)
              rw [show ((x5_1).take ((x5_1.length : Int) : Int).toNat).drop (x11_2 : Int).toNat = y342 from Ny342.out.symm] at hr80
              replace hr80 : Kd.C (Kd.int .i64) _ A80 y342.length y342 := (by rw [hA80]; exact hr80)
              rw [← hy80, ← hA80, ← hc80] at hcut80
              have HR345 := Aside0.mk hr80
              have HC345 := Aside0.mk (show y342.length ≤ c80 from by rw [hy80, hc80]; exact Nat.sub_le_sub_right (Nat.le_trans (by omega) hroom80) _)
              clear hr80 hC80 hroom80 hi080 hsz80 hc80
              have KY80 := Aside0.mk hy80
              have KA80 := Aside0.mk hA80
              clear hy80 hA80
              have KL80 := Aside0.mk (show ((x5_1.length : Int) : Int).toNat ≤ x5_1.length from by omega)
              have KM80 := Aside0.mk (show (x11_2 : Int).toNat ≤ ((x5_1.length : Int) : Int).toNat from by omega)
              replace q80 := eq_true q80
              refine start_ (n := 13) (S := fun w' => w'.cell? ⟨gb304, 0, none⟩ = some (u305000) ∧ w'.cell? ⟨gb304, 1, none⟩ = some (u305001)) (ds := [12]) mz24_0 (by kernel_rfl) rfl rfl ⟨(blk_cell BK304.out 0).trans rfl, (blk_cell BK304.out 1).trans rfl⟩ (fun hHeld => ?_); refine with_tabW spec_l06Draw.tab26 spec_l06Draw.bits26 (fun HT_ HW_ => ?_)
              generalize wr.drew = w79 at HO_5 HO_10 HO_305000 HO_305001 BK303 BK304 HI0 HK HB HR345 hHeld ⊢
              refine pu_z24 0 (some 88) ?_ mz24_1 rfl rfl (any_of HT_.out (by kernel_rfl)) (fun _ _ _ h => h) (Or.inl ⟨by rfl, ?_⟩) ?_ ?_ ?_
              (rotate_left; ·(intro w'; go_simp; with_reducible rfl)); (rotate_left; ·(simp only [Act.put, pq_z24]; rfl))
              refine pu_z24 2 (some 90) ?_ mz24_2 rfl rfl (any_of HT_.out (by kernel_rfl)) (fun _ _ _ h => h) (Or.inl ⟨by rfl, ?_⟩) ?_ ?_ ?_
              (rotate_left; ·(intro w'; go_simp; with_reducible rfl)); (rotate_left; ·(simp only [Act.put, pq_z24]; rfl))
              refine pu_z24 3 (some 91) ?_ mz24_3 rfl rfl (any_of HT_.out (by kernel_rfl)) (fun _ _ _ h => h) (Or.inl ⟨by rfl, ?_⟩) ?_ ?_ ?_
              (rotate_left; ·(intro w'; go_simp; with_reducible rfl)); (rotate_left; ·(simp only [Act.put, pq_z24]; rfl))
              refine pu_z24 4 (some 92) ?_ mz24_4 rfl rfl (any_of HT_.out (by kernel_rfl)) (fun _ _ _ h => h) (Or.inl ⟨by rfl, ?_⟩) ?_ ?_ ?_
              (rotate_left; ·(intro w'; go_simp; with_reducible rfl)); (rotate_left; ·(simp only [Act.put, pq_z24]; rfl))
              refine pu_z24 5 (some 93) ?_ mz24_14 rfl rfl (any_of HT_.out (by kernel_rfl)) (fun _ _ _ h => h) (Or.inl ⟨by rfl, ?_⟩) ?_ ?_ ?_
              (rotate_left; ·(intro w'; go_simp; with_reducible rfl)); (rotate_left; ·(simp only [Act.put, pq_z24]; rfl))
              refine pu_z24 6 (some 94) ?_ mz24_15 rfl rfl (any_of HT_.out (by kernel_rfl)) (fun _ _ _ h => h) (Or.inl ⟨by rfl, ?_⟩) ?_ ?_ ?_
              (rotate_left; ·(intro w'; go_simp; with_reducible rfl)); (rotate_left; ·(simp only [Act.put, pq_z24]; rfl))
              refine take_ (i := 1) (N := some 89) (v := ?_) (a' := ?_) mz24_7 rfl rfl (take_ofW HT_.out HW_.out (by kernel_rfl)) (fun _ _ _ h => h) (Or.inl ⟨by rfl, ?_⟩) hHeld ?_ ?_
              (rotate_left; ·(rintro w' ⟨s0, s1⟩; go_simp; with_reducible rfl)); (rotate_left; ·(simp only [Act.put, pq_z24]; rfl))
              refine one_ (i := 7) (N := some 95) mz24_8 rfl rfl (one_of HT_.out (by kernel_rfl)) (by decide) (fun K hK => ?_)
              refine goes_ Tryd.func49 (by kernel_rfl) rfl #[.slice A80 y342.length c80] (by rfl) rfl rfl (by (try simp only [List.map_toArray, List.map_cons, List.map_nil]); first | done | rfl | (simp only [List.length_drop, List.length_take]; rfl)) ?_
              with_reducible refine (spec_l00Own.calls _ _ y342 t346 _ ?side1 ?side2 A75.out).mono ?_
              (case side1 => repeat (first | exact (by repeat (first | (with_reducible exact HR345.out) | (with_reducible refine Kd.C_alloc ?_ _) | (with_reducible refine Kd.C_drewN ?_ _) | (with_reducible refine Kd.C_drew ?_) | exact HR345.out)) | (with_reducible refine Kd.C_alloc ?_ _) | (with_reducible refine Kd.C_drewN ?_ _) | (with_reducible refine Kd.C_drew ?_)))
              (case side2 => exact HC345.out)
              rintro e w81 ⟨v347, rfl, ho0, hb⟩
              refine ⟨_, rfl, ?_⟩
              have n0_ := Aside0.mk (Kd.R_elder' (by (with_reducible repeat (first | apply Kd.R_alloc | apply Kd.R_drewN | apply Kd.R_drew)); exact HO_5.out) (Kd.R_base ho0) hb)
              have n1_ := Aside0.mk (Kd.R_elder' (by (with_reducible repeat (first | apply Kd.R_alloc | apply Kd.R_drewN | apply Kd.R_drew)); exact HO_10.out) (Kd.R_base ho0) hb)
              have n2_ := Aside0.mk (Kd.R_below (by (with_reducible repeat (first | apply Kd.R_alloc | apply Kd.R_drewN | apply Kd.R_drew)); exact HO_305000.out) hb)
              have n3_ := Aside0.mk (Kd.S_elder' (by (with_reducible repeat (first | apply Kd.S_alloc | apply Kd.S_drewN | apply Kd.S_drew)); exact HO_305001.out) (Kd.R_base ho0) hb)
              have n4_ := Aside0.mk (Kd.R_lower (Kd.R_new' (Kd.R_new' ho0 (Kd.R_lt (by (with_reducible repeat (first | apply Kd.R_alloc | apply Kd.R_drewN | apply Kd.R_drew)); exact HO_5.out))) (Kd.R_lt (by (with_reducible repeat (first | apply Kd.R_alloc | apply Kd.R_drewN | apply Kd.R_drew)); exact HO_10.out))) (keep_size (w := w) (g := g) (row := none) (by repeat (first | (with_reducible first | exact HK.out | apply KeepBut.set_ | apply keep_drewN | apply keep_drew | apply keep_alloc | refine keep_far ?_ GW303.out _ | refine keep_far ?_ GW304.out _) | exact HK.out))))
              have n5_ := Aside0.mk (blk_below (g := gb303) (o := .cells #[.slice none 0 0, .slice none 0 0] 32 (0, 0)) (by (with_reducible repeat first | apply blk_drewN | apply blk_drew | apply blk_alloc); exact BK303.out) hb)
              have n6_ := Aside0.mk (blk_below (g := gb304) (o := .cells #[u305000, u305001] 32 (0, 0)) (by (with_reducible repeat first | apply blk_drewN | apply blk_drew | apply blk_alloc); exact BK304.out) hb)
              have n7_ := Aside0.mk (IsS87.below (by repeat (first | (with_reducible first | exact HI0.out | apply IsS87.alloc | apply IsS87.drewN | apply IsS87.drew | apply IsS87.set_1 | apply IsS87.set_2 | refine IsS87.far ?_ NB0_303.out _ | refine IsS87.far ?_ NB0_304.out _) | exact HI0.out)) hb)
              have n8_ := Aside0.mk (Kd.C_below (by repeat (first | (with_reducible exact HR345.out) | (with_reducible refine Kd.C_alloc ?_ _) | (with_reducible refine Kd.C_drewN ?_ _) | (with_reducible refine Kd.C_drew ?_) | exact HR345.out)) hb)
              have n9_ := Aside0.mk (KeepBut.trans (by repeat (first | (with_reducible first | exact HK.out | apply KeepBut.set_ | apply keep_drewN | apply keep_drew | apply keep_alloc | refine keep_far ?_ GW303.out _ | refine keep_far ?_ GW304.out _) | exact HK.out)) (KeepBut.of_below hb g none) (.inl rfl))
              have n10_ := Aside0.mk (below_step (by repeat (first | (with_reducible first | exact HB.out | apply below_alloc | apply pw_below_drewN | apply below_drew1 | refine below_set ?_ (IsS87.ge HI0.out) | refine below_set ?_ GE303.out | refine below_set ?_ GE304.out) | exact HB.out)) hb)
              clear HO_5
              clear HO_10
              clear HO_305000
              clear HO_305001
              clear BK303
              clear BK304
              clear HI0
              clear HR345
              clear HK
              clear HB
              have HO_5 := n0_
              have HO_10 := n1_
              have HO_305000 := n2_
              have HO_305001 := n3_
              have HO348 := n4_
              have BK303 := n5_
              have BK304 := n6_
              have HI0 := n7_
              have HR345 := n8_
              have HK := n9_
              have HB := n10_
              clear n0_ n1_ n2_ n3_ n4_ n5_ n6_ n7_ n8_ n9_ n10_
              (try clear hb)
              (try clear hb2)
              (try clear hk)
              (try clear hi)
              (try clear ho0)
              obtain ⟨Ao82, co82, eo82⟩ := Kd.R_slice HO348.out
              (first | subst eo82 | (injection eo82 with f1_ f2_ f3_; have f4_ := f1_.symm; have f5_ := f3_.symm; clear f1_ f2_ f3_; subst f4_; subst f5_))
              refine hK.out _ _ ⟨(blk_cell BK304.out 0).trans rfl, (blk_cell BK304.out 1).trans rfl⟩ (fun hHeld => ?_)
              clear hK K
              refine norm_ (a' := ?_) ?_ ?_
              (rotate_left; ·(show Act.put _ (some 95) _ = _; simp only [Act.put, pq_z24]; rfl))
              refine pu_z24 8 (some 96) ?_ mz24_9 rfl rfl (any_of HT_.out (by kernel_rfl)) (fun _ _ _ h => h) (Or.inl ⟨by rfl, ?_⟩) ?_ ?_ ?_
              (rotate_left; ·(intro w'; go_simp; with_reducible rfl)); (rotate_left; ·(simp only [Act.put, pq_z24]; rfl))
              refine one_ (i := 9) (N := some 97) mz24_10 rfl rfl (one_of HT_.out (by kernel_rfl)) (by decide) (fun K hK => ?_)
              refine value_ (w1 := ?_) (v := ?_) (by rfl) rfl ?_ ?_
              rotate_left 2
              ·go_simp
               constructor
               ·rfl
               ·rfl
              refine hK.out _ _ ⟨(blk_cell (blk_alloc BK304.out _) 0).trans rfl, (blk_cell (blk_alloc BK304.out _) 1).trans rfl⟩ (fun hHeld => ?_)
              clear hK K
              refine norm_ (a' := ?_) ?_ ?_
              (rotate_left; ·(show Act.put _ (some 97) _ = _; simp only [Act.put, pq_z24]; rfl))
              refine one_ (i := 10) (N := some 98) mz24_11 rfl rfl (one_of HT_.out (by kernel_rfl)) (by decide) (fun K hK => ?_)
              refine Kd.S_append_step k62 w.heap.size (by rfl) (.tmp 89) (.tmp 97) 30 62 (.agg #[(.int .i64 0), (.int .i64 0), (.slice none 0 0)]) 40 rfl Tryd.underlying30 info62 rfl (by decide) (by omega) u305001 x305001_2 (⟨x4_2, 2, t346⟩ : S62) [.int .i64 x4_2, .int .i64 2, .slice Ao82 t346.length co82] (fun k_ => some k_ ≠ (.slice Ao78 x5_1.length co78 : Value).ownBlock ∧ some k_ ≠ (u10 : Value).ownBlock) (fun k_ => some k_ = (.slice Ao82 t346.length co82 : Value).ownBlock) rfl rfl ?aP (fun k_ hk_ => ((Kd.R_mono (ok' := fun k_ => ((fun k_ => some k_ ≠ (.slice Ao78 x5_1.length co78 : Value).ownBlock ∧ some k_ ≠ (u10 : Value).ownBlock)) k_ ∧ some k_ ≠ (u305001 : Value).ownBlock) (Kd.R_apart' (HO348.out) (Kd.S_typed HO_305001.out) (by decide)) (fun k_ hk => ⟨⟨hk.1.1.2, hk.1.2⟩, hk.2⟩))).1 k_ hk_.symm) ?aF ?aO (Below.refl _ _) ?aS ?aL ?_
              (case aP => exact k62_mkM _ _ _ (⟨x4_2, 2, t346⟩ : S62) (Kd.R_mono (Kd.R_tight rfl (Kd.R_mono (ok' := fun k_ => ((fun k_ => some k_ ≠ (.slice Ao78 x5_1.length co78 : Value).ownBlock ∧ some k_ ≠ (u10 : Value).ownBlock)) k_ ∧ some k_ ≠ (u305001 : Value).ownBlock) (Kd.R_apart' (HO348.out) (Kd.S_typed HO_305001.out) (by decide)) (fun k_ hk => ⟨⟨hk.1.1.2, hk.1.2⟩, hk.2⟩))) (fun _ h_ => h_)))
              (case aF => exact (fun k_ hk => ⟨Kd.fresh' (Kd.R_lt (by (with_reducible repeat (first | apply Kd.R_alloc | apply Kd.R_drewN | apply Kd.R_drew)); exact HO_5.out)) k_ hk, Kd.fresh' (Kd.R_lt (by (with_reducible repeat (first | apply Kd.R_alloc | apply Kd.R_drewN | apply Kd.R_drew)); exact HO_10.out)) k_ hk⟩))
              (case aO => exact (by (with_reducible repeat (first | apply Kd.S_alloc | apply Kd.S_drewN | apply Kd.S_drew)); exact Kd.S_mono HO_305001.out (fun k_ hk => ⟨⟨hk.1.1, hk.1.2⟩, fun e_ => hk.2 e_⟩)))
              (case aS => exact (keep_size (w := w) (g := g) (row := none) (by repeat (first | (with_reducible first | exact HK.out | apply KeepBut.set_ | apply keep_drewN | apply keep_drew | apply keep_alloc | refine keep_far ?_ GW303.out _ | refine keep_far ?_ GW304.out _) | exact HK.out))))
              (case aL => have := LMc76.out; omega)
              intro v350 w83 ho hb hg hat
              rw [← Ny349.out] at ho
              have n0_ := Aside0.mk (Kd.R_over' (by (with_reducible repeat (first | apply Kd.R_alloc | apply Kd.R_drewN | apply Kd.R_drew)); exact HO_5.out) (Kd.S_typed (by (with_reducible repeat (first | apply Kd.S_alloc | apply Kd.S_drewN | apply Kd.S_drew)); exact HO_305001.out)) (by decide) hg)
              have n1_ := Aside0.mk (Kd.R_over' (by (with_reducible repeat (first | apply Kd.R_alloc | apply Kd.R_drewN | apply Kd.R_drew)); exact HO_10.out) (Kd.S_typed (by (with_reducible repeat (first | apply Kd.S_alloc | apply Kd.S_drewN | apply Kd.S_drew)); exact HO_305001.out)) (by decide) hg)
              have n2_ := Aside0.mk (Kd.R_over' (by (with_reducible repeat (first | apply Kd.R_alloc | apply Kd.R_drewN | apply Kd.R_drew)); exact HO_305000.out) (Kd.S_typed (by (with_reducible repeat (first | apply Kd.S_alloc | apply Kd.S_drewN | apply Kd.S_drew)); exact HO_305001.out)) (by decide) hg)
              have n3_ := Aside0.mk (blk_grown (g := gb303) (o := .cells #[.slice none 0 0, .slice none 0 0] 32 (0, 0)) (by (with_reducible repeat first | apply blk_drewN | apply blk_drew | apply blk_alloc); exact BK303.out) hg (Kd.S_ne HO_305001.out BK303.out (by decide)))
              have n4_ := Aside0.mk (blk_grown (g := gb304) (o := .cells #[u305000, u305001] 32 (0, 0)) (by (with_reducible repeat first | apply blk_drewN | apply blk_drew | apply blk_alloc); exact BK304.out) hg (Kd.S_ne HO_305001.out BK304.out (by decide)))
              have n5_ := Aside0.mk (IsS87.grown (by repeat (first | (with_reducible first | exact HI0.out | apply IsS87.alloc | apply IsS87.drewN | apply IsS87.drew | apply IsS87.set_1 | apply IsS87.set_2 | refine IsS87.far ?_ NB0_303.out _ | refine IsS87.far ?_ NB0_304.out _) | exact HI0.out)) hg (IsS87.own_neS HI0.out HO_305001.out (by decide)))
              have n6_ := Aside0.mk (below_weaken (by repeat (first | (with_reducible first | exact HB.out | apply below_alloc | apply pw_below_drewN | apply below_drew1 | refine below_set ?_ (IsS87.ge HI0.out) | refine below_set ?_ GE303.out | refine below_set ?_ GE304.out) | exact HB.out)) HL.out hb)
              have n7_ := Aside0.mk (KeepBut.trans (by repeat (first | (with_reducible first | exact HK.out | apply KeepBut.set_ | apply keep_drewN | apply keep_drew | apply keep_alloc | refine keep_far ?_ GW303.out _ | refine keep_far ?_ GW304.out _) | exact HK.out)) (KeepBut.of_grown hg g) (Kd.S_base2 HO_305001.out))
              have n8_ := Aside0.mk ((show Kd.C (Kd.int .i64) w83 A80 y342.length y342 from by rw [Ny342.out, KA80.out]; exact Kd.C_mid (lo := (x11_2 : Int).toNat) (hi := ((x5_1.length : Int) : Int).toNat) (c := co78) ((Kd.R_reads' (Kd.R_over' (by (with_reducible repeat (first | apply Kd.R_alloc | apply Kd.R_drewN | apply Kd.R_drew)); exact HO_5.out) (Kd.S_typed (by (with_reducible repeat (first | apply Kd.S_alloc | apply Kd.S_drewN | apply Kd.S_drew)); exact HO_305001.out)) (by decide) hg)).2.2) KM80.out KL80.out ((Kd.R_reads' (Kd.R_over' (by (with_reducible repeat (first | apply Kd.R_alloc | apply Kd.R_drewN | apply Kd.R_drew)); exact HO_5.out) (Kd.S_typed (by (with_reducible repeat (first | apply Kd.S_alloc | apply Kd.S_drewN | apply Kd.S_drew)); exact HO_305001.out)) (by decide) hg)).2.1)))
              have n9_ := Aside0.mk (ho)
              clear HO_5
              clear HO_10
              clear HO_305000
              clear BK303
              clear BK304
              clear HI0
              clear HB
              clear HK
              clear HR345
              clear HO_305001
              clear HO348
              have HO_5 := n0_
              have HO_10 := n1_
              have HO_305000 := n2_
              have BK303 := n3_
              have BK304 := n4_
              have HI0 := n5_
              have HB := n6_
              have HK := n7_
              have HR345 := n8_
              have HO351 := n9_
              clear n0_ n1_ n2_ n3_ n4_ n5_ n6_ n7_ n8_ n9_
              clear ho hb hg hat
              obtain ⟨Ao84, co84, eo84⟩ := Kd.S_slice HO351.out
              (first | subst eo84 | (injection eo84 with f1_ f2_ f3_; have f4_ := f1_.symm; have f5_ := f3_.symm; clear f1_ f2_ f3_; subst f4_; subst f5_))
              refine hK.out _ _ ⟨(blk_cell BK304.out 0).trans rfl, (blk_cell BK304.out 1).trans rfl⟩ (fun hHeld => ?_)
              clear hK K
              refine norm_ (a' := ?_) ?_ ?_
              (rotate_left; ·(show Act.put _ (some 98) _ = _; simp only [Act.put, pq_z24]; rfl))
              refine pu_z24 11 (some 99) ?_ mz24_12 rfl rfl (any_of HT_.out (by kernel_rfl)) (fun _ _ _ h => h) (Or.inl ⟨by rfl, ?_⟩) ?_ ?_ ?_
              (rotate_left; ·(intro w'; go_simp; with_reducible rfl)); (rotate_left; ·(simp only [Act.put, pq_z24]; rfl))
              refine last_ (i := 12) (N := none) mz24_13 rfl rfl (one_of HT_.out (by kernel_rfl)) (by decide) (fun K hK => ?_)
              have hs85 : w83.cell? ⟨gb304, 1, none⟩ = some (u305001) := (blk_cell BK304.out 1).trans rfl
              have hfs85 := blk_frozen BK304.out 1
              have hns85_0 := NB303_304.out
              have hms85_0 := NB304_303.out
              refine skip_ (w1 := ?_) (by rfl) rfl ?_ ?_
              rotate_left
              ·go_simp
               rfl
              refine hK.out _ _ ?_
              clear hK K
              refine done_ (done_of HT_.out (by kernel_rfl)) ?_
              have m0_ := Aside0.mk (Kd.R_mono (Kd.R_far (p := ⟨gb304, 1, none⟩) (Kd.R_types HO_5.out BK304.out (by decide)) (fun _ hk => hk.2) (.slice Ao84 y349.length co84)) (fun _ h_ => h_.1))
              have m1_ := Aside0.mk (Kd.R_mono (Kd.R_far (p := ⟨gb304, 1, none⟩) (Kd.R_types HO_10.out BK304.out (by decide)) (fun _ hk => hk.2) (.slice Ao84 y349.length co84)) (fun _ h_ => h_.1))
              have m2_ := Aside0.mk (Kd.R_mono (Kd.R_far (p := ⟨gb304, 1, none⟩) (Kd.R_types HO_305000.out BK304.out (by decide)) (fun _ hk => hk.2) (.slice Ao84 y349.length co84)) (fun _ h_ => h_.1))
              have m3_ := Aside0.mk (Kd.S_mono (Kd.S_far (p := ⟨gb304, 1, none⟩) (Kd.S_types HO351.out BK304.out (by decide)) (fun _ hk => hk.2) (.slice Ao84 y349.length co84)) (fun _ h_ => h_.1))
              have m4_ := Aside0.mk (blk_far (p := ⟨gb304, 1, none⟩) BK303.out NB303_304.out (.slice Ao84 y349.length co84))
              have m5_ := Aside0.mk (show (w83.setCell ⟨gb304, 1, none⟩ (.slice Ao84 y349.length co84)).heap[gb304]? = some (.cells #[u305000, .slice Ao84 y349.length co84] 32 (0, 0)) from blk_put (cs := #[u305000, u305001]) BK304.out 1 _ rfl)
              have m6_ := Aside0.mk (IsS87.far (p := ⟨gb304, 1, none⟩) HI0.out NB0_304.out (.slice Ao84 y349.length co84))
              have m7_ := Aside0.mk (below_set (v := (.slice Ao84 y349.length co84)) (j := 1) HB.out GE304.out)
              have m8_ := Aside0.mk (keep_far (p := ⟨gb304, 1, none⟩) HK.out GW304.out (.slice Ao84 y349.length co84))
              clear HO_5 HO_10 HO_305000 HO351 BK303 BK304 HI0 HB HK HR345
              generalize (w83.setCell ⟨gb304, 1, none⟩ (.slice Ao84 y349.length co84)) = wz83 at m0_ m1_ m2_ m3_ m4_ m5_ m6_ m7_ m8_ ⊢
              have HO_5 := m0_
              have HO_10 := m1_
              have HO_305000 := m2_
              have HO351 := m3_
              have BK303 := m4_
              have BK304 := m5_
              have HI0 := m6_
              have HB := m7_
              have HK := m8_
              clear m0_ m1_ m2_ m3_ m4_ m5_ m6_ m7_ m8_
              go_wp2_with (first | ((with_reducible refine gate_builtin (b := .append) (xs := #[.tmp 100, .tmp 102]) rfl ?_); at_builtin; refine Kd.R_append (Kd.int .i64) w.heap.size rfl (.tmp 100) (.tmp 102) 58 2 (.int .i64 0) 8 rfl Tryd.underlying58 info2 rfl (by decide) (by omega) u10 x10_2 x4_2 [.int .i64 x4_2] (fun k_ => some k_ ≠ (.slice Ao78 x5_1.length co78 : Value).ownBlock) (fun _ => False) rfl rfl ?aP (fun _ hk => hk.elim) ?aF ?aO (Below.refl _ _) ?aS ?aL ?_; (case aP => exact rfl); (case aF => exact (fun k_ hk => Kd.fresh' (Kd.R_lt (HO_5.out)) k_ hk)); (case aO => exact (Kd.R_mono HO_10.out (fun _ hk => hk.1))); (case aS => exact (keep_size HK.out)); (case aL => have := LMc77.out; omega); intro v353 w86 ho hb hg hat; rw [← Ny352.out] at ho; have n0_ := Aside0.mk (Kd.R_after (ok := (fun _ => True)) (Kd.R_mono HO_5.out (fun _ hk => ⟨trivial, hk.1⟩)) hg hat); have n1_ := Aside0.mk (Kd.R_over' (HO_305000.out) (Kd.R_typed (HO_10.out)) (by decide) hg); have n2_ := Aside0.mk (blk_grown BK303.out hg (Kd.R_ne HO_10.out BK303.out (by decide))); have n3_ := Aside0.mk (blk_grown BK304.out hg (Kd.R_ne HO_10.out BK304.out (by decide))); have n4_ := Aside0.mk (IsS87.grown HI0.out hg (IsS87.own_ne HI0.out HO_10.out (by decide))); have n5_ := Aside0.mk (Kd.S_after (ok := (fun k_ => some k_ ≠ (.slice Ao78 x5_1.length co78 : Value).ownBlock)) (Kd.S_mono HO351.out (fun _ hk => ⟨hk.1, hk.2⟩)) hg hat); have n6_ := Aside0.mk (below_weaken HB.out HL.out hb); have n7_ := Aside0.mk (KeepBut.trans HK.out (KeepBut.of_grown hg g) (Kd.R_base2 HO_10.out)); have n8_ := Aside0.mk trivial; have n9_ := Aside0.mk (ho); clear HO_5; clear HO_305000; clear BK303; clear BK304; clear HI0; clear HO351; clear HB; clear HK; clear HO_10; have HO_5 := n0_; have HO_305000 := n1_; have BK303 := n2_; have BK304 := n3_; have HI0 := n4_; have HO351 := n5_; have HB := n6_; have HK := n7_; have HR345 := n8_; have HO354 := n9_; clear n0_ n1_ n2_ n3_ n4_ n5_ n6_ n7_ n8_ n9_; clear ho hb hg hat))
              go_roundg k2
              case measure => have := HK1.out; have := HK2.out; omega
              case rel => exact ⟨(wrap64 (x4_2 - 1)), (y352), (wrap64 (x11_2 + 2)), (y349), (.slice Ao84 y349.length co84), (by first | rfl | (simp; done) | (simp [*]; done)), (by first | rfl | (simp; done) | (simp [*]; done)), H', ⟨by have := HK1.out; have := HK2.out; omega⟩, ⟨by (with_reducible repeat (first | apply Kd.R_alloc | apply Kd.R_drewN | apply Kd.R_drew)); exact Kd.R_mono HO_5.out (fun _ hk => hk.2)⟩, ⟨by (with_reducible repeat (first | apply Kd.R_alloc | apply Kd.R_drewN | apply Kd.R_drew)); exact HO354.out⟩, ⟨by (with_reducible repeat (first | apply Kd.R_alloc | apply Kd.R_drewN | apply Kd.R_drew)); exact HO_305000.out⟩, ⟨by (with_reducible repeat (first | apply Kd.S_alloc | apply Kd.S_drewN | apply Kd.S_drew)); exact HO351.out⟩, ⟨by (with_reducible repeat first | apply blk_drewN | apply blk_drew | apply blk_alloc); exact BK303.out⟩, ⟨by (with_reducible repeat first | apply blk_drewN | apply blk_drew | apply blk_alloc); exact BK304.out⟩, ⟨by repeat (first | (with_reducible first | exact HI0.out | apply IsS87.alloc | apply IsS87.drewN | apply IsS87.drew | apply IsS87.set_1 | apply IsS87.set_2 | refine IsS87.far ?_ NB0_303.out _ | refine IsS87.far ?_ NB0_304.out _) | exact HI0.out)⟩, ⟨by repeat (first | (with_reducible first | exact HK.out | apply KeepBut.set_ | apply keep_drewN | apply keep_drew | apply keep_alloc | refine keep_far ?_ GW303.out _ | refine keep_far ?_ GW304.out _) | exact HK.out)⟩, ⟨by repeat (first | (with_reducible first | exact HB.out | apply below_alloc | apply pw_below_drewN | apply below_drew1 | refine below_set ?_ (IsS87.ge HI0.out) | refine below_set ?_ GE303.out | refine below_set ?_ GE304.out) | exact HB.out)⟩⟩
             ·rw [if_neg c77] at H
              exact absurd H (by simp)
            ·rw [if_neg c76] at H
             exact absurd H (by simp)
           ·rw [if_neg c74] at H
            exact absurd H (by simp)
          ·rw [if_neg c73] at H
           exact absurd H (by simp)
         ·rw [if_neg c72] at H
          exact absurd H (by simp)
        ·rw [if_neg c71] at H
         have c71b0 : decide ((x5_1.length : Int) < (wrap64 (x11_2 + 2))) = false := decide_eq_false c71
         clear c71
         by_cases c87 : 0 ≤ x11_2
         ·rw [if_pos c87] at H
          have c87b0 := eq_true c87
          have c87b1 : decide (0 ≤ x11_2) = true := decide_eq_true c87
          clear c87
          by_cases c88 : x11_2 ≤ (wrap64 (x11_2 + 2))
          ·rw [if_pos c88] at H
           have c88b0 := eq_true c88
           have c88b1 : decide (x11_2 ≤ (wrap64 (x11_2 + 2))) = true := decide_eq_true c88
           by_cases c89 : (wrap64 (x11_2 + 2)) ≤ (x5_1.length : Int)
           ·rw [if_pos c89] at H
            have c89b0 := eq_true c89
            have c89b1 : decide ((wrap64 (x11_2 + 2)) ≤ (x5_1.length : Int)) = true := decide_eq_true c89
            obtain ⟨y355, hy355⟩ : ∃ y_ : List Int, y_ = ((x5_1.take ((wrap64 (x11_2 + 2)) : Int).toNat).drop (x11_2 : Int).toNat) := ⟨_, rfl⟩
            replace H : ((spec_l00Own.f y355).bind fun t359 => (if x305001_2.length < 3518437208883 then (if x10_2.length < 17592186044416 then (spec_l06Draw.l2 k2 (wrap64 (x4_2 - 1)) x5_1 (x10_2 ++ [x4_2]) (wrap64 (x11_2 + 2)) s0_0 t337 t338 x305000_1 (x305001_2 ++ [(⟨x4_2, 2, t359⟩ : S62)])) else (none)) else (none))) = some (r1, r2, r3, r4) := by first | (rw [hy355]; with_reducible exact H) | (have H2_ := (Option.bind_some _ _).symm.trans H; rw [hy355]; with_reducible exact H2_) | (have H2_ := (Option.bind_some _ _).symm.trans H; with_reducible exact H2_) | with_reducible exact H | (rw [hy355]; exact H) | exact H
            have Ny355 := Aside0.mk hy355
            clear hy355
            replace H := Option.bind_eq_some_iff.mp H
            obtain ⟨t359, A900, H⟩ := H
            replace H : (if x305001_2.length < 3518437208883 then (if x10_2.length < 17592186044416 then (spec_l06Draw.l2 k2 (wrap64 (x4_2 - 1)) x5_1 (x10_2 ++ [x4_2]) (wrap64 (x11_2 + 2)) s0_0 t337 t338 x305000_1 (x305001_2 ++ [(⟨x4_2, 2, t359⟩ : S62)])) else (none)) else (none)) = some (r1, r2, r3, r4) := H
            have A90 := Aside0.mk A900
            clear A900
            by_cases c91 : x305001_2.length < 3518437208883
            ·rw [if_pos c91] at H
             have LMc91 := Aside0.mk c91
             clear c91
             obtain ⟨y362, hy362⟩ : ∃ y_ : List (S62), y_ = (x305001_2 ++ [(⟨x4_2, 2, t359⟩ : S62)]) := ⟨_, rfl⟩
             replace H : (if x10_2.length < 17592186044416 then (spec_l06Draw.l2 k2 (wrap64 (x4_2 - 1)) x5_1 (x10_2 ++ [x4_2]) (wrap64 (x11_2 + 2)) s0_0 t337 t338 x305000_1 y362) else (none)) = some (r1, r2, r3, r4) := by first | (rw [hy362]; with_reducible exact H) | (have H2_ := (Option.bind_some _ _).symm.trans H; rw [hy362]; with_reducible exact H2_) | (have H2_ := (Option.bind_some _ _).symm.trans H; with_reducible exact H2_) | with_reducible exact H | (rw [hy362]; exact H) | exact H
             have Ny362 := Aside0.mk hy362
             clear hy362
             by_cases c92 : x10_2.length < 17592186044416
             ·rw [if_pos c92] at H
              have LMc92 := Aside0.mk c92
              clear c92
              obtain ⟨y365, hy365⟩ : ∃ y_ : List Int, y_ = (x10_2 ++ [x4_2]) := ⟨_, rfl⟩
              replace H : (spec_l06Draw.l2 k2 (wrap64 (x4_2 - 1)) x5_1 y365 (wrap64 (x11_2 + 2)) s0_0 t337 t338 x305000_1 y362) = some (r1, r2, r3, r4) := by first | (rw [hy365]; with_reducible exact H) | (have H2_ := (Option.bind_some _ _).symm.trans H; rw [hy365]; with_reducible exact H2_) | (have H2_ := (Option.bind_some _ _).symm.trans H; with_reducible exact H2_) | with_reducible exact H | (rw [hy365]; exact H) | exact H
              have Ny365 := Aside0.mk hy365
              clear hy365
              have H' := Aside0.mk H
              clear H
              obtain ⟨Ao93, co93, eo93⟩ := Kd.R_slice HO_5.out
              subst eo93
              try go_wp2
              have n0_ := Aside0.mk (Kd.R_drew HO_5.out)
              have n1_ := Aside0.mk (Kd.R_drew HO_10.out)
              have n2_ := Aside0.mk (Kd.R_drew HO_305000.out)
              have n3_ := Aside0.mk (Kd.S_drew HO_305001.out)
              have n4_ := Aside0.mk (blk_drew BK303.out)
              have n5_ := Aside0.mk (blk_drew BK304.out)
              have n6_ := Aside0.mk (IsS87.drew HI0.out)
              have n7_ := Aside0.mk (keep_drew HK.out)
              have n8_ := Aside0.mk (below_drew1 HB.out)
              clear HO_5
              clear HO_10
              clear HO_305000
              clear HO_305001
              clear BK303
              clear BK304
              clear HI0
              clear HK
              clear HB
              have HO_5 := n0_
              have HO_10 := n1_
              have HO_305000 := n2_
              have HO_305001 := n3_
              have BK303 := n4_
              have BK304 := n5_
              have HI0 := n6_
              have HK := n7_
              have HB := n8_
              clear n0_ n1_ n2_ n3_ n4_ n5_ n6_ n7_ n8_
              have q95 : ((wrap64 (x11_2 + 2)) : Int) ≤ ((x5_1.length : Int) : Int) := of_decide_eq_true (by assumption)
              obtain ⟨i095, hi095, _, hsz95, _⟩ := info_parts info2
              have hroom95 : x5_1.length ≤ co93 := (Kd.R_reads' HO_5.out).2.1
              have hC95 : Kd.C (Kd.int .i64) _ Ao93 x5_1.length x5_1 := (Kd.R_reads' HO_5.out).2.2
              have ql95 : (x11_2 : Int) ≤ ((wrap64 (x11_2 + 2)) : Int) := of_decide_eq_true (by assumption)
              have q095 : (0 : Int) ≤ (x11_2 : Int) := of_decide_eq_true (by assumption)
              have hcut95 := cut_mid (P := Tryd.prog) 58 2 .i64 .i64 Tryd.underlying58 hi095 1 hsz95 Ao93 x5_1.length co93 x11_2 (wrap64 (x11_2 + 2)) q095 ql95 q95 hroom95
              have hr95 := Kd.C_mid (lo := (x11_2 : Int).toNat) (hi := ((wrap64 (x11_2 + 2)) : Int).toNat) (c := co93) hC95 (by omega) (by omega) hroom95
              obtain ⟨A95, hA95⟩ : ∃ A1, A1 = (if co93 = (x11_2 : Int).toNat then Ao93 else (Ao93 : Option Addr).map (·.add ((x11_2 : Int).toNat * 1))) := ⟨_, rfl⟩
              obtain ⟨c95, hc95⟩ : ∃ c1, c1 = co93 - (x11_2 : Int).toNat := ⟨_, rfl⟩
              have hy95 : y355.length = ((wrap64 (x11_2 + 2)) : Int).toNat - (x11_2 : Int).toNat := (by rw [Ny355.out, List.length_drop, List.length_take] <;> omega)
              rw [show ((x5_1).take ((wrap64 (x11_2 + 2)) : Int).toNat).drop (x11_2 : Int).toNat = y355 from Ny355.out.symm] at hr95
              replace hr95 : Kd.C (Kd.int .i64) _ A95 y355.length y355 := (by rw [hA95]; exact hr95)
              rw [← hy95, ← hA95, ← hc95] at hcut95
              have HR358 := Aside0.mk hr95
              have HC358 := Aside0.mk (show y355.length ≤ c95 from by rw [hy95, hc95]; exact Nat.sub_le_sub_right (Nat.le_trans (by omega) hroom95) _)
              clear hr95 hC95 hroom95 hi095 hsz95 hc95
              have KY95 := Aside0.mk hy95
              have KA95 := Aside0.mk hA95
              clear hy95 hA95
              have KL95 := Aside0.mk (show ((wrap64 (x11_2 + 2)) : Int).toNat ≤ x5_1.length from by omega)
              have KM95 := Aside0.mk (show (x11_2 : Int).toNat ≤ ((wrap64 (x11_2 + 2)) : Int).toNat from by omega)
              replace q95 := eq_true q95
              refine start_ (n := 13) (S := fun w' => w'.cell? ⟨gb304, 0, none⟩ = some (u305000) ∧ w'.cell? ⟨gb304, 1, none⟩ = some (u305001)) (ds := [12]) mz24_0 (by kernel_rfl) rfl rfl ⟨(blk_cell BK304.out 0).trans rfl, (blk_cell BK304.out 1).trans rfl⟩ (fun hHeld => ?_); refine with_tabW spec_l06Draw.tab26 spec_l06Draw.bits26 (fun HT_ HW_ => ?_)
              generalize wr.drew = w94 at HO_5 HO_10 HO_305000 HO_305001 BK303 BK304 HI0 HK HB HR358 hHeld ⊢
              refine pu_z24 0 (some 88) ?_ mz24_1 rfl rfl (any_of HT_.out (by kernel_rfl)) (fun _ _ _ h => h) (Or.inl ⟨by rfl, ?_⟩) ?_ ?_ ?_
              (rotate_left; ·(intro w'; go_simp; with_reducible rfl)); (rotate_left; ·(simp only [Act.put, pq_z24]; rfl))
              refine pu_z24 2 (some 90) ?_ mz24_2 rfl rfl (any_of HT_.out (by kernel_rfl)) (fun _ _ _ h => h) (Or.inl ⟨by rfl, ?_⟩) ?_ ?_ ?_
              (rotate_left; ·(intro w'; go_simp; with_reducible rfl)); (rotate_left; ·(simp only [Act.put, pq_z24]; rfl))
              refine pu_z24 3 (some 91) ?_ mz24_3 rfl rfl (any_of HT_.out (by kernel_rfl)) (fun _ _ _ h => h) (Or.inl ⟨by rfl, ?_⟩) ?_ ?_ ?_
              (rotate_left; ·(intro w'; go_simp; with_reducible rfl)); (rotate_left; ·(simp only [Act.put, pq_z24]; rfl))
              refine pu_z24 4 (some 92) ?_ mz24_4 rfl rfl (any_of HT_.out (by kernel_rfl)) (fun _ _ _ h => h) (Or.inl ⟨by rfl, ?_⟩) ?_ ?_ ?_
              (rotate_left; ·(intro w'; go_simp; with_reducible rfl)); (rotate_left; ·(simp only [Act.put, pq_z24]; rfl))
              refine pu_z24 5 (some 93) ?_ mz24_14 rfl rfl (any_of HT_.out (by kernel_rfl)) (fun _ _ _ h => h) (Or.inl ⟨by rfl, ?_⟩) ?_ ?_ ?_
              (rotate_left; ·(intro w'; go_simp; with_reducible rfl)); (rotate_left; ·(simp only [Act.put, pq_z24]; rfl))
              refine pu_z24 6 (some 94) ?_ mz24_15 rfl rfl (any_of HT_.out (by kernel_rfl)) (fun _ _ _ h => h) (Or.inl ⟨by rfl, ?_⟩) ?_ ?_ ?_
              (rotate_left; ·(intro w'; go_simp; with_reducible rfl)); (rotate_left; ·(simp only [Act.put, pq_z24]; rfl))
              refine take_ (i := 1) (N := some 89) (v := ?_) (a' := ?_) mz24_7 rfl rfl (take_ofW HT_.out HW_.out (by kernel_rfl)) (fun _ _ _ h => h) (Or.inl ⟨by rfl, ?_⟩) hHeld ?_ ?_
              (rotate_left; ·(rintro w' ⟨s0, s1⟩; go_simp; with_reducible rfl)); (rotate_left; ·(simp only [Act.put, pq_z24]; rfl))
              refine one_ (i := 7) (N := some 95) mz24_8 rfl rfl (one_of HT_.out (by kernel_rfl)) (by decide) (fun K hK => ?_)
              refine goes_ Tryd.func49 (by kernel_rfl) rfl #[.slice A95 y355.length c95] (by rfl) rfl rfl (by (try simp only [List.map_toArray, List.map_cons, List.map_nil]); first | done | rfl | (simp only [List.length_drop, List.length_take]; rfl)) ?_
              with_reducible refine (spec_l00Own.calls _ _ y355 t359 _ ?side1 ?side2 A90.out).mono ?_
              (case side1 => repeat (first | exact (by repeat (first | (with_reducible exact HR358.out) | (with_reducible refine Kd.C_alloc ?_ _) | (with_reducible refine Kd.C_drewN ?_ _) | (with_reducible refine Kd.C_drew ?_) | exact HR358.out)) | (with_reducible refine Kd.C_alloc ?_ _) | (with_reducible refine Kd.C_drewN ?_ _) | (with_reducible refine Kd.C_drew ?_)))
              (case side2 => exact HC358.out)
              rintro e w96 ⟨v360, rfl, ho0, hb⟩
              refine ⟨_, rfl, ?_⟩
              have n0_ := Aside0.mk (Kd.R_elder' (by (with_reducible repeat (first | apply Kd.R_alloc | apply Kd.R_drewN | apply Kd.R_drew)); exact HO_5.out) (Kd.R_base ho0) hb)
              have n1_ := Aside0.mk (Kd.R_elder' (by (with_reducible repeat (first | apply Kd.R_alloc | apply Kd.R_drewN | apply Kd.R_drew)); exact HO_10.out) (Kd.R_base ho0) hb)
              have n2_ := Aside0.mk (Kd.R_below (by (with_reducible repeat (first | apply Kd.R_alloc | apply Kd.R_drewN | apply Kd.R_drew)); exact HO_305000.out) hb)
              have n3_ := Aside0.mk (Kd.S_elder' (by (with_reducible repeat (first | apply Kd.S_alloc | apply Kd.S_drewN | apply Kd.S_drew)); exact HO_305001.out) (Kd.R_base ho0) hb)
              have n4_ := Aside0.mk (Kd.R_lower (Kd.R_new' (Kd.R_new' ho0 (Kd.R_lt (by (with_reducible repeat (first | apply Kd.R_alloc | apply Kd.R_drewN | apply Kd.R_drew)); exact HO_5.out))) (Kd.R_lt (by (with_reducible repeat (first | apply Kd.R_alloc | apply Kd.R_drewN | apply Kd.R_drew)); exact HO_10.out))) (keep_size (w := w) (g := g) (row := none) (by repeat (first | (with_reducible first | exact HK.out | apply KeepBut.set_ | apply keep_drewN | apply keep_drew | apply keep_alloc | refine keep_far ?_ GW303.out _ | refine keep_far ?_ GW304.out _) | exact HK.out))))
              have n5_ := Aside0.mk (blk_below (g := gb303) (o := .cells #[.slice none 0 0, .slice none 0 0] 32 (0, 0)) (by (with_reducible repeat first | apply blk_drewN | apply blk_drew | apply blk_alloc); exact BK303.out) hb)
              have n6_ := Aside0.mk (blk_below (g := gb304) (o := .cells #[u305000, u305001] 32 (0, 0)) (by (with_reducible repeat first | apply blk_drewN | apply blk_drew | apply blk_alloc); exact BK304.out) hb)
              have n7_ := Aside0.mk (IsS87.below (by repeat (first | (with_reducible first | exact HI0.out | apply IsS87.alloc | apply IsS87.drewN | apply IsS87.drew | apply IsS87.set_1 | apply IsS87.set_2 | refine IsS87.far ?_ NB0_303.out _ | refine IsS87.far ?_ NB0_304.out _) | exact HI0.out)) hb)
              have n8_ := Aside0.mk (Kd.C_below (by repeat (first | (with_reducible exact HR358.out) | (with_reducible refine Kd.C_alloc ?_ _) | (with_reducible refine Kd.C_drewN ?_ _) | (with_reducible refine Kd.C_drew ?_) | exact HR358.out)) hb)
              have n9_ := Aside0.mk (KeepBut.trans (by repeat (first | (with_reducible first | exact HK.out | apply KeepBut.set_ | apply keep_drewN | apply keep_drew | apply keep_alloc | refine keep_far ?_ GW303.out _ | refine keep_far ?_ GW304.out _) | exact HK.out)) (KeepBut.of_below hb g none) (.inl rfl))
              have n10_ := Aside0.mk (below_step (by repeat (first | (with_reducible first | exact HB.out | apply below_alloc | apply pw_below_drewN | apply below_drew1 | refine below_set ?_ (IsS87.ge HI0.out) | refine below_set ?_ GE303.out | refine below_set ?_ GE304.out) | exact HB.out)) hb)
              clear HO_5
              clear HO_10
              clear HO_305000
              clear HO_305001
              clear BK303
              clear BK304
              clear HI0
              clear HR358
              clear HK
              clear HB
              have HO_5 := n0_
              have HO_10 := n1_
              have HO_305000 := n2_
              have HO_305001 := n3_
              have HO361 := n4_
              have BK303 := n5_
              have BK304 := n6_
              have HI0 := n7_
              have HR358 := n8_
              have HK := n9_
              have HB := n10_
              clear n0_ n1_ n2_ n3_ n4_ n5_ n6_ n7_ n8_ n9_ n10_
              (try clear hb)
              (try clear hb2)
              (try clear hk)
              (try clear hi)
              (try clear ho0)
              obtain ⟨Ao97, co97, eo97⟩ := Kd.R_slice HO361.out
              (first | subst eo97 | (injection eo97 with f1_ f2_ f3_; have f4_ := f1_.symm; have f5_ := f3_.symm; clear f1_ f2_ f3_; subst f4_; subst f5_))
              refine hK.out _ _ ⟨(blk_cell BK304.out 0).trans rfl, (blk_cell BK304.out 1).trans rfl⟩ (fun hHeld => ?_)
              clear hK K
              refine norm_ (a' := ?_) ?_ ?_
              (rotate_left; ·(show Act.put _ (some 95) _ = _; simp only [Act.put, pq_z24]; rfl))
              refine pu_z24 8 (some 96) ?_ mz24_9 rfl rfl (any_of HT_.out (by kernel_rfl)) (fun _ _ _ h => h) (Or.inl ⟨by rfl, ?_⟩) ?_ ?_ ?_
              (rotate_left; ·(intro w'; go_simp; with_reducible rfl)); (rotate_left; ·(simp only [Act.put, pq_z24]; rfl))
              refine one_ (i := 9) (N := some 97) mz24_10 rfl rfl (one_of HT_.out (by kernel_rfl)) (by decide) (fun K hK => ?_)
              refine value_ (w1 := ?_) (v := ?_) (by rfl) rfl ?_ ?_
              rotate_left 2
              ·go_simp
               constructor
               ·rfl
               ·rfl
              refine hK.out _ _ ⟨(blk_cell (blk_alloc BK304.out _) 0).trans rfl, (blk_cell (blk_alloc BK304.out _) 1).trans rfl⟩ (fun hHeld => ?_)
              clear hK K
              refine norm_ (a' := ?_) ?_ ?_
              (rotate_left; ·(show Act.put _ (some 97) _ = _; simp only [Act.put, pq_z24]; rfl))
              refine one_ (i := 10) (N := some 98) mz24_11 rfl rfl (one_of HT_.out (by kernel_rfl)) (by decide) (fun K hK => ?_)
              refine Kd.S_append_step k62 w.heap.size (by rfl) (.tmp 89) (.tmp 97) 30 62 (.agg #[(.int .i64 0), (.int .i64 0), (.slice none 0 0)]) 40 rfl Tryd.underlying30 info62 rfl (by decide) (by omega) u305001 x305001_2 (⟨x4_2, 2, t359⟩ : S62) [.int .i64 x4_2, .int .i64 2, .slice Ao97 t359.length co97] (fun k_ => some k_ ≠ (.slice Ao93 x5_1.length co93 : Value).ownBlock ∧ some k_ ≠ (u10 : Value).ownBlock) (fun k_ => some k_ = (.slice Ao97 t359.length co97 : Value).ownBlock) rfl rfl ?aP (fun k_ hk_ => ((Kd.R_mono (ok' := fun k_ => ((fun k_ => some k_ ≠ (.slice Ao93 x5_1.length co93 : Value).ownBlock ∧ some k_ ≠ (u10 : Value).ownBlock)) k_ ∧ some k_ ≠ (u305001 : Value).ownBlock) (Kd.R_apart' (HO361.out) (Kd.S_typed HO_305001.out) (by decide)) (fun k_ hk => ⟨⟨hk.1.1.2, hk.1.2⟩, hk.2⟩))).1 k_ hk_.symm) ?aF ?aO (Below.refl _ _) ?aS ?aL ?_
              (case aP => exact k62_mkM _ _ _ (⟨x4_2, 2, t359⟩ : S62) (Kd.R_mono (Kd.R_tight rfl (Kd.R_mono (ok' := fun k_ => ((fun k_ => some k_ ≠ (.slice Ao93 x5_1.length co93 : Value).ownBlock ∧ some k_ ≠ (u10 : Value).ownBlock)) k_ ∧ some k_ ≠ (u305001 : Value).ownBlock) (Kd.R_apart' (HO361.out) (Kd.S_typed HO_305001.out) (by decide)) (fun k_ hk => ⟨⟨hk.1.1.2, hk.1.2⟩, hk.2⟩))) (fun _ h_ => h_)))
              (case aF => exact (fun k_ hk => ⟨Kd.fresh' (Kd.R_lt (by (with_reducible repeat (first | apply Kd.R_alloc | apply Kd.R_drewN | apply Kd.R_drew)); exact HO_5.out)) k_ hk, Kd.fresh' (Kd.R_lt (by (with_reducible repeat (first | apply Kd.R_alloc | apply Kd.R_drewN | apply Kd.R_drew)); exact HO_10.out)) k_ hk⟩))
              (case aO => exact (by (with_reducible repeat (first | apply Kd.S_alloc | apply Kd.S_drewN | apply Kd.S_drew)); exact Kd.S_mono HO_305001.out (fun k_ hk => ⟨⟨hk.1.1, hk.1.2⟩, fun e_ => hk.2 e_⟩)))
              (case aS => exact (keep_size (w := w) (g := g) (row := none) (by repeat (first | (with_reducible first | exact HK.out | apply KeepBut.set_ | apply keep_drewN | apply keep_drew | apply keep_alloc | refine keep_far ?_ GW303.out _ | refine keep_far ?_ GW304.out _) | exact HK.out))))
              (case aL => have := LMc91.out; omega)
              intro v363 w98 ho hb hg hat
              rw [← Ny362.out] at ho
              have n0_ := Aside0.mk (Kd.R_over' (by (with_reducible repeat (first | apply Kd.R_alloc | apply Kd.R_drewN | apply Kd.R_drew)); exact HO_5.out) (Kd.S_typed (by (with_reducible repeat (first | apply Kd.S_alloc | apply Kd.S_drewN | apply Kd.S_drew)); exact HO_305001.out)) (by decide) hg)
              have n1_ := Aside0.mk (Kd.R_over' (by (with_reducible repeat (first | apply Kd.R_alloc | apply Kd.R_drewN | apply Kd.R_drew)); exact HO_10.out) (Kd.S_typed (by (with_reducible repeat (first | apply Kd.S_alloc | apply Kd.S_drewN | apply Kd.S_drew)); exact HO_305001.out)) (by decide) hg)
              have n2_ := Aside0.mk (Kd.R_over' (by (with_reducible repeat (first | apply Kd.R_alloc | apply Kd.R_drewN | apply Kd.R_drew)); exact HO_305000.out) (Kd.S_typed (by (with_reducible repeat (first | apply Kd.S_alloc | apply Kd.S_drewN | apply Kd.S_drew)); exact HO_305001.out)) (by decide) hg)
              have n3_ := Aside0.mk (blk_grown (g := gb303) (o := .cells #[.slice none 0 0, .slice none 0 0] 32 (0, 0)) (by (with_reducible repeat first | apply blk_drewN | apply blk_drew | apply blk_alloc); exact BK303.out) hg (Kd.S_ne HO_305001.out BK303.out (by decide)))
              have n4_ := Aside0.mk (blk_grown (g := gb304) (o := .cells #[u305000, u305001] 32 (0, 0)) (by (with_reducible repeat first | apply blk_drewN | apply blk_drew | apply blk_alloc); exact BK304.out) hg (Kd.S_ne HO_305001.out BK304.out (by decide)))
              have n5_ := Aside0.mk (IsS87.grown (by repeat (first | (with_reducible first | exact HI0.out | apply IsS87.alloc | apply IsS87.drewN | apply IsS87.drew | apply IsS87.set_1 | apply IsS87.set_2 | refine IsS87.far ?_ NB0_303.out _ | refine IsS87.far ?_ NB0_304.out _) | exact HI0.out)) hg (IsS87.own_neS HI0.out HO_305001.out (by decide)))
              have n6_ := Aside0.mk (below_weaken (by repeat (first | (with_reducible first | exact HB.out | apply below_alloc | apply pw_below_drewN | apply below_drew1 | refine below_set ?_ (IsS87.ge HI0.out) | refine below_set ?_ GE303.out | refine below_set ?_ GE304.out) | exact HB.out)) HL.out hb)
              have n7_ := Aside0.mk (KeepBut.trans (by repeat (first | (with_reducible first | exact HK.out | apply KeepBut.set_ | apply keep_drewN | apply keep_drew | apply keep_alloc | refine keep_far ?_ GW303.out _ | refine keep_far ?_ GW304.out _) | exact HK.out)) (KeepBut.of_grown hg g) (Kd.S_base2 HO_305001.out))
              have n8_ := Aside0.mk ((show Kd.C (Kd.int .i64) w98 A95 y355.length y355 from by rw [Ny355.out, KA95.out]; exact Kd.C_mid (lo := (x11_2 : Int).toNat) (hi := ((wrap64 (x11_2 + 2)) : Int).toNat) (c := co93) ((Kd.R_reads' (Kd.R_over' (by (with_reducible repeat (first | apply Kd.R_alloc | apply Kd.R_drewN | apply Kd.R_drew)); exact HO_5.out) (Kd.S_typed (by (with_reducible repeat (first | apply Kd.S_alloc | apply Kd.S_drewN | apply Kd.S_drew)); exact HO_305001.out)) (by decide) hg)).2.2) KM95.out KL95.out ((Kd.R_reads' (Kd.R_over' (by (with_reducible repeat (first | apply Kd.R_alloc | apply Kd.R_drewN | apply Kd.R_drew)); exact HO_5.out) (Kd.S_typed (by (with_reducible repeat (first | apply Kd.S_alloc | apply Kd.S_drewN | apply Kd.S_drew)); exact HO_305001.out)) (by decide) hg)).2.1)))
              have n9_ := Aside0.mk (ho)
              clear HO_5
              clear HO_10
              clear HO_305000
              clear BK303
              clear BK304
              clear HI0
              clear HB
              clear HK
              clear HR358
              clear HO_305001
              clear HO361
              have HO_5 := n0_
              have HO_10 := n1_
              have HO_305000 := n2_
              have BK303 := n3_
              have BK304 := n4_
              have HI0 := n5_
              have HB := n6_
              have HK := n7_
              have HR358 := n8_
              have HO364 := n9_
              clear n0_ n1_ n2_ n3_ n4_ n5_ n6_ n7_ n8_ n9_
              clear ho hb hg hat
              obtain ⟨Ao99, co99, eo99⟩ := Kd.S_slice HO364.out
              (first | subst eo99 | (injection eo99 with f1_ f2_ f3_; have f4_ := f1_.symm; have f5_ := f3_.symm; clear f1_ f2_ f3_; subst f4_; subst f5_))
              refine hK.out _ _ ⟨(blk_cell BK304.out 0).trans rfl, (blk_cell BK304.out 1).trans rfl⟩ (fun hHeld => ?_)
              clear hK K
              refine norm_ (a' := ?_) ?_ ?_
              (rotate_left; ·(show Act.put _ (some 98) _ = _; simp only [Act.put, pq_z24]; rfl))
              refine pu_z24 11 (some 99) ?_ mz24_12 rfl rfl (any_of HT_.out (by kernel_rfl)) (fun _ _ _ h => h) (Or.inl ⟨by rfl, ?_⟩) ?_ ?_ ?_
              (rotate_left; ·(intro w'; go_simp; with_reducible rfl)); (rotate_left; ·(simp only [Act.put, pq_z24]; rfl))
              refine last_ (i := 12) (N := none) mz24_13 rfl rfl (one_of HT_.out (by kernel_rfl)) (by decide) (fun K hK => ?_)
              have hs100 : w98.cell? ⟨gb304, 1, none⟩ = some (u305001) := (blk_cell BK304.out 1).trans rfl
              have hfs100 := blk_frozen BK304.out 1
              have hns100_0 := NB303_304.out
              have hms100_0 := NB304_303.out
              refine skip_ (w1 := ?_) (by rfl) rfl ?_ ?_
              rotate_left
              ·go_simp
               rfl
              refine hK.out _ _ ?_
              clear hK K
              refine done_ (done_of HT_.out (by kernel_rfl)) ?_
              have m0_ := Aside0.mk (Kd.R_mono (Kd.R_far (p := ⟨gb304, 1, none⟩) (Kd.R_types HO_5.out BK304.out (by decide)) (fun _ hk => hk.2) (.slice Ao99 y362.length co99)) (fun _ h_ => h_.1))
              have m1_ := Aside0.mk (Kd.R_mono (Kd.R_far (p := ⟨gb304, 1, none⟩) (Kd.R_types HO_10.out BK304.out (by decide)) (fun _ hk => hk.2) (.slice Ao99 y362.length co99)) (fun _ h_ => h_.1))
              have m2_ := Aside0.mk (Kd.R_mono (Kd.R_far (p := ⟨gb304, 1, none⟩) (Kd.R_types HO_305000.out BK304.out (by decide)) (fun _ hk => hk.2) (.slice Ao99 y362.length co99)) (fun _ h_ => h_.1))
              have m3_ := Aside0.mk (Kd.S_mono (Kd.S_far (p := ⟨gb304, 1, none⟩) (Kd.S_types HO364.out BK304.out (by decide)) (fun _ hk => hk.2) (.slice Ao99 y362.length co99)) (fun _ h_ => h_.1))
              have m4_ := Aside0.mk (blk_far (p := ⟨gb304, 1, none⟩) BK303.out NB303_304.out (.slice Ao99 y362.length co99))
              have m5_ := Aside0.mk (show (w98.setCell ⟨gb304, 1, none⟩ (.slice Ao99 y362.length co99)).heap[gb304]? = some (.cells #[u305000, .slice Ao99 y362.length co99] 32 (0, 0)) from blk_put (cs := #[u305000, u305001]) BK304.out 1 _ rfl)
              have m6_ := Aside0.mk (IsS87.far (p := ⟨gb304, 1, none⟩) HI0.out NB0_304.out (.slice Ao99 y362.length co99))
              have m7_ := Aside0.mk (below_set (v := (.slice Ao99 y362.length co99)) (j := 1) HB.out GE304.out)
              have m8_ := Aside0.mk (keep_far (p := ⟨gb304, 1, none⟩) HK.out GW304.out (.slice Ao99 y362.length co99))
              clear HO_5 HO_10 HO_305000 HO364 BK303 BK304 HI0 HB HK HR358
              generalize (w98.setCell ⟨gb304, 1, none⟩ (.slice Ao99 y362.length co99)) = wz98 at m0_ m1_ m2_ m3_ m4_ m5_ m6_ m7_ m8_ ⊢
              have HO_5 := m0_
              have HO_10 := m1_
              have HO_305000 := m2_
              have HO364 := m3_
              have BK303 := m4_
              have BK304 := m5_
              have HI0 := m6_
              have HB := m7_
              have HK := m8_
              clear m0_ m1_ m2_ m3_ m4_ m5_ m6_ m7_ m8_
              go_wp2_with (first | ((with_reducible refine gate_builtin (b := .append) (xs := #[.tmp 100, .tmp 102]) rfl ?_); at_builtin; refine Kd.R_append (Kd.int .i64) w.heap.size rfl (.tmp 100) (.tmp 102) 58 2 (.int .i64 0) 8 rfl Tryd.underlying58 info2 rfl (by decide) (by omega) u10 x10_2 x4_2 [.int .i64 x4_2] (fun k_ => some k_ ≠ (.slice Ao93 x5_1.length co93 : Value).ownBlock) (fun _ => False) rfl rfl ?aP (fun _ hk => hk.elim) ?aF ?aO (Below.refl _ _) ?aS ?aL ?_; (case aP => exact rfl); (case aF => exact (fun k_ hk => Kd.fresh' (Kd.R_lt (HO_5.out)) k_ hk)); (case aO => exact (Kd.R_mono HO_10.out (fun _ hk => hk.1))); (case aS => exact (keep_size HK.out)); (case aL => have := LMc92.out; omega); intro v366 w101 ho hb hg hat; rw [← Ny365.out] at ho; have n0_ := Aside0.mk (Kd.R_after (ok := (fun _ => True)) (Kd.R_mono HO_5.out (fun _ hk => ⟨trivial, hk.1⟩)) hg hat); have n1_ := Aside0.mk (Kd.R_over' (HO_305000.out) (Kd.R_typed (HO_10.out)) (by decide) hg); have n2_ := Aside0.mk (blk_grown BK303.out hg (Kd.R_ne HO_10.out BK303.out (by decide))); have n3_ := Aside0.mk (blk_grown BK304.out hg (Kd.R_ne HO_10.out BK304.out (by decide))); have n4_ := Aside0.mk (IsS87.grown HI0.out hg (IsS87.own_ne HI0.out HO_10.out (by decide))); have n5_ := Aside0.mk (Kd.S_after (ok := (fun k_ => some k_ ≠ (.slice Ao93 x5_1.length co93 : Value).ownBlock)) (Kd.S_mono HO364.out (fun _ hk => ⟨hk.1, hk.2⟩)) hg hat); have n6_ := Aside0.mk (below_weaken HB.out HL.out hb); have n7_ := Aside0.mk (KeepBut.trans HK.out (KeepBut.of_grown hg g) (Kd.R_base2 HO_10.out)); have n8_ := Aside0.mk trivial; have n9_ := Aside0.mk (ho); clear HO_5; clear HO_305000; clear BK303; clear BK304; clear HI0; clear HO364; clear HB; clear HK; clear HO_10; have HO_5 := n0_; have HO_305000 := n1_; have BK303 := n2_; have BK304 := n3_; have HI0 := n4_; have HO364 := n5_; have HB := n6_; have HK := n7_; have HR358 := n8_; have HO367 := n9_; clear n0_ n1_ n2_ n3_ n4_ n5_ n6_ n7_ n8_ n9_; clear ho hb hg hat))
              go_roundg k2
              case measure => have := HK1.out; have := HK2.out; omega
              case rel => exact ⟨(wrap64 (x4_2 - 1)), (y365), (wrap64 (x11_2 + 2)), (y362), (.slice Ao99 y362.length co99), (by first | rfl | (simp; done) | (simp [*]; done)), (by first | rfl | (simp; done) | (simp [*]; done)), H', ⟨by have := HK1.out; have := HK2.out; omega⟩, ⟨by (with_reducible repeat (first | apply Kd.R_alloc | apply Kd.R_drewN | apply Kd.R_drew)); exact Kd.R_mono HO_5.out (fun _ hk => hk.2)⟩, ⟨by (with_reducible repeat (first | apply Kd.R_alloc | apply Kd.R_drewN | apply Kd.R_drew)); exact HO367.out⟩, ⟨by (with_reducible repeat (first | apply Kd.R_alloc | apply Kd.R_drewN | apply Kd.R_drew)); exact HO_305000.out⟩, ⟨by (with_reducible repeat (first | apply Kd.S_alloc | apply Kd.S_drewN | apply Kd.S_drew)); exact HO364.out⟩, ⟨by (with_reducible repeat first | apply blk_drewN | apply blk_drew | apply blk_alloc); exact BK303.out⟩, ⟨by (with_reducible repeat first | apply blk_drewN | apply blk_drew | apply blk_alloc); exact BK304.out⟩, ⟨by repeat (first | (with_reducible first | exact HI0.out | apply IsS87.alloc | apply IsS87.drewN | apply IsS87.drew | apply IsS87.set_1 | apply IsS87.set_2 | refine IsS87.far ?_ NB0_303.out _ | refine IsS87.far ?_ NB0_304.out _) | exact HI0.out)⟩, ⟨by repeat (first | (with_reducible first | exact HK.out | apply KeepBut.set_ | apply keep_drewN | apply keep_drew | apply keep_alloc | refine keep_far ?_ GW303.out _ | refine keep_far ?_ GW304.out _) | exact HK.out)⟩, ⟨by repeat (first | (with_reducible first | exact HB.out | apply below_alloc | apply pw_below_drewN | apply below_drew1 | refine below_set ?_ (IsS87.ge HI0.out) | refine below_set ?_ GE303.out | refine below_set ?_ GE304.out) | exact HB.out)⟩⟩
             ·rw [if_neg c92] at H
              exact absurd H (by simp)
            ·rw [if_neg c91] at H
             exact absurd H (by simp)
           ·rw [if_neg c89] at H
            exact absurd H (by simp)
          ·rw [if_neg c88] at H
           exact absurd H (by simp)
         ·rw [if_neg c87] at H
          exact absurd H (by simp)
       ·rw [if_neg c70] at H
        have c70b0 : decide (x11_2 < (x5_1.length : Int)) = false := decide_eq_false c70
        clear c70
        replace H := Option.bind_eq_some_iff.mp H
        obtain ⟨t368, A1020, H⟩ := H
        replace H : (if x305001_2.length < 3518437208883 then (some (x305000_1, (x305001_2 ++ [(⟨x4_2, 3, t368⟩ : S62)]), t337, t338)) else (none)) = some (r1, r2, r3, r4) := H
        have A102 := Aside0.mk A1020
        clear A1020
        by_cases c103 : x305001_2.length < 3518437208883
        ·rw [if_pos c103] at H
         have LMc103 := Aside0.mk c103
         clear c103
         obtain ⟨y371, hy371⟩ : ∃ y_ : List (S62), y_ = (x305001_2 ++ [(⟨x4_2, 3, t368⟩ : S62)]) := ⟨_, rfl⟩
         replace H : (some (x305000_1, y371, t337, t338)) = some (r1, r2, r3, r4) := by first | (rw [hy371]; with_reducible exact H) | (have H2_ := (Option.bind_some _ _).symm.trans H; rw [hy371]; with_reducible exact H2_) | (have H2_ := (Option.bind_some _ _).symm.trans H; with_reducible exact H2_) | with_reducible exact H | (rw [hy371]; exact H) | exact H
         have Ny371 := Aside0.mk hy371
         clear hy371
         simp only [Option.some.injEq, Prod.mk.injEq] at H
         obtain ⟨rfl, rfl, rfl, rfl⟩ := H
         obtain ⟨Ao104, co104, eo104⟩ := Kd.R_slice HO_5.out
         subst eo104
         try go_wp2
         have n0_ := Aside0.mk (Kd.R_drew HO_5.out)
         have n1_ := Aside0.mk (Kd.R_drew HO_10.out)
         have n2_ := Aside0.mk (Kd.R_drew HO_305000.out)
         have n3_ := Aside0.mk (Kd.S_drew HO_305001.out)
         have n4_ := Aside0.mk (blk_drew BK303.out)
         have n5_ := Aside0.mk (blk_drew BK304.out)
         have n6_ := Aside0.mk (IsS87.drew HI0.out)
         have n7_ := Aside0.mk (keep_drew HK.out)
         have n8_ := Aside0.mk (below_drew1 HB.out)
         clear HO_5
         clear HO_10
         clear HO_305000
         clear HO_305001
         clear BK303
         clear BK304
         clear HI0
         clear HK
         clear HB
         have HO_5 := n0_
         have HO_10 := n1_
         have HO_305000 := n2_
         have HO_305001 := n3_
         have BK303 := n4_
         have BK304 := n5_
         have HI0 := n6_
         have HK := n7_
         have HB := n8_
         clear n0_ n1_ n2_ n3_ n4_ n5_ n6_ n7_ n8_
         obtain ⟨Ao106, co106, eo106⟩ := Kd.R_slice HO_10.out
         (first | subst eo106 | (injection eo106 with f1_ f2_ f3_; have f4_ := f1_.symm; have f5_ := f3_.symm; clear f1_ f2_ f3_; subst f4_; subst f5_))
         refine start_ (n := 10) (S := fun w' => w'.cell? ⟨gb304, 0, none⟩ = some (u305000) ∧ w'.cell? ⟨gb304, 1, none⟩ = some (u305001)) (ds := [9]) mz24_16 (by kernel_rfl) rfl rfl ⟨(blk_cell BK304.out 0).trans rfl, (blk_cell BK304.out 1).trans rfl⟩ (fun hHeld => ?_); refine with_tabW spec_l06Draw.tab29 spec_l06Draw.bits29 (fun HT_ HW_ => ?_)
         generalize wr.drew = w105 at HO_5 HO_10 HO_305000 HO_305001 BK303 BK304 HI0 HK HB hHeld ⊢
         refine pu_z24 0 (some 106) ?_ mz24_17 rfl rfl (any_of HT_.out (by kernel_rfl)) (fun _ _ _ h => h) (Or.inl ⟨by rfl, ?_⟩) ?_ ?_ ?_
         (rotate_left; ·(intro w'; go_simp; with_reducible rfl)); (rotate_left; ·(simp only [Act.put, pq_z24]; rfl))
         refine pu_z24 2 (some 108) ?_ mz24_18 rfl rfl (any_of HT_.out (by kernel_rfl)) (fun _ _ _ h => h) (Or.inl ⟨by rfl, ?_⟩) ?_ ?_ ?_
         (rotate_left; ·(intro w'; go_simp; with_reducible rfl)); (rotate_left; ·(simp only [Act.put, pq_z24]; rfl))
         refine pu_z24 3 (some 109) ?_ mz24_19 rfl rfl (any_of HT_.out (by kernel_rfl)) (fun _ _ _ h => h) (Or.inl ⟨by rfl, ?_⟩) ?_ ?_ ?_
         (rotate_left; ·(intro w'; go_simp; with_reducible rfl)); (rotate_left; ·(simp only [Act.put, pq_z24]; rfl))
         refine take_ (i := 1) (N := some 107) (v := ?_) (a' := ?_) mz24_20 rfl rfl (take_ofW HT_.out HW_.out (by kernel_rfl)) (fun _ _ _ h => h) (Or.inl ⟨by rfl, ?_⟩) hHeld ?_ ?_
         (rotate_left; ·(rintro w' ⟨s0, s1⟩; go_simp; with_reducible rfl)); (rotate_left; ·(simp only [Act.put, pq_z24]; rfl))
         refine one_ (i := 4) (N := some 110) mz24_21 rfl rfl (one_of HT_.out (by kernel_rfl)) (by decide) (fun K hK => ?_)
         refine goes_ Tryd.func49 (by kernel_rfl) rfl #[.slice Ao106 x10_2.length co106] (by rfl) rfl rfl (by (try simp only [List.map_toArray, List.map_cons, List.map_nil]); first | done | rfl | (simp only [List.length_drop, List.length_take]; rfl)) ?_
         with_reducible refine (spec_l00Own.calls _ _ x10_2 t368 _ ?side1 ?side2 A102.out).mono ?_
         (case side1 => repeat (first | exact (Kd.R_reads' HO_10.out).2.2 | (with_reducible refine Kd.C_alloc ?_ _) | (with_reducible refine Kd.C_drewN ?_ _) | (with_reducible refine Kd.C_drew ?_)))
         (case side2 => exact (Kd.R_reads' HO_10.out).2.1)
         rintro e w107 ⟨v369, rfl, ho0, hb⟩
         refine ⟨_, rfl, ?_⟩
         have n0_ := Aside0.mk (Kd.R_elder' (by (with_reducible repeat (first | apply Kd.R_alloc | apply Kd.R_drewN | apply Kd.R_drew)); exact HO_5.out) (Kd.R_base ho0) hb)
         have n1_ := Aside0.mk (Kd.R_elder' (by (with_reducible repeat (first | apply Kd.R_alloc | apply Kd.R_drewN | apply Kd.R_drew)); exact HO_10.out) (Kd.R_base ho0) hb)
         have n2_ := Aside0.mk (Kd.R_below (by (with_reducible repeat (first | apply Kd.R_alloc | apply Kd.R_drewN | apply Kd.R_drew)); exact HO_305000.out) hb)
         have n3_ := Aside0.mk (Kd.S_elder' (by (with_reducible repeat (first | apply Kd.S_alloc | apply Kd.S_drewN | apply Kd.S_drew)); exact HO_305001.out) (Kd.R_base ho0) hb)
         have n4_ := Aside0.mk (Kd.R_lower (Kd.R_new' (Kd.R_new' ho0 (Kd.R_lt (by (with_reducible repeat (first | apply Kd.R_alloc | apply Kd.R_drewN | apply Kd.R_drew)); exact HO_5.out))) (Kd.R_lt (by (with_reducible repeat (first | apply Kd.R_alloc | apply Kd.R_drewN | apply Kd.R_drew)); exact HO_10.out))) (keep_size (w := w) (g := g) (row := none) (by repeat (first | (with_reducible first | exact HK.out | apply KeepBut.set_ | apply keep_drewN | apply keep_drew | apply keep_alloc | refine keep_far ?_ GW303.out _ | refine keep_far ?_ GW304.out _) | exact HK.out))))
         have n5_ := Aside0.mk (blk_below (g := gb303) (o := .cells #[.slice none 0 0, .slice none 0 0] 32 (0, 0)) (by (with_reducible repeat first | apply blk_drewN | apply blk_drew | apply blk_alloc); exact BK303.out) hb)
         have n6_ := Aside0.mk (blk_below (g := gb304) (o := .cells #[u305000, u305001] 32 (0, 0)) (by (with_reducible repeat first | apply blk_drewN | apply blk_drew | apply blk_alloc); exact BK304.out) hb)
         have n7_ := Aside0.mk (IsS87.below (by repeat (first | (with_reducible first | exact HI0.out | apply IsS87.alloc | apply IsS87.drewN | apply IsS87.drew | apply IsS87.set_1 | apply IsS87.set_2 | refine IsS87.far ?_ NB0_303.out _ | refine IsS87.far ?_ NB0_304.out _) | exact HI0.out)) hb)
         have n8_ := Aside0.mk (KeepBut.trans (by repeat (first | (with_reducible first | exact HK.out | apply KeepBut.set_ | apply keep_drewN | apply keep_drew | apply keep_alloc | refine keep_far ?_ GW303.out _ | refine keep_far ?_ GW304.out _) | exact HK.out)) (KeepBut.of_below hb g none) (.inl rfl))
         have n9_ := Aside0.mk (below_step (by repeat (first | (with_reducible first | exact HB.out | apply below_alloc | apply pw_below_drewN | apply below_drew1 | refine below_set ?_ (IsS87.ge HI0.out) | refine below_set ?_ GE303.out | refine below_set ?_ GE304.out) | exact HB.out)) hb)
         clear HO_5
         clear HO_10
         clear HO_305000
         clear HO_305001
         clear BK303
         clear BK304
         clear HI0
         clear HK
         clear HB
         have HO_5 := n0_
         have HO_10 := n1_
         have HO_305000 := n2_
         have HO_305001 := n3_
         have HO370 := n4_
         have BK303 := n5_
         have BK304 := n6_
         have HI0 := n7_
         have HK := n8_
         have HB := n9_
         clear n0_ n1_ n2_ n3_ n4_ n5_ n6_ n7_ n8_ n9_
         (try clear hb)
         (try clear hb2)
         (try clear hk)
         (try clear hi)
         (try clear ho0)
         obtain ⟨Ao108, co108, eo108⟩ := Kd.R_slice HO370.out
         (first | subst eo108 | (injection eo108 with f1_ f2_ f3_; have f4_ := f1_.symm; have f5_ := f3_.symm; clear f1_ f2_ f3_; subst f4_; subst f5_))
         refine hK.out _ _ ⟨(blk_cell BK304.out 0).trans rfl, (blk_cell BK304.out 1).trans rfl⟩ (fun hHeld => ?_)
         clear hK K
         refine norm_ (a' := ?_) ?_ ?_
         (rotate_left; ·(show Act.put _ (some 110) _ = _; simp only [Act.put, pq_z24]; rfl))
         refine pu_z24 5 (some 111) ?_ mz24_22 rfl rfl (any_of HT_.out (by kernel_rfl)) (fun _ _ _ h => h) (Or.inl ⟨by rfl, ?_⟩) ?_ ?_ ?_
         (rotate_left; ·(intro w'; go_simp; with_reducible rfl)); (rotate_left; ·(simp only [Act.put, pq_z24]; rfl))
         refine one_ (i := 6) (N := some 112) mz24_23 rfl rfl (one_of HT_.out (by kernel_rfl)) (by decide) (fun K hK => ?_)
         refine value_ (w1 := ?_) (v := ?_) (by rfl) rfl ?_ ?_
         rotate_left 2
         ·go_simp
          constructor
          ·rfl
          ·rfl
         refine hK.out _ _ ⟨(blk_cell (blk_alloc BK304.out _) 0).trans rfl, (blk_cell (blk_alloc BK304.out _) 1).trans rfl⟩ (fun hHeld => ?_)
         clear hK K
         refine norm_ (a' := ?_) ?_ ?_
         (rotate_left; ·(show Act.put _ (some 112) _ = _; simp only [Act.put, pq_z24]; rfl))
         refine one_ (i := 7) (N := some 113) mz24_24 rfl rfl (one_of HT_.out (by kernel_rfl)) (by decide) (fun K hK => ?_)
         refine Kd.S_append_step k62 w.heap.size (by rfl) (.tmp 107) (.tmp 112) 30 62 (.agg #[(.int .i64 0), (.int .i64 0), (.slice none 0 0)]) 40 rfl Tryd.underlying30 info62 rfl (by decide) (by omega) u305001 x305001_2 (⟨x4_2, 3, t368⟩ : S62) [.int .i64 x4_2, .int .i64 3, .slice Ao108 t368.length co108] (fun k_ => some k_ ≠ (.slice Ao104 x5_1.length co104 : Value).ownBlock ∧ some k_ ≠ (.slice Ao106 x10_2.length co106 : Value).ownBlock) (fun k_ => some k_ = (.slice Ao108 t368.length co108 : Value).ownBlock) rfl rfl ?aP (fun k_ hk_ => ((Kd.R_mono (ok' := fun k_ => ((fun k_ => some k_ ≠ (.slice Ao104 x5_1.length co104 : Value).ownBlock ∧ some k_ ≠ (.slice Ao106 x10_2.length co106 : Value).ownBlock)) k_ ∧ some k_ ≠ (u305001 : Value).ownBlock) (Kd.R_apart' (HO370.out) (Kd.S_typed HO_305001.out) (by decide)) (fun k_ hk => ⟨⟨hk.1.1.2, hk.1.2⟩, hk.2⟩))).1 k_ hk_.symm) ?aF ?aO (Below.refl _ _) ?aS ?aL ?_
         (case aP => exact k62_mkM _ _ _ (⟨x4_2, 3, t368⟩ : S62) (Kd.R_mono (Kd.R_tight rfl (Kd.R_mono (ok' := fun k_ => ((fun k_ => some k_ ≠ (.slice Ao104 x5_1.length co104 : Value).ownBlock ∧ some k_ ≠ (.slice Ao106 x10_2.length co106 : Value).ownBlock)) k_ ∧ some k_ ≠ (u305001 : Value).ownBlock) (Kd.R_apart' (HO370.out) (Kd.S_typed HO_305001.out) (by decide)) (fun k_ hk => ⟨⟨hk.1.1.2, hk.1.2⟩, hk.2⟩))) (fun _ h_ => h_)))
         (case aF => exact (fun k_ hk => ⟨Kd.fresh' (Kd.R_lt (by (with_reducible repeat (first | apply Kd.R_alloc | apply Kd.R_drewN | apply Kd.R_drew)); exact HO_5.out)) k_ hk, Kd.fresh' (Kd.R_lt (by (with_reducible repeat (first | apply Kd.R_alloc | apply Kd.R_drewN | apply Kd.R_drew)); exact HO_10.out)) k_ hk⟩))
         (case aO => exact (by (with_reducible repeat (first | apply Kd.S_alloc | apply Kd.S_drewN | apply Kd.S_drew)); exact Kd.S_mono HO_305001.out (fun k_ hk => ⟨⟨hk.1.1, hk.1.2⟩, fun e_ => hk.2 e_⟩)))
         (case aS => exact (keep_size (w := w) (g := g) (row := none) (by repeat (first | (with_reducible first | exact HK.out | apply KeepBut.set_ | apply keep_drewN | apply keep_drew | apply keep_alloc | refine keep_far ?_ GW303.out _ | refine keep_far ?_ GW304.out _) | exact HK.out))))
         (case aL => have := LMc103.out; omega)
         intro v372 w109 ho hb hg hat
         rw [← Ny371.out] at ho
         have n0_ := Aside0.mk (Kd.R_over' (by (with_reducible repeat (first | apply Kd.R_alloc | apply Kd.R_drewN | apply Kd.R_drew)); exact HO_5.out) (Kd.S_typed (by (with_reducible repeat (first | apply Kd.S_alloc | apply Kd.S_drewN | apply Kd.S_drew)); exact HO_305001.out)) (by decide) hg)
         have n1_ := Aside0.mk (Kd.R_over' (by (with_reducible repeat (first | apply Kd.R_alloc | apply Kd.R_drewN | apply Kd.R_drew)); exact HO_10.out) (Kd.S_typed (by (with_reducible repeat (first | apply Kd.S_alloc | apply Kd.S_drewN | apply Kd.S_drew)); exact HO_305001.out)) (by decide) hg)
         have n2_ := Aside0.mk (Kd.R_over' (by (with_reducible repeat (first | apply Kd.R_alloc | apply Kd.R_drewN | apply Kd.R_drew)); exact HO_305000.out) (Kd.S_typed (by (with_reducible repeat (first | apply Kd.S_alloc | apply Kd.S_drewN | apply Kd.S_drew)); exact HO_305001.out)) (by decide) hg)
         have n3_ := Aside0.mk (blk_grown (g := gb303) (o := .cells #[.slice none 0 0, .slice none 0 0] 32 (0, 0)) (by (with_reducible repeat first | apply blk_drewN | apply blk_drew | apply blk_alloc); exact BK303.out) hg (Kd.S_ne HO_305001.out BK303.out (by decide)))
         have n4_ := Aside0.mk (blk_grown (g := gb304) (o := .cells #[u305000, u305001] 32 (0, 0)) (by (with_reducible repeat first | apply blk_drewN | apply blk_drew | apply blk_alloc); exact BK304.out) hg (Kd.S_ne HO_305001.out BK304.out (by decide)))
         have n5_ := Aside0.mk (IsS87.grown (by repeat (first | (with_reducible first | exact HI0.out | apply IsS87.alloc | apply IsS87.drewN | apply IsS87.drew | apply IsS87.set_1 | apply IsS87.set_2 | refine IsS87.far ?_ NB0_303.out _ | refine IsS87.far ?_ NB0_304.out _) | exact HI0.out)) hg (IsS87.own_neS HI0.out HO_305001.out (by decide)))
         have n6_ := Aside0.mk (below_weaken (by repeat (first | (with_reducible first | exact HB.out | apply below_alloc | apply pw_below_drewN | apply below_drew1 | refine below_set ?_ (IsS87.ge HI0.out) | refine below_set ?_ GE303.out | refine below_set ?_ GE304.out) | exact HB.out)) HL.out hb)
         have n7_ := Aside0.mk (KeepBut.trans (by repeat (first | (with_reducible first | exact HK.out | apply KeepBut.set_ | apply keep_drewN | apply keep_drew | apply keep_alloc | refine keep_far ?_ GW303.out _ | refine keep_far ?_ GW304.out _) | exact HK.out)) (KeepBut.of_grown hg g) (Kd.S_base2 HO_305001.out))
         have n8_ := Aside0.mk (ho)
         clear HO_5
         clear HO_10
         clear HO_305000
         clear BK303
         clear BK304
         clear HI0
         clear HB
         clear HK
         clear HO_305001
         clear HO370
         have HO_5 := n0_
         have HO_10 := n1_
         have HO_305000 := n2_
         have BK303 := n3_
         have BK304 := n4_
         have HI0 := n5_
         have HB := n6_
         have HK := n7_
         have HO373 := n8_
         clear n0_ n1_ n2_ n3_ n4_ n5_ n6_ n7_ n8_
         clear ho hb hg hat
         obtain ⟨Ao110, co110, eo110⟩ := Kd.S_slice HO373.out
         (first | subst eo110 | (injection eo110 with f1_ f2_ f3_; have f4_ := f1_.symm; have f5_ := f3_.symm; clear f1_ f2_ f3_; subst f4_; subst f5_))
         refine hK.out _ _ ⟨(blk_cell BK304.out 0).trans rfl, (blk_cell BK304.out 1).trans rfl⟩ (fun hHeld => ?_)
         clear hK K
         refine norm_ (a' := ?_) ?_ ?_
         (rotate_left; ·(show Act.put _ (some 113) _ = _; simp only [Act.put, pq_z24]; rfl))
         refine pu_z24 8 (some 114) ?_ mz24_25 rfl rfl (any_of HT_.out (by kernel_rfl)) (fun _ _ _ h => h) (Or.inl ⟨by rfl, ?_⟩) ?_ ?_ ?_
         (rotate_left; ·(intro w'; go_simp; with_reducible rfl)); (rotate_left; ·(simp only [Act.put, pq_z24]; rfl))
         refine last_ (i := 9) (N := none) mz24_26 rfl rfl (one_of HT_.out (by kernel_rfl)) (by decide) (fun K hK => ?_)
         have hs111 : w109.cell? ⟨gb304, 1, none⟩ = some (u305001) := (blk_cell BK304.out 1).trans rfl
         have hfs111 := blk_frozen BK304.out 1
         have hns111_0 := NB303_304.out
         have hms111_0 := NB304_303.out
         refine skip_ (w1 := ?_) (by rfl) rfl ?_ ?_
         rotate_left
         ·go_simp
          rfl
         refine hK.out _ _ ?_
         clear hK K
         refine done_ (done_of HT_.out (by kernel_rfl)) ?_
         have hnb112 := NB304_303.out
         have hnc112 := NB303_304.out
         have hnb113 := NB304_0.out
         have hnc113 := NB0_304.out
         have hcz114_0 : w109.cell? ⟨gb304, 0, none⟩ = some (u305000) := (blk_cell BK304.out 0).trans rfl
         have hcz114_1 : w109.cell? ⟨gb304, 1, none⟩ = some (u305001) := (blk_cell BK304.out 1).trans rfl
         have hfz114_0 := blk_frozen BK304.out 0
         have hfz114_1 := blk_frozen BK304.out 1
         obtain ⟨Ao115, co115, eo115⟩ := Kd.R_slice HO_305000.out
         subst eo115
         have hnb116 := NB303_0.out
         have hnc116 := NB0_303.out
         have hcz117_0 : w109.cell? ⟨gb303, 0, none⟩ = some (.slice none 0 0) := (blk_cell BK303.out 0).trans rfl
         have hcz117_1 : w109.cell? ⟨gb303, 1, none⟩ = some (.slice none 0 0) := (blk_cell BK303.out 1).trans rfl
         have hfz117_0 := blk_frozen BK303.out 0
         have hfz117_1 := blk_frozen BK303.out 1
         try go_wp2
         refine bodyPost_ret (results_cell_row rfl _ _ gb303 32 #[.slice Ao115 x305000_1.length co115, .slice Ao110 y371.length co110] (0, 0) _ rfl (by (with_reducible repeat first | apply blk_drewN | apply blk_drew | apply blk_alloc); refine blk_put (cs := #[.slice Ao115 x305000_1.length co115, .slice none 0 0]) ?_ 1 _ rfl; (with_reducible repeat first | apply blk_drewN | apply blk_drew | apply blk_alloc); refine blk_put (cs := #[.slice none 0 0, .slice none 0 0]) ?_ 0 _ rfl; (with_reducible repeat first | apply blk_drewN | apply blk_drew | apply blk_alloc); refine blk_far ?_ NB303_304.out _; (with_reducible repeat first | apply blk_drewN | apply blk_drew | apply blk_alloc); exact BK303.out) Tryd.underlying32 rfl (by kernel_rfl)) rfl ?_
         exact ⟨_, _, by first | rfl | (simp [*, errW_none, errW_some] <;> rfl), by (with_reducible repeat (first | apply Kd.R_alloc | apply Kd.R_drewN | apply Kd.R_drew)); exact Kd.R_mono (Kd.R_far (p := ⟨gb303, 1, none⟩) (Kd.R_far (p := ⟨gb303, 0, none⟩) (Kd.R_far (p := ⟨gb304, 1, none⟩) (Kd.R_types (Kd.R_types HO_305000.out BK304.out (by decide)) BK303.out (by decide)) (fun _ hk => hk.1.2) (.slice Ao110 y371.length co110)) (fun _ hk => hk.2) (.slice Ao115 x305000_1.length co115)) (fun _ hk => hk.2) (.slice Ao110 y371.length co110)) (fun _ hk => trivial), by (with_reducible repeat (first | apply Kd.S_alloc | apply Kd.S_drewN | apply Kd.S_drew)); exact Kd.S_mono (Kd.S_far (p := ⟨gb303, 1, none⟩) (Kd.S_far (p := ⟨gb303, 0, none⟩) (Kd.S_far (p := ⟨gb304, 1, none⟩) (Kd.S_types (Kd.S_types HO373.out BK304.out (by decide)) BK303.out (by decide)) (fun _ hk => hk.1.2) (.slice Ao110 y371.length co110)) (fun _ hk => hk.2) (.slice Ao115 x305000_1.length co115)) (fun _ hk => hk.2) (.slice Ao110 y371.length co110)) (fun _ hk => trivial), by repeat (first | (with_reducible first | exact HI0.out | apply IsS87.alloc | apply IsS87.drewN | apply IsS87.drew | apply IsS87.set_1 | apply IsS87.set_2 | refine IsS87.far ?_ NB0_303.out _ | refine IsS87.far ?_ NB0_304.out _) | exact HI0.out), by repeat (first | (with_reducible first | exact HB.out | apply below_alloc | apply pw_below_drewN | apply below_drew1 | refine below_set ?_ (IsS87.ge HI0.out) | refine below_set ?_ GE303.out | refine below_set ?_ GE304.out) | exact HB.out), by repeat (first | (with_reducible first | exact HK.out | apply KeepBut.set_ | apply keep_drewN | apply keep_drew | apply keep_alloc | refine keep_far ?_ GW303.out _ | refine keep_far ?_ GW304.out _) | exact HK.out)⟩
        ·rw [if_neg c103] at H
         exact absurd H (by simp)
    ·replace c66 := Bool.eq_false_iff.mpr c66
     subst c66
     have H1 : ((spec_l00Own.f x5_1).bind fun t374 => (if x305001_1.length < 3518437208883 then (some (x305000_1, (x305001_1 ++ [(⟨x4_1, 3, t374⟩ : S62)]), t337, t338)) else (none))) = some (r1, r2, r3, r4) := by rw [if_neg (show ¬ (false = true) by decide)] at H; exact H
     clear H
     have H := H1
     clear H1
     replace H := Option.bind_eq_some_iff.mp H
     obtain ⟨t374, A1180, H⟩ := H
     replace H : (if x305001_1.length < 3518437208883 then (some (x305000_1, (x305001_1 ++ [(⟨x4_1, 3, t374⟩ : S62)]), t337, t338)) else (none)) = some (r1, r2, r3, r4) := H
     have A118 := Aside0.mk A1180
     clear A1180
     by_cases c119 : x305001_1.length < 3518437208883
     ·rw [if_pos c119] at H
      have LMc119 := Aside0.mk c119
      clear c119
      obtain ⟨y377, hy377⟩ : ∃ y_ : List (S62), y_ = (x305001_1 ++ [(⟨x4_1, 3, t374⟩ : S62)]) := ⟨_, rfl⟩
      replace H : (some (x305000_1, y377, t337, t338)) = some (r1, r2, r3, r4) := by first | (rw [hy377]; with_reducible exact H) | (have H2_ := (Option.bind_some _ _).symm.trans H; rw [hy377]; with_reducible exact H2_) | (have H2_ := (Option.bind_some _ _).symm.trans H; with_reducible exact H2_) | with_reducible exact H | (rw [hy377]; exact H) | exact H
      have Ny377 := Aside0.mk hy377
      clear hy377
      simp only [Option.some.injEq, Prod.mk.injEq] at H
      obtain ⟨rfl, rfl, rfl, rfl⟩ := H
      try go_wp2_with (first | ((with_reducible refine gate_callee (f := 48) rfl ?_); refine goesL_ (some 72) rfl rfl Tryd.func48 (by kernel_rfl) rfl #[.pointer (some ⟨g, 0, none⟩), .int .i64 2] rfl (by (try simp only [List.map_toArray, List.map_cons, List.map_nil]); first | done | rfl | (simp only [List.length_drop, List.length_take]; rfl)) ?_; (with_reducible refine (spec_l00Src_one.calls g s0_0 x1001_1 x1002_1 2 false t337 t338 w0 _ ?side1 ?side2 A65.out).mono ?_); (case side1 => repeat (first | (with_reducible first | exact HI0.out | apply IsS87.alloc | apply IsS87.drewN | apply IsS87.drew | apply IsS87.set_1 | apply IsS87.set_2 | refine IsS87.far ?_ NB0_303.out _ | refine IsS87.far ?_ NB0_304.out _) | exact HI0.out)); (case side2 => repeat (first | (with_reducible first | exact HB.out | apply below_alloc | apply pw_below_drewN | apply below_drew1 | refine below_set ?_ (IsS87.ge HI0.out) | refine below_set ?_ GE303.out | refine below_set ?_ GE304.out) | exact HB.out)); rintro e w120 ⟨rfl, hi, hb, hk⟩; refine ⟨_, rfl, ?_⟩; have n0_ := Aside0.mk (Kd.R_mono (Kd.R_keep (IsS87.apart (show IsS87 w0 _ g s0_0 x1001_1 x1002_1 from by repeat (first | (with_reducible first | exact HI0.out | apply IsS87.alloc | apply IsS87.drewN | apply IsS87.drew | apply IsS87.set_1 | apply IsS87.set_2 | refine IsS87.far ?_ NB0_303.out _ | refine IsS87.far ?_ NB0_304.out _) | exact HI0.out)) (by (with_reducible repeat (first | apply Kd.R_alloc | apply Kd.R_drewN | apply Kd.R_drew)); exact HO_5.out) (by decide)) hk (fun _ h => h.2)) (fun _ h => h.1)); have n1_ := Aside0.mk (Kd.R_mono (Kd.R_keep (IsS87.apart (show IsS87 w0 _ g s0_0 x1001_1 x1002_1 from by repeat (first | (with_reducible first | exact HI0.out | apply IsS87.alloc | apply IsS87.drewN | apply IsS87.drew | apply IsS87.set_1 | apply IsS87.set_2 | refine IsS87.far ?_ NB0_303.out _ | refine IsS87.far ?_ NB0_304.out _) | exact HI0.out)) (by (with_reducible repeat (first | apply Kd.R_alloc | apply Kd.R_drewN | apply Kd.R_drew)); exact HO_305000.out) (by decide)) hk (fun _ h => h.2)) (fun _ h => h.1)); have n2_ := Aside0.mk (Kd.S_mono (Kd.S_keep (IsS87.apartS (show IsS87 w0 _ g s0_0 x1001_1 x1002_1 from by repeat (first | (with_reducible first | exact HI0.out | apply IsS87.alloc | apply IsS87.drewN | apply IsS87.drew | apply IsS87.set_1 | apply IsS87.set_2 | refine IsS87.far ?_ NB0_303.out _ | refine IsS87.far ?_ NB0_304.out _) | exact HI0.out)) (by (with_reducible repeat (first | apply Kd.S_alloc | apply Kd.S_drewN | apply Kd.S_drew)); exact HO_305001.out) (by decide)) hk (fun _ h => h.2)) (fun _ h => h.1)); have n3_ := Aside0.mk (KeepBut.blk hk (g' := gb303) (o := .cells #[.slice none 0 0, .slice none 0 0] 32 (0, 0)) (by (with_reducible repeat first | apply blk_drewN | apply blk_drew | apply blk_alloc); exact BK303.out) NB303_0.out (by simp)); have n4_ := Aside0.mk (KeepBut.blk hk (g' := gb304) (o := .cells #[u305000, u305001] 32 (0, 0)) (by (with_reducible repeat first | apply blk_drewN | apply blk_drew | apply blk_alloc); exact BK304.out) NB304_0.out (by simp)); have n5_ := Aside0.mk (KeepBut.trans (by repeat (first | (with_reducible first | exact HK.out | apply KeepBut.set_ | apply keep_drewN | apply keep_drew | apply keep_alloc | refine keep_far ?_ GW303.out _ | refine keep_far ?_ GW304.out _) | exact HK.out)) hk (.inl rfl)); have n6_ := Aside0.mk (hb); have n7_ := Aside0.mk (hi); clear HO_5; clear HO_305000; clear HO_305001; clear BK303; clear BK304; clear HK; clear HB; clear HI0; have HO_5 := n0_; have HO_305000 := n1_; have HO_305001 := n2_; have BK303 := n3_; have BK304 := n4_; have HK := n5_; have HB := n6_; have HI0 := n7_; clear n0_ n1_ n2_ n3_ n4_ n5_ n6_ n7_; (try clear hb); (try clear hb2); (try clear hk); (try clear hi)))
      have n0_ := Aside0.mk (Kd.R_drew HO_5.out)
      have n1_ := Aside0.mk (Kd.R_drew HO_305000.out)
      have n2_ := Aside0.mk (Kd.S_drew HO_305001.out)
      have n3_ := Aside0.mk (blk_drew BK303.out)
      have n4_ := Aside0.mk (blk_drew BK304.out)
      have n5_ := Aside0.mk (IsS87.drew HI0.out)
      have n6_ := Aside0.mk (keep_drew HK.out)
      have n7_ := Aside0.mk (below_drew1 HB.out)
      clear HO_5
      clear HO_305000
      clear HO_305001
      clear BK303
      clear BK304
      clear HI0
      clear HK
      clear HB
      have HO_5 := n0_
      have HO_305000 := n1_
      have HO_305001 := n2_
      have BK303 := n3_
      have BK304 := n4_
      have HI0 := n5_
      have HK := n6_
      have HB := n7_
      clear n0_ n1_ n2_ n3_ n4_ n5_ n6_ n7_
      obtain ⟨Ao122, co122, eo122⟩ := Kd.R_slice HO_5.out
      (first | subst eo122 | (injection eo122 with f1_ f2_ f3_; have f4_ := f1_.symm; have f5_ := f3_.symm; clear f1_ f2_ f3_; subst f4_; subst f5_))
      refine start_ (n := 10) (S := fun w' => w'.cell? ⟨gb304, 0, none⟩ = some (u305000) ∧ w'.cell? ⟨gb304, 1, none⟩ = some (u305001)) (ds := [9]) mz24_16 (by kernel_rfl) rfl rfl ⟨(blk_cell BK304.out 0).trans rfl, (blk_cell BK304.out 1).trans rfl⟩ (fun hHeld => ?_); refine with_tabW spec_l06Draw.tab29 spec_l06Draw.bits29 (fun HT_ HW_ => ?_)
      generalize w120.drew = w121 at HO_5 HO_305000 HO_305001 BK303 BK304 HI0 HK HB hHeld ⊢
      refine pu_z24 0 (some 106) ?_ mz24_17 rfl rfl (any_of HT_.out (by kernel_rfl)) (fun _ _ _ h => h) (Or.inl ⟨by rfl, ?_⟩) ?_ ?_ ?_
      (rotate_left; ·(intro w'; go_simp; with_reducible rfl)); (rotate_left; ·(simp only [Act.put, pq_z24]; rfl))
      refine pu_z24 2 (some 108) ?_ mz24_18 rfl rfl (any_of HT_.out (by kernel_rfl)) (fun _ _ _ h => h) (Or.inl ⟨by rfl, ?_⟩) ?_ ?_ ?_
      (rotate_left; ·(intro w'; go_simp; with_reducible rfl)); (rotate_left; ·(simp only [Act.put, pq_z24]; rfl))
      refine pu_z24 3 (some 109) ?_ mz24_19 rfl rfl (any_of HT_.out (by kernel_rfl)) (fun _ _ _ h => h) (Or.inl ⟨by rfl, ?_⟩) ?_ ?_ ?_
      (rotate_left; ·(intro w'; go_simp; with_reducible rfl)); (rotate_left; ·(simp only [Act.put, pq_z24]; rfl))
      refine take_ (i := 1) (N := some 107) (v := ?_) (a' := ?_) mz24_20 rfl rfl (take_ofW HT_.out HW_.out (by kernel_rfl)) (fun _ _ _ h => h) (Or.inl ⟨by rfl, ?_⟩) hHeld ?_ ?_
      (rotate_left; ·(rintro w' ⟨s0, s1⟩; go_simp; with_reducible rfl)); (rotate_left; ·(simp only [Act.put, pq_z24]; rfl))
      refine one_ (i := 4) (N := some 110) mz24_21 rfl rfl (one_of HT_.out (by kernel_rfl)) (by decide) (fun K hK => ?_)
      refine goes_ Tryd.func49 (by kernel_rfl) rfl #[.slice Ao122 x5_1.length co122] (by rfl) rfl rfl (by (try simp only [List.map_toArray, List.map_cons, List.map_nil]); first | done | rfl | (simp only [List.length_drop, List.length_take]; rfl)) ?_
      with_reducible refine (spec_l00Own.calls _ _ x5_1 t374 _ ?side1 ?side2 A118.out).mono ?_
      (case side1 => repeat (first | exact (Kd.R_reads' HO_5.out).2.2 | (with_reducible refine Kd.C_alloc ?_ _) | (with_reducible refine Kd.C_drewN ?_ _) | (with_reducible refine Kd.C_drew ?_)))
      (case side2 => exact (Kd.R_reads' HO_5.out).2.1)
      rintro e w123 ⟨v375, rfl, ho0, hb⟩
      refine ⟨_, rfl, ?_⟩
      have n0_ := Aside0.mk (Kd.R_elder' (by (with_reducible repeat (first | apply Kd.R_alloc | apply Kd.R_drewN | apply Kd.R_drew)); exact HO_5.out) (Kd.R_base ho0) hb)
      have n1_ := Aside0.mk (Kd.R_below (by (with_reducible repeat (first | apply Kd.R_alloc | apply Kd.R_drewN | apply Kd.R_drew)); exact HO_305000.out) hb)
      have n2_ := Aside0.mk (Kd.S_elder' (by (with_reducible repeat (first | apply Kd.S_alloc | apply Kd.S_drewN | apply Kd.S_drew)); exact HO_305001.out) (Kd.R_base ho0) hb)
      have n3_ := Aside0.mk (Kd.R_lower (Kd.R_new' ho0 (Kd.R_lt (by (with_reducible repeat (first | apply Kd.R_alloc | apply Kd.R_drewN | apply Kd.R_drew)); exact HO_5.out))) (keep_size (w := w) (g := g) (row := none) (by repeat (first | (with_reducible first | exact HK.out | apply KeepBut.set_ | apply keep_drewN | apply keep_drew | apply keep_alloc | refine keep_far ?_ GW303.out _ | refine keep_far ?_ GW304.out _) | exact HK.out))))
      have n4_ := Aside0.mk (blk_below (g := gb303) (o := .cells #[.slice none 0 0, .slice none 0 0] 32 (0, 0)) (by (with_reducible repeat first | apply blk_drewN | apply blk_drew | apply blk_alloc); exact BK303.out) hb)
      have n5_ := Aside0.mk (blk_below (g := gb304) (o := .cells #[u305000, u305001] 32 (0, 0)) (by (with_reducible repeat first | apply blk_drewN | apply blk_drew | apply blk_alloc); exact BK304.out) hb)
      have n6_ := Aside0.mk (IsS87.below (by repeat (first | (with_reducible first | exact HI0.out | apply IsS87.alloc | apply IsS87.drewN | apply IsS87.drew | apply IsS87.set_1 | apply IsS87.set_2 | refine IsS87.far ?_ NB0_303.out _ | refine IsS87.far ?_ NB0_304.out _) | exact HI0.out)) hb)
      have n7_ := Aside0.mk (KeepBut.trans (by repeat (first | (with_reducible first | exact HK.out | apply KeepBut.set_ | apply keep_drewN | apply keep_drew | apply keep_alloc | refine keep_far ?_ GW303.out _ | refine keep_far ?_ GW304.out _) | exact HK.out)) (KeepBut.of_below hb g none) (.inl rfl))
      have n8_ := Aside0.mk (below_step (by repeat (first | (with_reducible first | exact HB.out | apply below_alloc | apply pw_below_drewN | apply below_drew1 | refine below_set ?_ (IsS87.ge HI0.out) | refine below_set ?_ GE303.out | refine below_set ?_ GE304.out) | exact HB.out)) hb)
      clear HO_5
      clear HO_305000
      clear HO_305001
      clear BK303
      clear BK304
      clear HI0
      clear HK
      clear HB
      have HO_5 := n0_
      have HO_305000 := n1_
      have HO_305001 := n2_
      have HO376 := n3_
      have BK303 := n4_
      have BK304 := n5_
      have HI0 := n6_
      have HK := n7_
      have HB := n8_
      clear n0_ n1_ n2_ n3_ n4_ n5_ n6_ n7_ n8_
      (try clear hb)
      (try clear hb2)
      (try clear hk)
      (try clear hi)
      (try clear ho0)
      obtain ⟨Ao124, co124, eo124⟩ := Kd.R_slice HO376.out
      (first | subst eo124 | (injection eo124 with f1_ f2_ f3_; have f4_ := f1_.symm; have f5_ := f3_.symm; clear f1_ f2_ f3_; subst f4_; subst f5_))
      refine hK.out _ _ ⟨(blk_cell BK304.out 0).trans rfl, (blk_cell BK304.out 1).trans rfl⟩ (fun hHeld => ?_)
      clear hK K
      refine norm_ (a' := ?_) ?_ ?_
      (rotate_left; ·(show Act.put _ (some 110) _ = _; simp only [Act.put, pq_z24]; rfl))
      refine pu_z24 5 (some 111) ?_ mz24_22 rfl rfl (any_of HT_.out (by kernel_rfl)) (fun _ _ _ h => h) (Or.inl ⟨by rfl, ?_⟩) ?_ ?_ ?_
      (rotate_left; ·(intro w'; go_simp; with_reducible rfl)); (rotate_left; ·(simp only [Act.put, pq_z24]; rfl))
      refine one_ (i := 6) (N := some 112) mz24_23 rfl rfl (one_of HT_.out (by kernel_rfl)) (by decide) (fun K hK => ?_)
      refine value_ (w1 := ?_) (v := ?_) (by rfl) rfl ?_ ?_
      rotate_left 2
      ·go_simp
       constructor
       ·rfl
       ·rfl
      refine hK.out _ _ ⟨(blk_cell (blk_alloc BK304.out _) 0).trans rfl, (blk_cell (blk_alloc BK304.out _) 1).trans rfl⟩ (fun hHeld => ?_)
      clear hK K
      refine norm_ (a' := ?_) ?_ ?_
      (rotate_left; ·(show Act.put _ (some 112) _ = _; simp only [Act.put, pq_z24]; rfl))
      refine one_ (i := 7) (N := some 113) mz24_24 rfl rfl (one_of HT_.out (by kernel_rfl)) (by decide) (fun K hK => ?_)
      refine Kd.S_append_step k62 w.heap.size (by rfl) (.tmp 107) (.tmp 112) 30 62 (.agg #[(.int .i64 0), (.int .i64 0), (.slice none 0 0)]) 40 rfl Tryd.underlying30 info62 rfl (by decide) (by omega) u305001 x305001_1 (⟨x4_1, 3, t374⟩ : S62) [.int .i64 x4_1, .int .i64 3, .slice Ao124 t374.length co124] (fun k_ => some k_ ≠ (.slice Ao122 x5_1.length co122 : Value).ownBlock) (fun k_ => some k_ = (.slice Ao124 t374.length co124 : Value).ownBlock) rfl rfl ?aP (fun k_ hk_ => ((Kd.R_mono (ok' := fun k_ => ((fun k_ => some k_ ≠ (.slice Ao122 x5_1.length co122 : Value).ownBlock)) k_ ∧ some k_ ≠ (u305001 : Value).ownBlock) (Kd.R_apart' (HO376.out) (Kd.S_typed HO_305001.out) (by decide)) (fun k_ hk => ⟨hk.1.2, hk.2⟩))).1 k_ hk_.symm) ?aF ?aO (Below.refl _ _) ?aS ?aL ?_
      (case aP => exact k62_mkM _ _ _ (⟨x4_1, 3, t374⟩ : S62) (Kd.R_mono (Kd.R_tight rfl (Kd.R_mono (ok' := fun k_ => ((fun k_ => some k_ ≠ (.slice Ao122 x5_1.length co122 : Value).ownBlock)) k_ ∧ some k_ ≠ (u305001 : Value).ownBlock) (Kd.R_apart' (HO376.out) (Kd.S_typed HO_305001.out) (by decide)) (fun k_ hk => ⟨hk.1.2, hk.2⟩))) (fun _ h_ => h_)))
      (case aF => exact (fun k_ hk => Kd.fresh' (Kd.R_lt (by (with_reducible repeat (first | apply Kd.R_alloc | apply Kd.R_drewN | apply Kd.R_drew)); exact HO_5.out)) k_ hk))
      (case aO => exact (by (with_reducible repeat (first | apply Kd.S_alloc | apply Kd.S_drewN | apply Kd.S_drew)); exact Kd.S_mono HO_305001.out (fun k_ hk => ⟨hk.1, fun e_ => hk.2 e_⟩)))
      (case aS => exact (keep_size (w := w) (g := g) (row := none) (by repeat (first | (with_reducible first | exact HK.out | apply KeepBut.set_ | apply keep_drewN | apply keep_drew | apply keep_alloc | refine keep_far ?_ GW303.out _ | refine keep_far ?_ GW304.out _) | exact HK.out))))
      (case aL => have := LMc119.out; omega)
      intro v378 w125 ho hb hg hat
      rw [← Ny377.out] at ho
      have n0_ := Aside0.mk (Kd.R_over' (by (with_reducible repeat (first | apply Kd.R_alloc | apply Kd.R_drewN | apply Kd.R_drew)); exact HO_5.out) (Kd.S_typed (by (with_reducible repeat (first | apply Kd.S_alloc | apply Kd.S_drewN | apply Kd.S_drew)); exact HO_305001.out)) (by decide) hg)
      have n1_ := Aside0.mk (Kd.R_over' (by (with_reducible repeat (first | apply Kd.R_alloc | apply Kd.R_drewN | apply Kd.R_drew)); exact HO_305000.out) (Kd.S_typed (by (with_reducible repeat (first | apply Kd.S_alloc | apply Kd.S_drewN | apply Kd.S_drew)); exact HO_305001.out)) (by decide) hg)
      have n2_ := Aside0.mk (blk_grown (g := gb303) (o := .cells #[.slice none 0 0, .slice none 0 0] 32 (0, 0)) (by (with_reducible repeat first | apply blk_drewN | apply blk_drew | apply blk_alloc); exact BK303.out) hg (Kd.S_ne HO_305001.out BK303.out (by decide)))
      have n3_ := Aside0.mk (blk_grown (g := gb304) (o := .cells #[u305000, u305001] 32 (0, 0)) (by (with_reducible repeat first | apply blk_drewN | apply blk_drew | apply blk_alloc); exact BK304.out) hg (Kd.S_ne HO_305001.out BK304.out (by decide)))
      have n4_ := Aside0.mk (IsS87.grown (by repeat (first | (with_reducible first | exact HI0.out | apply IsS87.alloc | apply IsS87.drewN | apply IsS87.drew | apply IsS87.set_1 | apply IsS87.set_2 | refine IsS87.far ?_ NB0_303.out _ | refine IsS87.far ?_ NB0_304.out _) | exact HI0.out)) hg (IsS87.own_neS HI0.out HO_305001.out (by decide)))
      have n5_ := Aside0.mk (below_weaken (by repeat (first | (with_reducible first | exact HB.out | apply below_alloc | apply pw_below_drewN | apply below_drew1 | refine below_set ?_ (IsS87.ge HI0.out) | refine below_set ?_ GE303.out | refine below_set ?_ GE304.out) | exact HB.out)) HL.out hb)
      have n6_ := Aside0.mk (KeepBut.trans (by repeat (first | (with_reducible first | exact HK.out | apply KeepBut.set_ | apply keep_drewN | apply keep_drew | apply keep_alloc | refine keep_far ?_ GW303.out _ | refine keep_far ?_ GW304.out _) | exact HK.out)) (KeepBut.of_grown hg g) (Kd.S_base2 HO_305001.out))
      have n7_ := Aside0.mk (ho)
      clear HO_5
      clear HO_305000
      clear BK303
      clear BK304
      clear HI0
      clear HB
      clear HK
      clear HO_305001
      clear HO376
      have HO_5 := n0_
      have HO_305000 := n1_
      have BK303 := n2_
      have BK304 := n3_
      have HI0 := n4_
      have HB := n5_
      have HK := n6_
      have HO379 := n7_
      clear n0_ n1_ n2_ n3_ n4_ n5_ n6_ n7_
      clear ho hb hg hat
      obtain ⟨Ao126, co126, eo126⟩ := Kd.S_slice HO379.out
      (first | subst eo126 | (injection eo126 with f1_ f2_ f3_; have f4_ := f1_.symm; have f5_ := f3_.symm; clear f1_ f2_ f3_; subst f4_; subst f5_))
      refine hK.out _ _ ⟨(blk_cell BK304.out 0).trans rfl, (blk_cell BK304.out 1).trans rfl⟩ (fun hHeld => ?_)
      clear hK K
      refine norm_ (a' := ?_) ?_ ?_
      (rotate_left; ·(show Act.put _ (some 113) _ = _; simp only [Act.put, pq_z24]; rfl))
      refine pu_z24 8 (some 114) ?_ mz24_25 rfl rfl (any_of HT_.out (by kernel_rfl)) (fun _ _ _ h => h) (Or.inl ⟨by rfl, ?_⟩) ?_ ?_ ?_
      (rotate_left; ·(intro w'; go_simp; with_reducible rfl)); (rotate_left; ·(simp only [Act.put, pq_z24]; rfl))
      refine last_ (i := 9) (N := none) mz24_26 rfl rfl (one_of HT_.out (by kernel_rfl)) (by decide) (fun K hK => ?_)
      have hs127 : w125.cell? ⟨gb304, 1, none⟩ = some (u305001) := (blk_cell BK304.out 1).trans rfl
      have hfs127 := blk_frozen BK304.out 1
      have hns127_0 := NB303_304.out
      have hms127_0 := NB304_303.out
      refine skip_ (w1 := ?_) (by rfl) rfl ?_ ?_
      rotate_left
      ·go_simp
       rfl
      refine hK.out _ _ ?_
      clear hK K
      refine done_ (done_of HT_.out (by kernel_rfl)) ?_
      have hnb128 := NB304_303.out
      have hnc128 := NB303_304.out
      have hnb129 := NB304_0.out
      have hnc129 := NB0_304.out
      have hcz130_0 : w125.cell? ⟨gb304, 0, none⟩ = some (u305000) := (blk_cell BK304.out 0).trans rfl
      have hcz130_1 : w125.cell? ⟨gb304, 1, none⟩ = some (u305001) := (blk_cell BK304.out 1).trans rfl
      have hfz130_0 := blk_frozen BK304.out 0
      have hfz130_1 := blk_frozen BK304.out 1
      obtain ⟨Ao131, co131, eo131⟩ := Kd.R_slice HO_305000.out
      subst eo131
      have hnb132 := NB303_0.out
      have hnc132 := NB0_303.out
      have hcz133_0 : w125.cell? ⟨gb303, 0, none⟩ = some (.slice none 0 0) := (blk_cell BK303.out 0).trans rfl
      have hcz133_1 : w125.cell? ⟨gb303, 1, none⟩ = some (.slice none 0 0) := (blk_cell BK303.out 1).trans rfl
      have hfz133_0 := blk_frozen BK303.out 0
      have hfz133_1 := blk_frozen BK303.out 1
      try go_wp2
      refine bodyPost_ret (results_cell_row rfl _ _ gb303 32 #[.slice Ao131 x305000_1.length co131, .slice Ao126 y377.length co126] (0, 0) _ rfl (by (with_reducible repeat first | apply blk_drewN | apply blk_drew | apply blk_alloc); refine blk_put (cs := #[.slice Ao131 x305000_1.length co131, .slice none 0 0]) ?_ 1 _ rfl; (with_reducible repeat first | apply blk_drewN | apply blk_drew | apply blk_alloc); refine blk_put (cs := #[.slice none 0 0, .slice none 0 0]) ?_ 0 _ rfl; (with_reducible repeat first | apply blk_drewN | apply blk_drew | apply blk_alloc); refine blk_far ?_ NB303_304.out _; (with_reducible repeat first | apply blk_drewN | apply blk_drew | apply blk_alloc); exact BK303.out) Tryd.underlying32 rfl (by kernel_rfl)) rfl ?_
      exact ⟨_, _, by first | rfl | (simp [*, errW_none, errW_some] <;> rfl), by (with_reducible repeat (first | apply Kd.R_alloc | apply Kd.R_drewN | apply Kd.R_drew)); exact Kd.R_mono (Kd.R_far (p := ⟨gb303, 1, none⟩) (Kd.R_far (p := ⟨gb303, 0, none⟩) (Kd.R_far (p := ⟨gb304, 1, none⟩) (Kd.R_types (Kd.R_types HO_305000.out BK304.out (by decide)) BK303.out (by decide)) (fun _ hk => hk.1.2) (.slice Ao126 y377.length co126)) (fun _ hk => hk.2) (.slice Ao131 x305000_1.length co131)) (fun _ hk => hk.2) (.slice Ao126 y377.length co126)) (fun _ hk => trivial), by (with_reducible repeat (first | apply Kd.S_alloc | apply Kd.S_drewN | apply Kd.S_drew)); exact Kd.S_mono (Kd.S_far (p := ⟨gb303, 1, none⟩) (Kd.S_far (p := ⟨gb303, 0, none⟩) (Kd.S_far (p := ⟨gb304, 1, none⟩) (Kd.S_types (Kd.S_types HO379.out BK304.out (by decide)) BK303.out (by decide)) (fun _ hk => hk.1.2) (.slice Ao126 y377.length co126)) (fun _ hk => hk.2) (.slice Ao131 x305000_1.length co131)) (fun _ hk => hk.2) (.slice Ao126 y377.length co126)) (fun _ hk => trivial), by repeat (first | (with_reducible first | exact HI0.out | apply IsS87.alloc | apply IsS87.drewN | apply IsS87.drew | apply IsS87.set_1 | apply IsS87.set_2 | refine IsS87.far ?_ NB0_303.out _ | refine IsS87.far ?_ NB0_304.out _) | exact HI0.out), by repeat (first | (with_reducible first | exact HB.out | apply below_alloc | apply pw_below_drewN | apply below_drew1 | refine below_set ?_ (IsS87.ge HI0.out) | refine below_set ?_ GE303.out | refine below_set ?_ GE304.out) | exact HB.out), by repeat (first | (with_reducible first | exact HK.out | apply KeepBut.set_ | apply keep_drewN | apply keep_drew | apply keep_alloc | refine keep_far ?_ GW303.out _ | refine keep_far ?_ GW304.out _) | exact HK.out)⟩
     ·rw [if_neg c119] at H
      exact absurd H (by simp)

end Go.Proofs.YtohjpgcmhihdhaaDoor.Q
