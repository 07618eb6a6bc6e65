/- The library's iterator over the lines of a text, and a range over it. No conditions beyond each theorem's own. -/
import Derived.RangeFuncNested
import Derived.Test.YtohjpgcmhihdhaaGreatDoorQ0
import Derived.RangeFuncBound
import Derived.RangeFuncCalls
import Derived.RangeFuncLeaves
import Derived.RangeFuncRecord
import Derived.WalkKit
import Derived.TacticsIn
import Derived.RegionIn
import Derived.OwnWalkIn
import Derived.TacticsInMore
import Derived.LoopNIn
import Derived.LoopIn
import Derived.Test.YtohjpgcmhihdhaaGreatDoorORead1
namespace Go.Proofs.YtohjpgcmhihdhaaGreatDoorW.PrintMore
open Go.RowKit Go.Proofs.YtohjpgcmhihdhaaGreatDoorW.PrintWords Go.Proofs.YtohjpgcmhihdhaaGreatDoorW.PrintLast Go.Proofs.YtohjpgcmhihdhaaGreatDoor.Q
attribute [local go_sem] Oper.semAt_some
set_option linter.unusedVariables false
set_option linter.unusedSimpArgs false
theorem lines_len (s : ByteArray) : s.data.toList.length = s.size := Array.length_toList
/-- the first line of a text, its end with it, and what stands behind it -/
def cutL (r : ByteArray) : ByteArray × ByteArray := if 0 ≤ Lib.indexByte r.data.toList 10 then (r.extract 0 ((Lib.indexByte r.data.toList 10).toNat + 1), r.extract ((Lib.indexByte r.data.toList 10).toNat + 1) r.size) else (r, ⟨#[]⟩)
/-- how long the text in a box is -/
def boxLen (bs : Nat) (w : World) : Nat := match w.cell? ⟨bs, 0, none⟩ with
  | some (.string r) => r.size
  | _ => 0
theorem boxLen_eq {bs : Nat} {w : World} {r : ByteArray} (h : w.cell? ⟨bs, 0, none⟩ = some (.string r)) : boxLen bs w = r.size := by unfold boxLen; rw [h]
/-- how the iterator ends: the text is at its end, or a round has said 'no more' -/
def LinesOut (J : ByteArray → World → Prop) (Jx : World → Prop) (e : Ending) (W : World) : Prop := (∃ v, e = .returned v) ∧ ((∃ r, r.size = 0 ∧ J r W) ∨ Jx W)
set_option maxHeartbeats 2000000 in
set_option maxRecDepth 100000 in
theorem lines_calls (n l bs : Nat) (hn : 2 ≤ n) (J : ByteArray → World → Prop) (J2 : ByteArray → ByteArray → World → Prop) (Jx : World → Prop)
    (hbox : ∀ r W, J r W → W.cell? ⟨bs, 0, none⟩ = some (.string r) ∧ W.frozen? ⟨bs, 0, none⟩ = false ∧ r.size ≤ 1048576)
    (hcut : ∀ r W, J r W → 0 < r.size → J2 (cutL r).1 (cutL r).2 (W.setCell ⟨bs, 0, none⟩ (.string (cutL r).2)) ∧ J2 (cutL r).1 (cutL r).2 (W.setCell ⟨bs, 0, none⟩ (.string (cutL r).2)).drew)
    (hY : ∀ x r W, J2 x r W → YieldAt Fence.wide (n - 1) Tryz.prog l #[.string x] W fun e W' => (e = .returned (.bool true) ∧ J r W') ∨ (e = .returned (.bool false) ∧ Jx W'))
    (r : ByteArray) (W : World) (h0 : J r W) :
    CallsIn Fence.wide n Tryz.prog 27 #[.func (.yield l) #[] #[], .pointer (some ⟨bs, 0, none⟩)] W fun e W' => LinesOut J Jx e W' := by
  refine callsIn_of_wp Tryz.func27 rfl trivial ?_ rfl
  simp only [Tryz.ntmps27, List.size_toArray, List.length_cons, List.length_nil, Nat.reduceAdd, Nat.reduceSub, Array.replicate_succ, Array.replicate_zero, List.push_toArray, List.append_toArray, List.nil_append, List.cons_append]
  gi_wp2
  gi_loopw [] (fun wr => ∃ r, J r wr) (fun wr => boxLen bs wr)
  case atStart => exact ⟨r, h0⟩
  case round =>
    obtain ⟨r, hJ⟩ := hrel
    obtain ⟨hc, hf, hm⟩ := hbox r wr hJ
    by_cases hz : r.size = 0
    · have b0 : ¬ (0 : Int) < (r.size : Int) := by omega
      have b1 := eq_false (show ¬ 0 < r.size by omega)
      gi_wp2
      go_end0
      exact ⟨⟨_, rfl⟩, .inl ⟨r, hz, hJ⟩⟩
    · have b0 := eq_true (show (0 : Int) < (r.size : Int) by omega)
      have b1 := eq_true (show 0 < r.size by omega)
      have hC := Tryz.strings_IndexByte r 10 wr
      have h10 : (10 : Int).toNat.toUInt8 = 10 := rfl
      rw [h10] at hC
      have hcu := hcut r wr hJ (by omega)
      have hge := Lib.indexByte_ge r.data.toList 10
      have hlt : Lib.indexByte r.data.toList 10 < (r.size : Int) := by
        rcases Int.lt_or_le (Lib.indexByte r.data.toList 10) 0 with h | h
        · omega
        · obtain ⟨o, ho⟩ := Int.eq_ofNat_of_zero_le h
          have h2 := (List.getElem?_eq_some_iff.1 (Lib.indexByte_some ho).1).1
          have h3 := lines_len r
          omega
      unfold cutL at hcu
      generalize Lib.indexByte r.data.toList 10 = ix at hC hcu hge hlt
      by_cases hi : 0 ≤ ix
      · rw [if_pos hi] at hcu
        obtain ⟨o, rfl⟩ := Int.eq_ofNat_of_zero_le hi
        simp only [Int.toNat_natCast] at hcu
        obtain ⟨f1, t1, a1, b1', hy1, hR1⟩ := hY _ _ _ hcu.1
        obtain ⟨f2, t2, a2, b2', hy2, hR2⟩ := hY _ _ _ hcu.2
        have o1 : wrap64 ((o : Int) + 1) = (o : Int) + 1 := by unfold wrap64; omega
        have o2 := eq_true (show (0 : Int) ≤ (o : Int) by omega)
        have o3 : (0 : Int) ≤ (o : Int) + 1 := by omega
        have o4 : (o : Int) + 1 ≤ (r.size : Int) := by omega
        gi_wp2
        refine ⟨trivial, (fun h => by cases h), (callsIn_wide.2 hC).mono ?_⟩
        rintro e w' ⟨rfl, rfl⟩
        gi_wp2
        gi_region
        all_goals
          gi_wp2
          refine ⟨(fun h => by cases h), hR2.mono ?_⟩
          rintro e W3 (⟨rfl, hJ3⟩ | ⟨rfl, hJx3⟩)
          · gi_wp2
            go_roundw
            case rel => exact ⟨_, hJ3⟩
            case measure =>
              rw [boxLen_eq (hbox _ _ hJ3).1, boxLen_eq hc, ByteArray.size_extract]
              omega
          · gi_wp2
            refine bodyPost_ret (results_none rfl _ _ _) rfl ?_
            exact ⟨⟨_, rfl⟩, .inr hJx3⟩
      · rw [if_neg hi] at hcu
        obtain ⟨f1, t1, a1, b1', hy1, hR1⟩ := hY _ _ _ hcu.1
        have o2 := eq_false hi
        gi_wp2
        refine ⟨trivial, (fun h => by cases h), (callsIn_wide.2 hC).mono ?_⟩
        rintro e w' ⟨rfl, rfl⟩
        gi_wp2
        refine ⟨(fun h => by cases h), hR1.mono ?_⟩
        rintro e W3 (⟨rfl, hJ3⟩ | ⟨rfl, hJx3⟩)
        · gi_wp2
          go_roundw
          case rel => exact ⟨_, hJ3⟩
          case measure =>
            rw [boxLen_eq (hbox _ _ hJ3).1, boxLen_eq hc]
            have : (⟨#[]⟩ : ByteArray).size = 0 := rfl
            omega
        · gi_wp2
          refine bodyPost_ret (results_none rfl _ _ _) rfl ?_
          exact ⟨⟨_, rfl⟩, .inr hJx3⟩
/-- a block with a cell holds cells -/
theorem cells_of_cell {W : World} {a : Addr} {v : Value} (h : W.cell? a = some v) : ∃ o : Obj, W.heap[a.block]? = some o ∧ o.isCells = true := by
  unfold World.cell? at h
  cases ho : W.heap[a.block]? with
  | none => simp [ho] at h
  | some o => exact ⟨o, rfl, by cases o <;> simp_all [Obj.isCells]⟩
/-- how a round's body may be left -/
def linePost (I : ByteArray → World → Prop) (Ix : Code → World → Prop) (r : ByteArray) (W : World) : Exit → Act → World → Prop
  | .normal, _, W' => KeepsOthers W W' ∧ I r W'
  | .ret, _, W' => KeepsOthers W W' ∧ Ix .ret W'
  | .exit id, _, W' => KeepsOthers W W' ∧ Ix (.exit id) W'
  | .goto t, _, W' => KeepsOthers W W' ∧ Ix (.goto t) W'
  | .panic _, _, _ => False
  | .outgrown, _, _ => False
set_option maxHeartbeats 2000000 in
/-- a range over the lines of the text in a box -/
theorem range_lines {g : Operand} {p : Tmp} {assign body : Code} {Q : Exit → Act → World → Prop} {a : Act} {w : World} {n : Nat} (hn : 4 ≤ n) (bs : Nat)
    (hg : a.eval g = .func (.func 27) #[] #[.pointer (some ⟨bs, 0, none⟩)]) (eg : ∀ args w, (callFunc 27 args).run Tryz.prog w = .ok (.enter 27 args) w)
    (I : ByteArray → World → Prop) (I2 : ByteArray → ByteArray → World → Prop) (Ix : Code → World → Prop)
    (hIa : ∀ r W o, I r W → I r (W.alloc o))
    (hIp : ∀ r W k o o', w.heap.size ≤ k → I r W → W.heap[k]? = some o → o.isCells = false → I r (W.putObj k o'))
    (hI2p : ∀ x r W k o o', w.heap.size ≤ k → I2 x r W → W.heap[k]? = some o → o.isCells = false → I2 x r (W.putObj k o'))
    (hIxp : ∀ c W k o o', w.heap.size ≤ k → Ix c W → W.heap[k]? = some o → o.isCells = false → Ix c (W.putObj k o'))
    (hbox : ∀ r W, I r W → W.cell? ⟨bs, 0, none⟩ = some (.string r) ∧ W.frozen? ⟨bs, 0, none⟩ = false ∧ r.size ≤ 1048576)
    (hcut : ∀ r W, I r W → 0 < r.size → I2 (cutL r).1 (cutL r).2 (W.setCell ⟨bs, 0, none⟩ (.string (cutL r).2)) ∧ I2 (cutL r).1 (cutL r).2 (W.setCell ⟨bs, 0, none⟩ (.string (cutL r).2)).drew)
    (s : ByteArray) (h0 : I s w) (a₁ : ByteArray → Act)
    (hassign : ∀ (l : Nat) (x : ByteArray) (W : World) (K : Act → World → Prop), K (a₁ x) W →
      assign.wpIn (Fence.wide.inRound l) (n - 1 - 1) Tryz.prog (Exit.then K (fun _ _ _ => False)) { tmps := (#[p].zip #[Value.string x]).foldl (fun t (p, v) => t.setIfInBounds p v) a.tmps, defers := [] } W)
    (hbody : ∀ (l : Nat) (x r : ByteArray) (W : World), I2 x r W → body.wpIn (Fence.wide.inRound l) (n - 1 - 1) Tryz.prog (linePost I Ix r W) (a₁ x) W)
    (hdone : ∀ (D : Nat) (r : ByteArray) (W : World), w.heap.size ≤ D → r.size = 0 → I r W → W.heap[D]? = some (.deferred (some [])) → Q .normal { a with defers := { target := .collected D, args := #[] } :: a.defers } W)
    (hstop : ∀ (D : Nat) (c : Code) (W : World), w.heap.size ≤ D → Ix c W → W.heap[D]? = some (.deferred (some [])) → c.wpIn Fence.wide n Tryz.prog Q { a with defers := { target := .collected D, args := #[] } :: a.defers } W) :
    (Code.rangeFunc g #[p] assign body).wpIn Fence.wide n Tryz.prog Q a w := by
  refine wpIn_rangeFunc ?_
  intro fn hfn
  rw [show Fence.wide.round = none from rfl]
  obtain ⟨rec, hrec⟩ : ∃ rec : LoopState → Option Code → Loop, rec = fun st pe => { state := st, pending := pe, fn, tmps := a.tmps, params := #[p], assign, body, defers := w.heap.size } := ⟨_, rfl⟩
  obtain ⟨W1, hW1⟩ : ∃ W1, (w.alloc (.deferred (some []))).alloc (.loop (rec .ready none)) = W1 := ⟨_, rfl⟩
  have hL1 : W1.heap[w.heap.size + 1]? = some (.loop (rec .ready none)) := by
    rw [← hW1]; have := World.alloc_heap_new (w.alloc (.deferred (some []))) (.loop (rec .ready none)); rwa [World.size_alloc] at this
  have hK1 : W1.heap[w.heap.size]? = some (.deferred (some [])) := by
    rw [← hW1]; exact (Below.heap_alloc _ _ _ (by simp)).trans (World.alloc_heap_new w _)
  have hI1 : I s W1 := by rw [← hW1]; exact hIa _ _ _ (hIa _ _ _ h0)
  refine ⟨w.heap.size + 1, [{ target := .collected w.heap.size, args := #[] }], W1, { target := .fn (.func 27) #[.pointer (some ⟨bs, 0, none⟩)], args := #[.func (.yield (w.heap.size + 1)) #[] #[]] }, W1, 27,
    #[.func (.yield (w.heap.size + 1)) #[] #[]] ++ #[.pointer (some ⟨bs, 0, none⟩)], W1, ?_, ?_, ?_, ?_, fun _ => by omega, ?_⟩
  · rw [← hW1, hrec]; exact run_enterLoop_outer _ _ _ _ _
  · simp only [resolve, hg]
    simp [go_sem]
  · intro f' hf'; exact trivial
  · simp [invoke, go_sem, eg]
  · have other : ∀ (r : ByteArray) (W : World) (k : Nat) (o : Obj), I r W → W.heap[k]? = some o → o.isCells = false → ∀ v, (W.setCell ⟨bs, 0, none⟩ v).heap[k]? = some o := fun r W k o hi ho hc v => by
      obtain ⟨o2, h2, h3⟩ := cells_of_cell (hbox r W hi).1
      exact (Below.heap_setCell W ⟨bs, 0, none⟩ v k (fun e => by subst e; rw [ho] at h2; injection h2 with h2; subst h2; rw [hc] at h3; cases h3)).trans ho
    refine (lines_calls (n - 1) (w.heap.size + 1) bs (by omega)
      (fun r W => I r W ∧ W.heap[w.heap.size + 1]? = some (.loop (rec .ready none)) ∧ W.heap[w.heap.size]? = some (.deferred (some [])))
      (fun x r W => I2 x r W ∧ W.heap[w.heap.size + 1]? = some (.loop (rec .ready none)) ∧ W.heap[w.heap.size]? = some (.deferred (some [])))
      (fun W => ∃ c, Ix c W ∧ W.heap[w.heap.size + 1]? = some (.loop (rec .done (some c))) ∧ W.heap[w.heap.size]? = some (.deferred (some [])))
      (fun r W h => hbox r W h.1)
      (fun r W h hp => by
        obtain ⟨hi, hl, hk⟩ := h
        obtain ⟨h1, h2⟩ := hcut r W hi hp
        exact ⟨⟨h1, other r W _ _ hi hl rfl _, other r W _ _ hi hk rfl _⟩, ⟨h2, other r W _ _ hi hl rfl _, other r W _ _ hi hk rfl _⟩⟩)
      ?_ s W1 ⟨hI1, hL1, hK1⟩).mono ?_
    · rintro x r W ⟨hi, hl, hk⟩
      have hlt : w.heap.size + 1 < W.heap.size := (Array.getElem?_eq_some_iff.1 hl).1
      have hy := run_yield (P := Tryz.prog) (args := #[.string x]) hl (by rw [hrec]; rfl)
      rw [hrec] at hy
      refine ⟨fn, _, assign, body, hy, roundIn_of_wpIn hfn (hassign _ x W _ ⟨_, run_beginRound hl (by rw [hrec]), ?_⟩)⟩
      have hl2 : (W.putObj (w.heap.size + 1) (.loop { rec .ready none with state := .busy })).heap[w.heap.size + 1]? = some (.loop { rec .ready none with state := .busy }) := World.putObj_heap_same hlt
      have hk2 : (W.putObj (w.heap.size + 1) (.loop { rec .ready none with state := .busy })).heap[w.heap.size]? = some (.deferred (some [])) := (World.putObj_heap_other (by omega)).trans hk
      refine wpIn_mono (hbody _ x r _ (hI2p _ _ _ _ _ _ (Nat.le_succ _) hi hl rfl)) ?_
      have fin : ∀ (jump : Option Code) (W3 : World), KeepsOthers (W.putObj (w.heap.size + 1) (.loop { rec .ready none with state := .busy })) W3 →
          (Instr.endRound (w.heap.size + 1) jump).run Tryz.prog W3 = .ok (.bool jump.isNone) (W3.putObj (w.heap.size + 1) (.loop (rec (if jump.isNone then .ready else .done) jump))) ∧
          W3.heap[w.heap.size + 1]? = some (.loop { rec .ready none with state := .busy }) ∧
          (W3.putObj (w.heap.size + 1) (.loop (rec (if jump.isNone then .ready else .done) jump))).heap[w.heap.size + 1]? = some (.loop (rec (if jump.isNone then .ready else .done) jump)) ∧
          (W3.putObj (w.heap.size + 1) (.loop (rec (if jump.isNone then .ready else .done) jump))).heap[w.heap.size]? = some (.deferred (some [])) := fun jump W3 hk3 => by
        have hl3 := hk3.same _ _ hl2 rfl
        have := run_endRound (P := Tryz.prog) jump hl3
        rw [hrec] at this ⊢
        exact ⟨this, by rw [hrec] at hl3; exact hl3, World.putObj_heap_same (Array.getElem?_eq_some_iff.1 hl3).1, (World.putObj_heap_other (by omega)).trans (hk3.same _ _ hk2 rfl)⟩
      rintro e a3 W3 hp
      cases e with
      | normal =>
        obtain ⟨hk3, hi3⟩ := hp
        obtain ⟨hr, hl3, hl4, hk4⟩ := fin none W3 hk3
        exact ⟨_, _, hr, .inl ⟨rfl, hIp _ _ _ _ _ (Nat.le_succ _) hi3 hl3 rfl, hl4, hk4⟩⟩
      | ret =>
        obtain ⟨hk3, hi3⟩ := hp
        obtain ⟨hr, hl3, hl4, hk4⟩ := fin (some .ret) W3 hk3
        exact ⟨_, _, hr, .inr ⟨rfl, .ret, hIxp _ _ _ _ _ (Nat.le_succ _) hi3 hl3 rfl, hl4, hk4⟩⟩
      | exit id =>
        obtain ⟨hk3, hi3⟩ := hp
        obtain ⟨hr, hl3, hl4, hk4⟩ := fin (some (.exit id)) W3 hk3
        exact ⟨_, _, hr, .inr ⟨rfl, .exit id, hIxp _ _ _ _ _ (Nat.le_succ _) hi3 hl3 rfl, hl4, hk4⟩⟩
      | goto t =>
        obtain ⟨hk3, hi3⟩ := hp
        obtain ⟨hr, hl3, hl4, hk4⟩ := fin (some (.goto t)) W3 hk3
        exact ⟨_, _, hr, .inr ⟨rfl, .goto t, hIxp _ _ _ _ _ (Nat.le_succ _) hi3 hl3 rfl, hl4, hk4⟩⟩
      | panic ch => exact hp.elim
      | outgrown => exact hp.elim
    · rintro e W2 ⟨⟨v, rfl⟩, (⟨r, hr, hi, hl, hk⟩ | ⟨c, hi, hl, hk⟩)⟩
      · exact ⟨none, _, by have := run_endLoop (P := Tryz.prog) hl (by rw [hrec]; simp); rw [hrec] at this; exact this, hdone _ r _ (Nat.le_refl _) hr (hIp _ _ _ _ _ (Nat.le_succ _) hi hl rfl) ((World.putObj_heap_other (by omega)).trans hk)⟩
      · exact ⟨some c, _, by have := run_endLoop (P := Tryz.prog) hl (by rw [hrec]; simp); rw [hrec] at this; exact this, hstop _ c _ (Nat.le_refl _) (hIxp _ _ _ _ _ (Nat.le_succ _) hi hl rfl) ((World.putObj_heap_other (by omega)).trans hk)⟩
end Go.Proofs.YtohjpgcmhihdhaaGreatDoorW.PrintMore
