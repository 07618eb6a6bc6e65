/- The topology's whole text, as the program writes it. Conditions: the bounds that each theorem names; the library's table of powers of ten lies in memory as it was laid. -/
import Derived.Test.YtohjpgcmhihdhaaGreatDoorOText
import Derived.Test.YtohjpgcmhihdhaaGreatDoorQ0
namespace Go.Proofs.YtohjpgcmhihdhaaGreatDoorW.PrintMore
open Go.RowKit Go.Proofs.YtohjpgcmhihdhaaGreatDoorW.PrintWords Go.Proofs.YtohjpgcmhihdhaaGreatDoorW.PrintLast Go.Proofs.YtohjpgcmhihdhaaGreatDoor.Q
set_option linter.unusedVariables false
set_option linter.unusedSimpArgs false
/-- the word of a kind of buckets -/
def kwB (k : Int) : ByteArray := if k = 1 then ⟨#[104, 111, 115, 116]⟩ else if k = 2 then ⟨#[114, 97, 99, 107]⟩ else ⟨#[114, 111, 111, 116]⟩
theorem kwB_size (k : Int) : (kwB k).size = 4 := by
  unfold kwB
  split
  · rfl
  · split <;> rfl
theorem run_kind (a b c d : ByteArray) (w : World) (k : Nat) (hk : k < 4) : (Instr.index 83 (.agg #[.string a, .string b, .string c, .string d]) (.int .i64 (k : Int))).run Tryz.prog w = .ok (#[.string a, .string b, .string c, .string d][k]!) w := by
  have h : k = 0 ∨ k = 1 ∨ k = 2 ∨ k = 3 := by omega
  rcases h with rfl | rfl | rfl | rfl
  all_goals simp [Instr.index, run_underlying Tryz.underlying83, asIntOf, go_sem, Tryz.sizeOf9]
set_option maxHeartbeats 1000000 in
set_option maxRecDepth 100000 in
theorem kindWord_at (k : Int) (w : World) (h1 : 1 ≤ k) (h3 : k ≤ 3) :
    Calls Tryz.prog 37 #[.int .i64 k] w fun e w' => e = .returned (.string (kwB k)) ∧ w' = w := by
  have h : k = 1 ∨ k = 2 ∨ k = 3 := by omega
  rcases h with rfl | rfl | rfl
  · have hr : ∀ w, (Instr.index 83 (.agg #[.string ⟨#[110, 111, 100, 101]⟩, .string ⟨#[104, 111, 115, 116]⟩, .string ⟨#[114, 97, 99, 107]⟩, .string ⟨#[114, 111, 111, 116]⟩]) (.int .i64 1)).run Tryz.prog w = .ok (.string ⟨#[104, 111, 115, 116]⟩) w := fun w => run_kind _ _ _ _ w 1 (by decide)
    go_enter Tryz.func37, Tryz.ntmps37
    go_wp2_with fail
    go_ret
    exact ⟨rfl, rfl⟩
  · have hr : ∀ w, (Instr.index 83 (.agg #[.string ⟨#[110, 111, 100, 101]⟩, .string ⟨#[104, 111, 115, 116]⟩, .string ⟨#[114, 97, 99, 107]⟩, .string ⟨#[114, 111, 111, 116]⟩]) (.int .i64 2)).run Tryz.prog w = .ok (.string ⟨#[114, 97, 99, 107]⟩) w := fun w => run_kind _ _ _ _ w 2 (by decide)
    go_enter Tryz.func37, Tryz.ntmps37
    go_wp2_with fail
    go_ret
    exact ⟨rfl, rfl⟩
  · have hr : ∀ w, (Instr.index 83 (.agg #[.string ⟨#[110, 111, 100, 101]⟩, .string ⟨#[104, 111, 115, 116]⟩, .string ⟨#[114, 97, 99, 107]⟩, .string ⟨#[114, 111, 111, 116]⟩]) (.int .i64 3)).run Tryz.prog w = .ok (.string ⟨#[114, 111, 111, 116]⟩) w := fun w => run_kind _ _ _ _ w 3 (by decide)
    go_enter Tryz.func37, Tryz.ntmps37
    go_wp2_with fail
    go_ret
    exact ⟨rfl, rfl⟩
/-- a number that an int64 holds -/
def In64 (n : Int) : Prop := -9223372036854775808 ≤ n ∧ n ≤ 9223372036854775807
def nodeLine (x : S57) : ByteArray := lineB ⟨#[110, 111, 100, 101]⟩ [x.f0, x.f1] ++ (⟨#[10]⟩ : ByteArray)
def bktLine (x : S49) : ByteArray := lineB (kwB x.f1) (x.f0 :: x.f2) ++ (⟨#[10]⟩ : ByteArray)
def nodesT (D : List S57) : List UInt8 := D.flatMap fun x => (nodeLine x).data.toList
def bktsT (B : List S49) : List UInt8 := B.flatMap fun x => (bktLine x).data.toList
theorem lineB_size : ∀ (l : List Int) (s : ByteArray), (∀ x ∈ l, In64 x) → (lineB s l).size ≤ s.size + 22 * l.length
  | [], s, _ => Nat.le_refl _
  | x :: l, s, h => by
    have hx := h x (by simp)
    have hd := decB_size x hx.1 hx.2
    have ih := lineB_size l (s ++ ((⟨#[32]⟩ : ByteArray) ++ decB x)) (fun y hy => h y (by simp [hy]))
    have z1 : ((⟨#[32]⟩ : ByteArray) ++ decB x).size = 1 + (decB x).size := size_app _ _
    rw [size_app, z1] at ih
    rw [lineB_cons, List.length_cons]
    omega
theorem builder_below {T e : TypeId} {B b : Nat} {bs : List Value} {w W : World} (h : Lib.IsBuilder T e B b bs w) (hb : Below w.heap.size w W) : Lib.IsBuilder T e B b bs W := by
  have one : ∀ p, Lib.BuilderAt T e B b p bs w → Lib.BuilderAt T e B b p bs W := fun p h => by
    obtain ⟨hB, v, hk, ho, hn⟩ := h
    exact ⟨hB, v, blk_below hk hb, pw_own_below ho hb, hn⟩
  exact h.elim (fun h => .inl (one _ h)) (fun h => .inr (one _ h))
theorem len_bytes (s : ByteArray) : s.data.toList.length = s.size := Array.length_toList
theorem builder_lt {T e : TypeId} {B b : Nat} {bs : List Value} {w : World} (h : Lib.IsBuilder T e B b bs w) : b < w.heap.size := h.elim (fun h => h.lt) (fun h => h.lt)
theorem lit1_own (W : World) (base : Nat) (hb : base ≤ W.heap.size) (x : Int) : (Kd.int .i64).R 2 (W.alloc (.cells #[.int .i64 x] 2)) base (fun _ => True) (.slice (some ⟨W.heap.size, 0, none⟩) 1 1) [x] :=
  ⟨fun _ _ => trivial, [.int .i64 x], by have h2 := World.ownsRow_lit (base := base) (e := 2) (size := (Kd.int .i64).sz) W #[.int .i64 x] 1 hb (by decide) rfl; simpa using h2, Reps.one (show Kd.M (Kd.int .i64) _ _ _ x [.int .i64 x] from rfl) (Reps.none _ _)⟩
theorem cells_app (l : List UInt8) (s : ByteArray) : Lib.byteCells l ++ Lib.strCells s = Lib.byteCells (l ++ s.data.toList) := by
  rw [Lib.strCells_eq, Lib.byteCells_append]
set_option maxHeartbeats 4000000 in
set_option maxRecDepth 100000 in
theorem treeText_at (A0 : Option Addr) (c0 : Nat) (D : List S57) (A1 : Option Addr) (c1 : Nat) (B : List S49) (w : World) (hr0 : Kd.C k57 w A0 D.length D) (hc0 : D.length ≤ c0) (hr1 : Kd.C k49 w A1 B.length B) (hc1 : B.length ≤ c1) (hD : D.length ≤ 1000) (hB : B.length ≤ 1000) (hd : ∀ x ∈ D, In64 x.f0 ∧ In64 x.f1) (hb : ∀ x ∈ B, In64 x.f0 ∧ (1 ≤ x.f1 ∧ x.f1 ≤ 3) ∧ x.f2.length ≤ 1000 ∧ ∀ y ∈ x.f2, In64 y) (ht : TabW w) :
    Calls Tryz.prog 15 #[.agg #[.slice A0 D.length c0, .slice A1 B.length c1]] w fun e w' => e = .returned (.string ⟨(nodesT D ++ bktsT B).toArray⟩) ∧ Below w.heap.size w w' := by
  have HR0 := Aside0.mk hr0
  have HR1 := Aside0.mk hr1
  have HC0 := Aside0.mk hc0
  have HC1 := Aside0.mk hc1
  have HD := Aside0.mk hd
  have HBK := Aside0.mk hb
  have HL := Aside0.mk hD
  have HM := Aside0.mk hB
  have HT := Aside0.mk ht
  clear hr0 hr1 hc0 hc1 hd hb hD hB ht
  go_enter Tryz.func15, Tryz.ntmps15
  go_wp2_with fail
  have BT := Aside0.mk (blk_alloc (blk_new w (.cells #[.slice A0 D.length c0, .slice A1 B.length c1] 25)) (.cells #[.pointer none, .slice none 0 0] 65))
  have BX := Aside0.mk (blk_new (w.alloc (.cells #[.slice A0 D.length c0, .slice A1 B.length c1] 25)) (.cells #[.pointer none, .slice none 0 0] 65))
  have HB := Aside0.mk (below_alloc (below_alloc (Below.refl w.heap.size w) (.cells #[.slice A0 D.length c0, .slice A1 B.length c1] 25)) (.cells #[.pointer none, .slice none 0 0] 65))
  have hs : (w.alloc (.cells #[.slice A0 D.length c0, .slice A1 B.length c1] 25)).heap.size = w.heap.size + 1 := by unfold World.alloc; exact Array.size_push _
  rw [hs] at BX
  try rw [hs]
  clear hs
  generalize ((w.alloc (.cells #[.slice A0 D.length c0, .slice A1 B.length c1] 25)).alloc (.cells #[.pointer none, .slice none 0 0] 65)) = w1 at BT BX HB ⊢
  obtain ⟨gb, hgb⟩ : ∃ g, g = w.heap.size + 1 := ⟨_, rfl⟩
  rw [← hgb] at BX ⊢
  obtain ⟨gt, hgt⟩ : ∃ g, g = w.heap.size := ⟨_, rfl⟩
  rw [← hgt] at BT
  try rw [← hgt]
  have HG := Aside0.mk (show gt < gb ∧ w.heap.size ≤ gt by omega)
  clear hgb hgt
  have HU := Aside0.mk (show Lib.IsBuilder 65 5 gb gb (Lib.byteCells []) w1 from .inl ⟨Nat.le_refl _, .slice none 0 0, BX.out, World.ownsRow_nil _ _ _ _, by simp [Value.ownBlock]⟩)
  clear BX
  go_loopg [11] D.length (fun gg v11 wr => ∃ (kk : Nat) (acc : List UInt8), kk ≤ D.length ∧ (D.length : Int) - kk ≤ gg ∧ v11 = .int .i64 (kk : Int) ∧ Aside0 (acc ++ nodesT (D.drop kk) = nodesT D) ∧ Aside0 (acc.length ≤ 1000 * kk) ∧ Aside0 (Below w.heap.size w wr) ∧ Aside0 (wr.heap[gt]? = some (.cells #[.slice A0 D.length c0, .slice A1 B.length c1] 25 (0, 0))) ∧ Aside0 (Lib.IsBuilder 65 5 gb gb (Lib.byteCells acc) wr))
  case atStart => exact ⟨0, [], by omega, by omega, rfl, ⟨rfl⟩, ⟨by simp⟩, HB, BT, HU⟩
  case round =>
    clear HB BT HU
    obtain ⟨kk, acc, hk, hg, rfl, HE, HS, HB, BT, HU⟩ := hrel
    by_cases hlt : kk < D.length
    · have hlt' : (kk : Int) < (D.length : Int) := by omega
      obtain ⟨ad, rfl, hx0, hx1⟩ := at_T57 HR0.out (kk : Int) (by omega) hlt'
      replace hx0 := (HB.out.cell (World.block_lt_of_cell? w _ hx0)).trans hx0
      replace hx1 := (HB.out.cell (World.block_lt_of_cell? w _ hx1)).trans hx1
      rw [Int.toNat_natCast] at hx0 hx1
      have hrd : rd_T57 D (kk : Int) = D[kk] := by unfold rd_T57; rw [Int.toNat_natCast, List.getD_eq_getElem?_getD, List.getElem?_eq_getElem hlt]; rfl
      have HX := Aside0.mk (show In64 (rd_T57 D (kk : Int)).f0 ∧ In64 (rd_T57 D (kk : Int)).f1 by rw [hrd]; exact HD.out _ (List.getElem_mem hlt))
      have HN := Aside0.mk (show (acc ++ (nodeLine (rd_T57 D (kk : Int))).data.toList) ++ nodesT (D.drop (kk + 1)) = nodesT D by rw [← HE.out, List.drop_eq_getElem_cons hlt, hrd, List.append_assoc]; rfl)
      clear HE hrd
      generalize rd_T57 D (kk : Int) = x at hx0 hx1 HX HN
      have q0 := eq_true (show (0 : Int) ≤ (kk : Int) by omega)
      have q1 := eq_true hlt'
      go_wp2_with (first | ((with_reducible refine gate_dst (N := 19) rfl ?_); refine Kd.R_lit (Kd.int .i64) _ 2 ?hg (N := 19) ?hd (xs := ([x.f0, x.f1] : List Int)) (inner := [.int .i64 x.f0, .int .i64 x.f1]) (ok := fun _ => True) (okp := fun _ => True) ?hr ?hp (fun _ hk => hk) trivial (Below.refl _ _) (Nat.le_refl _) (by simp) ?_; (case hd => rfl); (case hg => rfl); (case hr => first | (go_simp; done) | (go_simp; rfl)); (case hp => exact (Reps.one (show Kd.M (Kd.int .i64) _ _ _ x.f0 [.int .i64 x.f0] from rfl) (Reps.one (show Kd.M (Kd.int .i64) _ _ _ x.f1 [.int .i64 x.f1] from rfl) (Reps.none _ _)))); intro v240 w4 ho5 hb hg_ hnew_; clear hg_ hnew_))
      have HB3 := Aside0.mk (below_step (below_alloc HB.out (.cells #[.int .i64 x.f0, .int .i64 x.f1] 57)) hb)
      have BT3 := Aside0.mk (blk_below (blk_alloc BT.out (.cells #[.int .i64 x.f0, .int .i64 x.f1] 57)) hb)
      have HU3 := Aside0.mk (builder_below (builder_below HU.out (below_alloc (Below.refl _ _) (.cells #[.int .i64 x.f0, .int .i64 x.f1] 57))) hb)
      clear hb HB BT HU hx0 hx1
      obtain ⟨Av, cv, rfl⟩ := Kd.R_slice ho5
      obtain ⟨-, hlv, hCv⟩ := Kd.R_reads' ho5
      clear ho5
      refine (textLine_at ⟨#[110, 111, 100, 101]⟩ Av cv [x.f0, x.f1] w4 hCv hlv (by simp; exact ⟨HX.out.1, HX.out.2⟩) (by have : (⟨#[110, 111, 100, 101]⟩ : ByteArray).size = 4 := rfl; simp only [List.length_cons, List.length_nil]; omega) (HT.out.on HB3.out)).mono ?_
      rintro e w5 ⟨rfl, hb5⟩
      have HB5 := Aside0.mk (below_step HB3.out hb5)
      have BT5 := Aside0.mk (blk_below BT3.out hb5)
      have HU5 := Aside0.mk (builder_below HU3.out hb5)
      clear hb5 HB3 BT3 HU3 hlv hCv
      have HZ := Aside0.mk (show (nodeLine x).size ≤ 1000 by
        have h1 := lineB_size [x.f0, x.f1] ⟨#[110, 111, 100, 101]⟩ (by simp; exact ⟨HX.out.1, HX.out.2⟩)
        have h2 : (⟨#[110, 111, 100, 101]⟩ : ByteArray).size = 4 := rfl
        have h3 : (⟨#[10]⟩ : ByteArray).size = 1 := rfl
        simp only [List.length_cons, List.length_nil] at h1
        unfold nodeLine
        rw [size_app]
        omega)
      go_wp2_with fail
      refine (writeString_at gb gb (Lib.byteCells acc) (nodeLine x) w5 HU5.out (by rw [Lib.byteCells_length]; have := HZ.out; have := HS.out; have := HL.out; omega) (by have := builder_lt HU5.out; omega)).mono ?_
      rintro e w6 ⟨rfl, hu, hb6, -⟩
      have HU6 := Aside0.mk (show Lib.IsBuilder 65 5 gb gb (Lib.byteCells (acc ++ (nodeLine x).data.toList)) w6 from .inr (by rw [← cells_app]; exact hu))
      have HB6 := Aside0.mk (HB5.out.trans (hb6.mono (by have := HG.out; omega)))
      have BT6 := Aside0.mk ((hb6.block gt HG.out.1).trans BT5.out)
      have HS6 := Aside0.mk (show (acc ++ (nodeLine x).data.toList).length ≤ 1000 * (kk + 1) by rw [List.length_append, len_bytes]; have := HZ.out; have := HS.out; omega)
      clear hu hb6 HB5 BT5 HU5
      go_wp2_with fail
      go_roundg (gk - 1)
      case measure => omega
      case rel => exact ⟨kk + 1, _, by omega, by omega, by rw [show wrap64 ((kk : Int) + 1) = ((kk + 1 : Nat) : Int) from by have := HL.out; unfold wrap64; omega], HN, HS6, HB6, BT6, HU6⟩
    · obtain rfl : kk = D.length := by omega
      have HE2 := Aside0.mk (show acc = nodesT D by have := HE.out; rw [List.drop_length] at this; simpa [nodesT] using this)
      have HS2 := Aside0.mk (show acc.length ≤ 1000000 by have := HS.out; have := HL.out; omega)
      have ht1 := (blk_cell BT.out 1).trans rfl
      clear HE HS hg hlt
      go_wp2_with fail
      go_loopg [26] B.length (fun gg v26 wr => ∃ (kk : Nat) (acc : List UInt8), kk ≤ B.length ∧ (B.length : Int) - kk ≤ gg ∧ v26 = .int .i64 (kk : Int) ∧ Aside0 (acc ++ bktsT (B.drop kk) = nodesT D ++ bktsT B) ∧ Aside0 (acc.length ≤ 1000000 + 30000 * kk) ∧ Aside0 (Below w.heap.size w wr) ∧ Aside0 (wr.heap[gt]? = some (.cells #[.slice A0 D.length c0, .slice A1 B.length c1] 25 (0, 0))) ∧ Aside0 (Lib.IsBuilder 65 5 gb gb (Lib.byteCells acc) wr))
      case atStart => exact ⟨0, acc, by omega, by omega, rfl, ⟨by rw [HE2.out]; rfl⟩, ⟨by have := HS2.out; omega⟩, HB, BT, HU⟩
      case round =>
        clear HB BT HU HE2 HS2 ht1
        clear acc
        obtain ⟨kk, acc, hk, hg, rfl, HE, HS, HB, BT, HU⟩ := hrel
        by_cases hlt : kk < B.length
        · have hlt' : (kk : Int) < (B.length : Int) := by omega
          obtain ⟨ad, A2, c2, rfl, hx0, hx1, hx2, hl2, hg2⟩ := at_T49 HR1.out (kk : Int) (by omega) hlt'
          replace hx0 := (HB.out.cell (World.block_lt_of_cell? w _ hx0)).trans hx0
          replace hx1 := (HB.out.cell (World.block_lt_of_cell? w _ hx1)).trans hx1
          replace hx2 := (HB.out.cell (World.block_lt_of_cell? w _ hx2)).trans hx2
          rw [Int.toNat_natCast] at hx0 hx1 hx2
          have hrd : rd_T49 B (kk : Int) = B[kk] := by unfold rd_T49; rw [Int.toNat_natCast, List.getD_eq_getElem?_getD, List.getElem?_eq_getElem hlt]; rfl
          have HX := Aside0.mk (HBK.out (rd_T49 B (kk : Int)) (by rw [hrd]; exact List.getElem_mem hlt))
          have HN := Aside0.mk (show (acc ++ (bktLine (rd_T49 B (kk : Int))).data.toList) ++ bktsT (B.drop (kk + 1)) = nodesT D ++ bktsT B by rw [← HE.out, List.drop_eq_getElem_cons hlt, hrd, List.append_assoc]; rfl)
          have HG2 := Aside0.mk hg2
          have HL2 := Aside0.mk hl2
          clear HE hrd hg2 hl2
          generalize rd_T49 B (kk : Int) = x at hx0 hx1 hx2 HX HN HG2 HL2
          have q0 := eq_true (show (0 : Int) ≤ (kk : Int) by omega)
          have q1 := eq_true hlt'
          go_wp2_with fail
          have HB3 := Aside0.mk (below_alloc HB.out (.cells #[.int .i64 x.f0, .int .i64 x.f1, .slice A2 x.f2.length c2] 49))
          have BT3 := Aside0.mk (blk_alloc BT.out (.cells #[.int .i64 x.f0, .int .i64 x.f1, .slice A2 x.f2.length c2] 49))
          have HU3 := Aside0.mk (builder_below HU.out (below_alloc (Below.refl _ _) (.cells #[.int .i64 x.f0, .int .i64 x.f1, .slice A2 x.f2.length c2] 49)))
          have BX := Aside0.mk (blk_new wr (.cells #[.int .i64 x.f0, .int .i64 x.f1, .slice A2 x.f2.length c2] 49))
          have HGX := Aside0.mk (show gb < wr.heap.size from builder_lt HU.out)
          clear HB BT HU hx0 hx1 hx2
          generalize wr.alloc (.cells #[.int .i64 x.f0, .int .i64 x.f1, .slice A2 x.f2.length c2] 49) = w2 at HB3 BT3 HU3 BX ⊢
          generalize wr.heap.size = gx at BX HGX ⊢
          have hbx0 := (blk_cell BX.out 0).trans rfl
          have hbx1 := (blk_cell BX.out 1).trans rfl
          have hbx2 := (blk_cell BX.out 2).trans rfl
          have HXI := Aside0.mk (show ∀ y ∈ [x.f0] ++ x.f2, -9223372036854775808 ≤ y ∧ y ≤ 9223372036854775807 from fun y hy => by
            rcases List.mem_append.1 hy with h | h
            · rw [List.mem_singleton.1 h]; exact HX.out.1
            · exact HX.out.2.2.2 y h)
          have HXS := Aside0.mk (show (kwB x.f1).size + 22 * ([x.f0] ++ x.f2).length + 1 ≤ 1000000000 by rw [kwB_size, List.length_append, List.length_singleton]; have := HX.out.2.2.1; omega)
          have HZ := Aside0.mk (show (bktLine x).size ≤ 30000 by
            have h1 := lineB_size (x.f0 :: x.f2) (kwB x.f1) HXI.out
            have h3 : (⟨#[10]⟩ : ByteArray).size = 1 := rfl
            have h4 := kwB_size x.f1
            have h5 := HX.out.2.2.1
            rw [List.length_cons] at h1
            unfold bktLine
            rw [size_app]
            omega)
          have HXL := Aside0.mk (show (Lib.byteCells acc).length + (bktLine x).size ≤ 140737488355328 by rw [Lib.byteCells_length]; have := HZ.out; have := HS.out; have := HM.out; omega)
          have HKB := Aside0.mk (show ∀ w', Below w2.heap.size w2 w' → (fun w' => w'.cell? ⟨gx, 0, none⟩ = some (.int .i64 x.f0) ∧ w'.cell? ⟨gx, 1, none⟩ = some (.int .i64 x.f1) ∧ w'.cell? ⟨gx, 2, none⟩ = some (.slice A2 x.f2.length c2)) w' from fun w' h => ⟨(h.cell (blk_lt BX.out)).trans hbx0, (h.cell (blk_lt BX.out)).trans hbx1, (h.cell (blk_lt BX.out)).trans hbx2⟩)
          have hbb0 : Below w2.heap.size w2 w2.drew := below_drew1 (Below.refl _ _)
          clear hbx0 hbx1 hbx2
          go_region_held3 (fun w' => w'.cell? ⟨gx, 0, none⟩ = some (.int .i64 x.f0) ∧ w'.cell? ⟨gx, 1, none⟩ = some (.int .i64 x.f1) ∧ w'.cell? ⟨gx, 2, none⟩ = some (.slice A2 x.f2.length c2)) (first | exact HKB.out _ hbb | exact ⟨(blk_cell hbx9 0).trans rfl, (blk_cell hbx9 1).trans rfl, (blk_cell hbx9 2).trans rfl⟩ | exact ⟨by assumption, by assumption, by assumption⟩ | exact HKB.out _ (below_drew1 (below_alloc (Below.refl _ _) _)) | exact HKB.out _ (below_drew1 (Below.refl _ _)) | exact HKB.out _ (Below.refl _ _)) (first | (go_at_call 37; (with_reducible refine (kindWord_at x.f1 _ HX.out.2.1.1 HX.out.2.1.2).mono ?_); rintro e wk ⟨rfl, rfl⟩) | (have hbA : Below w2.heap.size w2 (w2.alloc (.cells #[.int .i64 x.f0] 2)).drew := below_drew1 (below_alloc (Below.refl _ _) _); refine Kd.R_append_rows_step (Kd.int .i64) (w0 := w2) w2.heap.size (by rfl) (.tmp 35) (.tmp 37) 47 2 (.int .i64 0) 8 rfl Tryz.underlying47 info2 rfl (by decide) (by omega) (.slice (some ⟨w2.heap.size, 0, none⟩) 1 1) [x.f0] x.f2 _ _ _ (fun _ => True) (fun _ => False) rfl rfl ?aO ?aR (fun _ _ h => h) (fun _ h => h.elim) ?aF ?aB ?aS ?aL ?_; (case aO => exact Kd.R_drew (lit1_own w2 _ (Nat.le_refl _) x.f0)); (case aR => exact Kd.C_below HG2.out (below_step HB3.out (show Below w2.heap.size w2 _ by assumption))); (case aF => exact fun _ _ => trivial); (case aB => exact hbA); (case aS => exact below_size (show Below w2.heap.size w2 _ by assumption)); (case aL => have := HX.out.2.2.1; simp only [List.length_cons, List.length_nil]; omega); intro v38 w5 ho7 hbb hg_ hat_; clear hg_ hat_; obtain ⟨Av, cv, rfl⟩ := Kd.R_slice ho7; obtain ⟨-, hlv, hCv⟩ := Kd.R_reads' ho7) | (go_at_call 36; (refine (textLine_at (kwB x.f1) Av cv ([x.f0] ++ x.f2) _ hCv hlv HXI.out HXS.out (HT.out.on (below_step HB3.out (show Below w2.heap.size w2 _ by assumption)))).mono ?_); rintro e w6 ⟨rfl, hb⟩; have hbb : Below w2.heap.size w2 w6 := below_step (show Below w2.heap.size w2 _ by assumption) hb) | (go_at_call 35; (refine (writeString_at gb gb (Lib.byteCells acc) (bktLine x) _ (builder_below HU3.out (show Below w2.heap.size w2 _ by assumption)) HXL.out (Nat.le_trans (Nat.le_of_lt (builder_lt HU3.out)) (below_size (show Below w2.heap.size w2 _ by assumption)))).mono ?_); rintro e w7 ⟨rfl, hu, hb7, hk7⟩; have hbx9 := hk7 gx _ _ (blk_below BX.out (show Below w2.heap.size w2 _ by assumption)) (by decide) (Nat.ne_of_gt HGX.out); have hbt9 := hk7 gt _ _ (blk_below BT3.out (show Below w2.heap.size w2 _ by assumption)) (by decide) (Nat.ne_of_lt HG.out.1)))
          all_goals
            have HU7 := Aside0.mk (show Lib.IsBuilder 65 5 gb gb (Lib.byteCells (acc ++ (bktLine x).data.toList)) w7 from .inr (by rw [← cells_app]; exact hu))
            have HB7 := Aside0.mk ((below_step HB3.out hbb).trans (hb7.mono (by have := HG.out; omega)))
            have BT7 := Aside0.mk hbt9
            have HS7 := Aside0.mk (show (acc ++ (bktLine x).data.toList).length ≤ 1000000 + 30000 * (kk + 1) by rw [List.length_append, len_bytes]; have := HZ.out; have := HS.out; omega)
            clear hu hb7 hk7 hbx9 hbt9 hbb HB3 BT3 HU3 BX HKB
            go_wp2_with fail
            go_roundg (gk - 1)
            case measure => omega
            case rel => exact ⟨kk + 1, _, by omega, by omega, by rw [show wrap64 ((kk : Int) + 1) = ((kk + 1 : Nat) : Int) from by have := HM.out; unfold wrap64; omega], HN, HS7, HB7, BT7, HU7⟩
        · obtain rfl : kk = B.length := by omega
          have HE2 := Aside0.mk (show acc = nodesT D ++ bktsT B by have := HE.out; rw [List.drop_length] at this; simpa [bktsT] using this)
          clear HE HS hg hlt
          go_wp2_with fail
          refine (Tryz.Builder_String_any gb gb acc wr HU.out (Nat.le_of_lt (builder_lt HU.out))).mono ?_
          rintro e w8 ⟨rfl, hb8⟩
          have HB8 := Aside0.mk (HB.out.trans (hb8.mono (by have := HG.out; omega)))
          clear hb8
          go_wp2_with fail
          go_ret
          exact ⟨by rw [← HE2.out]; rfl, HB8.out⟩
end Go.Proofs.YtohjpgcmhihdhaaGreatDoorW.PrintMore
