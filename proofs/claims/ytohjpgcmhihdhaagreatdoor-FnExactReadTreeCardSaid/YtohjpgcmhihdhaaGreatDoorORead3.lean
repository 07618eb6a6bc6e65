/- A line added to the topology that is read. Conditions: the bounds that each theorem names; the library's variables that are read lie in memory as they were laid. -/
import Derived.Test.YtohjpgcmhihdhaaGreatDoorORead1
import Derived.Test.YtohjpgcmhihdhaaGreatDoorQ0
import Derived.Test.YtohjpgcmhihdhaaGreatDoorORead2
import Derived.Test.YtohjpgcmhihdhaaGreatDoorQf30
namespace Go.Proofs.YtohjpgcmhihdhaaGreatDoorW.PrintMore
open Go.RowKit Go.Proofs.YtohjpgcmhihdhaaGreatDoorW.PrintWords Go.Proofs.YtohjpgcmhihdhaaGreatDoorW.PrintLast Go.Proofs.YtohjpgcmhihdhaaGreatDoor.Q
set_option linter.unusedVariables false
set_option linter.unusedSimpArgs false
def kws : List ByteArray := [⟨#[110, 111, 100, 101]⟩, ⟨#[104, 111, 115, 116]⟩, ⟨#[114, 97, 99, 107]⟩, ⟨#[114, 111, 111, 116]⟩]
/-- the kind of a word; -1 of none -/
def kdW (s : ByteArray) : Int := if s = ⟨#[110, 111, 100, 101]⟩ then 0 else if s = ⟨#[104, 111, 115, 116]⟩ then 1 else if s = ⟨#[114, 97, 99, 107]⟩ then 2 else if s = ⟨#[114, 111, 111, 116]⟩ then 3 else -1
theorem index_kd (s : ByteArray) : slices_Index_string_string.f 6 kws s = some (kdW s) := by
  have st : ∀ (k i : Nat) (h : i < 4), slices_Index_string_string.l0 (k + 1) kws s 4 i = if s = kws[i]'h then some (i : Int) else slices_Index_string_string.l0 k kws s 4 ((i + 1 : Nat) : Int) := fun k i h => by
    have er : rdOf ByteArray.empty kws (i : Int) = kws[i]'h := by
      unfold rdOf
      rw [Int.toNat_natCast, List.getD_eq_getElem?_getD, List.getElem?_eq_getElem (show i < kws.length from h)]
      rfl
    simp only [slices_Index_string_string.l0]
    rw [if_pos (by omega), if_pos (by omega), if_pos (show (i : Int) < (kws.length : Int) from by have : kws.length = 4 := rfl; omega), er, show wrap64 ((i : Int) + 1) = ((i + 1 : Nat) : Int) from by unfold wrap64; omega]
    simp only [str_eq_iff]
  have e4 : slices_Index_string_string.l0 2 kws s 4 ((4 : Nat) : Int) = some (-1) := by
    simp only [slices_Index_string_string.l0]
    rw [if_neg (by omega)]
  show slices_Index_string_string.l0 6 kws s 4 ((0 : Nat) : Int) = _
  rw [st 5 0 (by omega), st 4 1 (by omega), st 3 2 (by omega), st 2 3 (by omega), e4]
  unfold kdW
  rw [apply_ite some, apply_ite some, apply_ite some, apply_ite some]
  rfl
/-- a line added to what was read so far -/
def addM (D : List S57) (B : List S49) (s : ByteArray) : Option (List S57 × List S49) :=
  (rdLine s).bind fun x => match x.2 with
    | [] => none
    | a :: r => if kdW x.1 < 0 then none else if kdW x.1 = 0 then (match r with | [b] => some (D ++ [⟨a, b⟩], B) | _ => none) else some (D, B ++ [⟨a, kdW x.1, r⟩])
/-- a topology that is being read, in its box -/
structure TreeAt (base : Nat) (w : World) (gt : Nat) (v0 v1 : Value) (D : List S57) (B : List S49) : Prop where
  box : w.heap[gt]? = some (.cells #[v0, v1] 25 (0, 0))
  d : Kd.R k57 57 w base (fun _ => True) v0 D
  b : Kd.S kqB 49 w base (fun _ => True) v1 B
theorem TreeAt.below {base gt : Nat} {w w' : World} {v0 v1 : Value} {D : List S57} {B : List S49} (h : TreeAt base w gt v0 v1 D B) (hb : Below w.heap.size w w') : TreeAt base w' gt v0 v1 D B :=
  ⟨blk_below h.box hb, Kd.R_below h.d hb, Kd.S_below h.b hb⟩
/-- what a line's adding may write -/
def AddS (gt : Nat) (v0 v1 : Value) (k : Nat) : Prop := k = gt ∨ v0.ownBlock = some k ∨ v1.ownBlock = some k
def AddOut (base gt : Nat) (v0 v1 : Value) (D : List S57) (B : List S49) (s : ByteArray) (e : Ending) (w w' : World) : Prop :=
  e = .returned (.bool (addM D B s).isSome) ∧ (∀ D' B', addM D B s = some (D', B') → ∃ v0' v1', TreeAt base w' gt v0' v1' D' B') ∧ Below base w w' ∧ Kept w w' (AddS gt v0 v1)
set_option maxHeartbeats 8000000 in
set_option maxRecDepth 100000 in
theorem addLine_at (base gt : Nat) (s : ByteArray) (v0 v1 : Value) (D : List S57) (B : List S49) (w : World) (hs : s.size ≤ 1048576) (hD : DoorW w) (hT : TreeAt base w gt v0 v1 D B) (hg : base ≤ gt) (hd : D.length ≤ 2097152) (hb : B.length ≤ 2097152) :
    Calls Tryz.prog 12 #[.pointer (some ⟨gt, 0, none⟩), .string s] w fun e w' => AddOut base gt v0 v1 D B s e w w' := by
  have HT := Aside0.mk hT
  have HG := Aside0.mk hg
  have HDL := Aside0.mk hd
  have HBL := Aside0.mk hb
  have HM := Aside0.mk (show addM D B s = (rdLine s).bind fun x => match x.2 with
    | [] => none
    | a :: r => if kdW x.1 < 0 then none else if kdW x.1 = 0 then (match r with | [b] => some (D ++ [⟨a, b⟩], B) | _ => none) else some (D, B ++ [⟨a, kdW x.1, r⟩]) from rfl)
  clear hT hg hd hb
  go_enter Tryz.func12, Tryz.ntmps12
  go_wp2_with fail
  refine (readLine_at s w hs hD).mono ?_
  rintro e w1 ⟨vn, rfl, hn, hb⟩
  have HB := Aside0.mk hb
  have HN := Aside0.mk hn
  clear hb hn hs hD
  cases hL : rdLine s with
  | none =>
    rw [hL] at HM HN
    have HF := Aside0.mk (show addM D B s = none from HM.out)
    obtain ⟨A, c, e⟩ := Kd.R_slice HN.out
    subst e
    simp only [Option.isSome_none, Option.elim_none]
    go_wp2_with fail
    go_ret
    exact ⟨by rw [HF.out]; rfl, (fun D' B' h => by rw [HF.out] at h; cases h), HB.out.mono (by have := blk_lt HT.out.box; have := HG.out; omega), Kept.of_below HB.out _⟩
  | some x =>
    obtain ⟨word, n⟩ := x
    rw [hL] at HM HN
    obtain ⟨A, c, e⟩ := Kd.R_slice HN.out
    subst e
    simp only [Option.isSome_some, Option.elim_some]
    cases n with
    | nil =>
      have HF := Aside0.mk (show addM D B s = none from HM.out)
      simp only [List.length_nil]
      go_wp2_with fail
      go_ret
      exact ⟨by rw [HF.out]; rfl, (fun D' B' h => by rw [HF.out] at h; cases h), HB.out.mono (by have := blk_lt HT.out.box; have := HG.out; omega), Kept.of_below HB.out _⟩
    | cons a r =>
      have HN1 := Aside0.mk (show (Kd.int .i64).R 2 w1 w.heap.size (fun _ => True) (.slice A (a :: r).length c) (a :: r) from HN.out)
      have HM1 := Aside0.mk (show addM D B s = if kdW word < 0 then none else if kdW word = 0 then (match r with | [b] => some (D ++ [⟨a, b⟩], B) | _ => none) else some (D, B ++ [⟨a, kdW word, r⟩]) from HM.out)
      clear HN HM
      have HN := HN1
      have HM := HM1
      clear HN1 HM1
      obtain ⟨L, hLn⟩ : ∃ L, (a :: r).length = L := ⟨_, rfl⟩
      rw [hLn] at HN ⊢
      have z0 : ((L : Int) == 0) = false := by rw [← hLn]; simp; omega
      have HLN := Aside0.mk hLn
      clear hLn
      go_wp2_with (first | ((with_reducible refine gate_dst (N := 22) rfl ?_); refine Kd.R_lit Kd.string _ 9 ?hg (N := 22) ?hd (xs := kws) (inner := [.string ⟨#[110, 111, 100, 101]⟩, .string ⟨#[104, 111, 115, 116]⟩, .string ⟨#[114, 97, 99, 107]⟩, .string ⟨#[114, 111, 111, 116]⟩]) (ok := fun _ => True) (okp := fun _ => True) ?hr ?hp (fun _ hk => hk) trivial (Below.refl _ _) (Nat.le_refl _) (by decide) ?_; (case hd => rfl); (case hg => rfl); (case hr => first | (go_simp; done) | (go_simp; rfl)); (case hp => exact (Reps.one (show Kd.M Kd.string _ _ _ _ [.string _] from rfl) (Reps.one (show Kd.M Kd.string _ _ _ _ [.string _] from rfl) (Reps.one (show Kd.M Kd.string _ _ _ _ [.string _] from rfl) (Reps.one (show Kd.M Kd.string _ _ _ _ [.string _] from rfl) (Reps.none _ _)))))); intro v22 w2 ho2 hb2 hg_ hnew_; clear hg_ hnew_))
      obtain ⟨As, cs, rfl⟩ := Kd.R_slice ho2
      obtain ⟨-, hls, hCs⟩ := Kd.R_reads' ho2
      clear ho2
      refine (slices_Index_string_string.calls 6 As cs kws word (kdW word) w2 hCs hls (index_kd word)).mono ?_
      rintro e w3 ⟨rfl, hb3⟩
      have HB3 := Aside0.mk (below_step (below_step HB.out hb2) hb3.below)
      have HN3 := Aside0.mk (Kd.R_below (Kd.R_below HN.out hb2) hb3.below)
      clear hb2 hb3 hCs hls HB HN z0
      by_cases k0 : kdW word < 0
      · have HF := Aside0.mk (show addM D B s = none from by rw [HM.out, if_pos k0])
        have k0b := decide_eq_true k0
        clear k0 HM
        generalize kdW word = kd at k0b ⊢
        go_wp2_with fail
        go_ret
        exact ⟨by rw [HF.out]; rfl, (fun D' B' h => by rw [HF.out] at h; cases h), HB3.out.mono (by have := blk_lt HT.out.box; have := HG.out; omega), Kept.of_below HB3.out _⟩
      have HT3 := Aside0.mk (HT.out.below HB3.out)
      have hT3 := HT3.out
      have HP := Aside0.mk (Kept.of_below HB3.out (AddS gt v0 v1))
      have HW := Aside0.mk (HB3.out.mono (show base ≤ w.heap.size by have := blk_lt HT.out.box; have := HG.out; omega))
      have HSZ := Aside0.mk (show base ≤ w.heap.size by have := blk_lt HT.out.box; have := HG.out; omega)
      have HVO := Aside0.mk (show (∀ k, v0.ownBlock = some k → k < w.heap.size) ∧ ∀ k, v1.ownBlock = some k → k < w.heap.size from ⟨Kd.R_lt HT.out.d, Kd.S_lt HT.out.b⟩)
      by_cases k1 : kdW word = 0
      · rw [k1]
        replace HM := Aside0.mk (HM.out.trans (by rw [if_neg (show ¬ kdW word < 0 by omega), if_pos k1]))
        clear k0 k1
        by_cases l2 : L = 2
        · obtain ⟨b, rfl⟩ : ∃ b, r = [b] := by
            have := HLN.out
            rw [l2] at this
            match r, this with
            | [b], _ => exact ⟨b, rfl⟩
          have HF := Aside0.mk (show addM D B s = some (D ++ [⟨a, b⟩], B) from HM.out)
          subst l2
          obtain ⟨gn, cn, en, hgn⟩ := Kd.R_form HN3.out (by simp)
          injection en with en1 en2 en3
          subst en1
          have HN0 := Aside0.mk (show w3.drew.cell? ⟨gn, 0, none⟩ = some (.int .i64 a) from (Kd.R_cell (0 : Int) HN3.out 0 (by omega) (by simp)).1)
          have HN1 := Aside0.mk (show w3.drew.cell? ⟨gn, 1, none⟩ = some (.int .i64 b) from (Kd.R_cell (0 : Int) HN3.out 1 (by omega) (by simp)).1)
          have HT4 := Aside0.mk (show TreeAt base w3.drew gt v0 v1 D B from HT3.out.below (below_drew1 (Below.refl _ _)))
          have HP4 := Aside0.mk (show Kept w w3.drew (AddS gt v0 v1) from HP.out.drew)
          have HW4 := Aside0.mk (show Below base w w3.drew from below_drew1 HW.out)
          have HS4 := Aside0.mk (show base ≤ w3.drew.heap.size from Nat.le_trans HSZ.out (below_size (below_drew1 HB3.out)))
          clear hgn en2 hT3
          go_wp2_with fail
          clear HT3 HP HW
          refine start_ (n := 17) (S := fun w' => w'.cell? ⟨gt, 0, none⟩ = some v0 ∧ w'.cell? ⟨gn, 0, none⟩ = some (.int .i64 a) ∧ w'.cell? ⟨gn, 1, none⟩ = some (.int .i64 b)) (ds := [13, 16]) #[false, false, false, false, false, false, false, false, false, false, false, false, false, false, false, false, false] (by kernel_rfl) rfl rfl ⟨(blk_cell HT4.out.box 0).trans rfl, HN0.out, HN1.out⟩ (fun hHeld => ?_)
          refine pure_ (i := 0) (N := some 60) (v := ?_) (a' := ?_) #[true, false, false, false, false, false, false, false, false, false, false, false, false, false, false, false, false] rfl rfl (by kernel_rfl) (fun _ _ _ h => h) (Or.inl ⟨by rfl, ?_⟩) ?_ ?_
          rotate_left
          · intro w'
            go_simp
            with_reducible rfl
          rotate_left
          · simp only [Act.put, List.setIfInBounds_toArray, List.set_cons_zero, List.set_cons_succ, i64_w, i32_w]
            rfl
          refine pure_ (i := 1) (N := some 61) (v := ?_) (a' := ?_) #[true, true, false, false, false, false, false, false, false, false, false, false, false, false, false, false, false] rfl rfl (by kernel_rfl) (fun _ _ _ h => h) (Or.inl ⟨by rfl, ?_⟩) ?_ ?_
          rotate_left
          · intro w'
            go_simp
            with_reducible rfl
          rotate_left
          · simp only [Act.put, List.setIfInBounds_toArray, List.set_cons_zero, List.set_cons_succ, i64_w, i32_w]
            rfl
          refine pure_ (i := 2) (N := some 62) (v := ?_) (a' := ?_) #[true, true, true, false, false, false, false, false, false, false, false, false, false, false, false, false, false] rfl rfl (by kernel_rfl) (fun _ _ _ h => h) (Or.inl ⟨by rfl, ?_⟩) ?_ ?_
          rotate_left
          · intro w'
            go_simp
            with_reducible rfl
          rotate_left
          · simp only [Act.put, List.setIfInBounds_toArray, List.set_cons_zero, List.set_cons_succ, i64_w, i32_w]
            rfl
          refine pure_ (i := 3) (N := some 63) (v := ?_) (a' := ?_) #[true, true, true, true, false, false, false, false, false, false, false, false, false, false, false, false, false] rfl rfl (by kernel_rfl) (fun _ _ _ h => h) (Or.inl ⟨by rfl, ?_⟩) ?_ ?_
          rotate_left
          · intro w'
            go_simp
            with_reducible rfl
          rotate_left
          · simp only [Act.put, List.setIfInBounds_toArray, List.set_cons_zero, List.set_cons_succ, i64_w, i32_w]
            rfl
          refine pure_ (i := 5) (N := some 65) (v := ?_) (a' := ?_) #[true, true, true, true, false, true, false, false, false, false, false, false, false, false, false, false, false] rfl rfl (by kernel_rfl) (fun _ _ _ h => h) (Or.inl ⟨by rfl, ?_⟩) ?_ ?_
          rotate_left
          · intro w'
            go_simp
            with_reducible rfl
          rotate_left
          · simp only [Act.put, List.setIfInBounds_toArray, List.set_cons_zero, List.set_cons_succ, i64_w, i32_w]
            rfl
          refine pure_ (i := 6) (N := some 66) (v := ?_) (a' := ?_) #[true, true, true, true, false, true, true, false, false, false, false, false, false, false, false, false, false] rfl rfl (by kernel_rfl) (fun _ _ _ h => h) (Or.inl ⟨by rfl, ?_⟩) ?_ ?_
          rotate_left
          · intro w'
            go_simp
            with_reducible rfl
          rotate_left
          · simp only [Act.put, List.setIfInBounds_toArray, List.set_cons_zero, List.set_cons_succ, i64_w, i32_w]
            rfl
          refine pure_ (i := 8) (N := some 68) (v := ?_) (a' := ?_) #[true, true, true, true, false, true, true, false, true, false, false, false, false, false, false, false, false] rfl rfl (by kernel_rfl) (fun _ _ _ h => h) (Or.inl ⟨by rfl, ?_⟩) ?_ ?_
          rotate_left
          · intro w'
            go_simp
            with_reducible rfl
          rotate_left
          · simp only [Act.put, List.setIfInBounds_toArray, List.set_cons_zero, List.set_cons_succ, i64_w, i32_w]
            rfl
          refine pure_ (i := 9) (N := some 69) (v := ?_) (a' := ?_) #[true, true, true, true, false, true, true, false, true, true, false, false, false, false, false, false, false] rfl rfl (by kernel_rfl) (fun _ _ _ h => h) (Or.inl ⟨by rfl, ?_⟩) ?_ ?_
          rotate_left
          · intro w'
            go_simp
            with_reducible rfl
          rotate_left
          · simp only [Act.put, List.setIfInBounds_toArray, List.set_cons_zero, List.set_cons_succ, i64_w, i32_w]
            rfl
          refine take_ (i := 4) (N := some 64) (v := ?_) (a' := ?_) #[true, true, true, true, true, true, true, false, true, true, false, false, false, false, false, false, false] rfl rfl (by kernel_rfl) (fun _ _ _ h => h) (Or.inl ⟨by rfl, ?_⟩) hHeld ?_ ?_
          rotate_left
          · rintro w' ⟨s0, s1, s2⟩
            go_simp
            with_reducible rfl
          rotate_left
          · simp only [Act.put, List.setIfInBounds_toArray, List.set_cons_zero, List.set_cons_succ, i64_w, i32_w]
            rfl
          refine take_ (i := 7) (N := some 67) (v := ?_) (a' := ?_) #[true, true, true, true, true, true, true, true, true, true, false, false, false, false, false, false, false] rfl rfl (by kernel_rfl) (fun _ _ _ h => h) (Or.inl ⟨by rfl, ?_⟩) hHeld ?_ ?_
          rotate_left
          · rintro w' ⟨s0, s1, s2⟩
            go_simp
            with_reducible rfl
          rotate_left
          · simp only [Act.put, List.setIfInBounds_toArray, List.set_cons_zero, List.set_cons_succ, i64_w, i32_w]
            rfl
          refine take_ (i := 10) (N := some 70) (v := ?_) (a' := ?_) #[true, true, true, true, true, true, true, true, true, true, true, false, false, false, false, false, false] rfl rfl (by kernel_rfl) (fun _ _ _ h => h) (Or.inl ⟨by rfl, ?_⟩) hHeld ?_ ?_
          rotate_left
          · rintro w' ⟨s0, s1, s2⟩
            go_simp
            with_reducible rfl
          rotate_left
          · simp only [Act.put, List.setIfInBounds_toArray, List.set_cons_zero, List.set_cons_succ, i64_w, i32_w]
            rfl
          refine pure_ (i := 11) (N := some 71) (v := ?_) (a' := ?_) #[true, true, true, true, true, true, true, true, true, true, true, true, false, false, false, false, false] rfl rfl (by kernel_rfl) (fun _ _ _ h => h) (Or.inl ⟨by rfl, ?_⟩) ?_ ?_
          rotate_left
          · intro w'
            go_simp
            with_reducible rfl
          rotate_left
          · simp only [Act.put, List.setIfInBounds_toArray, List.set_cons_zero, List.set_cons_succ, i64_w, i32_w]
            rfl
          refine one_ (i := 12) (N := some 72) #[true, true, true, true, true, true, true, true, true, true, true, true, true, false, false, false, false] rfl rfl (by kernel_rfl) (by decide) (fun K hK => ?_)
          generalize w3.drew = wd at HT4 HN0 HN1 HP4 HW4 HS4 hHeld ⊢
          refine value_ (w1 := ?_) (v := ?_) (by rfl) rfl ?_ ?_
          rotate_left 2
          · go_simp
            constructor
            · rfl
            · rfl
          refine hK.out _ _ ⟨(blk_cell (blk_alloc HT4.out.box _) 0).trans rfl, ((below_alloc (Below.refl wd.heap.size wd) _).cell (World.block_lt_of_cell? wd _ HN0.out)).trans HN0.out, ((below_alloc (Below.refl wd.heap.size wd) _).cell (World.block_lt_of_cell? wd _ HN1.out)).trans HN1.out⟩ (fun hHeld => ?_)
          clear hK K
          refine norm_ (a' := ?_) ?_ ?_
          rotate_left
          · show Act.put _ (some 72) _ = _
            simp only [Act.put, List.setIfInBounds_toArray, List.set_cons_zero, List.set_cons_succ, i64_w, i32_w]
            rfl
          refine last_ (i := 13) (N := some 73) #[true, true, true, true, true, true, true, true, true, true, true, true, true, true, false, false, false] rfl rfl (by kernel_rfl) (by decide) (fun K hK => ?_)
          refine Kd.R_append_step k57 (w0 := wd) base (by rfl) (.tmp 64) (.tmp 72) 22 57 (.agg #[(.int .i64 0), (.int .i64 0)]) 16 rfl Tryz.underlying22 info57 rfl (by decide) (by omega) v0 D (⟨a, b⟩ : S57) [.int .i64 a, .int .i64 b] (fun _ => True) (fun _ => False) rfl rfl ?aP (fun _ hk => hk.elim) ?aF ?aO ?aB ?aS ?aL ?_
          (case aP => exact k57_mkM _ _ _ (⟨a, b⟩ : S57))
          (case aF => exact (fun _ _ => trivial))
          (case aO => exact HT4.out.d)
          (case aB => exact Below.refl _ _)
          (case aS => exact HS4.out)
          (case aL => have := HDL.out; omega)
          intro v6 w6 ho hb hg6 hat
          have n1 := Aside0.mk (blk_grown HT4.out.box hg6 (Kd.R_ne HT4.out.d HT4.out.box (by decide)))
          have n2 := Aside0.mk (Kd.S_over' HT4.out.b (Kd.R_typed HT4.out.d) (by decide) hg6)
          have n3 := Aside0.mk ho
          have n4 := Aside0.mk (HW4.out.trans hb)
          have n5 := Aside0.mk (Kept.of_grown hg6 HP4.out (fun k e => .inl (.inr (.inl e))))
          clear ho hb hg6 hat
          obtain ⟨Ao, co, eo⟩ := Kd.R_slice n3.out
          rw [List.length_append, List.length_singleton] at eo
          subst eo
          refine hK.out _ _ ?_
          clear hK K
          refine norm_ (a' := ?_) ?_ ?_
          rotate_left
          · show Act.put _ (some 73) _ = _
            simp only [Act.put, List.setIfInBounds_toArray, List.set_cons_zero, List.set_cons_succ, i64_w, i32_w]
            rfl
          refine pure_ (i := 14) (N := some 74) (v := ?_) (a' := ?_) #[true, true, true, true, true, true, true, true, true, true, true, true, true, true, true, false, false] rfl rfl (by kernel_rfl) (fun _ _ _ h => h) (Or.inl ⟨by rfl, ?_⟩) ?_ ?_
          rotate_left
          · intro w'
            go_simp
            with_reducible rfl
          rotate_left
          · simp only [Act.put, List.setIfInBounds_toArray, List.set_cons_zero, List.set_cons_succ, i64_w, i32_w]
            rfl
          refine pure_ (i := 15) (N := some 75) (v := ?_) (a' := ?_) #[true, true, true, true, true, true, true, true, true, true, true, true, true, true, true, true, false] rfl rfl (by kernel_rfl) (fun _ _ _ h => h) (Or.inl ⟨by rfl, ?_⟩) ?_ ?_
          rotate_left
          · intro w'
            go_simp
            with_reducible rfl
          rotate_left
          · simp only [Act.put, List.setIfInBounds_toArray, List.set_cons_zero, List.set_cons_succ, i64_w, i32_w]
            rfl
          refine last_ (i := 16) (N := none) #[true, true, true, true, true, true, true, true, true, true, true, true, true, true, true, true, true] rfl rfl (by kernel_rfl) (by decide) (fun K hK => ?_)
          have hs7 := (blk_cell n1.out 0).trans rfl
          have hf7 := blk_frozen n1.out 0
          refine skip_ (w1 := ?_) (by rfl) rfl ?_ ?_
          rotate_left
          · go_simp
            rfl
          refine hK.out _ _ ?_
          clear hK K
          refine done_ (by kernel_rfl) ?_
          go_wp2_with fail
          go_ret
          refine ⟨by rw [HF.out]; rfl, fun D' B' h => ?_, n4.out.setCell HG.out _, Kept.setCell n5.out (.inl (.inl rfl)) _⟩
          rw [HF.out] at h
          injection h with h
          injection h with h1 h2
          subst h1
          subst h2
          exact ⟨_, _, blk_put n1.out 0 _ rfl, Kd.R_set n3.out n1.out (by decide) 0 _, Kd.S_set n2.out n1.out (by decide) 0 _⟩
        · have HF := Aside0.mk (show addM D B s = none from by
            rw [HM.out]
            match r, HLN.out with
            | [], _ => rfl
            | [b], h => exact absurd h.symm l2
            | b :: c :: r', _ => rfl)
          have l2a : ((L : Int) != 2) = true := by simp; omega
          have l2b : ((L : Int) == 2) = false := by simp; omega
          clear HM l2
          go_wp2_with fail
          go_ret
          exact ⟨by rw [HF.out]; rfl, (fun D' B' h => by rw [HF.out] at h; cases h), HW.out, HP.out⟩
      · have HF := Aside0.mk (show addM D B s = some (D, B ++ [⟨a, kdW word, r⟩]) from by rw [HM.out, if_neg k0, if_neg k1])
        have k0b := decide_eq_false k0
        have k1b : (kdW word == 0) = false := by simpa using k1
        clear HM k0 k1
        generalize kdW word = kd at HF k0b k1b ⊢
        obtain ⟨gn, cn, en, hgn⟩ := Kd.R_form HN3.out (by simp)
        injection en with en1 en2 en3
        subst en1
        subst en3
        subst en2
        have HN0 := Aside0.mk (show w3.drew.cell? ⟨gn, 0, none⟩ = some (.int .i64 a) from (Kd.R_cell (0 : Int) HN3.out 0 (by omega) (by simp)).1)
        obtain ⟨c2, hq⟩ := tail_Q HN3.out
        have hbd := (Kd.R_reads' HN3.out).2.1
        have hlow := HN3.out
        have HT4 := Aside0.mk (show TreeAt base w3.drew gt v0 v1 D B from HT3.out.below (below_drew1 (Below.refl _ _)))
        have HP4 := Aside0.mk (show Kept w w3.drew (AddS gt v0 v1) from HP.out.drew)
        have HW4 := Aside0.mk (show Below base w w3.drew from below_drew1 HW.out)
        have HS4 := Aside0.mk (show base ≤ w3.drew.heap.size from Nat.le_trans HSZ.out (below_size (below_drew1 HB3.out)))
        have HOK := Aside0.mk (show ∀ k, k = gn → True ∧ some k ≠ v1.ownBlock from fun k hk => ⟨trivial, fun he => by
          have h1 := HVO.out.2 k he.symm
          have h2 := hgn.1
          omega⟩)
        have HB0 := Aside0.mk (show Kd.S kqB 49 w3.drew base (fun k => True ∧ ¬ k = gn) v1 B from by
          have h1 := Kd.S_bound HT.out.b
          have h2 := Kd.S_mono (Kd.S_below h1 HB3.out) (ok' := fun k => True ∧ ¬ k = gn) (fun k hk => ⟨trivial, fun he => by have := hk.2.2.1; have := hgn.1; omega⟩)
          exact Kd.S_drew h2)
        by_cases hr : r.length = 0
        · obtain rfl : r = [] := List.eq_nil_of_length_eq_zero hr
          have HQ := Aside0.mk (show (Kd.int .i64).Q 2 w3.drew base (fun k => k = gn) (.slice (some ⟨gn, 0, none⟩) 0 c2) [] from Kd.Q_drew (Kd.Q_mono (Kd.Q_tight rfl (Kd.Q_lower hq HSZ.out)) (fun k hk => by simpa [Value.ownBlock] using hk)))
          have hb2 : (1 : Int) ≤ (c : Int) := by simp only [List.length_cons, List.length_nil] at hbd; omega
          clear hq hgn hT3 hbd hlow hr
          simp only [List.length_cons, List.length_nil]
          go_wp2_with fail
          clear HT HT3 HP HW
          refine start_ (n := 21) (S := fun w' => w'.cell? ⟨gt, 1, none⟩ = some v1 ∧ w'.cell? ⟨gn, 0, none⟩ = some (.int .i64 a)) (ds := [17, 20]) #[false, false, false, false, false, false, false, false, false, false, false, false, false, false, false, false, false, false, false, false, false] (by kernel_rfl) rfl rfl ⟨(blk_cell HT4.out.box 1).trans rfl, HN0.out⟩ (fun hHeld => ?_)
          refine pure_ (i := 0) (N := some 25) (v := ?_) (a' := ?_) #[true, false, false, false, false, false, false, false, false, false, false, false, false, false, false, false, false, false, false, false, false] rfl rfl (by kernel_rfl) (fun _ _ _ h => h) (Or.inl ⟨by rfl, ?_⟩) ?_ ?_
          rotate_left
          · intro w'
            go_simp
            with_reducible rfl
          rotate_left
          · simp only [Act.put, List.setIfInBounds_toArray, List.set_cons_zero, List.set_cons_succ, i64_w, i32_w]
            rfl
          refine pure_ (i := 1) (N := some 26) (v := ?_) (a' := ?_) #[true, true, false, false, false, false, false, false, false, false, false, false, false, false, false, false, false, false, false, false, false] rfl rfl (by kernel_rfl) (fun _ _ _ h => h) (Or.inl ⟨by rfl, ?_⟩) ?_ ?_
          rotate_left
          · intro w'
            go_simp
            with_reducible rfl
          rotate_left
          · simp only [Act.put, List.setIfInBounds_toArray, List.set_cons_zero, List.set_cons_succ, i64_w, i32_w]
            rfl
          refine pure_ (i := 2) (N := some 27) (v := ?_) (a' := ?_) #[true, true, true, false, false, false, false, false, false, false, false, false, false, false, false, false, false, false, false, false, false] rfl rfl (by kernel_rfl) (fun _ _ _ h => h) (Or.inl ⟨by rfl, ?_⟩) ?_ ?_
          rotate_left
          · intro w'
            go_simp
            with_reducible rfl
          rotate_left
          · simp only [Act.put, List.setIfInBounds_toArray, List.set_cons_zero, List.set_cons_succ, i64_w, i32_w]
            rfl
          refine pure_ (i := 3) (N := some 28) (v := ?_) (a' := ?_) #[true, true, true, true, false, false, false, false, false, false, false, false, false, false, false, false, false, false, false, false, false] rfl rfl (by kernel_rfl) (fun _ _ _ h => h) (Or.inl ⟨by rfl, ?_⟩) ?_ ?_
          rotate_left
          · intro w'
            go_simp
            with_reducible rfl
          rotate_left
          · simp only [Act.put, List.setIfInBounds_toArray, List.set_cons_zero, List.set_cons_succ, i64_w, i32_w]
            rfl
          refine pure_ (i := 5) (N := some 30) (v := ?_) (a' := ?_) #[true, true, true, true, false, true, false, false, false, false, false, false, false, false, false, false, false, false, false, false, false] rfl rfl (by kernel_rfl) (fun _ _ _ h => h) (Or.inl ⟨by rfl, ?_⟩) ?_ ?_
          rotate_left
          · intro w'
            go_simp
            with_reducible rfl
          rotate_left
          · simp only [Act.put, List.setIfInBounds_toArray, List.set_cons_zero, List.set_cons_succ, i64_w, i32_w]
            rfl
          refine pure_ (i := 6) (N := some 31) (v := ?_) (a' := ?_) #[true, true, true, true, false, true, true, false, false, false, false, false, false, false, false, false, false, false, false, false, false] rfl rfl (by kernel_rfl) (fun _ _ _ h => h) (Or.inl ⟨by rfl, ?_⟩) ?_ ?_
          rotate_left
          · intro w'
            go_simp
            with_reducible rfl
          rotate_left
          · simp only [Act.put, List.setIfInBounds_toArray, List.set_cons_zero, List.set_cons_succ, i64_w, i32_w]
            rfl
          refine pure_ (i := 8) (N := some 33) (v := ?_) (a' := ?_) #[true, true, true, true, false, true, true, false, true, false, false, false, false, false, false, false, false, false, false, false, false] rfl rfl (by kernel_rfl) (fun _ _ _ h => h) (Or.inl ⟨by rfl, ?_⟩) ?_ ?_
          rotate_left
          · intro w'
            go_simp
            with_reducible rfl
          rotate_left
          · simp only [Act.put, List.setIfInBounds_toArray, List.set_cons_zero, List.set_cons_succ, i64_w, i32_w]
            rfl
          refine pure_ (i := 9) (N := some 34) (v := ?_) (a' := ?_) #[true, true, true, true, false, true, true, false, true, true, false, false, false, false, false, false, false, false, false, false, false] rfl rfl (by kernel_rfl) (fun _ _ _ h => h) (Or.inl ⟨by rfl, ?_⟩) ?_ ?_
          rotate_left
          · intro w'
            go_simp
            with_reducible rfl
          rotate_left
          · simp only [Act.put, List.setIfInBounds_toArray, List.set_cons_zero, List.set_cons_succ, i64_w, i32_w]
            rfl
          refine pure_ (i := 10) (N := some 35) (v := ?_) (a' := ?_) #[true, true, true, true, false, true, true, false, true, true, true, false, false, false, false, false, false, false, false, false, false] rfl rfl (by kernel_rfl) (fun _ _ _ h => h) (Or.inl ⟨by rfl, ?_⟩) ?_ ?_
          rotate_left
          · intro w'
            go_simp
            with_reducible rfl
          rotate_left
          · simp only [Act.put, List.setIfInBounds_toArray, List.set_cons_zero, List.set_cons_succ, i64_w, i32_w]
            rfl
          refine pure_ (i := 11) (N := some 36) (v := ?_) (a' := ?_) #[true, true, true, true, false, true, true, false, true, true, true, true, false, false, false, false, false, false, false, false, false] rfl rfl (by kernel_rfl) (fun _ _ _ h => h) (Or.inl ⟨by rfl, ?_⟩) ?_ ?_
          rotate_left
          · intro w'
            go_simp
            with_reducible rfl
          rotate_left
          · simp only [Act.put, List.setIfInBounds_toArray, List.set_cons_zero, List.set_cons_succ, i64_w, i32_w]
            rfl
          refine pure_ (i := 12) (N := some 37) (v := ?_) (a' := ?_) #[true, true, true, true, false, true, true, false, true, true, true, true, true, false, false, false, false, false, false, false, false] rfl rfl (by kernel_rfl) (fun _ _ _ h => h) (Or.inl ⟨by rfl, ?_⟩) ?_ ?_
          rotate_left
          · intro w'
            go_simp
            with_reducible rfl
          rotate_left
          · simp only [Act.put, List.setIfInBounds_toArray, List.set_cons_zero, List.set_cons_succ, i64_w, i32_w]
            rfl
          refine pure_ (i := 13) (N := some 38) (v := ?_) (a' := ?_) #[true, true, true, true, false, true, true, false, true, true, true, true, true, true, false, false, false, false, false, false, false] rfl rfl (by kernel_rfl) (fun _ _ _ h => h) (Or.inl ⟨by rfl, ?_⟩) ?_ ?_
          rotate_left
          · intro w'
            go_simp
            with_reducible rfl
          rotate_left
          · simp only [Act.put, List.setIfInBounds_toArray, List.set_cons_zero, List.set_cons_succ, i64_w, i32_w]
            rfl
          refine pure_ (i := 14) (N := some 39) (v := ?_) (a' := ?_) #[true, true, true, true, false, true, true, false, true, true, true, true, true, true, true, false, false, false, false, false, false] rfl rfl (by kernel_rfl) (fun _ _ _ h => h) (Or.inl ⟨by rfl, ?_⟩) ?_ ?_
          rotate_left
          · intro w'
            go_simp
            with_reducible rfl
          rotate_left
          · simp only [Act.put, List.setIfInBounds_toArray, List.set_cons_zero, List.set_cons_succ, i64_w, i32_w]
            rfl
          refine take_ (i := 4) (N := some 29) (v := ?_) (a' := ?_) #[true, true, true, true, true, true, true, false, true, true, true, true, true, true, true, false, false, false, false, false, false] rfl rfl (by kernel_rfl) (fun _ _ _ h => h) (Or.inl ⟨by rfl, ?_⟩) hHeld ?_ ?_
          rotate_left
          · rintro w' ⟨s0, s1⟩
            go_simp
            with_reducible rfl
          rotate_left
          · simp only [Act.put, List.setIfInBounds_toArray, List.set_cons_zero, List.set_cons_succ, i64_w, i32_w]
            rfl
          refine take_ (i := 7) (N := some 32) (v := ?_) (a' := ?_) #[true, true, true, true, true, true, true, true, true, true, true, true, true, true, true, false, false, false, false, false, false] rfl rfl (by kernel_rfl) (fun _ _ _ h => h) (Or.inl ⟨by rfl, ?_⟩) hHeld ?_ ?_
          rotate_left
          · rintro w' ⟨s0, s1⟩
            go_simp
            with_reducible rfl
          rotate_left
          · simp only [Act.put, List.setIfInBounds_toArray, List.set_cons_zero, List.set_cons_succ, i64_w, i32_w]
            rfl
          refine pure_ (i := 15) (N := some 40) (v := ?_) (a' := ?_) #[true, true, true, true, true, true, true, true, true, true, true, true, true, true, true, true, false, false, false, false, false] rfl rfl (by kernel_rfl) (fun _ _ _ h => h) (Or.inl ⟨by rfl, ?_⟩) ?_ ?_
          rotate_left
          · intro w'
            go_simp
            with_reducible rfl
          rotate_left
          · simp only [Act.put, List.setIfInBounds_toArray, List.set_cons_zero, List.set_cons_succ, i64_w, i32_w]
            rfl
          refine one_ (i := 16) (N := some 41) #[true, true, true, true, true, true, true, true, true, true, true, true, true, true, true, true, true, false, false, false, false] rfl rfl (by kernel_rfl) (by decide) (fun K hK => ?_)
          generalize w3.drew = wd at HT4 HN0 HP4 HW4 HS4 HB0 HQ hHeld ⊢
          refine value_ (w1 := ?_) (v := ?_) (by rfl) rfl ?_ ?_
          rotate_left 2
          · go_simp
            constructor
            · rfl
            · rfl
          refine hK.out _ _ ⟨(blk_cell (blk_alloc HT4.out.box _) 1).trans rfl, ((below_alloc (Below.refl wd.heap.size wd) _).cell (World.block_lt_of_cell? wd _ HN0.out)).trans HN0.out⟩ (fun hHeld => ?_)
          clear hK K
          refine norm_ (a' := ?_) ?_ ?_
          rotate_left
          · show Act.put _ (some 41) _ = _
            simp only [Act.put, List.setIfInBounds_toArray, List.set_cons_zero, List.set_cons_succ, i64_w, i32_w]
            rfl
          refine last_ (i := 17) (N := some 42) #[true, true, true, true, true, true, true, true, true, true, true, true, true, true, true, true, true, true, false, false, false] rfl rfl (by kernel_rfl) (by decide) (fun K hK => ?_)
          refine Kd.S_append_step kqB (w0 := wd) base (by rfl) (.tmp 29) (.tmp 41) 23 49 (.agg #[(.int .i64 0), (.int .i64 0), (.slice none 0 0)]) 40 rfl Tryz.underlying23 info49 rfl (by decide) (by omega) v1 B (⟨a, kd, []⟩ : S49) [.int .i64 a, .int .i64 kd, .slice (some ⟨gn, 0, none⟩) 0 0] (fun _ => True) (fun k => k = gn) rfl rfl ?aP HOK.out ?aF ?aO ?aB ?aS ?aL ?_
          (case aP => exact kqB_mkM _ _ _ (⟨a, kd, []⟩ : S49) (Nat.le_refl _) HQ.out)
          (case aF => exact (fun _ _ => trivial))
          (case aO => exact HB0.out)
          (case aB => exact Below.refl _ _)
          (case aS => exact HS4.out)
          (case aL => have := HBL.out; omega)
          intro v6 w6 ho hb hg6 hat
          have n1 := Aside0.mk (blk_grown HT4.out.box hg6 (Kd.R_ne (Kd.S_R HT4.out.b) HT4.out.box (by decide)))
          have n2 := Aside0.mk (Kd.R_over' HT4.out.d (Kd.S_typed HT4.out.b) (by decide) hg6)
          have n3 := Aside0.mk ho
          have n4 := Aside0.mk (HW4.out.trans hb)
          have n5 := Aside0.mk (Kept.of_grown hg6 HP4.out (fun k e => .inl (.inr (.inr e))))
          clear ho hb hg6 hat
          obtain ⟨Ao, co, eo⟩ := Kd.S_slice n3.out
          rw [List.length_append, List.length_singleton] at eo
          subst eo
          refine hK.out _ _ ?_
          clear hK K
          refine norm_ (a' := ?_) ?_ ?_
          rotate_left
          · show Act.put _ (some 42) _ = _
            simp only [Act.put, List.setIfInBounds_toArray, List.set_cons_zero, List.set_cons_succ, i64_w, i32_w]
            rfl
          refine pure_ (i := 18) (N := some 43) (v := ?_) (a' := ?_) #[true, true, true, true, true, true, true, true, true, true, true, true, true, true, true, true, true, true, true, false, false] rfl rfl (by kernel_rfl) (fun _ _ _ h => h) (Or.inl ⟨by rfl, ?_⟩) ?_ ?_
          rotate_left
          · intro w'
            go_simp
            with_reducible rfl
          rotate_left
          · simp only [Act.put, List.setIfInBounds_toArray, List.set_cons_zero, List.set_cons_succ, i64_w, i32_w]
            rfl
          refine pure_ (i := 19) (N := some 44) (v := ?_) (a' := ?_) #[true, true, true, true, true, true, true, true, true, true, true, true, true, true, true, true, true, true, true, true, false] rfl rfl (by kernel_rfl) (fun _ _ _ h => h) (Or.inl ⟨by rfl, ?_⟩) ?_ ?_
          rotate_left
          · intro w'
            go_simp
            with_reducible rfl
          rotate_left
          · simp only [Act.put, List.setIfInBounds_toArray, List.set_cons_zero, List.set_cons_succ, i64_w, i32_w]
            rfl
          refine last_ (i := 20) (N := none) #[true, true, true, true, true, true, true, true, true, true, true, true, true, true, true, true, true, true, true, true, true] rfl rfl (by kernel_rfl) (by decide) (fun K hK => ?_)
          have hs7 := (blk_cell n1.out 1).trans rfl
          have hf7 := blk_frozen n1.out 1
          refine skip_ (w1 := ?_) (by rfl) rfl ?_ ?_
          rotate_left
          · go_simp
            rfl
          refine hK.out _ _ ?_
          clear hK K
          refine done_ (by kernel_rfl) ?_
          go_wp2_with fail
          go_ret
          refine ⟨by rw [HF.out]; rfl, fun D' B' h => ?_, n4.out.setCell HG.out _, Kept.setCell n5.out (.inl (.inl rfl)) _⟩
          rw [HF.out] at h
          injection h with h
          injection h with h1 h2
          subst h1
          subst h2
          exact ⟨_, _, blk_put n1.out 1 _ rfl, Kd.R_set n2.out n1.out (by decide) 1 _, Kd.S_set n3.out n1.out (by decide) 1 _⟩
        · rw [if_neg hr] at hq
          have HQ := Aside0.mk (show (Kd.int .i64).Q 2 w3.drew base (fun k => k = gn) (.slice (some ⟨gn, 1, none⟩) r.length c2) r from Kd.Q_drew (Kd.Q_mono (Kd.Q_tight rfl (Kd.Q_lower hq HSZ.out)) (fun k hk => by simpa [Value.ownBlock] using hk)))
          have hr0 : ¬ (r.length : Int) = 0 := by omega
          have hb0 : (0 : Int) ≤ (r.length : Int) + 1 := by omega
          have hb1 : (1 : Int) ≤ (r.length : Int) + 1 := by omega
          have hb2 : (r.length : Int) + 1 ≤ (c : Int) := by simp only [List.length_cons] at hbd; omega
          clear hq hgn hT3 hbd hlow
          simp only [List.length_cons]
          go_wp2_with fail
          clear HT HT3 HP HW
          refine start_ (n := 21) (S := fun w' => w'.cell? ⟨gt, 1, none⟩ = some v1 ∧ w'.cell? ⟨gn, 0, none⟩ = some (.int .i64 a)) (ds := [17, 20]) #[false, false, false, false, false, false, false, false, false, false, false, false, false, false, false, false, false, false, false, false, false] (by kernel_rfl) rfl rfl ⟨(blk_cell HT4.out.box 1).trans rfl, HN0.out⟩ (fun hHeld => ?_)
          refine pure_ (i := 0) (N := some 25) (v := ?_) (a' := ?_) #[true, false, false, false, false, false, false, false, false, false, false, false, false, false, false, false, false, false, false, false, false] rfl rfl (by kernel_rfl) (fun _ _ _ h => h) (Or.inl ⟨by rfl, ?_⟩) ?_ ?_
          rotate_left
          · intro w'
            go_simp
            with_reducible rfl
          rotate_left
          · simp only [Act.put, List.setIfInBounds_toArray, List.set_cons_zero, List.set_cons_succ, i64_w, i32_w]
            rfl
          refine pure_ (i := 1) (N := some 26) (v := ?_) (a' := ?_) #[true, true, false, false, false, false, false, false, false, false, false, false, false, false, false, false, false, false, false, false, false] rfl rfl (by kernel_rfl) (fun _ _ _ h => h) (Or.inl ⟨by rfl, ?_⟩) ?_ ?_
          rotate_left
          · intro w'
            go_simp
            with_reducible rfl
          rotate_left
          · simp only [Act.put, List.setIfInBounds_toArray, List.set_cons_zero, List.set_cons_succ, i64_w, i32_w]
            rfl
          refine pure_ (i := 2) (N := some 27) (v := ?_) (a' := ?_) #[true, true, true, false, false, false, false, false, false, false, false, false, false, false, false, false, false, false, false, false, false] rfl rfl (by kernel_rfl) (fun _ _ _ h => h) (Or.inl ⟨by rfl, ?_⟩) ?_ ?_
          rotate_left
          · intro w'
            go_simp
            with_reducible rfl
          rotate_left
          · simp only [Act.put, List.setIfInBounds_toArray, List.set_cons_zero, List.set_cons_succ, i64_w, i32_w]
            rfl
          refine pure_ (i := 3) (N := some 28) (v := ?_) (a' := ?_) #[true, true, true, true, false, false, false, false, false, false, false, false, false, false, false, false, false, false, false, false, false] rfl rfl (by kernel_rfl) (fun _ _ _ h => h) (Or.inl ⟨by rfl, ?_⟩) ?_ ?_
          rotate_left
          · intro w'
            go_simp
            with_reducible rfl
          rotate_left
          · simp only [Act.put, List.setIfInBounds_toArray, List.set_cons_zero, List.set_cons_succ, i64_w, i32_w]
            rfl
          refine pure_ (i := 5) (N := some 30) (v := ?_) (a' := ?_) #[true, true, true, true, false, true, false, false, false, false, false, false, false, false, false, false, false, false, false, false, false] rfl rfl (by kernel_rfl) (fun _ _ _ h => h) (Or.inl ⟨by rfl, ?_⟩) ?_ ?_
          rotate_left
          · intro w'
            go_simp
            with_reducible rfl
          rotate_left
          · simp only [Act.put, List.setIfInBounds_toArray, List.set_cons_zero, List.set_cons_succ, i64_w, i32_w]
            rfl
          refine pure_ (i := 6) (N := some 31) (v := ?_) (a' := ?_) #[true, true, true, true, false, true, true, false, false, false, false, false, false, false, false, false, false, false, false, false, false] rfl rfl (by kernel_rfl) (fun _ _ _ h => h) (Or.inl ⟨by rfl, ?_⟩) ?_ ?_
          rotate_left
          · intro w'
            go_simp
            with_reducible rfl
          rotate_left
          · simp only [Act.put, List.setIfInBounds_toArray, List.set_cons_zero, List.set_cons_succ, i64_w, i32_w]
            rfl
          refine pure_ (i := 8) (N := some 33) (v := ?_) (a' := ?_) #[true, true, true, true, false, true, true, false, true, false, false, false, false, false, false, false, false, false, false, false, false] rfl rfl (by kernel_rfl) (fun _ _ _ h => h) (Or.inl ⟨by rfl, ?_⟩) ?_ ?_
          rotate_left
          · intro w'
            go_simp
            with_reducible rfl
          rotate_left
          · simp only [Act.put, List.setIfInBounds_toArray, List.set_cons_zero, List.set_cons_succ, i64_w, i32_w]
            rfl
          refine pure_ (i := 9) (N := some 34) (v := ?_) (a' := ?_) #[true, true, true, true, false, true, true, false, true, true, false, false, false, false, false, false, false, false, false, false, false] rfl rfl (by kernel_rfl) (fun _ _ _ h => h) (Or.inl ⟨by rfl, ?_⟩) ?_ ?_
          rotate_left
          · intro w'
            go_simp
            with_reducible rfl
          rotate_left
          · simp only [Act.put, List.setIfInBounds_toArray, List.set_cons_zero, List.set_cons_succ, i64_w, i32_w]
            rfl
          refine pure_ (i := 10) (N := some 35) (v := ?_) (a' := ?_) #[true, true, true, true, false, true, true, false, true, true, true, false, false, false, false, false, false, false, false, false, false] rfl rfl (by kernel_rfl) (fun _ _ _ h => h) (Or.inl ⟨by rfl, ?_⟩) ?_ ?_
          rotate_left
          · intro w'
            go_simp
            with_reducible rfl
          rotate_left
          · simp only [Act.put, List.setIfInBounds_toArray, List.set_cons_zero, List.set_cons_succ, i64_w, i32_w]
            rfl
          refine pure_ (i := 11) (N := some 36) (v := ?_) (a' := ?_) #[true, true, true, true, false, true, true, false, true, true, true, true, false, false, false, false, false, false, false, false, false] rfl rfl (by kernel_rfl) (fun _ _ _ h => h) (Or.inl ⟨by rfl, ?_⟩) ?_ ?_
          rotate_left
          · intro w'
            go_simp
            with_reducible rfl
          rotate_left
          · simp only [Act.put, List.setIfInBounds_toArray, List.set_cons_zero, List.set_cons_succ, i64_w, i32_w]
            rfl
          refine pure_ (i := 12) (N := some 37) (v := ?_) (a' := ?_) #[true, true, true, true, false, true, true, false, true, true, true, true, true, false, false, false, false, false, false, false, false] rfl rfl (by kernel_rfl) (fun _ _ _ h => h) (Or.inl ⟨by rfl, ?_⟩) ?_ ?_
          rotate_left
          · intro w'
            go_simp
            with_reducible rfl
          rotate_left
          · simp only [Act.put, List.setIfInBounds_toArray, List.set_cons_zero, List.set_cons_succ, i64_w, i32_w]
            rfl
          refine pure_ (i := 13) (N := some 38) (v := ?_) (a' := ?_) #[true, true, true, true, false, true, true, false, true, true, true, true, true, true, false, false, false, false, false, false, false] rfl rfl (by kernel_rfl) (fun _ _ _ h => h) (Or.inl ⟨by rfl, ?_⟩) ?_ ?_
          rotate_left
          · intro w'
            go_simp
            with_reducible rfl
          rotate_left
          · simp only [Act.put, List.setIfInBounds_toArray, List.set_cons_zero, List.set_cons_succ, i64_w, i32_w]
            rfl
          refine pure_ (i := 14) (N := some 39) (v := ?_) (a' := ?_) #[true, true, true, true, false, true, true, false, true, true, true, true, true, true, true, false, false, false, false, false, false] rfl rfl (by kernel_rfl) (fun _ _ _ h => h) (Or.inl ⟨by rfl, ?_⟩) ?_ ?_
          rotate_left
          · intro w'
            go_simp
            with_reducible rfl
          rotate_left
          · simp only [Act.put, List.setIfInBounds_toArray, List.set_cons_zero, List.set_cons_succ, i64_w, i32_w]
            rfl
          refine take_ (i := 4) (N := some 29) (v := ?_) (a' := ?_) #[true, true, true, true, true, true, true, false, true, true, true, true, true, true, true, false, false, false, false, false, false] rfl rfl (by kernel_rfl) (fun _ _ _ h => h) (Or.inl ⟨by rfl, ?_⟩) hHeld ?_ ?_
          rotate_left
          · rintro w' ⟨s0, s1⟩
            go_simp
            with_reducible rfl
          rotate_left
          · simp only [Act.put, List.setIfInBounds_toArray, List.set_cons_zero, List.set_cons_succ, i64_w, i32_w]
            rfl
          refine take_ (i := 7) (N := some 32) (v := ?_) (a' := ?_) #[true, true, true, true, true, true, true, true, true, true, true, true, true, true, true, false, false, false, false, false, false] rfl rfl (by kernel_rfl) (fun _ _ _ h => h) (Or.inl ⟨by rfl, ?_⟩) hHeld ?_ ?_
          rotate_left
          · rintro w' ⟨s0, s1⟩
            go_simp
            with_reducible rfl
          rotate_left
          · simp only [Act.put, List.setIfInBounds_toArray, List.set_cons_zero, List.set_cons_succ, i64_w, i32_w]
            rfl
          refine pure_ (i := 15) (N := some 40) (v := ?_) (a' := ?_) #[true, true, true, true, true, true, true, true, true, true, true, true, true, true, true, true, false, false, false, false, false] rfl rfl (by kernel_rfl) (fun _ _ _ h => h) (Or.inl ⟨by rfl, ?_⟩) ?_ ?_
          rotate_left
          · intro w'
            go_simp
            with_reducible rfl
          rotate_left
          · simp only [Act.put, List.setIfInBounds_toArray, List.set_cons_zero, List.set_cons_succ, i64_w, i32_w]
            rfl
          refine one_ (i := 16) (N := some 41) #[true, true, true, true, true, true, true, true, true, true, true, true, true, true, true, true, true, false, false, false, false] rfl rfl (by kernel_rfl) (by decide) (fun K hK => ?_)
          generalize w3.drew = wd at HT4 HN0 HP4 HW4 HS4 HB0 HQ hHeld ⊢
          refine value_ (w1 := ?_) (v := ?_) (by rfl) rfl ?_ ?_
          rotate_left 2
          · go_simp
            constructor
            · rfl
            · rfl
          refine hK.out _ _ ⟨(blk_cell (blk_alloc HT4.out.box _) 1).trans rfl, ((below_alloc (Below.refl wd.heap.size wd) _).cell (World.block_lt_of_cell? wd _ HN0.out)).trans HN0.out⟩ (fun hHeld => ?_)
          clear hK K
          refine norm_ (a' := ?_) ?_ ?_
          rotate_left
          · show Act.put _ (some 41) _ = _
            simp only [Act.put, List.setIfInBounds_toArray, List.set_cons_zero, List.set_cons_succ, i64_w, i32_w]
            rfl
          refine last_ (i := 17) (N := some 42) #[true, true, true, true, true, true, true, true, true, true, true, true, true, true, true, true, true, true, false, false, false] rfl rfl (by kernel_rfl) (by decide) (fun K hK => ?_)
          refine Kd.S_append_step kqB (w0 := wd) base (by rfl) (.tmp 29) (.tmp 41) 23 49 (.agg #[(.int .i64 0), (.int .i64 0), (.slice none 0 0)]) 40 rfl Tryz.underlying23 info49 rfl (by decide) (by omega) v1 B (⟨a, kd, r⟩ : S49) [.int .i64 a, .int .i64 kd, .slice (some ⟨gn, 1, none⟩) r.length r.length] (fun _ => True) (fun k => k = gn) rfl rfl ?aP HOK.out ?aF ?aO ?aB ?aS ?aL ?_
          (case aP => exact kqB_mkM _ _ _ (⟨a, kd, r⟩ : S49) (Nat.le_refl _) HQ.out)
          (case aF => exact (fun _ _ => trivial))
          (case aO => exact HB0.out)
          (case aB => exact Below.refl _ _)
          (case aS => exact HS4.out)
          (case aL => have := HBL.out; omega)
          intro v6 w6 ho hb hg6 hat
          have n1 := Aside0.mk (blk_grown HT4.out.box hg6 (Kd.R_ne (Kd.S_R HT4.out.b) HT4.out.box (by decide)))
          have n2 := Aside0.mk (Kd.R_over' HT4.out.d (Kd.S_typed HT4.out.b) (by decide) hg6)
          have n3 := Aside0.mk ho
          have n4 := Aside0.mk (HW4.out.trans hb)
          have n5 := Aside0.mk (Kept.of_grown hg6 HP4.out (fun k e => .inl (.inr (.inr e))))
          clear ho hb hg6 hat
          obtain ⟨Ao, co, eo⟩ := Kd.S_slice n3.out
          rw [List.length_append, List.length_singleton] at eo
          subst eo
          refine hK.out _ _ ?_
          clear hK K
          refine norm_ (a' := ?_) ?_ ?_
          rotate_left
          · show Act.put _ (some 42) _ = _
            simp only [Act.put, List.setIfInBounds_toArray, List.set_cons_zero, List.set_cons_succ, i64_w, i32_w]
            rfl
          refine pure_ (i := 18) (N := some 43) (v := ?_) (a' := ?_) #[true, true, true, true, true, true, true, true, true, true, true, true, true, true, true, true, true, true, true, false, false] rfl rfl (by kernel_rfl) (fun _ _ _ h => h) (Or.inl ⟨by rfl, ?_⟩) ?_ ?_
          rotate_left
          · intro w'
            go_simp
            with_reducible rfl
          rotate_left
          · simp only [Act.put, List.setIfInBounds_toArray, List.set_cons_zero, List.set_cons_succ, i64_w, i32_w]
            rfl
          refine pure_ (i := 19) (N := some 44) (v := ?_) (a' := ?_) #[true, true, true, true, true, true, true, true, true, true, true, true, true, true, true, true, true, true, true, true, false] rfl rfl (by kernel_rfl) (fun _ _ _ h => h) (Or.inl ⟨by rfl, ?_⟩) ?_ ?_
          rotate_left
          · intro w'
            go_simp
            with_reducible rfl
          rotate_left
          · simp only [Act.put, List.setIfInBounds_toArray, List.set_cons_zero, List.set_cons_succ, i64_w, i32_w]
            rfl
          refine last_ (i := 20) (N := none) #[true, true, true, true, true, true, true, true, true, true, true, true, true, true, true, true, true, true, true, true, true] rfl rfl (by kernel_rfl) (by decide) (fun K hK => ?_)
          have hs7 := (blk_cell n1.out 1).trans rfl
          have hf7 := blk_frozen n1.out 1
          refine skip_ (w1 := ?_) (by rfl) rfl ?_ ?_
          rotate_left
          · go_simp
            rfl
          refine hK.out _ _ ?_
          clear hK K
          refine done_ (by kernel_rfl) ?_
          go_wp2_with fail
          go_ret
          refine ⟨by rw [HF.out]; rfl, fun D' B' h => ?_, n4.out.setCell HG.out _, Kept.setCell n5.out (.inl (.inl rfl)) _⟩
          rw [HF.out] at h
          injection h with h
          injection h with h1 h2
          subst h1
          subst h2
          exact ⟨_, _, blk_put n1.out 1 _ rfl, Kd.R_set n2.out n1.out (by decide) 1 _, Kd.S_set n3.out n1.out (by decide) 1 _⟩
end Go.Proofs.YtohjpgcmhihdhaaGreatDoorW.PrintMore
