/- Walks of the Go functions that the laws call: each returns what a plain Lean function says. Written by a program for these claims. -/
import Derived.Test.YtohjpgcmhihdhaaQ0
import Derived.Test.YtohjpgcmhihdhaaQf70
namespace Go.Proofs.Ytohjpgcmhihdhaa.Q
open Go.RowKit Go.Proofs.YtohjpgcmhihdhaaW.PrintWords Go.Proofs.YtohjpgcmhihdhaaW.PrintLast Go.Proofs.YtohjpgcmhihdhaaW.PrintMore
attribute [local go_sem] max2_int min2_int max_two min_two max_three min_three max_four min_four   -- for this text's walks alone
set_option linter.unusedVariables false
set_option linter.unusedSimpArgs false

/-! ### slices_Repeat_int64_int64: function 60 -/
def slices_Repeat_int64_int64.f (l : List Int) (n : Int) : Option (List Int) := if l = [-1] ∧ 0 ≤ n ∧ n ≤ 1000 ∧ bits_Mul.f 1 n = some (0, n) then some (List.replicate n.toNat (-1)) else none
/-- so many are laid, the rest is as made -/
def repC (n m : Nat) : List Int := List.replicate m (-1) ++ List.replicate (n - m) 0
theorem repC_len (n m : Nat) (h : m ≤ n) : (repC n m).length = n := by simp [repC]; omega
/-- cells laid into a row of one's own, from the o-th on -/
theorem R_laid {W : World} {base e g cap n : Nat} {ok : Nat → Prop} {xs : List Int} (o : Nat) (ys : List Int) (HO : Kd.R (Kd.int .i64) e W base ok (.slice (some ⟨g, 0, none⟩) n cap) xs) (hn : xs.length = n) (h : o + ys.length ≤ xs.length) : Kd.R (Kd.int .i64) e (W.setCells g o (encs (Value.int .i64) ys)) base ok (.slice (some ⟨g, 0, none⟩) n cap) (xs.take o ++ ys ++ xs.drop (o + ys.length)) ∧ W.grownBy (W.setCells g o (encs (Value.int .i64) ys)) (some g) := by
  subst hn
  have hown := Kd.own_of_R HO
  have hok := HO.1
  rcases hown.2 with ⟨hv, _⟩ | ⟨g', cap', cur, hv, hb, hh, hnc, hcm, hcs, htake⟩
  · cases hv
  cases hv
  have hcs1 : cur.size = cap := by omega
  have hl : (encs (Value.int .i64) ys).length = ys.length := encs_length _
  obtain ⟨cur', h3, h4, h5⟩ := setCells_row (encs (Value.int .i64) ys) o W cur hh (by rw [hl]; omega)
  obtain ⟨s1, s2, s3, s4⟩ := setCells_same g (encs (Value.int .i64) ys) o W
  have hln : (xs.take o ++ ys ++ xs.drop (o + ys.length)).length = xs.length := by
    simp only [List.length_append, List.length_take, List.length_drop]
    omega
  refine ⟨?_, ⟨s1, s2, s3, by rw [s4]; exact Nat.le_refl _, fun k _ hk => setCells_far _ _ k (fun he => hk (by rw [he]))⟩⟩
  have h6 := Kd.R_of_own (enc := Value.int .i64) (h1 := fun _ => rfl) (e := e) (w := W.setCells g o (encs (Value.int .i64) ys)) (base := base) (ok := ok) (v := .slice (some ⟨g, 0, none⟩) xs.length cap) (xs := xs.take o ++ ys ++ xs.drop (o + ys.length)) (by
    rw [hln]
    refine ⟨by rw [encs_length, hln, Nat.mul_one], .inr ⟨g, cap, cur', rfl, hb, h3, hnc, hcm, by rw [h4, hcs], ?_⟩⟩
    have htk : cur.toList.take xs.length = encs (Value.int .i64) xs := by rw [← htake, Nat.mul_one]
    rw [h5, Nat.mul_one, show encs (Value.int .i64) (xs.take o ++ ys ++ xs.drop (o + ys.length)) = encs (Value.int .i64) (xs.take o) ++ (encs (Value.int .i64) ys ++ encs (Value.int .i64) (xs.drop (o + ys.length))) from by simp [encs], hl, List.append_assoc]
    have e1 : encs (Value.int .i64) (xs.take o) = cur.toList.take o := by
      have : encs (Value.int .i64) (xs.take o) = (encs (Value.int .i64) xs).take o := by simp [encs, List.map_take]
      rw [this, ← htk, List.take_take, Nat.min_eq_left (by omega)]
    have e2 : encs (Value.int .i64) (xs.drop (o + ys.length)) = (cur.toList.drop (o + ys.length)).take (xs.length - (o + ys.length)) := by
      have : encs (Value.int .i64) (xs.drop (o + ys.length)) = (encs (Value.int .i64) xs).drop (o + ys.length) := by simp [encs, List.map_drop]
      rw [this, ← htk, List.drop_take]
    have e3 : (cur.toList.take o).length = o := by simp; omega
    have e4 : xs.length - o - ys.length = xs.length - (o + ys.length) := by omega
    rw [e1, e2, List.take_append, e3, List.take_of_length_le (show (cur.toList.take o).length ≤ xs.length by omega), List.take_append, hl, List.take_of_length_le (show (encs (Value.int .i64) ys).length ≤ xs.length - o by omega), e4]) hok
  exact h6
/-- copy onto a part of a row of one's own: the cells laid there -/
theorem run_laid {P : Program} {W : World} {base g cap n : Nat} {ok : Nat → Prop} {xs : List Int} (o m dc sc : Nat) (t ty : TypeId) (ys : List Int) (ad : Addr) (ht : P.underlying t = some (.slice 2)) (hi : (P.info? 2).map (·.size) = some 1) (HO : Kd.R (Kd.int .i64) 2 W base ok (.slice (some ⟨g, 0, none⟩) n cap) xs) (hn : xs.length = n) (ho : o ≤ n) (hy : ys.length = min m (n - o)) (hsrc : ∀ (j : Nat), j < ys.length → W.cell? (ad.add j) = some (.int .i64 (ys.getD j 0))) :
    (Builtin.copy_ #[t, t] ty #[.slice (some ⟨g, o, none⟩) (n - o) dc, .slice (some ad) m sc]).run P W = .ok (goInt ys.length) (W.setCells g o (encs (Value.int .i64) ys)) := by
  subst hn
  have hown := Kd.own_of_R HO
  rcases hown.2 with ⟨hv, _⟩ | ⟨g', cap', cur, hv, hb, hh, hnc, hcm, hcs, htake⟩
  · cases hv
  cases hv
  have hl : (encs (Value.int .i64) ys).length = ys.length := encs_length _
  have hr := run_copy_cells (P := P) W t t ty 2 g o (xs.length - o) dc ad m sc (encs (Value.int .i64) ys) ht hi (by rw [hl, hy]) (fun j u hu => by
      have hj : j < ys.length := by
        rcases Nat.lt_or_ge j ys.length with h | h
        · exact h
        · rw [List.getElem?_eq_none (by rw [hl]; exact h)] at hu
          cases hu
      rw [encs_get (d := (0 : Int)) _ j hj] at hu
      rw [hsrc j hj, ← hu])
    (fun j hj => by rw [cell_of_row W g _ cur 2 (0, 0) hh]; simp; omega) (fun j _ => blk_frozen hh _) (by intro u hu; simp only [encs, List.mem_map] at hu; obtain ⟨q, _, rfl⟩ := hu; rfl)
  rw [hr, hl]
theorem rep_step (n m : Nat) (hm : m ≤ n) : (repC n m).take m ++ List.replicate (min m (n - m)) (-1) ++ (repC n m).drop (m + min m (n - m)) = repC n (m + min m (n - m)) := by
  unfold repC
  rw [List.take_append, List.take_of_length_le (by simp), List.length_replicate, Nat.sub_self, List.take_zero, List.append_nil, List.drop_append, List.drop_of_length_le (by simp), List.nil_append, List.length_replicate, List.drop_replicate, ← List.replicate_append_replicate (n := m)]
  congr 2
  omega
set_option maxHeartbeats 4000000 in
set_option maxRecDepth 100000 in
theorem slices_Repeat_int64_int64.calls (A0 : Option Addr) (c0 : Nat) (l0 : List Int) (a1 : Int) (r : List Int) (w : World) (hr0 : Kd.C (Kd.int .i64) w A0 l0.length l0) (hc0 : l0.length ≤ c0) (h : slices_Repeat_int64_int64.f l0 a1 = some r) :
    Calls Try.prog 60 #[.slice A0 l0.length c0, .int .i64 a1] w fun e w' => ∃ v_ : Value, e = .returned v_ ∧ Kd.R (Kd.int .i64) 2 w' w.heap.size (fun _ => True) v_ r ∧ Below w.heap.size w w' := by
  unfold slices_Repeat_int64_int64.f at h
  by_cases hg : l0 = [-1] ∧ 0 ≤ a1 ∧ a1 ≤ 1000 ∧ bits_Mul.f 1 a1 = some (0, a1)
  case neg => rw [if_neg hg] at h; cases h
  rw [if_pos hg] at h
  obtain rfl := Option.some.inj h
  obtain ⟨rfl, h0, h1, hm⟩ := hg
  clear h
  have HM := Aside0.mk hm
  clear hm
  obtain ⟨ad, rfl, hx⟩ := Kd.at_int hr0 0 (by omega) (by simp)
  have hlt := decide_eq_false (show ¬ a1 < 0 by omega)
  have hgt := decide_eq_false (show ¬ (9223372036854775807 : Int) < a1 by omega)
  clear hr0 hc0
  go_enter Try.func60, Try.ntmps60
  go_wp2_with fail
  (with_reducible refine (bits_Mul.calls 1 a1 0 a1 _ HM.out).mono ?_)
  rintro e w1 ⟨rfl, hd⟩
  have HB := Aside0.mk hd.below
  clear hd
  obtain ⟨n, rfl⟩ := Int.eq_ofNat_of_zero_le h0
  go_wp2_with (first | ((with_reducible refine gate_dst (N := 30) rfl ?_); refine Kd.R_make (Kd.int .i64) _ 2 rfl (N := 30) rfl 36 _ _ rfl (n : Int) rfl rfl Try.underlying36 (.int .i64 0) 8 info2 rfl (by decide) (by omega) 0 (ok := fun _ => True) (okp := fun _ => True) rfl (fun _ hk => hk) trivial (by omega) (by omega) (Below.refl _ _) (Nat.le_refl _) ?_; intro v5 w5 ho hb hg_ hnew; have HO := Aside0.mk (Kd.R_lower ho (below_size HB.out)); have HN := Aside0.mk hnew; have HB5 := Aside0.mk (below_step HB.out hb); clear HB hb ho hg_ hnew))
  obtain ⟨g, cap, hv⟩ : ∃ g cap, v5 = .slice (some ⟨g, 0, none⟩) n cap := by
    rcases (Kd.own_of_R HO.out).2 with ⟨rfl, _⟩ | ⟨g, cap, cur, hv, _⟩
    · obtain ⟨b, hb, _⟩ := HN.out
      cases hb
    · exact ⟨g, cap, by simpa using hv⟩
  subst hv
  clear HN
  have hx5 : w5.cell? (ad.add 0) = some (.int .i64 (-1)) := (HB5.out.cell (World.block_lt_of_cell? w _ hx)).trans hx
  have HX := Aside0.mk (run_laid (P := Try.prog) 0 1 cap c0 36 3 (List.replicate (min 1 n) (-1)) ad Try.underlying36 (by decide) HO.out (by simp) (Nat.zero_le _) (by simp) (fun j hj => by
    have : j = 0 := by simp at hj; omega
    subst this
    rw [hx5]
    simp at hj
    simp [hj]))
  have HL := R_laid 0 (List.replicate (min 1 n) (-1)) HO.out (by simp) (by simp; omega)
  have HO6 := Aside0.mk (HL.1)
  have HB6 := Aside0.mk (HB5.out.grown HL.2 (below_size HB5.out) (fun k hk => Kd.R_base HO.out k (by rw [← hk]; rfl)))
  clear HL hx5 hx HB5
  rw [show n - 0 = n from rfl] at HX
  rw [HX.out]
  generalize w5.setCells g 0 (encs (Value.int .i64) (List.replicate (min 1 n) (-1))) = w6 at HO6 HB6 ⊢
  clear HX HO HM hlt hgt
  have HO := Aside0.mk (show Kd.R (Kd.int .i64) 2 w6 w.heap.size (fun _ => True) (.slice (some ⟨g, 0, none⟩) n cap) (repC n (min 1 n)) from by
    have := HO6.out
    rwa [show (List.replicate (n : Int).toNat 0).take 0 ++ List.replicate (min 1 n) (-1) ++ (List.replicate (n : Int).toNat 0).drop (0 + (List.replicate (min 1 n) (-1 : Int)).length) = repC n (min 1 n) from by simp [repC]] at this)
  clear HO6
  go_wp2_with fail
  go_loopg [8] n (fun gg s8 wr => ∃ m : Nat, s8 = .int .i64 (m : Int) ∧ min 1 n ≤ m ∧ m ≤ n ∧ n - m ≤ gg ∧ Aside0 (Kd.R (Kd.int .i64) 2 wr w.heap.size (fun _ => True) (.slice (some ⟨g, 0, none⟩) n cap) (repC n m)) ∧ Aside0 (Below w.heap.size w wr))
  case atStart => exact ⟨min 1 n, rfl, Nat.le_refl _, by omega, by omega, HO, HB6⟩
  case round =>
    clear HO HB6
    obtain ⟨m, rfl, hm1, hmn, hg, HO, HB⟩ := hrel
    by_cases c : m < n
    case neg =>
      obtain rfl : m = n := by omega
      have cb := decide_eq_false (show ¬ ((m : Int) < (m : Int)) by omega)
      clear c
      go_wp2_with fail
      go_ret
      exact ⟨_, rfl, by have := HO.out; rwa [show repC m m = List.replicate (m : Int).toNat (-1) from by simp [repC]] at this, HB.out⟩
    have cb := decide_eq_true (show ((m : Int) < (n : Int)) by omega)
    have c2 := eq_true (show (m : Int) ≤ (n : Int) by omega)
    have c3 := eq_true (show (0 : Int) ≤ (m : Int) by omega)
    have hcap := (Kd.R_reads' HO.out).2.1
    have c4 := eq_true (show (m : Int) ≤ (cap : Int) by omega)
    have c5 := eq_false (show ¬ cap = m by omega)
    obtain ⟨q, HQ⟩ : ∃ q, Aside0 (q = min m (n - m)) := ⟨_, ⟨rfl⟩⟩
    have hq := HQ.out
    have HD := Aside0.mk (Kd.R_drew HO.out)
    have HX := Aside0.mk (run_laid (P := Try.prog) m m (cap - m) cap 36 3 (List.replicate q (-1)) ⟨g, 0, none⟩ Try.underlying36 (by decide) HD.out (repC_len n m hmn) hmn (by simp [hq]) (fun j hj => by
      have hj2 : j < m := by simp at hj; omega
      obtain ⟨ad', e1, hc⟩ := Kd.at_int (Kd.R_reads' HD.out).2.2 (j : Int) (Int.natCast_nonneg j) (by rw [repC_len n m hmn]; omega)
      cases e1
      rw [Int.toNat_natCast] at hc
      rw [hc]
      simp at hj
      simp [rd, repC, hj, List.getElem?_append, hj2]))
    have HL := R_laid m (List.replicate q (-1)) HD.out (repC_len n m hmn) (by rw [repC_len n m hmn]; simp; omega)
    have HO7 := Aside0.mk (show Kd.R (Kd.int .i64) 2 (wr.drew.setCells g m (encs (Value.int .i64) (List.replicate q (-1)))) w.heap.size (fun _ => True) (.slice (some ⟨g, 0, none⟩) n cap) (repC n (m + q)) from by
      have := HL.1
      rwa [show (repC n m).take m ++ List.replicate q (-1) ++ (repC n m).drop (m + (List.replicate q (-1 : Int)).length) = repC n (m + q) from by rw [List.length_replicate, hq]; exact rep_step n m hmn] at this)
    have HB7 := Aside0.mk ((below_drew1 HB.out).grown HL.2 (below_size (below_drew1 HB.out)) (fun k hk => Kd.R_base HD.out k (by rw [← hk]; rfl)))
    clear HL HO
    clear hq
    have HXL := Aside0.mk (List.length_replicate (n := q) (a := (-1 : Int)))
    go_wp2_with fail
    go_region_held3 (fun _ => True) (exact trivial) ((go_simp; rw [HX.out, HXL.out]; go_simp))
    generalize wr.drew.setCells g m (encs (Value.int .i64) (List.replicate q (-1))) = w7 at HO7 HB7 ⊢
    clear HX HD
    go_wp2_with fail
    go_roundg (gk - 1)
    case measure => have hq := HQ.out; omega
    case rel => 
      have hq := HQ.out
      exact ⟨m + q, by rw [Int.natCast_add]; simp only [i64_w]; rw [show wrap64 ((m : Int) + (q : Int)) = (m : Int) + (q : Int) from by unfold wrap64; omega], by omega, by omega, by omega, HO7, HB7⟩

end Go.Proofs.Ytohjpgcmhihdhaa.Q
