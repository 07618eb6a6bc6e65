/- The topology's text read: a number, a line's words. Conditions: the bounds that each theorem names; the library's variables that are read lie in memory as they were laid. -/
import Derived.Lib.ParseIntBTie
import Derived.Test.YtohjpgcmhihdhaaGreatDoorOText
import Derived.Test.YtohjpgcmhihdhaaGreatDoorQ0
namespace Go.Proofs.YtohjpgcmhihdhaaGreatDoorW.PrintMore
open Go.RowKit Go.Proofs.YtohjpgcmhihdhaaGreatDoorW.PrintWords Go.Proofs.YtohjpgcmhihdhaaGreatDoorW.PrintLast Go.Proofs.YtohjpgcmhihdhaaGreatDoor.Q
set_option linter.unusedVariables false
set_option linter.unusedSimpArgs false
/-- what a variable holds, it holds still behind whatever leaves memory below a bound as it is -/
theorem var_below {P : Program} {w W : World} {name : String} {cs : Array Value} (h : w.var? P name = some cs) (hb : Below w.heap.size w W) : W.var? P name = some cs := by
  unfold World.var? at *
  cases hg : P.globalNamed name with
  | none => simp [hg] at h
  | some g =>
    simp only [hg, Option.bind_some] at h ⊢
    have hlt : g < w.heap.size := by
      rcases Nat.lt_or_ge g w.heap.size with h' | h'
      · exact h'
      · rw [Array.getElem?_eq_none h'] at h; simp at h
    rw [hb.block g hlt]
    exact h
/-- what the library's functions read of package-level variables -/
structure DoorW (w : World) : Prop where
  tab : TabW w
  len : ∃ m, w.cell? ⟨0, 0, none⟩ = some (.int .i64 m)
  syn : ∃ tp p, w.var? Tryz.prog "strconv.ErrSyntax" = some #[.iface tp p]
  rng : ∃ tp p, w.var? Tryz.prog "strconv.ErrRange" = some #[.iface tp p]
theorem DoorW.on {w W : World} (h : DoorW w) (hb : Below w.heap.size w W) : DoorW W := by
  obtain ⟨h1, ⟨m, h2⟩, ⟨t3, p3, h3⟩, ⟨t4, p4, h4⟩⟩ := h
  exact ⟨h1.on hb, ⟨m, (hb.cell (World.block_lt_of_cell? w _ h2)).trans h2⟩, ⟨t3, p3, var_below h3 hb⟩, ⟨t4, p4, var_below h4 hb⟩⟩
theorem str_ne {a b : ByteArray} (h : ¬ a = b) : (a.toList == b.toList) = false := beq_eq_false_iff_ne.2 fun e => h (ByteArray.ext (Array.toList_inj.1 (by rw [ByteArray.toList_eq, ByteArray.toList_eq] at e; exact e)))
theorem str_eq_iff {a b : ByteArray} : a.toList = b.toList ↔ a = b := ⟨fun e => ByteArray.ext (Array.toList_inj.1 (by rw [ByteArray.toList_eq, ByteArray.toList_eq] at e; exact e)), fun h => by rw [h]⟩
/-- a word read as a number: only the number's own numeral -/
def rdDec (s : ByteArray) : Option Int := match Lib.parseIntB 64 s.data.toList with
  | .ok v => if decB v = s then some v else none
  | _ => none
set_option maxHeartbeats 1000000 in
set_option maxRecDepth 100000 in
theorem readDecimal_at (s : ByteArray) (w : World) (hs : s.size ≤ 281474976710656) (hD : DoorW w) :
    Calls Tryz.prog 51 #[.string s] w fun e w' => (∃ n, e = .returned (.tuple #[.int .i64 n, .bool (rdDec s).isSome]) ∧ ∀ v, rdDec s = some v → n = v ∧ -9223372036854775808 ≤ v ∧ v ≤ 9223372036854775807) ∧ Below w.heap.size w w' := by
  rcases hp : Lib.parseIntB 64 s.data.toList with v | _ | _
  · have hv := Lib.parseIntB_bounds hp
    have e0 : rdDec s = if decB v = s then some v else none := by unfold rdDec; rw [hp]
    go_enter Tryz.func51, Tryz.ntmps51
    go_wp2_with fail
    refine (Tryz.strconv_ParseInt_10_at64_ok s (by omega) v hp w).mono ?_
    rintro e w1 ⟨rfl, hw1⟩
    have HB := Aside0.mk (show Below w.heap.size w w1 from by
      rcases hw1 with rfl | ⟨t, rfl⟩
      · exact Below.refl _ _
      · exact Lib.bytesWorld_below _ _ _)
    clear hw1
    go_wp2_with fail
    refine (decimal_at v _ (by omega) (by omega) (hD.tab.on HB.out)).mono ?_
    rintro e w2 ⟨rfl, hb2⟩
    have HB2 := Aside0.mk (below_step HB.out hb2)
    clear hb2 HB hp hD
    by_cases hd : decB v = s
    · rw [if_pos hd] at e0
      subst hd
      go_wp2_with fail
      go_ret2
      exact ⟨⟨v, by rw [e0]; rfl, fun v' h => by rw [e0] at h; injection h with h; subst h; omega⟩, HB2.out⟩
    · rw [if_neg hd] at e0
      have hd1 := str_ne hd
      go_wp2_with fail
      go_ret2
      exact ⟨⟨v, by rw [e0]; rfl, fun v' h => by rw [e0] at h; cases h⟩, HB2.out⟩
  · have e0 : rdDec s = none := by unfold rdDec; rw [hp]
    obtain ⟨tp, p, hvar⟩ := hD.syn
    go_enter Tryz.func51, Tryz.ntmps51
    go_wp2_with fail
    refine (Any.strconv_ParseInt_10_at64_syntax_var Tryz.laysC174 s hs hp tp p w hvar).mono ?_
    rintro e w1 ⟨N, rfl, -, -, hb⟩
    have HB := Aside0.mk hb
    clear hb hp hD hvar
    go_wp2_with fail
    go_ret2
    exact ⟨⟨0, by rw [e0]; rfl, fun v' h => by rw [e0] at h; cases h⟩, HB.out⟩
  · have e0 : rdDec s = none := by unfold rdDec; rw [hp]
    obtain ⟨tp, p, hvar⟩ := hD.rng
    go_enter Tryz.func51, Tryz.ntmps51
    go_wp2_with fail
    refine (Any.strconv_ParseInt_10_at64_range_var Tryz.laysC174 s hs hp tp p w hvar).mono ?_
    rintro e w1 ⟨N, rfl, -, -, hb⟩
    have HB := Aside0.mk hb
    clear hb hp hD hvar
    go_wp2_with fail
    go_ret2
    exact ⟨⟨_, by rw [e0]; rfl, fun v' h => by rw [e0] at h; cases h⟩, HB.out⟩
/-- the words of a line -/
def wordsB (s : ByteArray) : List ByteArray := Lib.splitB ⟨#[32]⟩ 0 (Lib.countB s ⟨#[32]⟩) s
/-- words read as numbers, as far as all are -/
def rdNums : List ByteArray → Option (List Int)
  | [] => some []
  | x :: r => (rdDec x).bind fun v => (rdNums r).map (v :: ·)
/-- a line read: its first word, the numbers behind it -/
def rdLine (s : ByteArray) : Option (ByteArray × List Int) := (rdNums (wordsB s).tail).map fun l => ((wordsB s).headD ⟨#[]⟩, l)
theorem wordsB_len (s : ByteArray) : (wordsB s).length = Lib.countB s ⟨#[32]⟩ + 1 := Lib.splitB_all ⟨#[32]⟩ (by decide) 0 _ s rfl
theorem count_le (s : ByteArray) : Lib.countB s ⟨#[32]⟩ ≤ s.size := by
  have := Lib.countB_le ⟨#[32]⟩ (by decide) s.size s (Nat.le_refl _)
  omega
theorem split_size (sep : ByteArray) : ∀ (k : Nat) (s : ByteArray), ∀ x ∈ Lib.splitB sep 0 k s, x.size ≤ s.size
  | 0, s, x, hx => by
    rw [Lib.splitB_zero, List.mem_singleton] at hx
    rw [hx]
    exact Nat.le_refl _
  | k + 1, s, x, hx => by
    unfold Lib.splitB at hx
    split at hx
    · rw [List.mem_singleton] at hx
      rw [hx]
      exact Nat.le_refl _
    · rcases List.mem_cons.1 hx with e | e
      · rw [e, ByteArray.size_extract]; omega
      · have := split_size sep k _ x e
        rw [ByteArray.size_extract] at this
        omega
theorem rdNums_here (acc : List Int) (x : ByteArray) (r : List ByteArray) : (rdNums (x :: r)).map (acc ++ ·) = (rdDec x).bind fun v => (rdNums r).map ((acc ++ [v]) ++ ·) := by
  show ((rdDec x).bind fun v => (rdNums r).map (v :: ·)).map (acc ++ ·) = _
  cases rdDec x with
  | none => rfl
  | some v =>
    simp only [Option.bind_some, Option.map_map]
    congr 1
    funext l
    simp
theorem string_mk (w : World) (base : Nat) (ok : Nat → Prop) (x : Int) : (Kd.int .i64).M w base ok x [.int .i64 x] := rfl
/-- what readLine hands back -/
def LineOut (s : ByteArray) (e : Ending) (w w' : World) : Prop := ∃ v, e = .returned (.tuple #[.string ((rdLine s).elim ⟨#[]⟩ Prod.fst), v, .bool (rdLine s).isSome]) ∧ (Kd.int .i64).R 2 w' w.heap.size (fun _ => True) v ((rdLine s).elim [] Prod.snd) ∧ Below w.heap.size w w'
set_option maxHeartbeats 4000000 in
set_option maxRecDepth 100000 in
theorem readLine_at (s : ByteArray) (w : World) (hs : s.size ≤ 1048576) (hD : DoorW w) :
    Calls Tryz.prog 29 #[.string s] w fun e w' => LineOut s e w w' := by
  have HD := Aside0.mk hD
  clear hD
  obtain ⟨m, hm⟩ := HD.out.len
  have hcl := count_le s
  have hn := wordsB_len s
  have hsz : ∀ x ∈ wordsB s, x.size ≤ s.size := split_size ⟨#[32]⟩ (Lib.countB s ⟨#[32]⟩) s
  go_enter Tryz.func29, Tryz.ntmps29
  go_wp2_with fail
  refine (Tryz.strings_Split s ⟨#[32]⟩ m w (by omega) hm (by decide)).mono ?_
  rintro e w1 ⟨rfl, hw1⟩
  have hrow : (wordsB s).map Value.string = ((Lib.splitB ⟨#[32]⟩ 0 (Lib.countB s ⟨#[32]⟩) s).map Value.string) := rfl
  rw [← hrow] at hw1
  clear hrow hm
  have HRL := Aside0.mk (show rdLine s = (rdNums (wordsB s).tail).map fun l => ((wordsB s).headD ⟨#[]⟩, l) from rfl)
  generalize wordsB s = W at hn hsz hw1 HRL
  obtain ⟨x0, tl, rfl⟩ : ∃ x0 tl, W = x0 :: tl := by cases W with | nil => simp at hn | cons a b => exact ⟨a, b, rfl⟩
  simp only [List.length_cons, Nat.add_right_cancel_iff] at hn
  rw [← hn] at hcl ⊢
  clear hn
  have BW := Aside0.mk (show w1.heap[w.heap.size]? = some (.cells ((x0 :: tl).map Value.string).toArray 9 (0, 0)) from by rw [hw1]; exact blk_new w _)
  have HB := Aside0.mk (show Below w.heap.size w w1 from by rw [hw1]; exact below_alloc (Below.refl _ _) _)
  clear hw1
  obtain ⟨gb, hgb⟩ : ∃ g, g = w.heap.size := ⟨_, rfl⟩
  rw [← hgb] at BW ⊢
  clear hgb
  have HSZ := Aside0.mk (show ∀ x ∈ tl, x.size ≤ s.size from fun x hx => hsz x (List.mem_cons_of_mem _ hx))
  have HS := Aside0.mk hs
  clear hsz hs
  have q1 : (1 : Int) ≤ ((tl.length + 1 : Nat) : Int) := by omega
  by_cases ht : tl.length = 0
  · obtain rfl : tl = [] := List.eq_nil_of_length_eq_zero ht
    have HE := Aside0.mk (show rdLine s = some (x0, []) from HRL.out)
    have hc0 := (blk_cell BW.out 0).trans rfl
    go_wp2_with fail
    go_loopg [6, 16] 0 (fun gg v6 v16 wr => v6 = .slice none 0 0 ∧ v16 = .int .i64 0 ∧ wr = w1)
    case atStart => exact ⟨rfl, rfl, rfl⟩
    case round =>
      obtain ⟨rfl, rfl, rfl⟩ := hrel
      go_wp2_with fail
      go_ret3
      exact ⟨.slice none 0 0, by rw [HE.out]; rfl, by rw [HE.out]; exact Kd.R_nil _ _ _ _ _, HB.out⟩
  · have htl : 0 < tl.length := Nat.pos_of_ne_zero ht
    have HT := Aside0.mk htl
    clear htl
    have e0 : (tl.length + 1 - 1) = tl.length := rfl
    go_wp2_with fail
    go_loopg [6, 16] tl.length (fun gg v6 v16 wr => ∃ (kk : Nat) (acc : List Int), kk ≤ tl.length ∧ (tl.length : Int) - kk ≤ gg ∧ v16 = .int .i64 (kk : Int) ∧ Aside0 (acc.length = kk) ∧ Aside0 ((rdNums (tl.drop kk)).map (acc ++ ·) = rdNums tl) ∧ Aside0 (Below w.heap.size w wr) ∧ Aside0 (wr.heap[gb]? = some (.cells ((x0 :: tl).map Value.string).toArray 9 (0, 0))) ∧ Aside0 ((Kd.int .i64).R 2 wr w.heap.size (fun _ => True) v6 acc))
    case atStart => exact ⟨0, [], by omega, by omega, rfl, ⟨rfl⟩, ⟨by simp⟩, HB, BW, ⟨Kd.R_nil _ _ _ _ _⟩⟩
    case round =>
      clear HB BW
      obtain ⟨kk, acc, hk, hg, rfl, HA, HE, HB, BW, HO⟩ := hrel
      have hc0 := (blk_cell BW.out 0).trans rfl
      by_cases hlt : kk < tl.length
      · have hlt' : (kk : Int) < (tl.length : Int) := by omega
        have hcx : wr.cell? ⟨gb, 1 + kk, none⟩ = some (.string tl[kk]) := (blk_cell BW.out (1 + kk)).trans (by rw [Nat.add_comm]; simp [hlt])
        have HX := Aside0.mk (show tl[kk].size ≤ 1048576 from Nat.le_trans (HSZ.out _ (List.getElem_mem hlt)) HS.out)
        have HN := Aside0.mk (show ((rdDec tl[kk]).bind fun v => (rdNums (tl.drop (kk + 1))).map ((acc ++ [v]) ++ ·)) = rdNums tl from by rw [← HE.out, List.drop_eq_getElem_cons hlt, rdNums_here])
        clear HE
        generalize tl[kk] = x at hcx HX HN
        have q0 := eq_true (show (0 : Int) ≤ (kk : Int) by omega)
        have q2 := eq_true hlt'
        go_wp2_with fail
        refine (readDecimal_at x _ (by have := HX.out; omega) (HD.out.on HB.out)).mono ?_
        rintro e w2 ⟨⟨nn, rfl, hnn⟩, hb⟩
        have HNN := Aside0.mk hnn
        have HB2 := Aside0.mk (below_step HB.out hb)
        have BW2 := Aside0.mk (blk_below BW.out hb)
        have HO2 := Aside0.mk (Kd.R_below HO.out hb)
        clear hnn hb HB BW HO hc0 hcx
        cases hd : rdDec x with
        | none =>
          rw [hd] at HN HNN
          have HF := Aside0.mk (show rdLine s = none from by rw [HRL.out]; show (rdNums tl).map _ = none; rw [← HN.out]; rfl)
          simp only [Option.isSome_none]
          go_wp2_with fail
          go_ret3
          exact ⟨.slice none 0 0, by rw [HF.out]; rfl, by rw [HF.out]; exact Kd.R_nil _ _ _ _ _, HB2.out⟩
        | some v =>
          rw [hd] at HN HNN
          obtain ⟨rfl, hv0, hv1⟩ := HNN.out v rfl
          have HN2 := Aside0.mk (show (rdNums (tl.drop (kk + 1))).map ((acc ++ [nn]) ++ ·) = rdNums tl from HN.out)
          clear HN HNN hd
          simp only [Option.isSome_some]
          go_wp2_with (first | ((with_reducible refine gate_builtin (b := .append) (xs := #[.tmp 27, .tmp 29]) rfl ?_); at_builtin; refine Kd.R_append (Kd.int .i64) (w0 := w) w.heap.size rfl (.tmp 27) (.tmp 29) 47 2 (.int .i64 0) 8 rfl Tryz.underlying47 info2 rfl (by decide) (by omega) _ acc nn [.int .i64 nn] (fun _ => True) (fun _ => False) rfl rfl ?aP (fun _ hk => hk.elim) ?aF ?aO ?aB ?aS ?aL ?_; (case aP => exact string_mk _ _ _ nn); (case aB => exact HB2.out); (case aF => exact (fun _ _ => trivial)); (case aO => exact HO2.out); (case aS => exact below_size HB2.out); (case aL => have := HA.out; have := HS.out; omega); intro v3 w3 ho3 hb3 hg3 hat3; have HO3 := Aside0.mk ho3; have HB3 := Aside0.mk hb3; have BW3 := Aside0.mk (hg3.block _ (blk_lt BW2.out) (Kd.R_ne HO2.out BW2.out (by decide)) |>.trans BW2.out); clear ho3 hb3 hg3 hat3))
          go_roundg (gk - 1)
          case measure => omega
          case rel => exact ⟨kk + 1, acc ++ [nn], by omega, by omega, by rw [show wrap64 ((kk : Int) + 1) = ((kk + 1 : Nat) : Int) from by have := HS.out; unfold wrap64; omega], ⟨by rw [List.length_append, HA.out]; rfl⟩, HN2, HB3, BW3, HO3⟩
      · obtain rfl : kk = tl.length := by omega
        have HF := Aside0.mk (show rdLine s = some (x0, acc) from by
          have h := HE.out
          rw [List.drop_length] at h
          rw [HRL.out]
          show (rdNums tl).map _ = _
          rw [← h]
          simp [rdNums])
        go_wp2_with fail
        go_ret3
        exact ⟨_, by rw [HF.out]; rfl, by rw [HF.out]; exact HO.out, HB.out⟩
end Go.Proofs.YtohjpgcmhihdhaaGreatDoorW.PrintMore
