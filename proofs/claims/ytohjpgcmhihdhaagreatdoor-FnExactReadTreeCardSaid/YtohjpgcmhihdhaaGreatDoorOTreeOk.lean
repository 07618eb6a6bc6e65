/- Plain laws of topologies: the program and the reference say the same of one. Conditions: the bounds that each theorem names. -/
import Derived.Test.YtohjpgcmhihdhaaGreatDoorOTree
import Derived.Test.YtohjpgcmhihdhaaGreatDoorQ0
import Derived.Test.YtohjpgcmhihdhaaGreatDoorQf24
import Derived.Test.YtohjpgcmhihdhaaGreatDoorQf14
import Derived.Test.YtohjpgcmhihdhaaGreatDoorQf32
import Derived.Test.YtohjpgcmhihdhaaGreatDoorQf53
import Derived.Test.YtohjpgcmhihdhaaGreatDoorQf45
import Derived.Test.YtohjpgcmhihdhaaGreatDoorQf44
import Derived.Test.YtohjpgcmhihdhaaGreatDoorQf47
import Derived.Test.YtohjpgcmhihdhaaGreatDoorQf46
namespace Go.Proofs.YtohjpgcmhihdhaaGreatDoor.Pure
open Go.RowKit Go.Proofs.YtohjpgcmhihdhaaGreatDoor.Q Go.Proofs.YtohjpgcmhihdhaaGreatDoorW.PrintWords Go.Proofs.YtohjpgcmhihdhaaGreatDoorW.PrintLast Go.Proofs.YtohjpgcmhihdhaaGreatDoorW.PrintMore
set_option linter.unusedVariables false
set_option linter.unusedSimpArgs false

/-! devices -/
def devStep (D : List S57) (i : Nat) : Bool := inB (rd_T57 D i).f0 0 15 && inB (rd_T57 D i).f1 0 8 && !(decide (0 < i) && decide ((rd_T57 D i).f0 ≤ (rd_T57 D ((i : Int) - 1)).f0))
def devsB (D : List S57) : Bool := (List.range D.length).all (devStep D) && decide (D.length ≤ 16)
theorem wrap_down (i : Nat) (h : 0 < i) (hn : i ≤ 9223372036854775807) : wrap64 ((i : Int) - 1) = (i : Int) - 1 := by unfold wrap64; omega
theorem spec_devs_ev (D : List S57) (B : List S49) : Ev (fun k => spec_l06Devices.f k D B) (devsB D) := by
  unfold spec_l06Devices.f devsB
  by_cases h : (D.length : Int) > 16
  · simp only [if_pos h, decide_eq_false (show ¬ (D.length ≤ 16) by omega), Bool.and_false]
    exact Ev.now _
  · simp only [if_neg h, decide_eq_true (show D.length ≤ 16 by omega), Bool.and_true]
    have hu : ∀ (i : Nat), i < D.length → ∀ k, spec_l06Devices.l0 (k + 1) i D B = if devStep D i = true then spec_l06Devices.l0 k ((i + 1 : Nat) : Int) D B else some false := fun i hi k => by
      simp only [spec_l06Devices.l0]
      rw [if_pos (by omega), if_pos (by omega), in_inB, in_inB, up64 i D.length hi (by omega)]
      simp only [Option.bind_some]
      unfold devStep
      cases inB (rd_T57 D i).f0 0 15 with
      | false => simp
      | true =>
        cases inB (rd_T57 D i).f1 0 8 with
        | false => simp
        | true =>
          by_cases c : 0 < i
          · rw [if_pos rfl, if_pos rfl, if_pos (by omega), wrap_down i c (by omega), if_pos (by omega), if_pos (by omega)]
            by_cases c2 : (rd_T57 D i).f0 ≤ (rd_T57 D ((i : Int) - 1)).f0 <;> simp [c, c2]
          · rw [if_pos rfl, if_pos rfl, if_neg (by omega)]
            simp [c]
    exact all_loop D.length (fun k i => spec_l06Devices.l0 k i D B) (devStep D) (fun i hi hc => ev_next (fun k => by rw [hu i hi k, if_pos hc])) (fun i hi hc => ev_end (fun k => by rw [hu i hi k, if_neg (by rw [hc]; decide)])) (fun k => by simp only [spec_l06Devices.l0]; rw [if_neg (by omega)])
theorem isNode_inB (a : Int) : impl_isNode.f a = some (inB a 0 15) := by
  unfold impl_isNode.f
  rw [between_inB]; rfl
theorem impl_devs_ev (D : List S57) (B : List S49) (hD : D.length ≤ 9223372036854775807) : Ev (fun k => impl_Tree_devicesOk.f k D B) (devsB D) := by
  have hu : ∀ (i : Nat), i < D.length → ∀ k, impl_Tree_devicesOk.l0 (k + 1) D D.length i D B = if devStep D i = true then impl_Tree_devicesOk.l0 k D D.length ((i + 1 : Nat) : Int) D B else some false := fun i hi k => by
    simp only [impl_Tree_devicesOk.l0]
    rw [if_pos (by omega), if_pos (by omega), if_pos (by omega), isNode_inB, up64 i D.length hi hD]
    simp only [Option.bind_some, between_inB]
    unfold devStep
    cases inB (rd_T57 D i).f0 0 15 with
    | false => simp
    | true =>
      by_cases c : 0 < i
      · rw [if_pos rfl, if_pos (by omega), wrap_down i c (by omega), if_pos (by omega), if_pos (by omega)]
        by_cases c2 : (rd_T57 D i).f0 ≤ (rd_T57 D ((i : Int) - 1)).f0
        · simp [c, c2]
        · cases inB (rd_T57 D i).f1 0 8 <;> simp [c, c2]
      · rw [if_pos rfl, if_neg (by omega)]
        cases inB (rd_T57 D i).f1 0 8 <;> simp [c]
  refine loop_is D.length (fun k (_ : Unit) i => impl_Tree_devicesOk.l0 k D D.length i D B) (fun i _ => ∀ j, j < i → devStep D j = true) _ ?_ ?_ () (fun j hj => absurd hj (Nat.not_lt_zero j))
  · intro i _ hi hI
    cases hc : devStep D i with
    | true =>
      refine .inr ⟨(), fun j hj => ?_, ev_next (fun k => by rw [hu i hi k, if_pos hc])⟩
      rcases Nat.lt_succ_iff_lt_or_eq.1 hj with h | h
      · exact hI j h
      · rw [h]; exact hc
    | false =>
      left
      have e : devsB D = false := by
        unfold devsB
        have : (List.range D.length).all (devStep D) = false := by
          rw [List.all_eq_false]
          exact ⟨i, by simpa using hi, by simp [hc]⟩
        rw [this, Bool.false_and]
      rw [e]
      exact ev_end (fun k => by rw [hu i hi k, if_neg (by rw [hc]; decide)])
  · intro _ hI
    have e : devsB D = decide ((D.length : Int) ≤ 16) := by
      unfold devsB
      have : (List.range D.length).all (devStep D) = true := by
        rw [List.all_eq_true]
        intro j hj
        exact hI j (by simpa using hj)
      rw [this, Bool.true_and]
      exact decide_eq_decide.2 (by omega)
    rw [e]
    exact ev_end (fun k => by simp only [impl_Tree_devicesOk.l0]; rw [if_neg (by omega)])
/-! buckets -/
def bktStep (B : List S49) (i : Nat) : Bool := inB (rd_T49 B i).f0 (-12) (-1) && inB (rd_T49 B i).f1 1 3 && decide ((rd_T49 B i).f2.length ≤ 8) && !(decide (0 < i) && decide ((rd_T49 B ((i : Int) - 1)).f0 ≤ (rd_T49 B i).f0))
def bktsB (B : List S49) : Bool := (List.range B.length).all (bktStep B) && decide (B.length ≤ 12)
theorem spec_bkts_ev (D : List S57) (B : List S49) : Ev (fun k => spec_l06Buckets.f k D B) (bktsB B) := by
  unfold spec_l06Buckets.f bktsB
  by_cases h : (B.length : Int) > 12
  · simp only [if_pos h, decide_eq_false (show ¬ (B.length ≤ 12) by omega), Bool.and_false]
    exact Ev.now _
  · simp only [if_neg h, decide_eq_true (show B.length ≤ 12 by omega), Bool.and_true]
    have hu : ∀ (i : Nat), i < B.length → ∀ k, spec_l06Buckets.l0 (k + 1) i D B = if bktStep B i = true then spec_l06Buckets.l0 k ((i + 1 : Nat) : Int) D B else some false := fun i hi k => by
      simp only [spec_l06Buckets.l0]
      rw [if_pos (by omega), if_pos (by omega), in_inB, in_inB, up64 i B.length hi (by omega)]
      simp only [Option.bind_some]
      unfold bktStep
      cases inB (rd_T49 B i).f0 (-12) (-1) with
      | false => simp
      | true =>
        cases inB (rd_T49 B i).f1 1 3 with
        | false => simp
        | true =>
          rw [if_pos rfl, if_pos rfl]
          by_cases c8 : (rd_T49 B i).f2.length ≤ 8
          · rw [if_neg (by omega)]
            by_cases c : 0 < i
            · rw [if_pos (by omega), wrap_down i c (by omega), if_pos (by omega), if_pos (by omega)]
              by_cases c2 : (rd_T49 B ((i : Int) - 1)).f0 ≤ (rd_T49 B i).f0 <;> simp [c, c2, c8]
            · rw [if_neg (by omega)]
              simp [c, c8]
          · rw [if_pos (by omega)]
            simp [c8]
    exact all_loop B.length (fun k i => spec_l06Buckets.l0 k i D B) (bktStep B) (fun i hi hc => ev_next (fun k => by rw [hu i hi k, if_pos hc])) (fun i hi hc => ev_end (fun k => by rw [hu i hi k, if_neg (by rw [hc]; decide)])) (fun k => by simp only [spec_l06Buckets.l0]; rw [if_neg (by omega)])
/-! nothing twice -/
def onceGo (B : List S49) : Nat → Int → List Int → Bool
  | 0, _, _ => true
  | d + 1, i, u => match useGo u (rd_T49 B i).f2 with | some u' => onceGo B d (i + 1) u' | none => false
def onceTail (B : List S49) (d : Nat) (i : Int) (u items : List Int) : Bool := match useGo u items with | some u' => onceGo B d (i + 1) u' | none => false
def onceB (B : List S49) : Bool := onceGo B B.length 0 []
theorem useGo_cons (u : List Int) (x : Int) (xs : List Int) : useGo u (x :: xs) = if (u.any fun y => y == x) = true then none else useGo (u ++ [x]) xs := rfl
theorem useGo_length : ∀ (items u u' : List Int), useGo u items = some u' → u' = u ++ items
  | [], u, u', h => by simp only [useGo, Option.some.injEq] at h; simp [h]
  | x :: xs, u, u', h => by
    unfold useGo at h
    split at h
    · cases h
    · rw [useGo_length xs _ _ h]; simp
theorem spec_once_ev (D : List S57) (B : List S49) (hB : B.length ≤ 12) (hI : ∀ x ∈ B, x.f2.length ≤ 8) : Ev (fun k => spec_l06Once.f k D B) (onceB B) := by
  refine loop_is B.length (fun k (u : List Int) i => spec_l06Once.l0 k u i D B) (fun i u => u.length ≤ 8 * i ∧ onceB B = onceGo B (B.length - i) i u) _ ?_ ?_ [] ⟨by simp, rfl⟩
  · rintro i u hi ⟨hu, hT⟩
    have hx := hI B[i] (List.getElem_mem hi)
    have hT1 : onceB B = onceTail B (B.length - (i + 1)) i u B[i].f2 := by
      rw [hT, show B.length - i = (B.length - (i + 1)) + 1 from by omega]
      unfold onceTail
      rw [← rd_bkt B i hi]
      rfl
    -- the inner loop
    have hinner : ∀ (r : Bool), (∀ u', useGo u B[i].f2 = some u' → Ev (fun k => spec_l06Once.l0 k u' ((i + 1 : Nat) : Int) D B) r) → (useGo u B[i].f2 = none → r = false) → Ev (fun k => spec_l06Once.l1 k u i 0 D B) r := by
      intro r hgood hbad
      refine loop_is B[i].f2.length (fun k (v : List Int) j => spec_l06Once.l1 k v i j D B) (fun j v => v.length = u.length + j ∧ useGo u B[i].f2 = useGo v (B[i].f2.drop j)) _ ?_ ?_ u ⟨by simp, by simp⟩
      · rintro j v hj ⟨hv, hG⟩
        have hd : B[i].f2.drop j = B[i].f2[j] :: B[i].f2.drop (j + 1) := List.drop_eq_getElem_cons hj
        have hstep : ∀ q, Ev (fun k => if (v.any fun y => y == B[i].f2[j]) = true then some false else (if v.length < 17592186044416 then spec_l06Once.l1 k (v ++ [B[i].f2[j]]) i ((j + 1 : Nat) : Int) D B else none)) q → Ev (fun k => spec_l06Once.l1 k v i j D B) q := fun q hq => by
          refine Ev.step (f := ?f) (fun k => ?_) ?_
          rotate_left
          · simp only [spec_l06Once.l1]
            rw [if_pos (by omega), if_pos (by omega), rd_bkt B i hi, if_pos (by omega), if_pos (by omega), rd_get _ j hj, up64 j B[i].f2.length hj (by omega)]
            all_goals exact rfl
          · exact Ev.bind (has_ev v _ (by omega)) hq
        rw [hd] at hG
        rw [useGo_cons] at hG
        by_cases c : (v.any fun y => y == B[i].f2[j]) = true
        · left
          rw [if_pos c] at hG
          rw [hbad hG]
          exact hstep _ (ev_some fun k => if_pos c)
        · rw [if_neg c] at hG
          exact .inr ⟨v ++ [B[i].f2[j]], ⟨by simp; omega, hG⟩, fun q hq => hstep q (Ev.congr (fun k => by rw [if_neg c, if_pos (by omega)]) hq)⟩
      · rintro v ⟨hv, hG⟩
        rw [List.drop_length] at hG
        refine Ev.step (fun k => ?_) (hgood v hG)
        simp only [spec_l06Once.l1]
        rw [if_pos (by omega), if_pos (by omega), rd_bkt B i hi, if_neg (by omega), up64 i B.length hi (by omega)]
    have hout : ∀ q, Ev (fun k => spec_l06Once.l1 k u i 0 D B) q → Ev (fun k => spec_l06Once.l0 k u i D B) q := fun q hq => Ev.step (fun k => by
      simp only [spec_l06Once.l0]
      rw [if_pos (by omega)]) hq
    cases hc : useGo u B[i].f2 with
    | none =>
      left
      have e : onceB B = false := by rw [hT1]; unfold onceTail; rw [hc]
      rw [e]
      refine hout _ (hinner false (fun u' h => ?_) (fun _ => rfl))
      rw [hc] at h; cases h
    | some u' =>
      have hl := useGo_length _ _ _ hc
      refine .inr ⟨u', ⟨by rw [hl, List.length_append]; omega, ?_⟩, fun q hq => hout q (hinner q (fun v h => ?_) (fun h => ?_))⟩
      · rw [hT1]; unfold onceTail; rw [hc]; rfl
      · rw [hc] at h
        obtain rfl := Option.some.inj h
        exact hq
      · rw [hc] at h; cases h
  · rintro u ⟨hu, hT⟩
    rw [hT, Nat.sub_self]
    exact ev_end (fun k => by simp only [spec_l06Once.l0]; rw [if_neg (by omega)]; rfl)

/-! what lies in a bucket -/
def fitOne (D : List S57) (B : List S49) (kd : Int) (items : List Int) (x : Int) : Bool := if kd < 3 then kindAt D B x == kd - 1 else kindAt D B x == kindAt D B (rd items 0) && (kindAt D B x == 1 || kindAt D B x == 2)
def fitsB (D : List S57) (B : List S49) (kd : Int) (items : List Int) : Bool := (List.range items.length).all fun j => fitOne D B kd items (rd items j)
theorem spec_fits_ev (D : List S57) (B : List S49) (hD : D.length ≤ 9223372036854775807) (hB : B.length ≤ 9223372036854775807) (id kd : Int) (items : List Int) (h1 : 1 ≤ kd) (h3 : kd ≤ 3) (hl : items.length ≤ 9223372036854775807) : Ev (fun k => spec_l06Fits.f k D B id kd items) (fitsB D B kd items) := by
  have hmain : ∀ (j : Nat), j < items.length → ∀ r, (fitOne D B kd items (rd items j) = true → Ev (fun k => spec_l06Fits.l0 k ((j + 1 : Nat) : Int) D B id kd items) r) → (fitOne D B kd items (rd items j) = false → r = false) → Ev (fun k => spec_l06Fits.l0 k j D B id kd items) r := by
    intro j hj r hgood hbad
    have hw : wrap64 (kd - 1) = kd - 1 := by unfold wrap64; omega
    refine Ev.step (f := ?f) (fun k => ?_) ?_
    rotate_left
    · simp only [spec_l06Fits.l0]
      rw [if_pos (by omega), if_pos (by omega)]
      all_goals exact rfl
    · refine Ev.bind (specKind_ev D B _ hD hB) ?_
      by_cases ck : kd < 3
      · simp only [if_pos ck, hw]
        refine Ev.step (f := ?g) (fun k => ?_) ?_
        rotate_left
        · simp only [spec_l06Fits.j1]
          exact rfl
        · unfold fitOne at hgood hbad
          rw [if_pos ck] at hgood hbad
          by_cases c : kindAt D B (rd items j) = kd - 1
          · refine Ev.congr (fun k => ?_) (hgood (by simpa using c))
            rw [if_neg (by simp [c]), if_neg (by omega), up64 j items.length hj hl]
          · have e := hbad (by simpa using c)
            subst e
            refine ev_some (fun k => ?_)
            rw [if_pos (by simpa using c)]
      · simp only [if_neg ck]
        refine Ev.step (f := ?g2) (fun k => ?_) ?_
        rotate_left
        · simp only [spec_l06Fits.j1]
          exact rfl
        · simp only [Bool.false_eq_true, if_false, show kd = 3 by omega, if_true, show (0 : Int) < (items.length : Int) by omega]
          unfold fitOne at hgood hbad
          rw [if_neg ck] at hgood hbad
          refine Ev.bind (specKind_ev D B _ hD hB) ?_
          by_cases c0 : kindAt D B (rd items j) = kindAt D B (rd items 0)
          · by_cases c1 : kindAt D B (rd items j) = 1
            · refine Ev.congr (fun k => ?_) (hgood (by simp [← c0, c1]))
              rw [if_pos c0, if_pos c1, up64 j items.length hj hl, show kd = 3 by omega]
            · by_cases c2 : kindAt D B (rd items j) = 2
              · refine Ev.congr (fun k => ?_) (hgood (by simp [← c0, c2]))
                rw [if_pos c0, if_neg c1, if_pos c2, up64 j items.length hj hl, show kd = 3 by omega]
              · have e := hbad (by simp [c1, c2])
                subst e
                exact ev_some fun k => by rw [if_pos c0, if_neg c1, if_neg c2]
          · have e := hbad (by simp [c0])
            subst e
            exact ev_some fun k => by rw [if_neg c0]
  exact all_loop items.length (fun k j => spec_l06Fits.l0 k j D B id kd items) (fun j => fitOne D B kd items (rd items j)) (fun j hj hc r hr => hmain j hj r (fun _ => hr) (fun h => by rw [hc] at h; cases h)) (fun j hj hc => hmain j hj false (fun h => by rw [hc] at h; cases h) (fun _ => rfl)) (fun k => by simp only [spec_l06Fits.l0]; rw [if_neg (by omega)])
theorem range_all (items : List Int) (p : Int → Bool) : ((List.range items.length).all fun j => p (rd items j)) = items.all p := by
  rw [Bool.eq_iff_iff, List.all_eq_true, List.all_eq_true]
  constructor
  · intro h x hx
    obtain ⟨j, hj, rfl⟩ := List.mem_iff_getElem.1 hx
    have := h j (by simpa using hj)
    rwa [rd_get items j hj] at this
  · intro h j hj
    have hj' : j < items.length := by simpa using hj
    rw [rd_get items j hj']
    exact h _ (List.getElem_mem hj')
theorem fits_items (D : List S57) (B : List S49) (kd : Int) (items : List Int) (h1 : 1 ≤ kd) (h3 : kd ≤ 3) : fitsB D B kd items = itemsOkB D B kd items := by
  unfold fitsB itemsOkB
  rw [range_all items (fitOne D B kd items)]
  have hw : wrap64 (kd - 1) = kd - 1 := by unfold wrap64; omega
  rw [hw]
  match items with
  | [] => simp
  | x :: xs =>
    rw [if_neg (by simp)]
    have ho := once_one ((x :: xs).map (kindAt D B))
    have hhead : rd (x :: xs) 0 = x := rfl
    unfold fitOne
    rw [hhead]
    have hm : ∀ y, y ∈ (x :: xs).map (kindAt D B) ↔ ∃ z ∈ x :: xs, kindAt D B z = y := fun y => List.mem_map
    generalize hS : (x :: xs).map (kindAt D B) = S at ho hm
    by_cases c1 : 1 < (onceOf S).length
    · rw [if_pos c1]
      rw [Bool.eq_false_iff]
      intro hall
      rw [List.all_eq_true] at hall
      refine absurd (ho.2 ?_) (by omega)
      intro a ha b hb
      obtain ⟨p, hp, rfl⟩ := (hm a).1 ha
      obtain ⟨q, hq, rfl⟩ := (hm b).1 hb
      have h1 := hall p hp
      have h2 := hall q hq
      by_cases ck : kd < 3
      · rw [if_pos ck] at h1 h2
        rw [eq_of_beq h1, eq_of_beq h2]
      · rw [if_neg ck, Bool.and_eq_true] at h1 h2
        rw [eq_of_beq h1.1, eq_of_beq h2.1]
    · rw [if_neg c1]
      have hsame := ho.1 (by omega)
      have hx : kindAt D B x ∈ S := (hm _).2 ⟨x, by simp, rfl⟩
      have hall : ∀ z ∈ x :: xs, kindAt D B z = kindAt D B x := fun z hz => hsame _ ((hm _).2 ⟨z, hz, rfl⟩) _ hx
      have hany : ∀ v : Int, (S.any fun y => y == v) = (kindAt D B x == v) := fun v => by
        rw [Bool.eq_iff_iff, List.any_eq_true]
        constructor
        · rintro ⟨y, hy, e⟩
          rw [hsame _ hx y hy]; exact e
        · intro e
          exact ⟨_, hx, e⟩
      rw [hany, hany, hany]
      by_cases ck : kd < 3
      · rw [if_neg (show ¬ kd = 3 by omega), Bool.eq_iff_iff, List.all_eq_true]
        constructor
        · intro h
          have := h x (by simp)
          rwa [if_pos ck] at this
        · intro h z hz
          rw [if_pos ck, hall z hz]; exact h
      · rw [if_pos (show kd = 3 by omega), Bool.eq_iff_iff, List.all_eq_true]
        constructor
        · intro h
          have := h x (by simp)
          rw [if_neg ck, Bool.and_eq_true] at this
          exact this.2
        · intro h z hz
          rw [if_neg ck, hall z hz, Bool.and_eq_true]
          exact ⟨by simp, h⟩
/-! the whole -/
def allB (D : List S57) (B : List S49) : Nat → Int → Bool
  | 0, _ => true
  | d + 1, i => bktB D B i && allB D B d (i + 1)
theorem treeGo_parts (D : List S57) (B : List S49) : ∀ (d : Nat) (i : Int) (u : List Int), treeGo D B d i u = (allB D B d i && onceGo B d i u)
  | 0, _, _ => rfl
  | d + 1, i, u => by
    have ht : treeGo D B (d + 1) i u = if bktB D B i = true then (match useGo u (rd_T49 B i).f2 with | some u' => treeGo D B d (i + 1) u' | none => false) else false := rfl
    have ho : onceGo B (d + 1) i u = match useGo u (rd_T49 B i).f2 with | some u' => onceGo B d (i + 1) u' | none => false := rfl
    have ha : allB D B (d + 1) i = (bktB D B i && allB D B d (i + 1)) := rfl
    rw [ht, ho, ha]
    cases bktB D B i with
    | false => rfl
    | true =>
      cases useGo u (rd_T49 B i).f2 with
      | none => simp
      | some u' => simp [treeGo_parts D B d (i + 1) u']
theorem allB_all (D : List S57) (B : List S49) : ∀ (d i : Nat), allB D B d i = true ↔ ∀ j, i ≤ j → j < i + d → bktB D B j = true
  | 0, i => by simp [allB]; intro j h1 h2; omega
  | d + 1, i => by
    have ha : allB D B (d + 1) i = (bktB D B i && allB D B d ((i + 1 : Nat) : Int)) := rfl
    rw [ha, Bool.and_eq_true, allB_all D B d (i + 1)]
    constructor
    · rintro ⟨h1, h2⟩ j hj1 hj2
      by_cases e : j = i
      · subst e; exact h1
      · exact h2 j (by omega) (by omega)
    · intro h
      exact ⟨h i (by omega) (by omega), fun j h1 h2 => h j (by omega) (by omega)⟩
theorem bktB_parts (D : List S57) (B : List S49) (i : Nat) : bktB D B i = (bktStep B i && itemsOkB D B (rd_T49 B i).f1 (rd_T49 B i).f2) := by
  unfold bktB bktStep
  have e : decide ((0 : Int) < (i : Int)) = decide (0 < i) := decide_eq_decide.2 (by omega)
  rw [e]
  cases inB (rd_T49 B i).f0 (-12) (-1) <;> cases inB (rd_T49 B i).f1 1 3 <;> cases decide (0 < i) <;> cases decide ((rd_T49 B ((i : Int) - 1)).f0 ≤ (rd_T49 B i).f0) <;> cases decide ((rd_T49 B i).f2.length ≤ 8) <;> rfl
/-- is a topology valid? -/
def treeOkB (D : List S57) (B : List S49) : Bool := devsB D && (decide (B.length ≤ 12) && treeB D B)
theorem fits_all_ev (D : List S57) (B : List S49) (hD : D.length ≤ 16) (hB : B.length ≤ 12) (hS : ∀ j, j < B.length → bktStep B j = true) : Ev (fun k => spec_l06OK.l0 k 0 D B) ((List.range B.length).all fun i => fitsB D B (rd_T49 B i).f1 (rd_T49 B i).f2) := by
  have hst : ∀ (i : Nat), i < B.length → (1 ≤ (rd_T49 B i).f1 ∧ (rd_T49 B i).f1 ≤ 3) ∧ (rd_T49 B i).f2.length ≤ 8 := fun i hi => by
    have := hS i hi
    unfold bktStep inB at this
    simp only [Bool.and_eq_true, decide_eq_true_eq] at this
    exact ⟨this.1.1.2, this.1.2⟩
  have hu : ∀ (i : Nat), i < B.length → ∀ r, Ev (fun k => if fitsB D B (rd_T49 B i).f1 (rd_T49 B i).f2 = true then spec_l06OK.l0 k ((i + 1 : Nat) : Int) D B else some false) r → Ev (fun k => spec_l06OK.l0 k i D B) r := fun i hi r hr => by
    obtain ⟨⟨h1, h3⟩, h8⟩ := hst i hi
    refine Ev.step (f := ?f) (fun k => ?_) ?_
    rotate_left
    · simp only [spec_l06OK.l0]
      rw [if_pos (by omega), if_pos (by omega), up64 i B.length hi (by omega)]
      all_goals exact rfl
    · exact Ev.bind (spec_fits_ev D B (by omega) (by omega) _ _ _ h1 h3 (by omega)) hr
  exact all_loop B.length (fun k i => spec_l06OK.l0 k i D B) _ (fun i hi hc r hr => hu i hi r (Ev.congr (fun k => by rw [if_pos hc]) hr)) (fun i hi hc => hu i hi false (ev_some fun k => by rw [if_neg (by rw [hc]; decide)])) (fun k => by simp only [spec_l06OK.l0]; rw [if_neg (by omega)])
theorem spec_ok_ev (D : List S57) (B : List S49) : Ev (fun k => spec_l06OK.f k D B) (treeOkB D B) := by
  unfold spec_l06OK.f
  refine Ev.bind (spec_devs_ev D B) ?_
  have hj : ∀ r, r = false → Ev (fun k => spec_l06OK.j0 k true D B) r := fun r hr => by
    subst hr
    exact ev_end fun k => by simp only [spec_l06OK.j0]; rw [if_pos trivial]
  unfold treeOkB
  cases hd : devsB D with
  | false =>
    simp only [Bool.false_eq_true, if_false, Bool.false_and]
    exact hj _ rfl
  | true =>
    simp only [if_true, Bool.true_and]
    refine Ev.bind (spec_bkts_ev D B) ?_
    have hparts : treeB D B = (allB D B B.length 0 && onceB B) := treeGo_parts D B B.length 0 []
    have hall := allB_all D B B.length 0
    rw [show ((0 : Nat) : Int) = 0 from rfl] at hall
    have hD : D.length ≤ 16 := by
      unfold devsB at hd
      rw [Bool.and_eq_true] at hd
      exact of_decide_eq_true hd.2
    cases hb : bktsB B with
    | false =>
      simp only [Bool.false_eq_true, if_false]
      refine hj _ ?_
      by_cases c : B.length ≤ 12
      · have : allB D B B.length 0 = false := by
          rw [Bool.eq_false_iff]
          intro h
          have h2 := hall.1 h
          have : bktsB B = true := by
            unfold bktsB
            rw [decide_eq_true c, Bool.and_true, List.all_eq_true]
            intro j hj
            have := h2 j (by omega) (by simpa using hj)
            rw [bktB_parts, Bool.and_eq_true] at this
            exact this.1
          rw [this] at hb; cases hb
        rw [hparts, this]; simp
      · rw [decide_eq_false c, Bool.false_and]
    | true =>
      unfold bktsB at hb
      rw [Bool.and_eq_true, List.all_eq_true] at hb
      have h12 := of_decide_eq_true hb.2
      have hS : ∀ j, j < B.length → bktStep B j = true := fun j hj => hb.1 j (by simpa using hj)
      have h8 : ∀ x ∈ B, x.f2.length ≤ 8 := fun x hx => by
        obtain ⟨j, hj, rfl⟩ := List.mem_iff_getElem.1 hx
        have := hS j hj
        unfold bktStep at this
        simp only [Bool.and_eq_true, decide_eq_true_eq] at this
        rw [rd_bkt B j hj] at this
        exact this.1.2
      simp only [if_true]
      refine Ev.bind (spec_once_ev D B h12 h8) ?_
      rw [decide_eq_true h12, Bool.true_and, hparts]
      cases onceB B with
      | false =>
        rw [Bool.and_false]
        exact hj _ rfl
      | true =>
        rw [Bool.and_true]
        refine Ev.step (f := ?f) (fun k => ?_) ?_
        rotate_left
        · simp only [spec_l06OK.j0]
          exact rfl
        · simp only [Bool.not_true, Bool.false_eq_true, if_false]
          have hf := fits_all_ev D B hD h12 hS
          have e : ((List.range B.length).all fun i => fitsB D B (rd_T49 B i).f1 (rd_T49 B i).f2) = allB D B B.length 0 := by
            rw [Bool.eq_iff_iff, hall, List.all_eq_true]
            have hk : ∀ j, j < B.length → (fitsB D B (rd_T49 B j).f1 (rd_T49 B j).f2 = true ↔ bktB D B j = true) := fun j hj => by
              have hs := hS j hj
              rw [bktB_parts, hs, Bool.true_and]
              unfold bktStep inB at hs
              simp only [Bool.and_eq_true, decide_eq_true_eq] at hs
              rw [fits_items D B _ _ hs.1.1.2.1 hs.1.1.2.2]
            constructor
            · intro h j _ hj
              exact (hk j (by omega)).1 (h j (by simp; omega))
            · intro h j hj
              have hj' : j < B.length := by simpa using hj
              exact (hk j hj').2 (h j (by omega) (by omega))
          rw [e] at hf
          exact hf
theorem impl_ok_ev (D : List S57) (B : List S49) (hD : D.length ≤ 9223372036854775807) (hw : wfTree D B = true) : Ev (fun k => impl_TreeOk.f k D B) (treeOkB D B) := by
  unfold impl_TreeOk.f treeOkB
  simp only [if_pos hw]
  refine Ev.bind (impl_devs_ev D B hD) ?_
  cases devsB D <;> simp <;> first | exact Ev.now _ | exact ev_some fun k => rfl

end Go.Proofs.YtohjpgcmhihdhaaGreatDoor.Pure
