/- What reads as data reads as a kind of the print: for whole numbers, bools, strings, slices and structs. Conditions: none beyond each theorem's own. -/
import Derived.Test.YtohjpgcmhihdhaaDoorWBMore
import Derived.Test.YtohjpgcmhihdhaaDoorWWords
import Derived.Deep.Slices
import Derived.OpenShut
import Derived.ChangeArms
import Derived.SizedLaws
namespace Go.Proofs.YtohjpgcmhihdhaaDoor.Opens
open Go.RowKit Go.Deep Go.Proofs.YtohjpgcmhihdhaaDoorW.PrintWords

/-- Whatever reads as data at type t reads as kind d, as a value that is good. -/
def Opens {α : Type} (P : Program) (t : TypeId) (d : Kd α) (good : α → Prop) : Prop :=
  ∀ {H : Type} (enc : TypeId × Value → H) (w : World) (fuel : Nat) (cs : List Value) (y : DataW H × List MemPlace),
    DataW.trod enc P w 0 (fun _ => true) true fuel t cs = some y → ∃ x, d.K w x cs ∧ good x

theorem opens_int {P : Program} {t : TypeId} {k : IntKind} (ht : P.underlying t = some (.int k)) : Opens P t (Kd.int k) (fun x => (Lit.int k x).wf = true) := by
  intro H enc w fuel cs y h
  obtain ⟨n, rfl, _, hw⟩ := DataW.trod_int ht h
  exact ⟨n, rfl, hw⟩
theorem opens_bool {P : Program} {t : TypeId} (ht : P.underlying t = some .bool) : Opens P t Kd.bool (fun _ => True) := by
  intro H enc w fuel cs y h
  obtain ⟨n, rfl, _⟩ := DataW.trod_bool ht h
  exact ⟨n, rfl, trivial⟩
theorem opens_string {P : Program} {t : TypeId} (ht : P.underlying t = some .string) : Opens P t Kd.string (fun s => s.size ≤ 9223372036854775807) := by
  intro H enc w fuel cs y h
  obtain ⟨n, rfl, _, hm⟩ := DataW.trod_string ht h
  exact ⟨n, rfl, by simpa [maxLen] using hm⟩

theorem choose_list {α : Type} {p : Nat → α → Prop} : ∀ (n : Nat), (∀ i, i < n → ∃ x, p i x) → ∃ xs : List α, xs.length = n ∧ ∀ i x, xs[i]? = some x → p i x
  | 0, _ => ⟨[], rfl, fun i x h => by simp at h⟩
  | n + 1, h => by
    obtain ⟨xs, hl, hx⟩ := choose_list n (fun i hi => h i (by omega))
    obtain ⟨x, hp⟩ := h n (by omega)
    refine ⟨xs ++ [x], by simp [hl], fun i y hy => ?_⟩
    rcases Nat.lt_or_ge i xs.length with hi | hi
    · rw [List.getElem?_append_left hi] at hy
      exact hx i y hy
    · have hi' : i = n := by
        have := (List.getElem?_eq_some_iff.1 hy).1
        simp at this
        omega
      subst hi'
      have e : x = y := by rw [← hl] at hy; simpa using hy
      subst e
      exact hp

theorem cells?_cell {w : World} {a : Addr} {n : Nat} {cs : List Value} (h : w.cells? 0 a n = some cs) : cs.length = n ∧ ∀ i u, cs[i]? = some u → w.cell? (a.add i) = some u := by
  obtain ⟨_, hl, hc⟩ := World.cells?_some h
  refine ⟨hl, fun i u hu => ?_⟩
  have hi : i < n := by have := (List.getElem?_eq_some_iff.1 hu).1; omega
  have := hc i hi
  rw [hu] at this
  exact this

theorem add_add (a : Addr) (i j : Nat) : (a.add i).add j = a.add (i + j) := by
  unfold Addr.add
  by_cases hi : i = 0
  · subst hi; simp
  · by_cases hj : j = 0
    · subst hj; simp
    · simp [hi, hj, Nat.add_assoc]

theorem opens_slice {α : Type} {P : Program} {t e : TypeId} {e' : Nat} {d : Kd α} {good : α → Prop} (ht : P.underlying t = some (.slice e)) (hc : P.cellsOf e = d.sz) (h0 : Opens P e d good) :
    Opens P t (Kd.slice e' d) (fun xs => xs.length ≤ 9223372036854775807 ∧ ∀ x, x ∈ xs → good x) := by
  intro H enc w fuel cs y h
  rcases open_slice ht h with ⟨rfl, _⟩ | ⟨a, len, cap, m, n, D, Pl, rfl, _, hl, hm, hmm, _, hx⟩
  · exact ⟨[], ⟨none, 0, rfl, Nat.le_refl _, rfl, by simp, fun h => absurd h (Nat.lt_irrefl 0)⟩, by simp, fun x hx => by simp at hx⟩
  · have hlm : len ≤ m := by rw [hmm]; split <;> omega
    obtain ⟨xs, hxl, hxx⟩ := choose_list (p := fun i x => (∃ c, c.length = d.sz ∧ d.K w x c ∧ ∀ j u, c[j]? = some u → w.cell? (a.add (i * d.sz + j)) = some u) ∧ good x) len (fun i hi => by
      obtain ⟨cs', h1, h2⟩ := hx i (by omega)
      obtain ⟨x, hk, hg⟩ := h0 enc w n cs' _ h2
      obtain ⟨hcl, hcc⟩ := cells?_cell h1
      refine ⟨x, ⟨cs', by rw [hcl, hc], hk, fun j u hu => ?_⟩, hg⟩
      rw [← hc, ← add_add]
      exact hcc j u hu)
    refine ⟨xs, ⟨some a, cap, by rw [hxl], by omega, rfl, by rw [hxl]; simp only [maxLen] at hm; omega, fun _ => ⟨a, rfl, fun j p hj => (hxx j p hj).1⟩⟩, by rw [hxl]; simp only [maxLen] at hm; omega, fun x hx => ?_⟩
    obtain ⟨i, hi⟩ := List.mem_iff_getElem?.1 hx
    exact (hxx i x hi).2


/-! structs: the fields in line, from a place on -/
def OpensFs {α : Type} (P : Program) (o : Nat) (fs : List Field) (d : Kd α) (good : α → Prop) : Prop :=
  ∀ {H : Type} (enc : TypeId × Value → H) (w : World) (fuel : Nat) (cs : List Value), cs.length = o + d.sz →
    (∀ f, f ∈ fs → ∃ y, DataW.trod enc P w 0 (fun _ => true) true fuel f.type ((cs.drop f.offset).take (P.cellsOf f.type)) = some y) → ∃ x, d.K w x (cs.drop o) ∧ good x

theorem opens_fs_one {α : Type} {P : Program} {o : Nat} {f : Field} {d : Kd α} {good : α → Prop} (ho : f.offset = o) (hc : P.cellsOf f.type = d.sz) (h : Opens P f.type d good) : OpensFs P o [f] d good := by
  intro H enc w fuel cs hl hf
  obtain ⟨y, hy⟩ := hf f (by simp)
  rw [ho, hc, List.take_of_length_le (by rw [List.length_drop]; omega)] at hy
  exact h enc w fuel _ y hy
theorem opens_fs_cons {α β : Type} {P : Program} {o : Nat} {f : Field} {fs : List Field} {d : Kd α} {d' : Kd β} {good : α → Prop} {good' : β → Prop} (ho : f.offset = o) (hc : P.cellsOf f.type = d.sz) (h : Opens P f.type d good) (hr : OpensFs P (o + d.sz) fs d' good') :
    OpensFs P o (f :: fs) (Kd.pair d d') (fun x => good x.1 ∧ good' x.2) := by
  intro H enc w fuel cs hl hf
  have hl' : cs.length = (o + d.sz) + d'.sz := by rw [hl]; show o + (d.sz + d'.sz) = _; omega
  obtain ⟨y, hy⟩ := hf f (by simp)
  rw [ho, hc] at hy
  obtain ⟨x, hk, hg⟩ := h enc w fuel _ y hy
  obtain ⟨x', hk', hg'⟩ := hr enc w fuel cs hl' (fun g hg => hf g (by simp [hg]))
  refine ⟨(x, x'), ⟨(cs.drop o).take d.sz, cs.drop (o + d.sz), ?_, hk, hk'⟩, hg, hg'⟩
  rw [← List.drop_drop, List.take_append_drop]
theorem opens_struct {α : Type} {P : Program} {t : TypeId} {fs : Array Field} {d : Kd α} {good : α → Prop} (ht : P.underlying t = some (.struct fs)) (hc : P.cellsOf t = d.sz) (h : OpensFs P 0 fs.toList d good) : Opens P t d good := by
  intro H enc w fuel cs y hy
  obtain ⟨xs, n, _, _, hl, hlen, hx⟩ := DataW.trod_struct ht hy
  have := h enc w n cs (by rw [hl, hc]; omega) (fun f hf => by
    obtain ⟨i, hi⟩ := List.mem_iff_getElem?.1 hf
    have hi' : fs[i]? = some f := by simpa using hi
    have h2 := hx i f hi'
    have hlt : i < xs.length := by rw [hlen]; exact (Array.getElem?_eq_some_iff.1 hi').1
    rw [List.getElem?_eq_getElem hlt] at h2
    exact ⟨_, h2⟩)
  simpa using this
theorem opens_iso {α β : Type} {P : Program} {t : TypeId} {d : Kd α} {good : α → Prop} (f : β → α) (g : α → β) (hfg : ∀ x, f (g x) = x) (h : Opens P t d good) : Opens P t (Kd.iso d f) (fun x => good (f x)) := by
  intro H enc w fuel cs y hy
  obtain ⟨x, hk, hg⟩ := h enc w fuel cs y hy
  exact ⟨g x, by show d.K w (f (g x)) cs; rw [hfg]; exact hk, by show good (f (g x)); rw [hfg]; exact hg⟩
theorem opens_imp {α : Type} {P : Program} {t : TypeId} {d : Kd α} {good good' : α → Prop} (h : Opens P t d good) (hi : ∀ x, good x → good' x) : Opens P t d good' := by
  intro H enc w fuel cs y hy
  obtain ⟨x, hk, hg⟩ := h enc w fuel cs y hy
  exact ⟨x, hk, hi x hg⟩

/-! an argument: a struct by value; a slice -/
theorem open_struct {α : Type} {H : Type} {enc : TypeId × Value → H} {P : Program} {w : World} {r : Reach} {b : Nat} {t : TypeId} {fs : Array Field} {d : Kd α} {good : α → Prop} {v : Value} {dd : DataW H} {ps : List MemPlace} (ht : P.underlying t = some (.struct fs)) (ho : Opens P t d good)
    (hok : Value.okWide P w r b t v) (h : DataW.Trod enc P w 0 (fun _ => true) true t v dd ps) : ∃ (cs : List Value) (x : α), v = .agg cs.toArray ∧ d.K w x cs ∧ good x := by
  obtain ⟨fuel, hf⟩ := h
  unfold Value.okWide at hok
  rw [ht] at hok
  obtain ⟨cs, rfl, _, _⟩ := hok
  obtain ⟨x, hk, hg⟩ := ho enc w fuel _ _ hf
  exact ⟨cs.toList, x, by simp, hk, hg⟩
theorem open_row {α : Type} {H : Type} {enc : TypeId × Value → H} {P : Program} {w : World} {r : Reach} {b : Nat} {t e : TypeId} {e' : Nat} {d : Kd α} {good : List α → Prop} {v : Value} {dd : DataW H} {ps : List MemPlace} (ht : P.underlying t = some (.slice e)) (ho : Opens P t (Kd.slice e' d) good)
    (hok : Value.okWide P w r b t v) (h : DataW.Trod enc P w 0 (fun _ => true) true t v dd ps) : ∃ (A : Option Addr) (n c : Nat) (xs : List α), v = .slice A n c ∧ n = xs.length ∧ n ≤ c ∧ d.C w A n xs ∧ good xs := by
  obtain ⟨A, len, cap, rfl⟩ := Go.WideShapes.okWide_slice ht hok
  obtain ⟨fuel, hf⟩ := h
  obtain ⟨xs, ⟨A', c', he, hl, hC⟩, hg⟩ := ho enc w fuel [.slice A len cap] _ (by simpa [Value.cells] using hf)
  simp only [List.cons.injEq, Value.slice.injEq, and_true] at he
  obtain ⟨rfl, rfl, rfl⟩ := he
  exact ⟨_, _, _, xs, rfl, rfl, hl, hC, hg⟩

end Go.Proofs.YtohjpgcmhihdhaaDoor.Opens
