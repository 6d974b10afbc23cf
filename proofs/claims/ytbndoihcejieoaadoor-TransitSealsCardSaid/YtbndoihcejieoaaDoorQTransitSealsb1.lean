/-
  Plain mathematics: what these functions answer; at the end the law's pure statement. No program's memory in sight.
-/
import Derived.OpenShut
import Derived.Deep.Slices
import Derived.WideShapes
import Derived.SizedLaws
import Derived.WalkKit
import Derived.ProofKit
import Derived.ChangeOld
import Derived.Test.YtbndoihcejieoaaDoorQCorew1
import Derived.Test.YtbndoihcejieoaaDoorQCorev1
import Derived.Test.YtbndoihcejieoaaDoorQCorea1
import Derived.Test.YtbndoihcejieoaaDoorQCorea2
import Derived.Test.YtbndoihcejieoaaDoorQCorea3
import Derived.Test.YtbndoihcejieoaaDoorQTransitSealsa1
import Derived.Test.YtbndoihcejieoaaDoorQTransitSealsa2
namespace Go.Proofs.YtbndoihcejieoaaDoor.Pure
open Go.RowKit Go.Proofs.YtbndoihcejieoaaDoor.G Go.Proofs.YtbndoihcejieoaaDoorW.PrintWords Go.Proofs.YtbndoihcejieoaaDoorW.PrintLast Go.Proofs.YtbndoihcejieoaaDoorW.PrintMore
set_option linter.unusedSimpArgs false
set_option linter.unusedVariables false

theorem wp64 {n : Int} (h : -9223372036854775808 ≤ n) (h' : n ≤ 9223372036854775807) : wrap64 n = n := by unfold wrap64; omega
abbrev Asc (l : List Int) : Prop := l.Pairwise (fun a b => a < b)
/-- Two lists that rise, of the same members. -/
theorem asc_eq : ∀ {l1 l2 : List Int}, Asc l1 → Asc l2 → (∀ x, x ∈ l1 ↔ x ∈ l2) → l1 = l2
  | [], [], _, _, _ => rfl
  | [], b :: t, _, _, h => absurd ((h b).2 (by simp)) (by simp)
  | a :: s, [], _, _, h => absurd ((h a).1 (by simp)) (by simp)
  | a :: s, b :: t, h1, h2, h => by
    rw [Asc, List.pairwise_cons] at h1 h2
    have e : a = b := by
      rcases List.mem_cons.1 ((h a).1 (by simp)) with e | e
      · exact e
      · rcases List.mem_cons.1 ((h b).2 (by simp)) with e2 | e2
        · exact e2.symm
        · have := h1.1 b e2
          have := h2.1 a e
          omega
    subst e
    have ih := asc_eq h1.2 h2.2 (fun x => by
      constructor
      · intro hx
        rcases List.mem_cons.1 ((h x).1 (List.mem_cons_of_mem _ hx)) with e | e
        · have := h1.1 x hx; omega
        · exact e
      · intro hx
        rcases List.mem_cons.1 ((h x).2 (List.mem_cons_of_mem _ hx)) with e | e
        · have := h2.1 x hx; omega
        · exact e)
    rw [ih]
theorem get_eq (l : List Int) (j : Nat) (h : j < l.length) : l.toArray[j]! = l[j] := by
  rw [getElem!_pos l.toArray j (by simpa using h)]
  simp
theorem compact_mem (l : List Int) (x : Int) : x ∈ Lib.compact l ↔ x ∈ l := by
  unfold Lib.compact Lib.compactUpTo
  rw [List.mem_map]
  constructor
  · rintro ⟨j, hj, rfl⟩
    have hj2 := List.mem_range.1 (List.mem_filter.1 hj).1
    rw [get_eq l j hj2]
    exact List.getElem_mem hj2
  · intro h
    obtain ⟨j, hj, e⟩ := List.getElem_of_mem h
    subst e
    induction j with
    | zero => exact ⟨0, List.mem_filter.2 ⟨List.mem_range.2 hj, by simp [Lib.keeps]⟩, get_eq l 0 hj⟩
    | succ j ih =>
      by_cases c : l[j + 1] = l[j]'(by omega)
      · rw [c]; exact ih (by omega) (List.getElem_mem _)
      · refine ⟨j + 1, List.mem_filter.2 ⟨List.mem_range.2 hj, ?_⟩, get_eq l (j + 1) hj⟩
        unfold Lib.keeps
        rw [decide_eq_true_eq]
        right
        rw [get_eq l (j + 1) hj, show j + 1 - 1 = j from rfl, get_eq l j (by omega)]
        exact c
theorem compact_asc (l : List Int) (h : l.Pairwise (fun a b => a ≤ b)) : Asc (Lib.compact l) := by
  unfold Lib.compact Lib.compactUpTo
  rw [Asc, List.pairwise_map]
  refine List.Pairwise.imp_of_mem (fun {i j} hi hj hij => ?_) (List.Pairwise.filter _ (List.pairwise_lt_range (n := l.length)))
  have hi2 := List.mem_range.1 (List.mem_filter.1 hi).1
  have hj2 := List.mem_range.1 (List.mem_filter.1 hj).1
  have hk := (List.mem_filter.1 hj).2
  unfold Lib.keeps at hk
  rw [decide_eq_true_eq] at hk
  have hk2 : l.toArray[j]! ≠ l.toArray[j - 1]! := by
    rcases hk with hk | hk
    · omega
    · exact hk
  rw [get_eq l j hj2, get_eq l (j - 1) (by omega)] at hk2
  rw [get_eq l i hi2, get_eq l j hj2]
  have h2 : l[j - 1]'(by omega) ≤ l[j] := List.pairwise_iff_getElem.1 h (j - 1) j (by omega) hj2 (by omega)
  have h3 : l[i] ≤ l[j - 1]'(by omega) := by
    by_cases c : i = j - 1
    · subst c; exact Int.le_refl _
    · exact List.pairwise_iff_getElem.1 h i (j - 1) hi2 (by omega) (by omega)
  omega
theorem setL_asc (l : List Int) : Asc (setL l) := by
  unfold setL
  refine compact_asc _ ?_
  have := List.pairwise_mergeSort (le := fun x y : Int => decide (x ≤ y)) (fun a b c h1 h2 => by simp at *; omega) (fun a b => by simp; omega) l
  exact this.imp (fun h => by simpa using h)
theorem setL_mem (l : List Int) (x : Int) : x ∈ setL l ↔ x ∈ l := by
  unfold setL
  rw [compact_mem, List.mem_mergeSort]
/-- The one list that rises, of those members. -/
theorem setL_is {l r : List Int} (hr : Asc r) (h : ∀ x, x ∈ r ↔ x ∈ l) : r = setL l := asc_eq hr (setL_asc l) (fun x => (h x).trans (setL_mem l x).symm)
theorem setL_same {l r : List Int} (h : ∀ x, x ∈ l ↔ x ∈ r) : setL l = setL r := setL_is (setL_asc l) (fun x => (setL_mem l x).trans (h x))

/-! ### The reference's Rise, Has, less -/
theorem rd_get (l : List Int) {i : Int} (h0 : 0 ≤ i) (h1 : i < l.length) : rd l i = l[i.toNat]'(by omega) := by
  unfold rd
  rw [List.getD_eq_getElem?_getD, List.getElem?_eq_getElem (by omega)]
  rfl
theorem put_asc (l : List Int) (h : Asc l) (x : Int) (i : Nat) (hi : i ≤ l.length) (hb : ∀ j (hj : j < l.length), j < i → l[j] < x) (ha : ∀ j (hj : j < l.length), i ≤ j → x < l[j]) : Asc (l.take i ++ ([x] ++ l.drop i)) := by
  rw [Asc, List.pairwise_append]
  refine ⟨h.sublist (List.take_sublist _ _), ?_, ?_⟩
  · rw [List.singleton_append, List.pairwise_cons]
    refine ⟨fun y hy => ?_, h.sublist (List.drop_sublist _ _)⟩
    obtain ⟨j, hj, e⟩ := List.getElem_of_mem hy
    rw [List.getElem_drop] at e
    rw [← e]
    rw [List.length_drop] at hj
    exact ha (i + j) (by omega) (by omega)
  · intro a h1 b h2
    obtain ⟨j, hj, e⟩ := List.getElem_of_mem h1
    rw [List.getElem_take] at e
    rw [List.length_take] at hj
    rcases List.mem_append.1 h2 with h2 | h2
    · rw [List.mem_singleton.1 h2, ← e]
      exact hb j (by omega) (by omega)
    · have hx := hb j (by omega) (by omega)
      obtain ⟨m, hm, e2⟩ := List.getElem_of_mem h2
      rw [List.getElem_drop] at e2
      rw [List.length_drop] at hm
      have := ha (i + m) (by omega) (by omega)
      omega
theorem put_mem (l : List Int) (x y : Int) (i : Nat) : y ∈ l.take i ++ ([x] ++ l.drop i) ↔ y = x ∨ y ∈ l := by
  conv => rhs; rhs; rw [← List.take_append_drop i l]
  simp only [List.mem_append, List.mem_singleton]
  constructor
  · rintro (h | h | h)
    · exact .inr (.inl h)
    · exact .inl h
    · exact .inr (.inr h)
  · rintro (h | h | h)
    · exact .inr (.inl h)
    · exact .inl h
    · exact .inr (.inr h)
theorem rise_l0 (l : List Int) (h : Asc l) (hl : l.length < 5000000000000) (x : Int) (d : Nat) : ∀ i : Int, (l.length : Int) - i = d → 0 ≤ i → (∀ j (hj : j < l.length), (j : Int) < i → l[j] < x) →
    ∃ r, Ev (fun k => customsref27_Rise.l0 k l x i) r ∧ Asc r ∧ (∀ y, y ∈ r ↔ y = x ∨ y ∈ l) ∧ r.length ≤ l.length + 1 := by
  have hput : ∀ i : Int, 0 ≤ i → i ≤ l.length → (∀ j (hj : j < l.length), (j : Int) < i → l[j] < x) → (∀ j (hj : j < l.length), i ≤ j → x < l[j]) → ∃ r, some r = some ((([] : List Int) ++ l.take i.toNat ++ [x]) ++ l.drop i.toNat) ∧ Asc r ∧ (∀ y, y ∈ r ↔ y = x ∨ y ∈ l) ∧ r.length ≤ l.length + 1 := by
    intro i h0 h1 hb ha
    refine ⟨_, rfl, ?_, ?_, ?_⟩
    · rw [List.nil_append, List.append_assoc]
      exact put_asc l h x i.toNat (by omega) (fun j hj hji => hb j hj (by omega)) (fun j hj hji => ha j hj (by omega))
    · rw [List.nil_append, List.append_assoc]
      exact fun y => put_mem l x y i.toNat
    · simp
      omega
  induction d with
  | zero =>
    intro i hd h0 hb
    obtain ⟨r, e, h1, h2, h3⟩ := hput i h0 (by omega) hb (fun j hj hji => by omega)
    refine ⟨r, Ev.step (f := fun _ => some r) (fun k => ?_) (Ev.now _), h1, h2, h3⟩
    simp only [customsref27_Rise.l0]
    rw [if_neg (by omega), e]
    have t1 : (List.take i.toNat l).length ≤ l.length := by rw [List.length_take]; omega
    have t2 : (List.drop i.toNat l).length ≤ l.length := by rw [List.length_drop]; omega
    try simp only [Option.bind_some]
    rw [if_pos h0, if_pos (by omega), if_pos (by simp; omega), if_pos (by simp; omega)]
    try simp only [Option.bind_some]
    first | rfl | (rw [if_pos (by simp; omega)]) | (rw [if_pos h0, if_pos (by omega), if_pos (by simp; omega)])
  | succ d ih =>
    intro i hd h0 hb
    have hlt : i < (l.length : Int) := by omega
    have hg := rd_get l h0 hlt
    by_cases c : rd l i < x
    · obtain ⟨r, e, h1, h2, h3⟩ := ih (i + 1) (by omega) (by omega) (fun j hj hji => by
        by_cases cj : (j : Int) < i
        · exact hb j hj cj
        · have ej : j = i.toNat := by omega
          subst ej
          rw [hg] at c
          exact c)
      refine ⟨r, Ev.step (f := fun k => customsref27_Rise.l0 k l x (i + 1)) (fun k => ?_) e, h1, h2, h3⟩
      simp only [customsref27_Rise.l0]
      rw [if_pos hlt, if_pos h0, if_pos c, wp64 (by omega) (by omega)]
    · by_cases c2 : rd l i = x
      · refine ⟨l, Ev.step (f := fun _ => some l) (fun k => ?_) (Ev.now _), h, fun y => ⟨.inr, fun hy => ?_⟩, by omega⟩
        · simp only [customsref27_Rise.l0]
          rw [if_pos hlt, if_pos h0, if_neg c, if_pos c2]
        · rcases hy with hy | hy
          · rw [hy, ← c2, hg]; exact List.getElem_mem _
          · exact hy
      · obtain ⟨r, e, h1, h2, h3⟩ := hput i h0 (by omega) hb (fun j hj hji => by
          have h4 : l[i.toNat]'(by omega) ≤ l[j] := by
            by_cases cj : i.toNat = j
            · subst cj; exact Int.le_refl _
            · exact Int.le_of_lt (List.pairwise_iff_getElem.1 h i.toNat j (by omega) hj (by omega))
          rw [hg] at c c2
          omega)
        refine ⟨r, Ev.step (f := fun _ => some r) (fun k => ?_) (Ev.now _), h1, h2, h3⟩
        simp only [customsref27_Rise.l0]
        rw [if_pos hlt, if_pos h0, if_neg c, if_neg c2, e]
        have t1 : (List.take i.toNat l).length ≤ l.length := by rw [List.length_take]; omega
        have t2 : (List.drop i.toNat l).length ≤ l.length := by rw [List.length_drop]; omega
        try simp only [Option.bind_some]
        rw [if_pos (by omega), if_pos (by simp; omega), if_pos (by simp; omega)]
        try simp only [Option.bind_some]
        first | rfl | (rw [if_pos (by simp; omega)])
theorem rise_ev (l : List Int) (h : Asc l) (hl : l.length < 5000000000000) (x : Int) : ∃ r, Ev (fun k => customsref27_Rise.f k l x) r ∧ Asc r ∧ (∀ y, y ∈ r ↔ y = x ∨ y ∈ l) ∧ r.length ≤ l.length + 1 := by
  obtain ⟨r, e, h1⟩ := rise_l0 l h hl x l.length 0 (by omega) (by omega) (fun j hj hji => by omega)
  exact ⟨r, Ev.congr (fun k => rfl) e, h1⟩
theorem has_l0 (l : List Int) (hl : l.length < 5000000000000) (x : Int) (d : Nat) : ∀ i : Int, (l.length : Int) - i = d → 0 ≤ i → (∀ j (hj : j < l.length), (j : Int) < i → l[j] ≠ x) → Ev (fun k => customsref24_Has.l0 k l x i) (l.contains x) := by
  induction d with
  | zero =>
    intro i hd h0 hb
    have e : l.contains x = false := by
      rw [List.contains_eq_mem, decide_eq_false_iff_not]
      intro hm
      obtain ⟨j, hj, e⟩ := List.getElem_of_mem hm
      exact hb j hj (by omega) e
    rw [e]
    refine Ev.step (f := fun _ => some false) (fun k => ?_) (Ev.now _)
    simp only [customsref24_Has.l0]
    rw [if_neg (by omega)]
  | succ d ih =>
    intro i hd h0 hb
    have hlt : i < (l.length : Int) := by omega
    have hg := rd_get l h0 hlt
    by_cases c : rd l i = x
    · have e : l.contains x = true := by
        rw [List.contains_eq_mem, decide_eq_true_eq, ← c, hg]
        exact List.getElem_mem _
      rw [e]
      refine Ev.step (f := fun _ => some true) (fun k => ?_) (Ev.now _)
      simp only [customsref24_Has.l0]
      rw [if_pos hlt, if_pos h0, if_pos c]
    · refine Ev.step (f := fun k => customsref24_Has.l0 k l x (i + 1)) (fun k => ?_) (ih (i + 1) (by omega) (by omega) (fun j hj hji => ?_))
      · simp only [customsref24_Has.l0]
        rw [if_pos hlt, if_pos h0, if_neg c, wp64 (by omega) (by omega)]
      · by_cases cj : (j : Int) < i
        · exact hb j hj cj
        · have ej : j = i.toNat := by omega
          subst ej
          rw [hg] at c
          exact c
theorem has_ev (l : List Int) (hl : l.length < 5000000000000) (x : Int) : Ev (fun k => customsref24_Has.f k l x) (l.contains x) := by
  exact Ev.congr (fun k => rfl) (has_l0 l hl x l.length 0 (by omega) (by omega) (fun j hj hji => by omega))
/-- One more of a list's members. -/
theorem take_more (l : List Int) {i : Int} (h0 : 0 ≤ i) (h1 : i < l.length) (x : Int) : x ∈ l.take (i + 1).toNat ↔ x = rd l i ∨ x ∈ l.take i.toNat := by
  have e : (i + 1).toNat = i.toNat + 1 := by omega
  rw [e, List.take_succ_eq_append_getElem (by omega : i.toNat < l.length), ← rd_get l h0 h1]
  simp only [List.mem_append, List.mem_singleton]
  exact Or.comm
theorem less_l0 (xs ys : List Int) (hx : xs.length < 1000000000000) (hy : ys.length < 1000000000000) (d : Nat) : ∀ (out : List Int) (i : Int), (xs.length : Int) - i = d → 0 ≤ i → Asc out → (out.length : Int) ≤ i → (∀ z, z ∈ out ↔ z ∈ xs.take i.toNat ∧ ¬ z ∈ ys) →
    ∃ r, Ev (fun k => customsref33_less.l0 k xs ys out i) r ∧ Asc r ∧ (∀ z, z ∈ r ↔ z ∈ xs ∧ ¬ z ∈ ys) := by
  induction d with
  | zero =>
    intro out i hd h0 ho hn hm
    refine ⟨out, Ev.step (f := fun _ => some out) (fun k => ?_) (Ev.now _), ho, fun z => ?_⟩
    · simp only [customsref33_less.l0]
      rw [if_neg (by omega)]
    · rw [hm z, List.take_of_length_le (by omega)]
  | succ d ih =>
    intro out i hd h0 ho hn hm
    have hlt : i < (xs.length : Int) := by omega
    by_cases c : ys.contains (rd xs i) = true
    · have cm : rd xs i ∈ ys := by simpa using c
      obtain ⟨r, e, h1⟩ := ih out (i + 1) (by omega) (by omega) ho (by omega) (fun z => by
        rw [hm z, take_more xs h0 hlt]
        constructor
        · rintro ⟨h1, h2⟩; exact ⟨.inr h1, h2⟩
        · rintro ⟨h1 | h1, h2⟩
          · rw [h1] at h2; exact absurd cm h2
          · exact ⟨h1, h2⟩)
      refine ⟨r, Ev.step (f := fun k => (customsref24_Has.f k ys (rd xs i)).bind fun t843 => (if t843 = true then (customsref33_less.l0 k xs ys out (wrap64 (i + 1))) else ((customsref27_Rise.f k out (rd xs i)).bind fun t845 => (customsref33_less.l0 k xs ys t845 (wrap64 (i + 1)))))) (fun k => ?_) (Ev.bind (has_ev ys (by omega) (rd xs i)) ?_), h1⟩
      · simp only [customsref33_less.l0]
        rw [if_pos hlt, if_pos h0]
      · rw [c]
        rw [wp64 (by omega) (by omega)]
        exact Ev.congr (fun k => if_pos rfl) e
    · have cm : ¬ rd xs i ∈ ys := by simpa using c
      obtain ⟨q, eq, q1, q2, q3⟩ := rise_ev out ho (by omega) (rd xs i)
      obtain ⟨r, e, h1⟩ := ih q (i + 1) (by omega) (by omega) q1 (by omega) (fun z => by
        rw [q2 z, hm z, take_more xs h0 hlt]
        constructor
        · rintro (h1 | ⟨h1, h2⟩)
          · rw [h1]; exact ⟨.inl rfl, cm⟩
          · exact ⟨.inr h1, h2⟩
        · rintro ⟨h1 | h1, h2⟩
          · exact .inl h1
          · exact .inr ⟨h1, h2⟩)
      refine ⟨r, Ev.step (f := fun k => (customsref24_Has.f k ys (rd xs i)).bind fun t843 => (if t843 = true then (customsref33_less.l0 k xs ys out (wrap64 (i + 1))) else ((customsref27_Rise.f k out (rd xs i)).bind fun t845 => (customsref33_less.l0 k xs ys t845 (wrap64 (i + 1)))))) (fun k => ?_) (Ev.bind (has_ev ys (by omega) (rd xs i)) ?_), h1⟩
      · simp only [customsref33_less.l0]
        rw [if_pos hlt, if_pos h0]
      · rw [Bool.not_eq_true] at c
        rw [c]
        rw [wp64 (by omega) (by omega)]
        refine Ev.congr (f := fun k => (customsref27_Rise.f k out (rd xs i)).bind fun t845 => (customsref33_less.l0 k xs ys t845 (i + 1))) (fun k => if_neg (by decide)) (Ev.bind eq e)
theorem less_ev (xs ys : List Int) (hx : xs.length < 1000000000000) (hy : ys.length < 1000000000000) : Ev (fun k => customsref33_less.f k xs ys) (lessL xs ys) := by
  obtain ⟨r, e, h1, h2⟩ := less_l0 xs ys hx hy xs.length [] 0 (by omega) (by omega) List.Pairwise.nil (by simp) (fun z => by simp)
  have : r = lessL xs ys := by
    unfold lessL
    refine asc_eq h1 (List.Pairwise.filter _ (setL_asc xs)) (fun z => ?_)
    rw [h2 z, List.mem_filter, setL_mem]
    simp
  rw [← this]
  exact Ev.congr (fun k => rfl) e
theorem compare_ev (xs ys : List Int) (hx : xs.length < 1000000000000) (hy : ys.length < 1000000000000) : Ev (fun k => customsref33_Compare.f k xs ys) (lessL xs ys, lessL ys xs) := by
  refine Ev.congr (fun k => rfl) (Ev.bind (less_ev xs ys hx hy) ?_)
  exact Ev.bind (less_ev ys xs hy hx) (Ev.now _)
/-- A list is the same as itself. -/
theorem same_l0 (l : List Int) (hl : l.length < 5000000000000) (d : Nat) : ∀ i : Int, (l.length : Int) - i = d → 0 ≤ i → Ev (fun k => customsref33_SameInts.l0 k l l i) true := by
  induction d with
  | zero =>
    intro i hd h0
    refine Ev.step (f := fun _ => some true) (fun k => ?_) (Ev.now _)
    simp only [customsref33_SameInts.l0]
    rw [if_neg (by omega)]
  | succ d ih =>
    intro i hd h0
    refine Ev.step (f := fun k => customsref33_SameInts.l0 k l l (i + 1)) (fun k => ?_) (ih (i + 1) (by omega) (by omega))
    simp only [customsref33_SameInts.l0]
    rw [if_pos (by omega), if_pos h0, if_pos (by omega), if_pos trivial, wp64 (by omega) (by omega)]
theorem same_ev (l : List Int) (hl : l.length < 5000000000000) : Ev (fun k => customsref33_SameInts.f k l l) true :=
  Ev.congr (fun k => by unfold customsref33_SameInts.f; exact if_pos rfl) (same_l0 l hl l.length 0 (by omega) (by omega))
theorem setL_len (l : List Int) : (setL l).length ≤ l.length := G.setL_len l
theorem sealsL_len (l : List Int) (a : Int) (xs : List S53) : (sealsL l a xs).length ≤ l.length + xs.length := by
  unfold sealsL
  have h1 := List.length_filter_le (fun n => !(decide (n < 1) || (remL a xs).contains n)) (setL (l ++ affL a xs))
  have h2 := G.setL_len (l ++ affL a xs)
  have h3 := affL_len a xs
  rw [List.length_append] at h2
  omega
theorem lessL_self (l : List Int) : lessL l l = [] := by
  unfold lessL
  rw [List.filter_eq_nil_iff]
  intro z hz
  have := (setL_mem l z).1 hz
  simp [this]
/-- The seals depend only on which incidents are known. -/
theorem sealsL_same (l : List Int) (a : Int) {xs ys : List S53} (h : ∀ x, x ∈ xs ↔ x ∈ ys) : sealsL l a xs = sealsL l a ys := by
  have h1 : ∀ z, z ∈ l ++ affL a xs ↔ z ∈ l ++ affL a ys := fun z => by
    unfold affL
    simp only [List.mem_append, List.mem_map, List.mem_filter, h]
  have h2 : ∀ z, (remL a xs).contains z = (remL a ys).contains z := fun z => by
    have : z ∈ remL a xs ↔ z ∈ remL a ys := by
      unfold remL
      simp only [List.mem_map, List.mem_filter, h]
    rw [List.contains_eq_mem, List.contains_eq_mem]
    exact decide_eq_decide.2 this
  unfold sealsL
  rw [setL_same h1]
  congr 1
  funext z
  rw [h2 z]
theorem rem_take (lot : Int) (xs : List S53) {j : Int} (h0 : 0 ≤ j) (h1 : j < xs.length) (z : Int) : (remL lot (xs.take (j + 1).toNat)).contains z = ((remL lot (xs.take j.toNat)).contains z || ((rd_T53 xs j).f2 == lot && z == (rd_T53 xs j).f3)) := by
  have e : (j + 1).toNat = j.toNat + 1 := by omega
  have e2 : ((j.toNat : Nat) : Int) = j := by omega
  have := remL_take lot xs j.toNat (by omega)
  rw [e, this, e2]
  by_cases c : (rd_T53 xs j).f2 == lot
  · simp [c]
    rw [Bool.eq_iff_iff]
    simp
  · simp [c]
theorem seals_l3 (lot : Int) (xs : List S53) (hx : xs.length < 1000000000000) (all out : List Int) (ho : out.length < 5000000000000) (i : Int) (h0 : 0 ≤ i) (h1 : i < all.length) (ha : all.length < 5000000000000) (r : List Int)
    (hn : Ev (fun k => customsref33_Seals.l2 k lot xs all (if decide (rd all i < 1) || (remL lot xs).contains (rd all i) then out else out ++ [rd all i]) (i + 1)) r) (d : Nat) :
    ∀ (b : Bool) (j : Int), (xs.length : Int) - j = d → 0 ≤ j → b = (decide (rd all i < 1) || (remL lot (xs.take j.toNat)).contains (rd all i)) → Ev (fun k => customsref33_Seals.l3 k lot xs all out i b j) r := by
  induction d with
  | zero =>
    intro b j hd hj hb
    rw [List.take_of_length_le (by omega)] at hb
    rw [← hb] at hn
    cases b with
    | true =>
      refine Ev.step (fun k => ?_) hn
      simp only [customsref33_Seals.l3]
      rw [if_neg (by omega), wp64 (by omega) (by omega)]
      simp
    | false =>
      refine Ev.step (fun k => ?_) hn
      simp only [customsref33_Seals.l3]
      rw [if_neg (by omega), wp64 (by omega) (by omega), if_neg (by decide), if_pos h0, if_pos h1, if_pos (by omega)]
      simp
  | succ d ih =>
    intro b j hd hj hb
    have hlt : j < (xs.length : Int) := by omega
    have ht := rem_take lot xs hj hlt (rd all i)
    cases b with
    | true =>
      refine Ev.step (f := fun k => customsref33_Seals.l3 k lot xs all out i true (j + 1)) (fun k => ?_) (ih true (j + 1) (by omega) (by omega) ?_)
      · simp only [customsref33_Seals.l3]
        rw [if_pos hlt, wp64 (by omega) (by omega)]
        simp
      · rw [ht, ← Bool.or_assoc, ← hb]
        rfl
    | false =>
      by_cases c : (rd_T53 xs j).f2 = lot
      · refine Ev.step (f := fun k => customsref33_Seals.l3 k lot xs all out i ((rd_T53 xs j).f3 == rd all i) (j + 1)) (fun k => ?_) (ih _ (j + 1) (by omega) (by omega) ?_)
        · simp only [customsref33_Seals.l3]
          rw [if_pos hlt, wp64 (by omega) (by omega), if_neg (by decide), if_pos hj, if_pos c, if_pos h0, if_pos h1]
        · rw [ht, ← Bool.or_assoc, ← hb, beq_iff_eq.mpr c, Bool.false_or, Bool.true_and]
          exact BEq.comm
      · refine Ev.step (f := fun k => customsref33_Seals.l3 k lot xs all out i false (j + 1)) (fun k => ?_) (ih _ (j + 1) (by omega) (by omega) ?_)
        · simp only [customsref33_Seals.l3]
          rw [if_pos hlt, wp64 (by omega) (by omega), if_neg (by decide), if_pos hj, if_neg c]
        · rw [ht, ← Bool.or_assoc, ← hb, beq_eq_false_iff_ne.mpr c]
          rfl
theorem seals_l2 (lot : Int) (xs : List S53) (hx : xs.length < 1000000000000) (all : List Int) (ha : all.length < 5000000000000) (d : Nat) : ∀ (out : List Int) (i : Int), (all.length : Int) - i = d → 0 ≤ i → out.length ≤ i.toNat →
    Ev (fun k => customsref33_Seals.l2 k lot xs all out i) (out ++ (all.drop i.toNat).filter fun n => !(decide (n < 1) || (remL lot xs).contains n)) := by
  induction d with
  | zero =>
    intro out i hd h0 ho
    rw [List.drop_eq_nil_of_le (by omega), List.filter_nil, List.append_nil]
    refine Ev.step (f := fun _ => some out) (fun k => ?_) (Ev.now _)
    simp only [customsref33_Seals.l2]
    rw [if_neg (by omega)]
  | succ d ih =>
    intro out i hd h0 ho
    have hlt : i < (all.length : Int) := by omega
    have e : (i + 1).toNat = i.toNat + 1 := by omega
    refine Ev.step (f := fun k => customsref33_Seals.l3 k lot xs all out i (decide (rd all i < 1)) 0) (fun k => ?_) (seals_l3 lot xs hx all out (by omega) i h0 hlt ha _ ?_ xs.length _ 0 (by omega) (by omega) (by simp [remL]))
    · simp only [customsref33_Seals.l2]
      rw [if_pos hlt, if_pos h0]
    · rw [List.drop_eq_getElem_cons (by omega : i.toNat < all.length), ← rd_get all h0 hlt, List.filter_cons]
      by_cases c : (decide (rd all i < 1) || (remL lot xs).contains (rd all i)) = true
      · rw [if_pos c, c]
        have := ih out (i + 1) (by omega) (by omega) (by omega)
        rw [e] at this
        simpa using this
      · rw [if_neg c]
        rw [Bool.not_eq_true] at c
        rw [c]
        have := ih (out ++ [rd all i]) (i + 1) (by omega) (by omega) (by simp; omega)
        rw [e] at this
        simpa using this
theorem aff_take (lot : Int) (xs : List S53) {j : Int} (h0 : 0 ≤ j) (h1 : j < xs.length) (z : Int) : z ∈ affL lot (xs.take (j + 1).toNat) ↔ z ∈ affL lot (xs.take j.toNat) ∨ ((rd_T53 xs j).f2 = lot ∧ z = (rd_T53 xs j).f4) := by
  have e : (j + 1).toNat = j.toNat + 1 := by omega
  have e2 : ((j.toNat : Nat) : Int) = j := by omega
  have := affL_take lot xs j.toNat (by omega)
  rw [e, this, e2]
  by_cases c : (rd_T53 xs j).f2 = lot
  · simp [c]
  · simp [c]
theorem seals_l1 (lot : Int) (xs : List S53) (hx : xs.length < 1000000000000) (l : List Int) (hl : l.length < 1000000000000) (d : Nat) : ∀ (all : List Int) (j : Int), (xs.length : Int) - j = d → 0 ≤ j → Asc all → (all.length : Int) ≤ l.length + j → (∀ z, z ∈ all ↔ z ∈ l ∨ z ∈ affL lot (xs.take j.toNat)) →
    Ev (fun k => customsref33_Seals.l1 k lot xs all j) (sealsL l lot xs) := by
  induction d with
  | zero =>
    intro all j hd hj ha hn hm
    have e : all = setL (l ++ affL lot xs) := setL_is ha (fun z => by rw [hm z, List.take_of_length_le (by omega), List.mem_append])
    have h2 := seals_l2 lot xs hx all (by omega) all.length [] 0 (by omega) (by omega) (by simp)
    refine Ev.step (f := fun k => customsref33_Seals.l2 k lot xs all [] 0) (fun k => ?_) ?_
    · simp only [customsref33_Seals.l1]
      rw [if_neg (by omega)]
    · have e2 : sealsL l lot xs = [] ++ (all.drop (0 : Int).toNat).filter fun n => !(decide (n < 1) || (remL lot xs).contains n) := by
        unfold sealsL
        rw [← e]
        rfl
      rw [e2]
      exact h2
  | succ d ih =>
    intro all j hd hj ha hn hm
    have hlt : j < (xs.length : Int) := by omega
    by_cases c : (rd_T53 xs j).f2 = lot
    · obtain ⟨q, eq, q1, q2, q3⟩ := rise_ev all ha (by omega) (rd_T53 xs j).f4
      refine Ev.step (f := fun k => (customsref27_Rise.f k all ((rd_T53 xs j).f4)).bind fun t860 => (customsref33_Seals.l1 k lot xs t860 (wrap64 (j + 1)))) (fun k => ?_) (Ev.bind eq ?_)
      · simp only [customsref33_Seals.l1]
        rw [if_pos hlt, if_pos hj, if_pos c]
      · rw [wp64 (by omega) (by omega)]
        refine ih q (j + 1) (by omega) (by omega) q1 (by omega) (fun z => ?_)
        rw [q2 z, hm z, aff_take lot xs hj hlt]
        constructor
        · rintro (h | h | h)
          · exact .inr (.inr ⟨c, h⟩)
          · exact .inl h
          · exact .inr (.inl h)
        · rintro (h | h | h)
          · exact .inr (.inl h)
          · exact .inr (.inr h)
          · exact .inl h.2
    · refine Ev.step (f := fun k => customsref33_Seals.l1 k lot xs all (j + 1)) (fun k => ?_) (ih all (j + 1) (by omega) (by omega) ha (by omega) (fun z => ?_))
      · simp only [customsref33_Seals.l1]
        rw [if_pos hlt, if_pos hj, if_neg c, wp64 (by omega) (by omega)]
      · rw [hm z, aff_take lot xs hj hlt]
        constructor
        · rintro (h | h)
          · exact .inl h
          · exact .inr (.inl h)
        · rintro (h | h | h)
          · exact .inl h
          · exact .inr h
          · exact absurd h.1 c
theorem seals_l0 (lot : Int) (xs : List S53) (hx : xs.length < 1000000000000) (l : List Int) (hl : l.length < 1000000000000) (d : Nat) : ∀ (all : List Int) (i : Int), (l.length : Int) - i = d → 0 ≤ i → Asc all → (all.length : Int) ≤ i → (∀ z, z ∈ all ↔ z ∈ l.take i.toNat) →
    Ev (fun k => customsref33_Seals.l0 k l lot xs all i) (sealsL l lot xs) := by
  induction d with
  | zero =>
    intro all i hd h0 ha hn hm
    refine Ev.step (f := fun k => customsref33_Seals.l1 k lot xs all 0) (fun k => ?_) (seals_l1 lot xs hx l hl xs.length all 0 (by omega) (by omega) ha (by omega) (fun z => ?_))
    · simp only [customsref33_Seals.l0]
      rw [if_neg (by omega)]
    · rw [hm z, List.take_of_length_le (by omega)]
      simp [affL]
  | succ d ih =>
    intro all i hd h0 ha hn hm
    have hlt : i < (l.length : Int) := by omega
    obtain ⟨q, eq, q1, q2, q3⟩ := rise_ev all ha (by omega) (rd l i)
    refine Ev.step (f := fun k => (customsref27_Rise.f k all (rd l i)).bind fun t855 => (customsref33_Seals.l0 k l lot xs t855 (wrap64 (i + 1)))) (fun k => ?_) (Ev.bind eq ?_)
    · simp only [customsref33_Seals.l0]
      rw [if_pos hlt, if_pos h0]
    · rw [wp64 (by omega) (by omega)]
      exact ih q (i + 1) (by omega) (by omega) q1 (by omega) (fun z => by rw [q2 z, hm z, take_more l h0 hlt])
theorem seals_ev (l : List Int) (lot : Int) (xs : List S53) (hl : l.length < 1000000000000) (hx : xs.length < 1000000000000) : Ev (fun k => customsref33_Seals.f k l lot xs) (sealsL l lot xs) :=
  Ev.congr (fun k => rfl) (seals_l0 lot xs hx l hl l.length [] 0 (by omega) (by omega) List.Pairwise.nil (by simp) (fun z => by simp))
theorem within_mod (x n : Int) (hn : 0 < n) (hb : n ≤ 4611686018427387904) : customsmade_Within.f x n = some (x % n) := by
  unfold customsmade_Within.f
  rw [if_neg (by omega)]
  have a := Int.tmod_lt_of_pos x hn
  have b : -n < Int.tmod x n := by
    have := Int.lt_tmod_of_pos x hn
    omega
  rw [wp64 (by omega) (by omega)]
  have c : Int.tmod (Int.tmod x n + n) n = (Int.tmod x n + n) % n := by rw [Int.tmod_eq_emod_of_nonneg (by omega)]
  rw [c, Int.add_emod_right]
  congr 1
  have d := Int.tmod_def x n
  rw [d]
  rw [Int.sub_mul_emod_self_left]
theorem next_src (L : List Int) (hL : L.length < 5000000000000000) (i : Int) (h0 : 0 ≤ i) (n : Int) (hn : 0 < n) (hb : n ≤ 4611686018427387904) : ∃ t, customsmade_Source_Next.f L i n = some (t, if i < L.length then i + 1 else i) ∧ 0 ≤ t ∧ t < n := by
  unfold customsmade_Source_Next.f
  by_cases c : i < (L.length : Int)
  · rw [if_neg (by omega), wp64 (n := i + 1) (by omega) (by omega), wp64 (by omega) (by omega), if_pos (by omega), if_pos (by omega), within_mod _ n hn hb, if_pos c]
    exact ⟨_, rfl, Int.emod_nonneg _ (by omega), Int.emod_lt_of_pos _ hn⟩
  · rw [if_pos (by omega), if_neg c]
    exact ⟨0, rfl, by omega, hn⟩
theorem incidents_l0 (L : List Int) (hL : L.length ≤ 60) (d : Nat) : ∀ (X : List S53) (i : Int), (L.length : Int) - i ≤ d → 0 ≤ i → i ≤ L.length → (X.length : Int) ≤ i →
    ∃ R, Ev (fun k => customslaw35_incidents.l0 k X L i) R ∧ R.length ≤ 60 := by
  induction d with
  | zero =>
    intro X i hd h0 h1 hn
    refine ⟨X, Ev.step (f := fun _ => some X) (fun k => ?_) (Ev.now _), by omega⟩
    simp only [customslaw35_incidents.l0, customsmade_Source_Left.f, Option.bind_some]
    rw [if_neg (by simp; omega)]
  | succ d ih =>
    intro X i hd h0 h1 hn
    by_cases c : i < (L.length : Int)
    · obtain ⟨t1, e1, _, _⟩ := next_src L (by omega) i h0 2 (by omega) (by omega)
      rw [if_pos c] at e1
      obtain ⟨t2, e2, _, _⟩ := next_src L (by omega) (i + 1) (by omega) 2 (by omega) (by omega)
      obtain ⟨i2, hi2⟩ : ∃ i2, (if i + 1 < (L.length : Int) then i + 1 + 1 else i + 1) = i2 := ⟨_, rfl⟩
      rw [hi2] at e2
      have g2 : i + 1 ≤ i2 ∧ i2 ≤ L.length := by rw [← hi2]; split <;> omega
      obtain ⟨t3, e3, _, _⟩ := next_src L (by omega) i2 (by omega) 6 (by omega) (by omega)
      obtain ⟨i3, hi3⟩ : ∃ i3, (if i2 < (L.length : Int) then i2 + 1 else i2) = i3 := ⟨_, rfl⟩
      rw [hi3] at e3
      have g3 : i2 ≤ i3 ∧ i3 ≤ L.length := by rw [← hi3]; split <;> omega
      obtain ⟨t4, e4, _, _⟩ := next_src L (by omega) i3 (by omega) 6 (by omega) (by omega)
      obtain ⟨i4, hi4⟩ : ∃ i4, (if i3 < (L.length : Int) then i3 + 1 else i3) = i4 := ⟨_, rfl⟩
      rw [hi4] at e4
      have g4 : i3 ≤ i4 ∧ i4 ≤ L.length := by rw [← hi4]; split <;> omega
      obtain ⟨R, eR, hR⟩ := ih (X ++ [⟨wrap64 (100 + t1), wrap64 ((X.length : Int) + 1), wrap64 (1 + t2), t3, t4⟩]) i4 (by omega) (by omega) (by omega) (by simp; omega)
      refine ⟨R, Ev.step (fun k => ?_) eR, hR⟩
      simp only [customslaw35_incidents.l0, customsmade_Source_Left.f, Option.bind_some]
      rw [if_pos (by simpa using c)]
      simp only [e1, e2, e3, e4, Option.bind_some]
      rw [if_pos (by omega)]
    · refine ⟨X, Ev.step (f := fun _ => some X) (fun k => ?_) (Ev.now _), by omega⟩
      simp only [customslaw35_incidents.l0, customsmade_Source_Left.f, Option.bind_some]
      rw [if_neg (by simp; omega)]
theorem incidents_ev (l : List Int) : ∃ R, Ev (fun k => customslaw35_incidents.f k l) R ∧ R.length ≤ 60 := by
  have hc : customsmade_Cut.f l 60 = some (l.take 60) := by
    unfold customsmade_Cut.f
    by_cases c : (l.length : Int) > 60
    · rw [if_pos c, if_pos (by decide), if_pos (by omega)]
      rfl
    · rw [if_neg c, List.take_of_length_le (by omega)]
  obtain ⟨R, e, h⟩ := incidents_l0 (l.take 60) (by rw [List.length_take]; omega) (l.take 60).length [] 0 (by omega) (by omega) (by omega) (by simp)
  exact ⟨R, Ev.congr (fun k => by unfold customslaw35_incidents.f; rw [hc]; rfl) e, h⟩
/-- An order: numbers of the right range. -/
theorem order_l1 (n : Nat) (hn : n ≤ 1000) (L : List Int) (hL : L.length < 5000000000000000) (d : Nat) : ∀ (xs out : List Int) (i : Int), xs.length = d → 0 ≤ i → i ≤ L.length → xs.length + out.length ≤ n → (∀ z, z ∈ xs → 0 ≤ z ∧ z < (n : Int)) → (∀ z, z ∈ out → 0 ≤ z ∧ z < (n : Int)) →
    ∃ R, Ev (fun k => customsmade_Order.l1 k xs out L i) R ∧ R.length ≤ n ∧ (∀ z, z ∈ R → 0 ≤ z ∧ z < (n : Int)) := by
  induction d with
  | zero =>
    intro xs out i hd h0 h1 hl hx ho
    refine ⟨out, Ev.step (f := fun _ => some out) (fun k => ?_) (Ev.now _), by omega, ho⟩
    simp only [customsmade_Order.l1]
    rw [if_neg (by omega)]
  | succ d ih =>
    intro xs out i hd h0 h1 hl hx ho
    obtain ⟨t, e, t0, t1⟩ := next_src L hL i h0 (xs.length : Int) (by omega) (by omega)
    obtain ⟨i2, hi2⟩ : ∃ i2, (if i < (L.length : Int) then i + 1 else i) = i2 := ⟨_, rfl⟩
    rw [hi2] at e
    have g2 : i ≤ i2 ∧ i2 ≤ L.length := by rw [← hi2]; split <;> omega
    have et : (t + 1).toNat = t.toNat + 1 := by omega
    obtain ⟨R, eR, h2⟩ := ih (([] : List Int) ++ xs.take t.toNat ++ xs.drop (t + 1).toNat) (out ++ [rd xs t]) i2 (by simp; omega) (by omega) (by omega) (by simp; omega)
      (fun z hz => by
        simp only [List.nil_append, List.mem_append] at hz
        rcases hz with hz | hz
        · exact hx z (List.mem_of_mem_take hz)
        · exact hx z (List.mem_of_mem_drop hz))
      (fun z hz => by
        rcases List.mem_append.1 hz with hz | hz
        · exact ho z hz
        · rw [List.mem_singleton.1 hz, rd_get xs t0 t1]
          exact hx _ (List.getElem_mem _))
    refine ⟨R, Ev.step (fun k => ?_) eR, h2⟩
    have k1 : (List.take t.toNat xs).length ≤ xs.length := by rw [List.length_take]; omega
    simp only [customsmade_Order.l1]
    rw [if_pos (by omega), e]
    simp only [Option.bind_some]
    rw [wp64 (by omega) (by omega), if_pos t0, if_pos t1, if_pos (by omega), if_pos (by omega), if_pos (by simp; omega), if_pos (by omega), if_pos (by omega), if_pos (by simp; omega)]
theorem order_l0 (n : Nat) (hn : n ≤ 1000) (L : List Int) (hL : L.length < 5000000000000000) (d : Nat) : ∀ (xs : List Int) (i : Int), (n : Int) - i = d → 0 ≤ i → (xs.length : Int) = i → (∀ z, z ∈ xs → 0 ≤ z ∧ z < (n : Int)) →
    ∃ R, Ev (fun k => customsmade_Order.l0 k n xs i L 0) R ∧ R.length ≤ n ∧ (∀ z, z ∈ R → 0 ≤ z ∧ z < (n : Int)) := by
  induction d with
  | zero =>
    intro xs i hd h0 h1 hx
    obtain ⟨R, e, h2⟩ := order_l1 n hn L hL xs.length xs [] 0 rfl (by omega) (by omega) (by simp; omega) hx (fun z hz => by simp at hz)
    refine ⟨R, Ev.step (fun k => ?_) e, h2⟩
    simp only [customsmade_Order.l0]
    rw [if_neg (by omega)]
  | succ d ih =>
    intro xs i hd h0 h1 hx
    obtain ⟨R, e, h2⟩ := ih (xs ++ [i]) (i + 1) (by omega) (by omega) (by simp; omega) (fun z hz => by
      rcases List.mem_append.1 hz with hz | hz
      · exact hx z hz
      · rw [List.mem_singleton.1 hz]; omega)
    refine ⟨R, Ev.step (fun k => ?_) e, h2⟩
    simp only [customsmade_Order.l0]
    rw [if_pos (by omega), if_pos (by omega), wp64 (by omega) (by omega)]
theorem order_ev (n : Nat) (hn : n ≤ 1000) (L : List Int) (hL : L.length < 5000000000000000) : ∃ R, Ev (fun k => customsmade_Order.f k (n : Int) L) R ∧ R.length ≤ n ∧ (∀ z, z ∈ R → 0 ≤ z ∧ z < (n : Int)) := by
  obtain ⟨R, e, h⟩ := order_l0 n hn L hL n [] 0 (by omega) (by omega) (by simp) (fun z hz => by simp at hz)
  exact ⟨R, Ev.congr (fun k => rfl) e, h⟩
theorem lessL_len (xs ys : List Int) : (lessL xs ys).length ≤ xs.length := by
  unfold lessL
  exact Nat.le_trans (List.length_filter_le _ _) (G.setL_len xs)
theorem seals_core (x1 x2 : List Int) (x3 : Int) (x13 : List S53) (h1 : x1.length ≤ 200) (h2 : x2.length ≤ 200) (h3 : x13.length ≤ 200) :
    Ev (fun k => (customsref33_Compare.f k x1 x2).bind fun c => ((customsref33_Seals.f k x1 x3 x13).bind fun s => ((customsref33_SameInts.f k (sealsL x1 x3 x13) s).bind fun p => (if p = true then ((customsref33_SameInts.f k (lessL x1 x2) c.1).bind fun q => (if q = true then ((customsref33_SameInts.f k (lessL x2 x1) c.2).bind fun r => (if r = true then (some true : Option Bool) else (some false))) else (some false))) else (some false))))) true := by
  have q1 := lessL_len x1 x2
  have q2 := lessL_len x2 x1
  have q3 := sealsL_len x1 x3 x13
  refine Ev.bind (compare_ev x1 x2 (by omega) (by omega)) (Ev.bind (seals_ev x1 x3 x13 (by omega) (by omega)) (Ev.bind (same_ev (sealsL x1 x3 x13) (by omega)) (Ev.congr (fun k => if_pos rfl) (Ev.bind (same_ev (lessL x1 x2) (by omega)) (Ev.congr (fun k => if_pos rfl) (Ev.bind (same_ev (lessL x2 x1) (by omega)) (Ev.congr (fun k => if_pos rfl) (Ev.now _))))))))
theorem seals_j5 (x1 x2 : List Int) (x3 : Int) (x13 : List S53) (b : Bool) (hb : b = false → x1.length ≤ 200 ∧ x2.length ≤ 200 ∧ x13.length ≤ 200) : Ev (fun k => customslaw35_TransitSeals.j5 k x1 x2 x3 x13 b) true := by
  cases b with
  | true =>
    refine Ev.step (f := fun _ => some true) (fun k => ?_) (Ev.now _)
    simp only [customslaw35_TransitSeals.j5]
    rfl
  | false =>
    obtain ⟨h1, h2, h3⟩ := hb rfl
    have e1 : transit_Compare.f x1 x2 = some (lessL x1 x2, lessL x2 x1) := by unfold transit_Compare.f; rw [if_pos (by constructor <;> omega)]
    have e2 : transit_Seals.f x1 x3 x13 = some (sealsL x1 x3 x13) := by unfold transit_Seals.f; rw [if_pos (by omega)]
    have q1 := lessL_len x1 x2
    have q2 := lessL_len x2 x1
    have q3 := sealsL_len x1 x3 x13
    refine Ev.step (fun k => ?_) (seals_core x1 x2 x3 x13 h1 h2 h3)
    simp only [customslaw35_TransitSeals.j5]
    rw [if_neg (by decide), e1, e2]
    rfl
theorem seals_j3 (x1 x2 : List Int) (x3 : Int) (x13 : List S53) (b : Bool) (hb : b = false → x1.length ≤ 200 ∧ x2.length ≤ 200 ∧ x13.length ≤ 200) : Ev (fun k => customslaw35_TransitSeals.j3 k x1 x2 x3 x13 b) true := by
  cases b with
  | true =>
    refine Ev.step (f := fun _ => some true) (fun k => ?_) (Ev.now _)
    simp only [customslaw35_TransitSeals.j3]
    rfl
  | false =>
    obtain ⟨h1, h2, h3⟩ := hb rfl
    have e1 : transit_Compare.f x1 x2 = some (lessL x1 x2, lessL x2 x1) := by unfold transit_Compare.f; rw [if_pos (by constructor <;> omega)]
    have e2 : transit_Seals.f x1 x3 x13 = some (sealsL x1 x3 x13) := by unfold transit_Seals.f; rw [if_pos (by omega)]
    have q1 := lessL_len x1 x2
    have q2 := lessL_len x2 x1
    have q3 := sealsL_len x1 x3 x13
    refine Ev.step (fun k => ?_) (seals_core x1 x2 x3 x13 h1 h2 h3)
    simp only [customslaw35_TransitSeals.j3]
    rw [if_neg (by decide), e1, e2]
    rfl
theorem seals_j4 (x1 x2 : List Int) (x3 : Int) (x13 : List S53) (b : Bool) (hb : b = false → x1.length ≤ 200 ∧ x2.length ≤ 200 ∧ x13.length ≤ 200) : Ev (fun k => customslaw35_TransitSeals.j4 k x1 x2 x3 x13 b) true := by
  cases b with
  | true =>
    refine Ev.step (f := fun _ => some true) (fun k => ?_) (Ev.now _)
    simp only [customslaw35_TransitSeals.j4]
    rfl
  | false =>
    obtain ⟨h1, h2, h3⟩ := hb rfl
    have e1 : transit_Compare.f x1 x2 = some (lessL x1 x2, lessL x2 x1) := by unfold transit_Compare.f; rw [if_pos (by constructor <;> omega)]
    have e2 : transit_Seals.f x1 x3 x13 = some (sealsL x1 x3 x13) := by unfold transit_Seals.f; rw [if_pos (by omega)]
    have q1 := lessL_len x1 x2
    have q2 := lessL_len x2 x1
    have q3 := sealsL_len x1 x3 x13
    refine Ev.step (fun k => ?_) (seals_core x1 x2 x3 x13 h1 h2 h3)
    simp only [customslaw35_TransitSeals.j4]
    rw [if_neg (by decide), e1, e2]
    rfl
theorem seals_law_l1 (x2 : List Int) (x3 : Int) (x13 : List S53) (x14 : List Int) (h14 : x14.length ≤ 200) (d : Nat) : ∀ (x15 : List Int) (i : Int), (8 : Int) - i ≤ d → 0 ≤ i → i ≤ 8 → (x15.length : Int) ≤ i → Ev (fun k => customslaw35_TransitSeals.l1 k x2 x3 x13 x14 x15 i) true := by
  have fin3 : ∀ x15 : List Int, x15.length ≤ 200 → Ev (fun k => if (x13.length : Int) > 200 then (customslaw35_TransitSeals.j3 k x14 x15 x3 x13 true) else (if (x14.length : Int) > 200 then (customslaw35_TransitSeals.j3 k x14 x15 x3 x13 true) else (customslaw35_TransitSeals.j3 k x14 x15 x3 x13 (decide ((x15.length : Int) > 200))))) true := by
    intro x15 h15
    by_cases c : (x13.length : Int) > 200
    · exact Ev.congr (fun k => if_pos c) (seals_j3 _ _ _ _ _ (fun h => by cases h))
    · exact Ev.congr (fun k => by rw [if_neg c, if_neg (by omega)]) (seals_j3 _ _ _ _ _ (fun h => by omega))
  have fin4 : ∀ x15 : List Int, x15.length ≤ 200 → Ev (fun k => if (x13.length : Int) > 200 then (customslaw35_TransitSeals.j4 k x14 x15 x3 x13 true) else (if (x14.length : Int) > 200 then (customslaw35_TransitSeals.j4 k x14 x15 x3 x13 true) else (customslaw35_TransitSeals.j4 k x14 x15 x3 x13 (decide ((x15.length : Int) > 200))))) true := by
    intro x15 h15
    by_cases c : (x13.length : Int) > 200
    · exact Ev.congr (fun k => if_pos c) (seals_j4 _ _ _ _ _ (fun h => by cases h))
    · exact Ev.congr (fun k => by rw [if_neg c, if_neg (by omega)]) (seals_j4 _ _ _ _ _ (fun h => by omega))
  induction d with
  | zero =>
    intro x15 i hd h0 h1 hn
    by_cases c : i < (x2.length : Int)
    · refine Ev.step (fun k => ?_) (fin3 x15 (by omega))
      simp only [customslaw35_TransitSeals.l1]
      rw [if_pos c, if_neg (by omega)]
    · refine Ev.step (fun k => ?_) (fin4 x15 (by omega))
      simp only [customslaw35_TransitSeals.l1]
      rw [if_neg c]
  | succ d ih =>
    intro x15 i hd h0 h1 hn
    by_cases c : i < (x2.length : Int)
    · by_cases c2 : i < 8
      · refine Ev.step (fun k => ?_) (ih (x15 ++ [rd x2 i % 8]) (i + 1) (by omega) (by omega) (by omega) (by simp; omega))
        simp only [customslaw35_TransitSeals.l1]
        rw [if_pos c, if_pos c2, if_pos h0, within_mod _ 8 (by omega) (by omega)]
        simp only [Option.bind_some]
        rw [if_pos (by omega), wp64 (by omega) (by omega)]
      · refine Ev.step (fun k => ?_) (fin3 x15 (by omega))
        simp only [customslaw35_TransitSeals.l1]
        rw [if_pos c, if_neg c2]
    · refine Ev.step (fun k => ?_) (fin4 x15 (by omega))
      simp only [customslaw35_TransitSeals.l1]
      rw [if_neg c]
theorem seals_law_l0 (x1 x2 : List Int) (x3 : Int) (x13 : List S53) (d : Nat) : ∀ (x14 : List Int) (i : Int), (8 : Int) - i ≤ d → 0 ≤ i → i ≤ 8 → (x14.length : Int) ≤ i → Ev (fun k => customslaw35_TransitSeals.l0 k x1 x2 x3 x13 x14 i) true := by
  have fin : ∀ x14 : List Int, x14.length ≤ 200 → Ev (fun k => customslaw35_TransitSeals.j1 k x2 x3 x13 x14 ([] : List Int)) true := fun x14 h14 =>
    Ev.step (fun k => by simp only [customslaw35_TransitSeals.j1]) (seals_law_l1 x2 x3 x13 x14 h14 8 [] 0 (by omega) (by omega) (by omega) (by simp))
  induction d with
  | zero =>
    intro x14 i hd h0 h1 hn
    refine Ev.step (fun k => ?_) (fin x14 (by omega))
    simp only [customslaw35_TransitSeals.l0]
    by_cases c : i < (x1.length : Int)
    · rw [if_pos c, if_neg (by omega)]
    · rw [if_neg c]
  | succ d ih =>
    intro x14 i hd h0 h1 hn
    by_cases c : i < (x1.length : Int)
    · by_cases c2 : i < 8
      · refine Ev.step (fun k => ?_) (ih (x14 ++ [rd x1 i % 8]) (i + 1) (by omega) (by omega) (by omega) (by simp; omega))
        simp only [customslaw35_TransitSeals.l0]
        rw [if_pos c, if_pos c2, if_pos h0, within_mod _ 8 (by omega) (by omega)]
        simp only [Option.bind_some]
        rw [if_pos (by omega), wp64 (by omega) (by omega)]
      · refine Ev.step (fun k => ?_) (fin x14 (by omega))
        simp only [customslaw35_TransitSeals.l0]
        rw [if_pos c, if_neg c2]
    · refine Ev.step (fun k => ?_) (fin x14 (by omega))
      simp only [customslaw35_TransitSeals.l0]
      rw [if_neg c]
theorem TransitSeals (l0 l1 l2 : List Int) (a3 : Int) (l4 : List S53) (a5 : Bool) : ∃ k, customslaw35_TransitSeals.f k l0 l1 l2 a3 l4 a5 = some true := by
  refine Ev.rounds (g := fun k => customslaw35_TransitSeals.f k l0 l1 l2 a3 l4 a5) ?_
  cases a5 with
  | true =>
    by_cases c : (l4.length : Int) > 200
    · exact Ev.congr (fun k => by unfold customslaw35_TransitSeals.f; rw [if_pos rfl, if_pos c]) (seals_j5 l1 l2 a3 l4 true (fun h => by cases h))
    · by_cases c2 : (l1.length : Int) > 200
      · exact Ev.congr (fun k => by unfold customslaw35_TransitSeals.f; rw [if_pos rfl, if_neg c, if_pos c2]) (seals_j5 l1 l2 a3 l4 true (fun h => by cases h))
      · exact Ev.congr (fun k => by unfold customslaw35_TransitSeals.f; rw [if_pos rfl, if_neg c, if_neg c2]) (seals_j5 l1 l2 a3 l4 _ (fun h => by have := of_decide_eq_false h; omega))
  | false =>
    obtain ⟨X, eX, hX⟩ := incidents_ev l0
    refine Ev.congr (fun k => by unfold customslaw35_TransitSeals.f; rw [if_neg (by decide)]) (Ev.bind eX (Ev.congr (fun k => by rw [within_mod _ 3 (by omega) (by omega)]; rfl) (seals_law_l0 l1 l2 (wrap64 (1 + a3 % 3)) X 8 [] 0 (by omega) (by omega) (by omega) (by simp))))
end Go.Proofs.YtbndoihcejieoaaDoor.Pure
namespace Go.Proofs.YtbndoihcejieoaaDoor.Pure
open Go.ChangeShapes Go.WideShapes Go.ChangeAt Go.RowKit Go.Proofs.YtbndoihcejieoaaDoor.G Go.Proofs.YtbndoihcejieoaaDoorW.PrintWords Go.Proofs.YtbndoihcejieoaaDoorW.PrintLast Go.Proofs.YtbndoihcejieoaaDoorW.PrintMore
set_option linter.unusedVariables false
set_option linter.unusedSimpArgs false
set_option maxRecDepth 100000

theorem list_of {α : Type} {Q : Nat → α → Prop} : ∀ n, (∀ i, i < n → ∃ x, Q i x) → ∃ l : List α, l.length = n ∧ ∀ j p, l[j]? = some p → Q j p
  | 0, _ => ⟨[], rfl, fun j p h => by simp at h⟩
  | n + 1, h => by
    obtain ⟨l, hl, hq⟩ := list_of n (fun i hi => h i (by omega))
    obtain ⟨x, hx⟩ := h n (by omega)
    refine ⟨l ++ [x], by simp [hl], fun j p hj => ?_⟩
    by_cases c : j < n
    · rw [List.getElem?_append_left (by omega)] at hj
      exact hq j p hj
    · by_cases c2 : j = n
      · subst c2
        rw [List.getElem?_append_right (by omega)] at hj
        simp [hl] at hj
        rw [← hj]
        exact hx
      · rw [List.getElem?_eq_none (by simp; omega)] at hj
        cases hj
theorem add_add (a : Addr) (m i : Nat) : (a.add m).add i = a.add (m + i) := by
  unfold Addr.add
  by_cases hm : m = 0
  · subst hm
    simp
  · by_cases hi : i = 0
    · subst hi
      simp [hm]
    · have : ¬ m + i = 0 := by omega
      simp [hm, hi, this, Nat.add_assoc]
section
variable {H : Type} {enc : TypeId × Value → H} {W : World} {b : Nat} {sp : Nat → Bool} {held : Bool}
/-- A slice, whatever its elements: a list, where each element reads as one. -/
theorem read_rows {α : Type} (k : Kd α) {t e B : Nat} (ht : Tryd.prog.underlying t = some (.slice e)) (hC : Tryd.prog.cellsOf e = k.sz) (hB : Tryd.prog.bytesOf e = B) (he : ∀ (n : Nat) (cs : List Value) (y : DataW H × List MemPlace), DataW.trod enc Tryd.prog W b sp held n e cs = some y → ∃ x, k.K W x cs)
    {n : Nat} {v : Value} {y : DataW H × List MemPlace} (h : DataW.trod enc Tryd.prog W b sp held n t [v] = some y) (hw : ∀ z, z ∈ DataW.weights Tryd.prog t y.1 → z ≤ reachBytes) : ∃ l : List α, Rd k W v l ∧ l.length * B ≤ 140737488351232 := by
  rcases Go.Deep.open_slice ht h with ⟨hcs, hx⟩ | ⟨a, len, cap, m, n', D, Pl, hcs, hb, hl, hm, hmm, hx, hel⟩
  · obtain rfl : v = .slice none 0 0 := by simpa using hcs
    exact ⟨[], Rd.nil k W, by simp⟩
  · obtain rfl : v = .slice (some a) len cap := by simpa using hcs
    have hlm : len ≤ m := by rw [hmm]; split <;> omega
    obtain ⟨l, hlen, hq⟩ := list_of (α := α) (Q := fun j p => ∃ cs', W.cells? b (a.add (j * k.sz)) k.sz = some cs' ∧ k.K W p cs') len (fun i hi => by
      obtain ⟨cs', h1, h2⟩ := hel i (by omega)
      obtain ⟨x, hx⟩ := he _ _ _ h2
      rw [hC] at h1
      exact ⟨x, cs', h1, hx⟩)
    have hmax : cap ≤ 9223372036854775807 := hm
    refine ⟨l, ⟨some a, cap, by rw [hlen], by omega, rfl, by omega, fun _ => ⟨a, rfl, fun j p hj => ?_⟩⟩, ?_⟩
    · obtain ⟨cs', h1, h2⟩ := hq j p hj
      obtain ⟨_, h3, h4⟩ := World.cells?_some h1
      refine ⟨cs', h3, h2, fun i u hu => ?_⟩
      have hi : i < k.sz := by rw [← h3]; exact (List.getElem?_eq_some_iff.1 hu).1
      rw [← add_add, h4 i hi]
      exact hu
    · have h5 := hw ((len + (m - len)) * B) (by rw [hx]; simp [DataW.weights, ht, hB])
      have h6 : reachBytes = 140737488351232 + 4096 - 4096 := by decide
      have h7 : l.length * B ≤ (len + (m - len)) * B := Nat.mul_le_mul_right _ (by omega)
      unfold reachBytes at h5
      omega
theorem read53 {n : Nat} {cs : List Value} {y : DataW H × List MemPlace} (h : DataW.trod enc Tryd.prog W b sp held n 53 cs = some y) : ∃ x : S53, k53.K W x cs := by
  have ce : Tryd.prog.cellsOf 53 = 5 := by kernel_rfl
  have ci3 : Tryd.prog.cellsOf 3 = 1 := by kernel_rfl
  cases n with
  | zero => simp [DataW.trod] at h
  | succ n =>
    simp only [DataW.trod, Tryd.underlying53, ce] at h
    split at h
    · rename_i hl
      obtain ⟨c0, c1, c2, c3, c4, rfl⟩ : ∃ c0 c1 c2 c3 c4, cs = [c0, c1, c2, c3, c4] := by
        match cs, hl with
        | [c0, c1, c2, c3, c4], _ => exact ⟨c0, c1, c2, c3, c4, rfl⟩
      simp only [List.mapM_cons, List.mapM_nil, Option.map_eq_some_iff, Option.bind_eq_bind, Option.bind_eq_some_iff, Option.pure_def, Option.some.injEq, ci3] at h
      obtain ⟨ys, ⟨y0, h0, ys0, ⟨y1, h1, ys1, ⟨y2, h2, ys2, ⟨y3, h3, ys3, ⟨y4, h4, ys4, rfl, rfl⟩, rfl⟩, rfl⟩, rfl⟩, rfl⟩, rfl⟩ := h
      obtain ⟨k0, e0, f0, _⟩ := DataW.trod_int Tryd.underlying3 h0
      obtain ⟨k1, e1, f1, _⟩ := DataW.trod_int Tryd.underlying3 h1
      obtain ⟨k2, e2, f2, _⟩ := DataW.trod_int Tryd.underlying3 h2
      obtain ⟨k3, e3, f3, _⟩ := DataW.trod_int Tryd.underlying3 h3
      obtain ⟨k4, e4, f4, _⟩ := DataW.trod_int Tryd.underlying3 h4
      simp at e0 e1 e2 e3 e4
      subst e0 e1 e2 e3 e4
      exact ⟨⟨k0, k1, k2, k3, k4⟩, k53_mk W _⟩
    · cases h
theorem read3 {n : Nat} {cs : List Value} {y : DataW H × List MemPlace} (h : DataW.trod enc Tryd.prog W b sp held n 3 cs = some y) : ∃ x : Int, (Kd.int .i64).K W x cs := by
  obtain ⟨x, rfl, _, _⟩ := DataW.trod_int Tryd.underlying3 h
  exact ⟨x, rfl⟩
/-- Slices of numbers, of incidents, of a lot's slices. -/
theorem rows25 {n : Nat} {v : Value} {y : DataW H × List MemPlace} (h : DataW.trod enc Tryd.prog W b sp held n 25 [v] = some y) (hw : ∀ z, z ∈ DataW.weights Tryd.prog 25 y.1 → z ≤ reachBytes) : ∃ l : List Int, Rd (Kd.int .i64) W v l ∧ l.length * 8 ≤ 140737488351232 := read_rows (Kd.int .i64) Tryd.underlying25 (by kernel_rfl) (by kernel_rfl) (fun _ _ _ h => read3 h) h hw
theorem rows44 {n : Nat} {v : Value} {y : DataW H × List MemPlace} (h : DataW.trod enc Tryd.prog W b sp held n 44 [v] = some y) (hw : ∀ z, z ∈ DataW.weights Tryd.prog 44 y.1 → z ≤ reachBytes) : ∃ l : List S53, Rd k53 W v l ∧ l.length * 40 ≤ 140737488351232 := read_rows k53 Tryd.underlying44 (by kernel_rfl) (by kernel_rfl) (fun _ _ _ h => read53 h) h hw
end
end Go.Proofs.YtbndoihcejieoaaDoor.Pure
