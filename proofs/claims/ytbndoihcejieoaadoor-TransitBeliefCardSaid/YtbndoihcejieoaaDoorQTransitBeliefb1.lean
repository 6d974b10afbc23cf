/-
  Plain mathematics: what these functions answer; at the end the law's pure statement. No program's memory in sight.
-/
import Derived.Test.YtbndoihcejieoaaDoorQCorew1
import Derived.Test.YtbndoihcejieoaaDoorQCorev1
import Derived.Test.YtbndoihcejieoaaDoorQCorea1
import Derived.Test.YtbndoihcejieoaaDoorQCorea2
import Derived.Test.YtbndoihcejieoaaDoorQCorea3
import Derived.Test.YtbndoihcejieoaaDoorQTransitBeliefa1
namespace Go.Proofs.YtbndoihcejieoaaDoor.Pure
open Go.RowKit Go.Proofs.YtbndoihcejieoaaDoor.G Go.Proofs.YtbndoihcejieoaaDoorW.PrintWords Go.Proofs.YtbndoihcejieoaaDoorW.PrintLast Go.Proofs.YtbndoihcejieoaaDoorW.PrintMore
set_option linter.unusedSimpArgs false
set_option linter.unusedVariables false

theorem wp64 {n : Int} (h : -9223372036854775808 ≤ n) (h' : n ≤ 9223372036854775807) : wrap64 n = n := by unfold wrap64; omega
abbrev Asc (l : List Int) : Prop := l.Pairwise (fun a b => a < b)
/-- Two lists that rise, of the same members. -/
theorem asc_eq : ∀ {l1 l2 : List Int}, Asc l1 → Asc l2 → (∀ x, x ∈ l1 ↔ x ∈ l2) → l1 = l2
  | [], [], _, _, _ => rfl
  | [], b :: t, _, _, h => absurd ((h b).2 (by simp)) (by simp)
  | a :: s, [], _, _, h => absurd ((h a).1 (by simp)) (by simp)
  | a :: s, b :: t, h1, h2, h => by
    rw [Asc, List.pairwise_cons] at h1 h2
    have e : a = b := by
      rcases List.mem_cons.1 ((h a).1 (by simp)) with e | e
      · exact e
      · rcases List.mem_cons.1 ((h b).2 (by simp)) with e2 | e2
        · exact e2.symm
        · have := h1.1 b e2
          have := h2.1 a e
          omega
    subst e
    have ih := asc_eq h1.2 h2.2 (fun x => by
      constructor
      · intro hx
        rcases List.mem_cons.1 ((h x).1 (List.mem_cons_of_mem _ hx)) with e | e
        · have := h1.1 x hx; omega
        · exact e
      · intro hx
        rcases List.mem_cons.1 ((h x).2 (List.mem_cons_of_mem _ hx)) with e | e
        · have := h2.1 x hx; omega
        · exact e)
    rw [ih]
theorem get_eq (l : List Int) (j : Nat) (h : j < l.length) : l.toArray[j]! = l[j] := by
  rw [getElem!_pos l.toArray j (by simpa using h)]
  simp
theorem compact_mem (l : List Int) (x : Int) : x ∈ Lib.compact l ↔ x ∈ l := by
  unfold Lib.compact Lib.compactUpTo
  rw [List.mem_map]
  constructor
  · rintro ⟨j, hj, rfl⟩
    have hj2 := List.mem_range.1 (List.mem_filter.1 hj).1
    rw [get_eq l j hj2]
    exact List.getElem_mem hj2
  · intro h
    obtain ⟨j, hj, e⟩ := List.getElem_of_mem h
    subst e
    induction j with
    | zero => exact ⟨0, List.mem_filter.2 ⟨List.mem_range.2 hj, by simp [Lib.keeps]⟩, get_eq l 0 hj⟩
    | succ j ih =>
      by_cases c : l[j + 1] = l[j]'(by omega)
      · rw [c]; exact ih (by omega) (List.getElem_mem _)
      · refine ⟨j + 1, List.mem_filter.2 ⟨List.mem_range.2 hj, ?_⟩, get_eq l (j + 1) hj⟩
        unfold Lib.keeps
        rw [decide_eq_true_eq]
        right
        rw [get_eq l (j + 1) hj, show j + 1 - 1 = j from rfl, get_eq l j (by omega)]
        exact c
theorem compact_asc (l : List Int) (h : l.Pairwise (fun a b => a ≤ b)) : Asc (Lib.compact l) := by
  unfold Lib.compact Lib.compactUpTo
  rw [Asc, List.pairwise_map]
  refine List.Pairwise.imp_of_mem (fun {i j} hi hj hij => ?_) (List.Pairwise.filter _ (List.pairwise_lt_range (n := l.length)))
  have hi2 := List.mem_range.1 (List.mem_filter.1 hi).1
  have hj2 := List.mem_range.1 (List.mem_filter.1 hj).1
  have hk := (List.mem_filter.1 hj).2
  unfold Lib.keeps at hk
  rw [decide_eq_true_eq] at hk
  have hk2 : l.toArray[j]! ≠ l.toArray[j - 1]! := by
    rcases hk with hk | hk
    · omega
    · exact hk
  rw [get_eq l j hj2, get_eq l (j - 1) (by omega)] at hk2
  rw [get_eq l i hi2, get_eq l j hj2]
  have h2 : l[j - 1]'(by omega) ≤ l[j] := List.pairwise_iff_getElem.1 h (j - 1) j (by omega) hj2 (by omega)
  have h3 : l[i] ≤ l[j - 1]'(by omega) := by
    by_cases c : i = j - 1
    · subst c; exact Int.le_refl _
    · exact List.pairwise_iff_getElem.1 h i (j - 1) hi2 (by omega) (by omega)
  omega
theorem setL_asc (l : List Int) : Asc (setL l) := by
  unfold setL
  refine compact_asc _ ?_
  have := List.pairwise_mergeSort (le := fun x y : Int => decide (x ≤ y)) (fun a b c h1 h2 => by simp at *; omega) (fun a b => by simp; omega) l
  exact this.imp (fun h => by simpa using h)
theorem setL_mem (l : List Int) (x : Int) : x ∈ setL l ↔ x ∈ l := by
  unfold setL
  rw [compact_mem, List.mem_mergeSort]
/-- The one list that rises, of those members. -/
theorem setL_is {l r : List Int} (hr : Asc r) (h : ∀ x, x ∈ r ↔ x ∈ l) : r = setL l := asc_eq hr (setL_asc l) (fun x => (h x).trans (setL_mem l x).symm)
theorem setL_same {l r : List Int} (h : ∀ x, x ∈ l ↔ x ∈ r) : setL l = setL r := setL_is (setL_asc l) (fun x => (setL_mem l x).trans (h x))

/-! ### The reference's Rise, Has, less -/
theorem rd_get (l : List Int) {i : Int} (h0 : 0 ≤ i) (h1 : i < l.length) : rd l i = l[i.toNat]'(by omega) := by
  unfold rd
  rw [List.getD_eq_getElem?_getD, List.getElem?_eq_getElem (by omega)]
  rfl
/-- A list is the same as itself. -/
theorem same_l0 (l : List Int) (hl : l.length < 5000000000000) (d : Nat) : ∀ i : Int, (l.length : Int) - i = d → 0 ≤ i → Ev (fun k => customsref33_SameInts.l0 k l l i) true := by
  induction d with
  | zero =>
    intro i hd h0
    refine Ev.step (f := fun _ => some true) (fun k => ?_) (Ev.now _)
    simp only [customsref33_SameInts.l0]
    rw [if_neg (by omega)]
  | succ d ih =>
    intro i hd h0
    refine Ev.step (f := fun k => customsref33_SameInts.l0 k l l (i + 1)) (fun k => ?_) (ih (i + 1) (by omega) (by omega))
    simp only [customsref33_SameInts.l0]
    rw [if_pos (by omega), if_pos h0, if_pos (by omega), if_pos trivial, wp64 (by omega) (by omega)]
theorem same_ev (l : List Int) (hl : l.length < 5000000000000) : Ev (fun k => customsref33_SameInts.f k l l) true :=
  Ev.congr (fun k => by unfold customsref33_SameInts.f; exact if_pos rfl) (same_l0 l hl l.length 0 (by omega) (by omega))
theorem setL_len (l : List Int) : (setL l).length ≤ l.length := G.setL_len l
theorem sealsL_len (l : List Int) (a : Int) (xs : List S53) : (sealsL l a xs).length ≤ l.length + xs.length := by
  unfold sealsL
  have h1 := List.length_filter_le (fun n => !(decide (n < 1) || (remL a xs).contains n)) (setL (l ++ affL a xs))
  have h2 := G.setL_len (l ++ affL a xs)
  have h3 := affL_len a xs
  rw [List.length_append] at h2
  omega
theorem lessL_self (l : List Int) : lessL l l = [] := by
  unfold lessL
  rw [List.filter_eq_nil_iff]
  intro z hz
  have := (setL_mem l z).1 hz
  simp [this]
/-- The seals depend only on which incidents are known. -/
theorem sealsL_same (l : List Int) (a : Int) {xs ys : List S53} (h : ∀ x, x ∈ xs ↔ x ∈ ys) : sealsL l a xs = sealsL l a ys := by
  have h1 : ∀ z, z ∈ l ++ affL a xs ↔ z ∈ l ++ affL a ys := fun z => by
    unfold affL
    simp only [List.mem_append, List.mem_map, List.mem_filter, h]
  have h2 : ∀ z, (remL a xs).contains z = (remL a ys).contains z := fun z => by
    have : z ∈ remL a xs ↔ z ∈ remL a ys := by
      unfold remL
      simp only [List.mem_map, List.mem_filter, h]
    rw [List.contains_eq_mem, List.contains_eq_mem]
    exact decide_eq_decide.2 this
  unfold sealsL
  rw [setL_same h1]
  congr 1
  funext z
  rw [h2 z]
theorem within_mod (x n : Int) (hn : 0 < n) (hb : n ≤ 4611686018427387904) : customsmade_Within.f x n = some (x % n) := by
  unfold customsmade_Within.f
  rw [if_neg (by omega)]
  have a := Int.tmod_lt_of_pos x hn
  have b : -n < Int.tmod x n := by
    have := Int.lt_tmod_of_pos x hn
    omega
  rw [wp64 (by omega) (by omega)]
  have c : Int.tmod (Int.tmod x n + n) n = (Int.tmod x n + n) % n := by rw [Int.tmod_eq_emod_of_nonneg (by omega)]
  rw [c, Int.add_emod_right]
  congr 1
  have d := Int.tmod_def x n
  rw [d]
  rw [Int.sub_mul_emod_self_left]
theorem next_src (L : List Int) (hL : L.length < 5000000000000000) (i : Int) (h0 : 0 ≤ i) (n : Int) (hn : 0 < n) (hb : n ≤ 4611686018427387904) : ∃ t, customsmade_Source_Next.f L i n = some (t, if i < L.length then i + 1 else i) ∧ 0 ≤ t ∧ t < n := by
  unfold customsmade_Source_Next.f
  by_cases c : i < (L.length : Int)
  · rw [if_neg (by omega), wp64 (n := i + 1) (by omega) (by omega), wp64 (by omega) (by omega), if_pos (by omega), if_pos (by omega), within_mod _ n hn hb, if_pos c]
    exact ⟨_, rfl, Int.emod_nonneg _ (by omega), Int.emod_lt_of_pos _ hn⟩
  · rw [if_pos (by omega), if_neg c]
    exact ⟨0, rfl, by omega, hn⟩
theorem incidents_l0 (L : List Int) (hL : L.length ≤ 60) (d : Nat) : ∀ (X : List S53) (i : Int), (L.length : Int) - i ≤ d → 0 ≤ i → i ≤ L.length → (X.length : Int) ≤ i →
    ∃ R, Ev (fun k => customslaw35_incidents.l0 k X L i) R ∧ R.length ≤ 60 := by
  induction d with
  | zero =>
    intro X i hd h0 h1 hn
    refine ⟨X, Ev.step (f := fun _ => some X) (fun k => ?_) (Ev.now _), by omega⟩
    simp only [customslaw35_incidents.l0, customsmade_Source_Left.f, Option.bind_some]
    rw [if_neg (by simp; omega)]
  | succ d ih =>
    intro X i hd h0 h1 hn
    by_cases c : i < (L.length : Int)
    · obtain ⟨t1, e1, _, _⟩ := next_src L (by omega) i h0 2 (by omega) (by omega)
      rw [if_pos c] at e1
      obtain ⟨t2, e2, _, _⟩ := next_src L (by omega) (i + 1) (by omega) 2 (by omega) (by omega)
      obtain ⟨i2, hi2⟩ : ∃ i2, (if i + 1 < (L.length : Int) then i + 1 + 1 else i + 1) = i2 := ⟨_, rfl⟩
      rw [hi2] at e2
      have g2 : i + 1 ≤ i2 ∧ i2 ≤ L.length := by rw [← hi2]; split <;> omega
      obtain ⟨t3, e3, _, _⟩ := next_src L (by omega) i2 (by omega) 6 (by omega) (by omega)
      obtain ⟨i3, hi3⟩ : ∃ i3, (if i2 < (L.length : Int) then i2 + 1 else i2) = i3 := ⟨_, rfl⟩
      rw [hi3] at e3
      have g3 : i2 ≤ i3 ∧ i3 ≤ L.length := by rw [← hi3]; split <;> omega
      obtain ⟨t4, e4, _, _⟩ := next_src L (by omega) i3 (by omega) 6 (by omega) (by omega)
      obtain ⟨i4, hi4⟩ : ∃ i4, (if i3 < (L.length : Int) then i3 + 1 else i3) = i4 := ⟨_, rfl⟩
      rw [hi4] at e4
      have g4 : i3 ≤ i4 ∧ i4 ≤ L.length := by rw [← hi4]; split <;> omega
      obtain ⟨R, eR, hR⟩ := ih (X ++ [⟨wrap64 (100 + t1), wrap64 ((X.length : Int) + 1), wrap64 (1 + t2), t3, t4⟩]) i4 (by omega) (by omega) (by omega) (by simp; omega)
      refine ⟨R, Ev.step (fun k => ?_) eR, hR⟩
      simp only [customslaw35_incidents.l0, customsmade_Source_Left.f, Option.bind_some]
      rw [if_pos (by simpa using c)]
      simp only [e1, e2, e3, e4, Option.bind_some]
      rw [if_pos (by omega)]
    · refine ⟨X, Ev.step (f := fun _ => some X) (fun k => ?_) (Ev.now _), by omega⟩
      simp only [customslaw35_incidents.l0, customsmade_Source_Left.f, Option.bind_some]
      rw [if_neg (by simp; omega)]
theorem incidents_ev (l : List Int) : ∃ R, Ev (fun k => customslaw35_incidents.f k l) R ∧ R.length ≤ 60 := by
  have hc : customsmade_Cut.f l 60 = some (l.take 60) := by
    unfold customsmade_Cut.f
    by_cases c : (l.length : Int) > 60
    · rw [if_pos c, if_pos (by decide), if_pos (by omega)]
      rfl
    · rw [if_neg c, List.take_of_length_le (by omega)]
  obtain ⟨R, e, h⟩ := incidents_l0 (l.take 60) (by rw [List.length_take]; omega) (l.take 60).length [] 0 (by omega) (by omega) (by omega) (by simp)
  exact ⟨R, Ev.congr (fun k => by unfold customslaw35_incidents.f; rw [hc]; rfl) e, h⟩
/-- An order: numbers of the right range. -/
theorem order_l1 (n : Nat) (hn : n ≤ 1000) (L : List Int) (hL : L.length < 5000000000000000) (d : Nat) : ∀ (xs out : List Int) (i : Int), xs.length = d → 0 ≤ i → i ≤ L.length → xs.length + out.length ≤ n → (∀ z, z ∈ xs → 0 ≤ z ∧ z < (n : Int)) → (∀ z, z ∈ out → 0 ≤ z ∧ z < (n : Int)) →
    ∃ R, Ev (fun k => customsmade_Order.l1 k xs out L i) R ∧ R.length ≤ n ∧ (∀ z, z ∈ R → 0 ≤ z ∧ z < (n : Int)) := by
  induction d with
  | zero =>
    intro xs out i hd h0 h1 hl hx ho
    refine ⟨out, Ev.step (f := fun _ => some out) (fun k => ?_) (Ev.now _), by omega, ho⟩
    simp only [customsmade_Order.l1]
    rw [if_neg (by omega)]
  | succ d ih =>
    intro xs out i hd h0 h1 hl hx ho
    obtain ⟨t, e, t0, t1⟩ := next_src L hL i h0 (xs.length : Int) (by omega) (by omega)
    obtain ⟨i2, hi2⟩ : ∃ i2, (if i < (L.length : Int) then i + 1 else i) = i2 := ⟨_, rfl⟩
    rw [hi2] at e
    have g2 : i ≤ i2 ∧ i2 ≤ L.length := by rw [← hi2]; split <;> omega
    have et : (t + 1).toNat = t.toNat + 1 := by omega
    obtain ⟨R, eR, h2⟩ := ih (([] : List Int) ++ xs.take t.toNat ++ xs.drop (t + 1).toNat) (out ++ [rd xs t]) i2 (by simp; omega) (by omega) (by omega) (by simp; omega)
      (fun z hz => by
        simp only [List.nil_append, List.mem_append] at hz
        rcases hz with hz | hz
        · exact hx z (List.mem_of_mem_take hz)
        · exact hx z (List.mem_of_mem_drop hz))
      (fun z hz => by
        rcases List.mem_append.1 hz with hz | hz
        · exact ho z hz
        · rw [List.mem_singleton.1 hz, rd_get xs t0 t1]
          exact hx _ (List.getElem_mem _))
    refine ⟨R, Ev.step (fun k => ?_) eR, h2⟩
    have k1 : (List.take t.toNat xs).length ≤ xs.length := by rw [List.length_take]; omega
    simp only [customsmade_Order.l1]
    rw [if_pos (by omega), e]
    simp only [Option.bind_some]
    rw [wp64 (by omega) (by omega), if_pos t0, if_pos t1, if_pos (by omega), if_pos (by omega), if_pos (by simp; omega), if_pos (by omega), if_pos (by omega), if_pos (by simp; omega)]
theorem order_l0 (n : Nat) (hn : n ≤ 1000) (L : List Int) (hL : L.length < 5000000000000000) (d : Nat) : ∀ (xs : List Int) (i : Int), (n : Int) - i = d → 0 ≤ i → (xs.length : Int) = i → (∀ z, z ∈ xs → 0 ≤ z ∧ z < (n : Int)) →
    ∃ R, Ev (fun k => customsmade_Order.l0 k n xs i L 0) R ∧ R.length ≤ n ∧ (∀ z, z ∈ R → 0 ≤ z ∧ z < (n : Int)) := by
  induction d with
  | zero =>
    intro xs i hd h0 h1 hx
    obtain ⟨R, e, h2⟩ := order_l1 n hn L hL xs.length xs [] 0 rfl (by omega) (by omega) (by simp; omega) hx (fun z hz => by simp at hz)
    refine ⟨R, Ev.step (fun k => ?_) e, h2⟩
    simp only [customsmade_Order.l0]
    rw [if_neg (by omega)]
  | succ d ih =>
    intro xs i hd h0 h1 hx
    obtain ⟨R, e, h2⟩ := ih (xs ++ [i]) (i + 1) (by omega) (by omega) (by simp; omega) (fun z hz => by
      rcases List.mem_append.1 hz with hz | hz
      · exact hx z hz
      · rw [List.mem_singleton.1 hz]; omega)
    refine ⟨R, Ev.step (fun k => ?_) e, h2⟩
    simp only [customsmade_Order.l0]
    rw [if_pos (by omega), if_pos (by omega), wp64 (by omega) (by omega)]
theorem order_ev (n : Nat) (hn : n ≤ 1000) (L : List Int) (hL : L.length < 5000000000000000) : ∃ R, Ev (fun k => customsmade_Order.f k (n : Int) L) R ∧ R.length ≤ n ∧ (∀ z, z ∈ R → 0 ≤ z ∧ z < (n : Int)) := by
  obtain ⟨R, e, h⟩ := order_l0 n hn L hL n [] 0 (by omega) (by omega) (by simp) (fun z hz => by simp at hz)
  exact ⟨R, Ev.congr (fun k => rfl) e, h⟩
theorem rd53_mem (xs : List S53) {i : Int} (h0 : 0 ≤ i) (h1 : i < xs.length) : rd_T53 xs i ∈ xs := by
  unfold rd_T53
  rw [List.getD_eq_getElem?_getD, List.getElem?_eq_getElem (by omega)]
  exact List.getElem_mem _
theorem belief_l0 (l1 : List Int) (X : List S53) (hX : X.length ≤ 60) (O : List Int) (hO : O.length ≤ 60) (hm : ∀ z, z ∈ O → 0 ≤ z ∧ z < (X.length : Int)) (d : Nat) : ∀ (Y : List S53) (i : Int), (O.length : Int) - i = d → 0 ≤ i → (Y.length : Int) ≤ i → (∀ x, x ∈ Y → x ∈ X) →
    Ev (fun k => customslaw35_TransitBelief.l0 k l1 X O Y i) true := by
  induction d with
  | zero =>
    intro Y i hd h0 hn hY
    have hs : sealsL (l1.take 8) 1 X = sealsL (l1.take 8) 1 (Y ++ X) := sealsL_same _ _ (fun x => by
      rw [List.mem_append]
      exact ⟨.inr, fun h => h.elim (hY x) id⟩)
    have h8 : (l1.take 8).length ≤ 8 := by rw [List.length_take]; omega
    have hsl := sealsL_len (l1.take 8) 1 X
    obtain ⟨S, hS⟩ : ∃ S, sealsL (l1.take 8) 1 X = S := ⟨_, rfl⟩
    rw [hS] at hs hsl
    have e1 : customsmade_Cut.f l1 8 = some (l1.take 8) := cut8 l1
    have e2 : transit_Seals.f (l1.take 8) 1 X = some S := by unfold transit_Seals.f; rw [if_pos (by omega), hS]
    have e3 : transit_Seals.f (l1.take 8) 1 (Y ++ X) = some S := by unfold transit_Seals.f; rw [if_pos (by rw [List.length_append]; omega), ← hs]
    have e4 : transit_Compare.f S S = some ([], []) := by unfold transit_Compare.f; rw [if_pos (by constructor <;> omega), lessL_self]
    refine Ev.step (f := fun k => (customsref33_SameInts.f k S S).bind fun t1009 => (if t1009 = true then some true else some false)) (fun k => ?_) (Ev.bind (same_ev S (by omega)) (Ev.congr (fun k => if_pos rfl) (Ev.now _)))
    simp only [customslaw35_TransitBelief.l0]
    rw [if_neg (by omega), if_pos (by omega), e1]
    simp only [Option.bind_some, e2, e3, e4, customslaw35_awake.f, List.length_nil]
    congr 1
  | succ d ih =>
    intro Y i hd h0 hn hY
    have hlt : i < (O.length : Int) := by omega
    obtain ⟨m0, m1⟩ := hm (rd O i) (by rw [rd_get O h0 hlt]; exact List.getElem_mem _)
    refine Ev.step (f := fun k => customslaw35_TransitBelief.l0 k l1 X O (Y ++ [rd_T53 X (rd O i)]) (i + 1)) (fun k => ?_) (ih _ (i + 1) (by omega) (by omega) (by simp; omega) (fun x hx => ?_))
    · simp only [customslaw35_TransitBelief.l0]
      rw [if_pos hlt, if_pos h0, if_pos m0, if_pos m1, if_pos (by omega), wp64 (by omega) (by omega)]
    · rcases List.mem_append.1 hx with hx | hx
      · exact hY x hx
      · rw [List.mem_singleton.1 hx]
        exact rd53_mem X m0 m1
theorem TransitBelief : customslaw35_TransitBelief.Pure := by
  intro l0 l1 l2 _ _ _ _ _ _ _ hz _
  obtain ⟨X, eX, hX⟩ := incidents_ev l0
  obtain ⟨O, eO, hO, hm⟩ := order_ev X.length (by omega) l2 (by omega)
  exact Ev.rounds (Ev.congr (fun k => rfl) (Ev.bind eX (Ev.bind eO (belief_l0 l1 X hX O (by omega) hm O.length [] 0 (by omega) (by omega) (by simp) (fun x hx => by simp at hx)))))
end Go.Proofs.YtbndoihcejieoaaDoor.Pure
