/-
  Plain mathematics: what these functions answer; at the end the law's pure statement. No program's memory in sight.
-/
import Derived.Test.YtgmedimcejnkjaaDoorQCorew1
import Derived.Test.YtgmedimcejnkjaaDoorQProcedureShortw1
import Derived.Test.YtgmedimcejnkjaaDoorQCorea1
import Derived.Test.YtgmedimcejnkjaaDoorQProcedureShorta1
import Derived.Test.YtgmedimcejnkjaaDoorQCoreb1
namespace Go.Proofs.YtgmedimcejnkjaaDoor.Pure
open Go.RowKit Go.Proofs.YtgmedimcejnkjaaDoor.G Go.Proofs.YtgmedimcejnkjaaDoorW.PrintWords Go.Proofs.YtgmedimcejnkjaaDoorW.PrintLast Go.Proofs.YtgmedimcejnkjaaDoorW.PrintMore
set_option linter.unusedSimpArgs false
set_option linter.unusedVariables false

/-- Actions carried out, up to the first that isn't possible. -/
def rn : Int → List Int → Int → Int × Int
  | p, [], i => (p, i)
  | p, a :: t, i => if (nx p a).2 = 0 then rn (nx p a).1 t (i + 1) else (p, i)
theorem drop_rd (l : List Int) {i : Int} (h0 : 0 ≤ i) (h1 : i < l.length) : l.drop i.toNat = rd l i :: l.drop (i + 1).toNat := by
  have e : (i + 1).toNat = i.toNat + 1 := by omega
  have hlt : i.toNat < l.length := by omega
  rw [e, List.drop_eq_getElem_cons hlt]
  unfold rd
  rw [List.getD_eq_getElem?_getD, List.getElem?_eq_getElem hlt]
  rfl
theorem run_l0 (l : List Int) (hl : l.length ≤ 20000000000000) (d : Nat) : ∀ (p i : Int), (l.length : Int) - i = d → 0 ≤ i → Ev (fun k => procedure_Run.l0 k p l l (l.length : Int) i) (rn p (l.drop i.toNat) i) := by
  induction d with
  | zero =>
    intro p i h h0
    have e : l.drop i.toNat = [] := List.drop_eq_nil_of_le (by omega)
    have ei : i = l.length := by omega
    rw [e]
    exact Ev.step (f := fun k => some (p, (l.length : Int))) (fun k => by rw [procedure_Run.l0, if_neg (by omega)]) (by rw [rn, ei]; exact Ev.now _)
  | succ d ih =>
    intro p i h h0
    rw [drop_rd l h0 (by omega), rn]
    refine Ev.step (f := fun k => (procedure_Next.f k p (rd l i)).bind fun bt188 => (if bt188.2 = 0 then (procedure_Run.l0 k bt188.1 l l (l.length : Int) (wrap64 (i + 1))) else (some (p, i)))) (fun k => by rw [procedure_Run.l0, if_pos (by omega), if_pos h0, if_pos (by omega)]) (Ev.bind (next_ev p (rd l i)) ?_)
    by_cases c : (nx p (rd l i)).2 = 0
    · rw [if_pos c]
      refine Ev.congr (fun k => if_pos c) ?_
      rw [w6424 (by omega) (by omega)]
      exact ih _ (i + 1) (by omega) (by omega)
    · rw [if_neg c]
      exact Ev.congr (fun k => if_neg c) (Ev.now _)
theorem rrun_l0 (l : List Int) (hl : l.length ≤ 20000000000000) (d : Nat) : ∀ (p i : Int), (l.length : Int) - i = d → 0 ≤ i → Ev (fun k => customsref24_Run.l0 k p l i) (rn p (l.drop i.toNat) i) := by
  induction d with
  | zero =>
    intro p i h h0
    have e : l.drop i.toNat = [] := List.drop_eq_nil_of_le (by omega)
    have ei : i = l.length := by omega
    rw [e]
    exact Ev.step (f := fun k => some (p, (l.length : Int))) (fun k => by rw [customsref24_Run.l0, if_neg (by omega)]) (by rw [rn, ei]; exact Ev.now _)
  | succ d ih =>
    intro p i h h0
    rw [drop_rd l h0 (by omega), rn]
    refine Ev.step (f := fun k => (customsref24_Next.f k p (rd l i)).bind fun bt191 => (if bt191.2 = 0 then (customsref24_Run.l0 k bt191.1 l (wrap64 (i + 1))) else (some (p, i)))) (fun k => by rw [customsref24_Run.l0, if_pos (by omega), if_pos h0]) (Ev.bind (rnext_ev p (rd l i)) ?_)
    by_cases c : (nx p (rd l i)).2 = 0
    · rw [if_pos c]
      refine Ev.congr (fun k => if_pos c) ?_
      rw [w6424 (by omega) (by omega)]
      exact ih _ (i + 1) (by omega) (by omega)
    · rw [if_neg c]
      exact Ev.congr (fun k => if_neg c) (Ev.now _)
theorem run_ev (p : Int) (l : List Int) (hl : l.length ≤ 20000000000000) : Ev (fun k => procedure_Run.f k p l) (rn p l 0) := run_l0 l hl l.length p 0 (by omega) (by omega)
theorem rrun_ev (p : Int) (l : List Int) (hl : l.length ≤ 20000000000000) : Ev (fun k => customsref24_Run.f k p l) (rn p l 0) := rrun_l0 l hl l.length p 0 (by omega) (by omega)
theorem act_l0 (x0 : List Int) (hl : x0.length ≤ 40) (d : Nat) : ∀ (x3 : List Int) (i : Int), (x0.length : Int) - i = d → 0 ≤ i → (x3.length : Int) = i → (∀ a ∈ x3, 1 ≤ a ∧ a ≤ 14) → ∃ m : List Int, Ev (fun k => customslaw24_actions.l0 k x0 x3 i) m ∧ m.length ≤ 40 ∧ ∀ a ∈ m, 1 ≤ a ∧ a ≤ 14 := by
  induction d with
  | zero => exact fun x3 i h h0 h3 ha => ⟨x3, Ev.step (f := fun k => some x3) (fun k => by rw [customslaw24_actions.l0, if_neg (by omega)]) (Ev.now _), by omega, ha⟩
  | succ d ih =>
    intro x3 i h h0 h3 ha
    obtain ⟨m, hm, hm'⟩ := ih (x3 ++ [1 + rd x0 i % 14]) (i + 1) (by omega) (by omega) (by simp; omega) (by
      intro a hin
      rcases List.mem_append.1 hin with q | q
      · exact ha a q
      · have := List.mem_singleton.1 q
        omega)
    refine ⟨m, Ev.step (fun k => ?_) hm, hm'⟩
    rw [customslaw24_actions.l0, if_pos (by omega), if_pos h0, within24 _ 14 (by omega) (by omega)]
    simp only [Option.bind_some]
    rw [if_pos (by omega), w6424 (n := 1 + rd x0 i % 14) (by omega) (by omega), w6424 (n := i + 1) (by omega) (by omega)]
theorem actions_ev (l : List Int) : ∃ m : List Int, Ev (fun k => customslaw24_actions.f k l) m ∧ m.length ≤ 40 ∧ ∀ a ∈ m, 1 ≤ a ∧ a ≤ 14 := by
  obtain ⟨t, ht, htl⟩ : ∃ t, customsmade_Cut.f l 40 = some t ∧ t.length ≤ 40 := by
    unfold customsmade_Cut.f
    by_cases c : (l.length : Int) > 40
    · exact ⟨_, by rw [if_pos c, if_pos (by omega), if_pos (by omega)], by rw [List.length_take]; omega⟩
    · exact ⟨l, by rw [if_neg c], by omega⟩
  obtain ⟨m, hm, hm'⟩ := act_l0 t htl t.length [] 0 (by omega) (by omega) rfl (by simp)
  exact ⟨m, Ev.congr (fun k => by rw [customslaw24_actions.f, ht]; rfl) hm, hm'⟩
end Go.Proofs.YtgmedimcejnkjaaDoor.Pure

namespace Go.Proofs.YtgmedimcejnkjaaDoor.Pure
open Go.RowKit Go.Proofs.YtgmedimcejnkjaaDoor.G Go.Proofs.YtgmedimcejnkjaaDoorW.PrintWords Go.Proofs.YtgmedimcejnkjaaDoorW.PrintLast Go.Proofs.YtgmedimcejnkjaaDoorW.PrintMore
set_option linter.unusedSimpArgs false
set_option linter.unusedVariables false

/-- Before another list, or its beginning. -/
def lexle : List Int → List Int → Bool
  | [], _ => true
  | _ :: _, [] => false
  | x :: xs, y :: ys => decide (x < y) || (decide (x = y) && lexle xs ys)
theorem lexle_cons {x y : Int} {xs ys : List Int} : lexle (x :: xs) (y :: ys) = true ↔ x < y ∨ (x = y ∧ lexle xs ys = true) := by
  rw [lexle]
  simp
theorem lexle_trans : ∀ {x y z : List Int}, lexle x y = true → lexle y z = true → lexle x z = true
  | [], _, _, _, _ => by rw [lexle]
  | _ :: _, [], _, h, _ => by rw [lexle] at h; cases h
  | _ :: _, _ :: _, [], _, h => by rw [lexle] at h; cases h
  | a :: x, b :: y, c :: z, h, h' => by
    rw [lexle_cons] at h h' ⊢
    rcases h with h | ⟨h, h1⟩
    · rcases h' with h' | ⟨h', h2⟩
      · exact .inl (by omega)
      · exact .inl (by omega)
    · rcases h' with h' | ⟨h', h2⟩
      · exact .inl (by omega)
      · exact .inr ⟨by omega, lexle_trans h1 h2⟩
theorem lexle_snoc (a : Int) : ∀ {x y : List Int}, x.length = y.length → lexle x y = true → lexle (x ++ [a]) (y ++ [a]) = true
  | [], [], _, _ => by rw [List.nil_append, lexle_cons]; exact .inr ⟨rfl, by rw [lexle]⟩
  | [], _ :: _, h, _ => by simp at h
  | _ :: _, [], h, _ => by simp at h
  | b :: x, c :: y, h, h' => by
    rw [lexle_cons] at h'
    rw [List.cons_append, List.cons_append, lexle_cons]
    rcases h' with h' | ⟨h', h1⟩
    · exact .inl h'
    · exact .inr ⟨h', lexle_snoc a (by simpa using h) h1⟩
theorem lexle_take : ∀ {x y : List Int} (n : Nat), lexle x (y.take n) = true → lexle x y = true
  | [], _, _, _ => by rw [lexle]
  | _ :: _, [], n, h => by rw [List.take_nil] at h; exact h
  | _ :: _, _ :: _, 0, h => by rw [List.take_zero, lexle] at h; cases h
  | a :: x, b :: y, n + 1, h => by
    rw [List.take_succ_cons, lexle_cons] at h
    rw [lexle_cons]
    rcases h with h | ⟨h, h1⟩
    · exact .inl h
    · exact .inr ⟨h, lexle_take n h1⟩
/-- One action more. -/
def stepOK (i q a : Nat) : Bool :=
  let b := bestOf i q; let r := nx q (a + 1 : Int); let b' := bestOf i r.1.toNat
  if b.2 = true ∧ r.2 = 0 then decide (0 ≤ r.1 ∧ r.1 < 14) && b'.2 && (decide (b'.1.length < b.1.length + 1) || (decide (b'.1.length = b.1.length + 1) && lexle b'.1 (b.1 ++ [(a + 1 : Int)]))) else true
theorem step_in : ∀ i ∈ List.range 14, ∀ q ∈ List.range 14, ∀ a ∈ List.range 14, stepOK i q a = true := by decide +kernel
theorem back_in : ∀ i ∈ List.range 14, ∀ q ∈ List.range 14, (bestOf i q).2 = true → rn (i : Int) (bestOf i q).1 0 = ((q : Int), ((bestOf i q).1.length : Int)) := by decide +kernel
theorem start_in : ∀ i ∈ List.range 14, bestOf i i = ([], true) := by decide +kernel
/-- The shortest way is no longer than this one, and not behind it. -/
def Good (i q : Nat) (s : List Int) : Prop := q < 14 ∧ (bestOf i q).2 = true ∧ ((bestOf i q).1.length < s.length ∨ ((bestOf i q).1.length = s.length ∧ lexle (bestOf i q).1 s = true))
theorem Good.step {i q : Nat} {s : List Int} (hi : i < 14) (h : Good i q s) {a : Int} (h1 : 1 ≤ a) (h2 : a ≤ 14) (hn : (nx q a).2 = 0) : ∃ q' : Nat, (nx q a).1 = q' ∧ Good i q' (s ++ [a]) := by
  obtain ⟨g1, g2, g3⟩ := h
  obtain ⟨j, hj, e⟩ := in_range (n := 14) (p := a - 1) (by omega) (by omega)
  have e' : a = (j : Int) + 1 := by omega
  subst e'
  have hs := step_in i (List.mem_range.2 hi) q (List.mem_range.2 g1) j hj
  unfold stepOK at hs
  simp only at hs
  rw [if_pos ⟨g2, hn⟩] at hs
  simp only [Bool.and_eq_true, Bool.or_eq_true, decide_eq_true_eq] at hs
  obtain ⟨⟨⟨a1, a2⟩, a3⟩, a4⟩ := hs
  refine ⟨(nx q (j + 1)).1.toNat, by omega, by omega, a3, ?_⟩
  rw [List.length_append, List.length_singleton]
  rcases a4 with a4 | ⟨a4, a5⟩
  · rcases g3 with g3 | ⟨g3, g4⟩
    · exact .inl (by omega)
    · exact .inl (by omega)
  · rcases g3 with g3 | ⟨g3, g4⟩
    · exact .inl (by omega)
    · exact .inr ⟨by omega, lexle_trans a5 (lexle_snoc _ g3 g4)⟩
theorem good_run {i : Nat} (hi : i < 14) : ∀ (m s : List Int) (q : Nat), (∀ a ∈ m, 1 ≤ a ∧ a ≤ 14) → Good i q s → ∃ (e n : Nat), rn q m s.length = ((e : Int), (n : Int)) ∧ n ≤ s.length + m.length ∧ Good i e ((s ++ m).take n)
  | [], s, q, _, h => ⟨q, s.length, rfl, by simp, by simpa using h⟩
  | a :: t, s, q, ha, h => by
    by_cases c : (nx q a).2 = 0
    · obtain ⟨q', e1, h'⟩ := h.step hi (ha a (.head _)).1 (ha a (.head _)).2 c
      obtain ⟨e, n, h1, h2, h3⟩ := good_run hi t (s ++ [a]) q' (fun x hx => ha x (.tail _ hx)) h'
      refine ⟨e, n, ?_, ?_, ?_⟩
      · rw [rn, if_pos c, e1]
        rw [List.length_append, List.length_singleton] at h1
        have e2 : ((s.length : Int) + 1) = ((s.length + 1 : Nat) : Int) := by omega
        rw [e2]
        exact h1
      · rw [List.length_append, List.length_singleton] at h2
        rw [List.length_cons]
        omega
      · rw [List.append_assoc, List.singleton_append] at h3
        exact h3
    · refine ⟨q, s.length, by rw [rn, if_neg c], by omega, ?_⟩
      rw [List.take_left']
      · exact h
      · rfl
theorem awake_bind : Ev (fun k => (customslaw24_awake.f k).bind fun t => some t) true := Ev.bind awake_ev (Ev.now true)
theorem short_off (m a : List Int) (n i : Int) : Ev (fun k => customslaw24_ProcedureShort.j2 k m n a i false) true :=
  Ev.step (fun k => by rw [customslaw24_ProcedureShort.j2, if_neg (by decide)]) awake_bind
theorem short_loop (m a : List Int) (n : Int) (hn : (a.length : Int) = n) (hm : a.length ≤ m.length) (hl : m.length ≤ 40) (d : Nat) : ∀ i : Int, (a.length : Int) - i = d → 0 ≤ i → lexle (a.drop i.toNat) (m.drop i.toNat) = true → Ev (fun k => customslaw24_ProcedureShort.l0 k m n a i) true := by
  induction d with
  | zero => exact fun i h h0 _ => Ev.step (fun k => by rw [customslaw24_ProcedureShort.l0, if_neg (by omega)]) (short_off m a n i)
  | succ d ih =>
    intro i h h0 hx
    rw [drop_rd a h0 (by omega), drop_rd m h0 (by omega), lexle_cons] at hx
    refine Ev.step (f := fun k => customslaw24_ProcedureShort.j2 k m n a i true) (fun k => by rw [customslaw24_ProcedureShort.l0, if_pos (by omega), beq_iff_eq.2 hn]) ?_
    rcases hx with hx | ⟨hx, hx'⟩
    · exact Ev.step (fun k => by rw [customslaw24_ProcedureShort.j2, if_pos rfl, if_pos h0, if_pos (by omega), if_pos (by omega), if_neg (by omega), if_pos hx]) awake_bind
    · refine Ev.step (fun k => ?_) (ih (i + 1) (by omega) (by omega) hx')
      rw [customslaw24_ProcedureShort.j2, if_pos rfl, if_pos h0, if_pos (by omega), if_pos (by omega), if_pos hx, w6424 (by omega) (by omega)]
theorem short_end (m : List Int) (hl : m.length ≤ 40) (n : Nat) (hn : n ≤ m.length) (a : List Int) (h : a.length < (m.take n).length ∨ (a.length = (m.take n).length ∧ lexle a (m.take n) = true)) : Ev (fun k => customslaw24_ProcedureShort.j0 k m n a (decide ((a.length : Int) > n))) true := by
  have ht : (m.take n).length = n := by rw [List.length_take]; omega
  rw [ht] at h
  rw [decide_eq_false (by omega)]
  refine Ev.step (f := fun k => customslaw24_ProcedureShort.l0 k m n a 0) (fun k => by rw [customslaw24_ProcedureShort.j0, if_neg (by decide)]) ?_
  rcases h with h | ⟨h, hx⟩
  · by_cases c : (0 : Int) < (a.length : Int)
    · exact Ev.step (f := fun k => customslaw24_ProcedureShort.j2 k m n a 0 false) (fun k => by rw [customslaw24_ProcedureShort.l0, if_pos c, beq_eq_false_iff_ne.2 (by omega)]) (short_off _ _ _ _)
    · exact Ev.step (f := fun k => customslaw24_ProcedureShort.j2 k m n a 0 false) (fun k => by rw [customslaw24_ProcedureShort.l0, if_neg c]) (short_off _ _ _ _)
  · exact short_loop m a n (by omega) (by omega) hl a.length 0 (by omega) (by omega) (lexle_take n hx)
theorem ProcedureShort : customslaw24_ProcedureShort.Pure := by
  intro a0 l1 _ _ _ _
  unfold customslaw24_ProcedureShort.f
  obtain ⟨m, hm, hm1, hm2⟩ := actions_ev l1
  obtain ⟨i, hi, ei⟩ := in_range (n := 14) (p := a0 % 14) (by omega) (by omega)
  have hi' : i < 14 := List.mem_range.1 hi
  obtain ⟨e, n, h1, h2, h3⟩ := good_run hi' m [] i hm2 ⟨hi', by rw [start_in i hi], .inr (by rw [start_in i hi]; exact ⟨rfl, rfl⟩)⟩
  rw [List.nil_append] at h3
  obtain ⟨g1, g2, g3⟩ := h3
  have hb := best_short i hi e (List.mem_range.2 g1)
  have hp : Ev (fun k => procedure_Path.f k (i : Int) (e : Int)) (bestOf i e) := Ev.of (fun k => procedure_Path.mono _ _ k) (path_in i hi e (List.mem_range.2 g1))
  have hr := run_ev (i : Int) m (by omega)
  rw [show rn (i : Int) m 0 = ((e : Int), (n : Int)) from h1] at hr
  have hr2 := run_ev (i : Int) (bestOf i e).1 (by omega)
  rw [back_in i hi e (List.mem_range.2 g1) g2] at hr2
  have hz := short_end m hm1 n (by simpa using h2) (bestOf i e).1 g3
  obtain ⟨K1, hm⟩ := hm
  obtain ⟨K2, hr⟩ := hr
  obtain ⟨K3, hp⟩ := hp
  obtain ⟨K4, hr2⟩ := hr2
  obtain ⟨K5, hz⟩ := hz
  dsimp only at hm hr hp hr2 hz
  refine ⟨K1 + K2 + K3 + K4 + K5, ?_⟩
  rw [within24 a0 14 (by omega) (by omega), ← ei]
  simp only [Option.bind_some]
  rw [hm _ (by omega)]
  simp only [Option.bind_some]
  rw [hr _ (by omega)]
  simp only [Option.bind_some]
  rw [hp _ (by omega)]
  simp only [Option.bind_some]
  rw [hr2 _ (by omega)]
  simp only [Option.bind_some]
  rw [if_pos g2, if_pos trivial, if_pos trivial]
  exact hz _ (by omega)
end Go.Proofs.YtgmedimcejnkjaaDoor.Pure

