/-
  Plain mathematics: what these functions answer; at the end the law's pure statement. No program's memory in sight.
-/
import Derived.Test.YtgmedimcejnkjaaDoorQCorew1
import Derived.Test.YtgmedimcejnkjaaDoorQProcedureRunw1
import Derived.Test.YtgmedimcejnkjaaDoorQCorea1
import Derived.Test.YtgmedimcejnkjaaDoorQProcedureRuna1
import Derived.Test.YtgmedimcejnkjaaDoorQCoreb1
namespace Go.Proofs.YtgmedimcejnkjaaDoor.Pure
open Go.RowKit Go.Proofs.YtgmedimcejnkjaaDoor.G Go.Proofs.YtgmedimcejnkjaaDoorW.PrintWords Go.Proofs.YtgmedimcejnkjaaDoorW.PrintLast Go.Proofs.YtgmedimcejnkjaaDoorW.PrintMore
set_option linter.unusedSimpArgs false
set_option linter.unusedVariables false

/-- Actions carried out, up to the first that isn't possible. -/
def rn : Int → List Int → Int → Int × Int
  | p, [], i => (p, i)
  | p, a :: t, i => if (nx p a).2 = 0 then rn (nx p a).1 t (i + 1) else (p, i)
theorem drop_rd (l : List Int) {i : Int} (h0 : 0 ≤ i) (h1 : i < l.length) : l.drop i.toNat = rd l i :: l.drop (i + 1).toNat := by
  have e : (i + 1).toNat = i.toNat + 1 := by omega
  have hlt : i.toNat < l.length := by omega
  rw [e, List.drop_eq_getElem_cons hlt]
  unfold rd
  rw [List.getD_eq_getElem?_getD, List.getElem?_eq_getElem hlt]
  rfl
theorem run_l0 (l : List Int) (hl : l.length ≤ 20000000000000) (d : Nat) : ∀ (p i : Int), (l.length : Int) - i = d → 0 ≤ i → Ev (fun k => procedure_Run.l0 k p l l (l.length : Int) i) (rn p (l.drop i.toNat) i) := by
  induction d with
  | zero =>
    intro p i h h0
    have e : l.drop i.toNat = [] := List.drop_eq_nil_of_le (by omega)
    have ei : i = l.length := by omega
    rw [e]
    exact Ev.step (f := fun k => some (p, (l.length : Int))) (fun k => by rw [procedure_Run.l0, if_neg (by omega)]) (by rw [rn, ei]; exact Ev.now _)
  | succ d ih =>
    intro p i h h0
    rw [drop_rd l h0 (by omega), rn]
    refine Ev.step (f := fun k => (procedure_Next.f k p (rd l i)).bind fun bt188 => (if bt188.2 = 0 then (procedure_Run.l0 k bt188.1 l l (l.length : Int) (wrap64 (i + 1))) else (some (p, i)))) (fun k => by rw [procedure_Run.l0, if_pos (by omega), if_pos h0, if_pos (by omega)]) (Ev.bind (next_ev p (rd l i)) ?_)
    by_cases c : (nx p (rd l i)).2 = 0
    · rw [if_pos c]
      refine Ev.congr (fun k => if_pos c) ?_
      rw [w6424 (by omega) (by omega)]
      exact ih _ (i + 1) (by omega) (by omega)
    · rw [if_neg c]
      exact Ev.congr (fun k => if_neg c) (Ev.now _)
theorem rrun_l0 (l : List Int) (hl : l.length ≤ 20000000000000) (d : Nat) : ∀ (p i : Int), (l.length : Int) - i = d → 0 ≤ i → Ev (fun k => customsref24_Run.l0 k p l i) (rn p (l.drop i.toNat) i) := by
  induction d with
  | zero =>
    intro p i h h0
    have e : l.drop i.toNat = [] := List.drop_eq_nil_of_le (by omega)
    have ei : i = l.length := by omega
    rw [e]
    exact Ev.step (f := fun k => some (p, (l.length : Int))) (fun k => by rw [customsref24_Run.l0, if_neg (by omega)]) (by rw [rn, ei]; exact Ev.now _)
  | succ d ih =>
    intro p i h h0
    rw [drop_rd l h0 (by omega), rn]
    refine Ev.step (f := fun k => (customsref24_Next.f k p (rd l i)).bind fun bt191 => (if bt191.2 = 0 then (customsref24_Run.l0 k bt191.1 l (wrap64 (i + 1))) else (some (p, i)))) (fun k => by rw [customsref24_Run.l0, if_pos (by omega), if_pos h0]) (Ev.bind (rnext_ev p (rd l i)) ?_)
    by_cases c : (nx p (rd l i)).2 = 0
    · rw [if_pos c]
      refine Ev.congr (fun k => if_pos c) ?_
      rw [w6424 (by omega) (by omega)]
      exact ih _ (i + 1) (by omega) (by omega)
    · rw [if_neg c]
      exact Ev.congr (fun k => if_neg c) (Ev.now _)
theorem run_ev (p : Int) (l : List Int) (hl : l.length ≤ 20000000000000) : Ev (fun k => procedure_Run.f k p l) (rn p l 0) := run_l0 l hl l.length p 0 (by omega) (by omega)
theorem rrun_ev (p : Int) (l : List Int) (hl : l.length ≤ 20000000000000) : Ev (fun k => customsref24_Run.f k p l) (rn p l 0) := rrun_l0 l hl l.length p 0 (by omega) (by omega)
theorem act_l0 (x0 : List Int) (hl : x0.length ≤ 40) (d : Nat) : ∀ (x3 : List Int) (i : Int), (x0.length : Int) - i = d → 0 ≤ i → (x3.length : Int) = i → (∀ a ∈ x3, 1 ≤ a ∧ a ≤ 14) → ∃ m : List Int, Ev (fun k => customslaw24_actions.l0 k x0 x3 i) m ∧ m.length ≤ 40 ∧ ∀ a ∈ m, 1 ≤ a ∧ a ≤ 14 := by
  induction d with
  | zero => exact fun x3 i h h0 h3 ha => ⟨x3, Ev.step (f := fun k => some x3) (fun k => by rw [customslaw24_actions.l0, if_neg (by omega)]) (Ev.now _), by omega, ha⟩
  | succ d ih =>
    intro x3 i h h0 h3 ha
    obtain ⟨m, hm, hm'⟩ := ih (x3 ++ [1 + rd x0 i % 14]) (i + 1) (by omega) (by omega) (by simp; omega) (by
      intro a hin
      rcases List.mem_append.1 hin with q | q
      · exact ha a q
      · have := List.mem_singleton.1 q
        omega)
    refine ⟨m, Ev.step (fun k => ?_) hm, hm'⟩
    rw [customslaw24_actions.l0, if_pos (by omega), if_pos h0, within24 _ 14 (by omega) (by omega)]
    simp only [Option.bind_some]
    rw [if_pos (by omega), w6424 (n := 1 + rd x0 i % 14) (by omega) (by omega), w6424 (n := i + 1) (by omega) (by omega)]
theorem actions_ev (l : List Int) : ∃ m : List Int, Ev (fun k => customslaw24_actions.f k l) m ∧ m.length ≤ 40 ∧ ∀ a ∈ m, 1 ≤ a ∧ a ≤ 14 := by
  obtain ⟨t, ht, htl⟩ : ∃ t, customsmade_Cut.f l 40 = some t ∧ t.length ≤ 40 := by
    unfold customsmade_Cut.f
    by_cases c : (l.length : Int) > 40
    · exact ⟨_, by rw [if_pos c, if_pos (by omega), if_pos (by omega)], by rw [List.length_take]; omega⟩
    · exact ⟨l, by rw [if_neg c], by omega⟩
  obtain ⟨m, hm, hm'⟩ := act_l0 t htl t.length [] 0 (by omega) (by omega) rfl (by simp)
  exact ⟨m, Ev.congr (fun k => by rw [customslaw24_actions.f, ht]; rfl) hm, hm'⟩
end Go.Proofs.YtgmedimcejnkjaaDoor.Pure

namespace Go.Proofs.YtgmedimcejnkjaaDoor.Pure
open Go.RowKit Go.Proofs.YtgmedimcejnkjaaDoor.G Go.Proofs.YtgmedimcejnkjaaDoorW.PrintWords Go.Proofs.YtgmedimcejnkjaaDoorW.PrintLast Go.Proofs.YtgmedimcejnkjaaDoorW.PrintMore
set_option linter.unusedSimpArgs false
set_option linter.unusedVariables false

theorem pr_core (p : Int) (l : List Int) (hl : l.length ≤ 20000000000000) : Ev (fun k => (procedure_Run.f k p l).bind fun bt193 => ((customsref24_Run.f k p l).bind fun bt195 => (if bt193.1 = bt195.1 then (if bt193.2 = bt195.2 then ((customslaw24_awake.f k).bind fun t197 => (some t197)) else (some false)) else (some false)))) true :=
  Ev.bind (run_ev p l hl) (Ev.bind (rrun_ev p l hl) (Ev.congr (fun k => by rw [if_pos rfl, if_pos rfl]) (Ev.bind awake_ev (Ev.now true))))
theorem ProcedureRun : customslaw24_ProcedureRun.Pure := by
  intro a0 l1 a2 _ _ hl _
  unfold customslaw24_ProcedureRun.f
  cases a2
  · obtain ⟨m, hm, hm1, _⟩ := actions_ev l1
    obtain ⟨k, hk⟩ := (Ev.bind (f := fun k t => (procedure_Run.f k (a0 % 14) t).bind fun bt193 => ((customsref24_Run.f k (a0 % 14) t).bind fun bt195 => (if bt193.1 = bt195.1 then (if bt193.2 = bt195.2 then ((customslaw24_awake.f k).bind fun t197 => (some t197)) else (some false)) else (some false)))) hm (pr_core (a0 % 14) m (by omega))).rounds
    refine ⟨k, ?_⟩
    rw [if_neg (by decide), within24 a0 14 (by omega) (by omega)]
    exact hk
  · obtain ⟨k, hk⟩ := (pr_core a0 l1 (by omega)).rounds
    exact ⟨k, (if_pos rfl).trans hk⟩
end Go.Proofs.YtgmedimcejnkjaaDoor.Pure

