/-
  Plain mathematics: what these functions answer; at the end the law's pure statement. No program's memory in sight.
-/
import Derived.Test.YtgmedimcejnkjaaDoorQCorew1
import Derived.Test.YtgmedimcejnkjaaDoorQCorea1
import Derived.Test.YtgmedimcejnkjaaDoorQProcedureClassesa1
import Derived.Test.YtgmedimcejnkjaaDoorQCoreb1
namespace Go.Proofs.YtgmedimcejnkjaaDoor.Pure
open Go.RowKit Go.Proofs.YtgmedimcejnkjaaDoor.G Go.Proofs.YtgmedimcejnkjaaDoorW.PrintWords Go.Proofs.YtgmedimcejnkjaaDoorW.PrintLast Go.Proofs.YtgmedimcejnkjaaDoorW.PrintMore
set_option linter.unusedSimpArgs false
set_option linter.unusedVariables false

/-- The law's own verdict on what was found, without the sanity check. -/
def verdict (p a : Int) : Bool :=
  let e := (nx p a).2; let q := (nx p a).1; let c := cl p
  if c = 3 ∨ c = 4 ∨ p = 9 ∨ p = 12 then e == 17 else if e = 0 then (if c = 2 then cl q == 2 else true) && !(cl q == 0) else e == 17
theorem verdict_in : ∀ i ∈ List.range 13, ∀ j ∈ List.range 14, verdict (i + 1 : Int) (j + 1 : Int) = true := by decide +kernel
theorem pc_done (e q c : Int) (h : e = 17) : Ev (fun k => customslaw24_ProcedureClasses.j0 k q e c true) true :=
  Ev.step (f := fun k => (customslaw24_awake.f k).bind fun t => some t) (fun k => by rw [customslaw24_ProcedureClasses.j0, if_pos rfl, if_pos h]) (Ev.bind awake_ev (Ev.now true))
theorem pc_on (e q c : Int) (h : (if e = 0 then (if c = 2 then cl q == 2 else true) && !(cl q == 0) else e == 17) = true) : Ev (fun k => customslaw24_ProcedureClasses.j0 k q e c false) true := by
  by_cases he : e = 0
  · rw [if_pos he] at h
    by_cases hc : c = 2
    · rw [if_pos hc] at h
      have h2 : cl q = 2 := by simp at h; exact h.1
      exact Ev.step (f := fun k => (procedure_Class.f k q).bind fun t168 => (if t168 = 2 then ((procedure_Class.f k q).bind fun t169 => (if t169 = 0 then (some false) else ((customslaw24_awake.f k).bind fun t170 => (some t170)))) else (some false))) (fun k => by rw [customslaw24_ProcedureClasses.j0, if_neg (by decide), if_pos he, if_pos hc]) (Ev.bind (class_ev q).1 (Ev.congr (fun k => if_pos h2) (Ev.bind (class_ev q).1 (Ev.congr (fun k => if_neg (by omega)) (Ev.bind awake_ev (Ev.now true))))))
    · rw [if_neg hc] at h
      have h2 : ¬ cl q = 0 := by simpa using h
      exact Ev.step (f := fun k => (procedure_Class.f k q).bind fun t169 => (if t169 = 0 then (some false) else ((customslaw24_awake.f k).bind fun t170 => (some t170)))) (fun k => by rw [customslaw24_ProcedureClasses.j0, if_neg (by decide), if_pos he, if_neg hc]) (Ev.bind (class_ev q).1 (Ev.congr (fun k => if_neg h2) (Ev.bind awake_ev (Ev.now true))))
  · rw [if_neg he] at h
    exact Ev.step (f := fun k => (customslaw24_awake.f k).bind fun t => some t) (fun k => by rw [customslaw24_ProcedureClasses.j0, if_neg (by decide), if_neg he, if_pos (by simpa using h)]) (Ev.bind awake_ev (Ev.now true))
theorem pc_core (p a : Int) (h : verdict p a = true) : Ev (fun k => (procedure_Next.f k p a).bind fun bt164 => ((procedure_Class.f k p).bind fun t166 => (if t166 = 3 then (customslaw24_ProcedureClasses.j0 k bt164.1 bt164.2 t166 true) else (if t166 = 4 then (customslaw24_ProcedureClasses.j0 k bt164.1 bt164.2 t166 true) else (if p = 9 then (customslaw24_ProcedureClasses.j0 k bt164.1 bt164.2 t166 true) else (customslaw24_ProcedureClasses.j0 k bt164.1 bt164.2 t166 (p == 12))))))) true := by
  unfold verdict at h
  simp only at h
  refine Ev.bind (next_ev p a) (Ev.bind (class_ev p).1 ?_)
  by_cases h3 : cl p = 3
  · rw [if_pos (.inl h3)] at h
    exact Ev.congr (fun k => if_pos h3) (pc_done _ _ _ (by simpa using h))
  by_cases h4 : cl p = 4
  · rw [if_pos (.inr (.inl h4))] at h
    exact Ev.congr (fun k => by rw [if_neg h3, if_pos h4]) (pc_done _ _ _ (by simpa using h))
  by_cases h9 : p = 9
  · rw [if_pos (.inr (.inr (.inl h9)))] at h
    exact Ev.congr (fun k => by rw [if_neg h3, if_neg h4, if_pos h9]) (pc_done _ _ _ (by simpa using h))
  by_cases h12 : p = 12
  · rw [if_pos (.inr (.inr (.inr h12)))] at h
    exact Ev.congr (fun k => by rw [if_neg h3, if_neg h4, if_neg h9, beq_iff_eq.2 h12]) (pc_done _ _ _ (by simpa using h))
  rw [if_neg (by omega)] at h
  exact Ev.congr (fun k => by rw [if_neg h3, if_neg h4, if_neg h9, beq_eq_false_iff_ne.2 h12]) (pc_on _ _ _ h)
theorem ProcedureClasses : customslaw24_ProcedureClasses.Pure := by
  intro a0 a1 _ _
  unfold customslaw24_ProcedureClasses.f
  obtain ⟨i, hi, e1⟩ := in_range (n := 13) (p := a0 % 13) (by omega) (by omega)
  obtain ⟨j, hj, e2⟩ := in_range (n := 14) (p := a1 % 14) (by omega) (by omega)
  obtain ⟨k, hk⟩ := (pc_core _ _ (verdict_in i hi j hj)).rounds
  refine ⟨k, ?_⟩
  rw [within24 a0 13 (by omega) (by omega), within24 a1 14 (by omega) (by omega)]
  simp only [Option.bind_some]
  rw [w6424 (n := 1 + a0 % 13) (by omega) (by omega), w6424 (n := 1 + a1 % 14) (by omega) (by omega), ← e1, ← e2, Int.add_comm 1 (i : Int), Int.add_comm 1 (j : Int)]
  exact hk
end Go.Proofs.YtgmedimcejnkjaaDoor.Pure

