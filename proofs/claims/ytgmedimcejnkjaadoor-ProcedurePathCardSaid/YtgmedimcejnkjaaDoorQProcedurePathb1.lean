/-
  Plain mathematics: what these functions answer; at the end the law's pure statement. No program's memory in sight.
-/
import Derived.Test.YtgmedimcejnkjaaDoorQCorew1
import Derived.Test.YtgmedimcejnkjaaDoorQCorea1
import Derived.Test.YtgmedimcejnkjaaDoorQProcedurePatha1
import Derived.Test.YtgmedimcejnkjaaDoorQCoreb1
namespace Go.Proofs.YtgmedimcejnkjaaDoor.Pure
open Go.RowKit Go.Proofs.YtgmedimcejnkjaaDoor.G Go.Proofs.YtgmedimcejnkjaaDoorW.PrintWords Go.Proofs.YtgmedimcejnkjaaDoorW.PrintLast Go.Proofs.YtgmedimcejnkjaaDoorW.PrintMore
set_option linter.unusedSimpArgs false
set_option linter.unusedVariables false

theorem rpath_in : ∀ i ∈ List.range 14, ∀ j ∈ List.range 14, customsref24_Path.f 3000 (i : Int) (j : Int) = some (bestOf i j) := by decide +kernel
end Go.Proofs.YtgmedimcejnkjaaDoor.Pure

namespace Go.Proofs.YtgmedimcejnkjaaDoor.Pure
open Go.RowKit Go.Proofs.YtgmedimcejnkjaaDoor.G Go.Proofs.YtgmedimcejnkjaaDoorW.PrintWords Go.Proofs.YtgmedimcejnkjaaDoorW.PrintLast Go.Proofs.YtgmedimcejnkjaaDoorW.PrintMore
set_option linter.unusedSimpArgs false
set_option linter.unusedVariables false

/-- Both ways, alike. -/
theorem path_ev (p q : Int) : ∃ r : List Int × Bool, r.1.length ≤ 100 ∧ Ev (fun k => procedure_Path.f k p q) r ∧ Ev (fun k => customsref24_Path.f k p q) r := by
  by_cases h : p < 0 ∨ p ≥ 14 ∨ q < 0 ∨ q ≥ 14
  · refine ⟨([], false), by simp, ⟨1, fun k hk => ?_⟩, ⟨1, fun k hk => ?_⟩⟩
    · show procedure_Path.f k p q = some ([], false)
      unfold procedure_Path.f
      by_cases h1 : p < 0
      · rw [if_pos h1]
      by_cases h2 : p ≥ 14
      · rw [if_neg h1, if_pos h2]
      by_cases h3 : q < 0
      · rw [if_neg h1, if_neg h2, if_pos h3]
      rw [if_neg h1, if_neg h2, if_neg h3, if_pos (by omega)]
    · obtain ⟨j, rfl⟩ : ∃ j, k = j + 1 := ⟨k - 1, by omega⟩
      show customsref24_Path.f (j + 1) p q = some ([], false)
      unfold customsref24_Path.f
      by_cases h1 : p < 0
      · rw [if_pos h1]; rfl
      by_cases h2 : p > 13
      · rw [if_neg h1, if_pos h2]; rfl
      by_cases h3 : q < 0
      · rw [if_neg h1, if_neg h2, if_pos h3]; rfl
      rw [if_neg h1, if_neg h2, if_neg h3, decide_eq_true (by omega : q > 13)]; rfl
  · obtain ⟨i, hi, rfl⟩ := in_range (n := 14) (p := p) (by omega) (by omega)
    obtain ⟨j, hj, rfl⟩ := in_range (n := 14) (p := q) (by omega) (by omega)
    exact ⟨bestOf i j, best_short i hi j hj, Ev.of (fun k => procedure_Path.mono _ _ k) (path_in i hi j hj), Ev.of (fun k => customsref24_Path.mono _ _ k) (rpath_in i hi j hj)⟩
theorem pp_loop (l : List Int) (hl : l.length ≤ 100) (d : Nat) : ∀ i : Int, (l.length : Int) - i = d → 0 ≤ i → Ev (fun k => customslaw24_ProcedurePath.l0 k l l i) true := by
  induction d with
  | zero => exact fun i h h0 => Ev.step (f := fun k => (customslaw24_awake.f k).bind fun t => some t) (fun k => by rw [customslaw24_ProcedurePath.l0, if_neg (by omega)]) (Ev.bind awake_ev (Ev.now true))
  | succ d ih =>
    intro i h h0
    refine Ev.step (fun k => ?_) (ih (i + 1) (by omega) (by omega))
    rw [customslaw24_ProcedurePath.l0, if_pos (by omega), if_pos h0, if_pos (by omega), if_pos rfl, w6424 (by omega) (by omega)]
theorem pp_core (p q : Int) : Ev (fun k => customslaw24_ProcedurePath.j0 k p q) true := by
  obtain ⟨⟨l, b⟩, hl, h1, h2⟩ := path_ev p q
  refine Ev.step (fun k => rfl) (Ev.bind h1 (Ev.bind h2 (Ev.congr (fun k => ?_) (Ev.step (g := fun k => customslaw24_ProcedurePath.j1 k l l false) (fun k => by rw [customslaw24_ProcedurePath.j1, if_neg (by decide)]) (pp_loop l hl l.length 0 (by omega) (by omega))))))
  rw [if_neg (by simp)]
  simp
theorem ProcedurePath : customslaw24_ProcedurePath.Pure := by
  intro a0 a1 a2 _ _
  unfold customslaw24_ProcedurePath.f
  cases a2
  · obtain ⟨k, hk⟩ := (pp_core (a0 % 14) (a1 % 14)).rounds
    refine ⟨k, ?_⟩
    rw [if_neg (by decide), within24 a0 14 (by omega) (by omega), within24 a1 14 (by omega) (by omega)]
    exact hk
  · obtain ⟨k, hk⟩ := (pp_core a0 a1).rounds
    exact ⟨k, (if_pos rfl).trans hk⟩
end Go.Proofs.YtgmedimcejnkjaaDoor.Pure

