/-
  Plain mathematics: what these functions answer; at the end the law's pure statement. No program's memory in sight.
-/
import Derived.Test.YtgmedimcejnkjaaDoorQCorew1
import Derived.Test.YtgmedimcejnkjaaDoorQCorea1
import Derived.Test.YtgmedimcejnkjaaDoorQProcedureNexta1
import Derived.Test.YtgmedimcejnkjaaDoorQCoreb1
namespace Go.Proofs.YtgmedimcejnkjaaDoor.Pure
open Go.RowKit Go.Proofs.YtgmedimcejnkjaaDoor.G Go.Proofs.YtgmedimcejnkjaaDoorW.PrintWords Go.Proofs.YtgmedimcejnkjaaDoorW.PrintLast Go.Proofs.YtgmedimcejnkjaaDoorW.PrintMore
set_option linter.unusedSimpArgs false
set_option linter.unusedVariables false

theorem pn_core (p a : Int) : Ev (fun k => customslaw24_ProcedureNext.j0 k p a) true :=
  Ev.step (fun k => rfl) (Ev.bind (next_ev p a) (Ev.bind (rnext_ev p a) (Ev.congr (fun k => by rw [if_pos rfl, if_pos rfl]) (Ev.bind (class_ev p).1 (Ev.bind (class_ev p).2 (Ev.congr (fun k => if_pos rfl) (Ev.bind awake_ev (Ev.now true))))))))
theorem ProcedureNext : customslaw24_ProcedureNext.Pure := by
  intro a0 a1 a2 _ _
  unfold customslaw24_ProcedureNext.f
  cases a2
  · obtain ⟨k, hk⟩ := (pn_core (a0 % 14) (a1 % 16)).rounds
    refine ⟨k, ?_⟩
    rw [if_neg (by decide), within24 a0 14 (by omega) (by omega), within24 a1 16 (by omega) (by omega)]
    exact hk
  · obtain ⟨k, hk⟩ := (pn_core a0 a1).rounds
    exact ⟨k, (if_pos rfl).trans hk⟩
end Go.Proofs.YtgmedimcejnkjaaDoor.Pure

