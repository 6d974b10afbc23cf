/-
  The pure statement of the law CalendarMonths: its Lean function answers true at every input. Conditions: the bounds of the given row's reading alone.
-/
import Derived.Test.YtlmcejiebobfbaaDoorPCalOf
import Derived.Test.YtlmcejiebobfbaaDoorGCustomslaw04CalendarMonths
namespace Go.Proofs.YtlmcejiebobfbaaDoor.Pure
open Go.RowKit Go.Proofs.YtlmcejiebobfbaaDoor.G Go.Proofs.YtlmcejiebobfbaaDoorW.PrintWords Go.Proofs.YtlmcejiebobfbaaDoorW.PrintLast Go.Proofs.YtlmcejiebobfbaaDoorW.PrintMore

theorem months_both (x n : Int) : ∃ r, Ev (fun k => calendar_AddMonths.f k x n) r ∧ Ev (fun k => customsref04_AddMonths.f k x n) r := by
  by_cases c : 0 ≤ x ∧ x ≤ 36524 ∧ -1200 ≤ n ∧ n ≤ 1200
  · obtain ⟨c1, c2, c3, c4⟩ := c
    obtain ⟨y, m, d, _, hv, hn⟩ := of_ev c1 c2
    exact ⟨_, add_ev c1 c2 hv hn c3 c4⟩
  · exact ⟨_, add_out c⟩
theorem CalendarMonths : customslaw04_CalendarMonths.Pure := by
  intro a0 a1 a2 _ _
  obtain ⟨K0, h0⟩ := awake_ev
  cases a2 with
  | true =>
    obtain ⟨r, ⟨K1, h1⟩, ⟨K2, h2⟩⟩ := months_both a0 a1
    dsimp only at h0 h1 h2
    refine ⟨K0 + K1 + K2, ?_⟩
    unfold customslaw04_CalendarMonths.f
    rw [if_pos rfl, h1 _ (by omega), h2 _ (by omega)]
    simp only [Option.bind_some]
    rw [if_pos trivial, if_pos trivial, h0 _ (by omega)]
    rfl
  | false =>
    obtain ⟨r, ⟨K1, h1⟩, ⟨K2, h2⟩⟩ := months_both (a0 % 36525) (a1 % 2401 - 1200)
    dsimp only at h0 h1 h2
    refine ⟨K0 + K1 + K2, ?_⟩
    unfold customslaw04_CalendarMonths.f
    rw [if_neg (by decide), day_made, within_f a1 2401 (by omega) (by omega)]
    simp only [Option.bind_some]
    rw [w64 (by omega) (by omega), h1 _ (by omega), h2 _ (by omega)]
    simp only [Option.bind_some]
    rw [if_pos trivial, if_pos trivial, h0 _ (by omega)]
    rfl
end Go.Proofs.YtlmcejiebobfbaaDoor.Pure
