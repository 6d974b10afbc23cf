/-
  Plain mathematics: what these functions answer; at the end the law's pure statement. No program's memory in sight.
-/
import Derived.Test.YtlmcejiebobfbaaDoorQCorea1
import Derived.Test.YtlmcejiebobfbaaDoorQCorea2
import Derived.Test.YtlmcejiebobfbaaDoorQCorea3
import Derived.Test.YtlmcejiebobfbaaDoorQCalendarNumbersa1
import Derived.Test.YtlmcejiebobfbaaDoorQCoreb1
namespace Go.Proofs.YtlmcejiebobfbaaDoor.Pure
open Go.RowKit Go.Proofs.YtlmcejiebobfbaaDoor.G Go.Proofs.YtlmcejiebobfbaaDoorW.PrintWords Go.Proofs.YtlmcejiebobfbaaDoorW.PrintLast Go.Proofs.YtlmcejiebobfbaaDoorW.PrintMore

theorem numbers_j0 (y m d : Int) : Ev (fun k => customslaw04_CalendarNumbers.j0 k y m d) true := by
  obtain ⟨K0, h0⟩ := awake_ev
  by_cases c : Valid y m d
  · obtain ⟨⟨K1, h1⟩, ⟨K2, h2⟩⟩ := number_ev c
    have hr := num_range c
    obtain ⟨y3, m3, d3, ⟨K3, h3⟩, hv3, hn3⟩ := of_ev hr.1 hr.2
    obtain ⟨rfl, rfl, rfl⟩ := num_inj hv3 c hn3
    dsimp only at h0 h1 h2 h3
    refine ⟨K0 + K1 + K2 + K3 + 2, fun k hk => ?_⟩
    obtain ⟨k, rfl⟩ : ∃ j, k = j + 2 := ⟨k - 2, by omega⟩
    dsimp only
    simp only [customslaw04_CalendarNumbers.j0]
    rw [h1 (k + 1) (by omega), h2 (k + 1) (by omega)]
    simp only [Option.bind_some, bne_self_eq_false]
    rw [if_pos trivial]
    simp only [customslaw04_CalendarNumbers.j1]
    rw [if_neg (by decide), h3 k (by omega)]
    simp only [Option.bind_some, beq_self_eq_true, Bool.and_self]
    rw [if_pos trivial, if_pos trivial, if_pos trivial, h0 k (by omega)]
    rfl
  · obtain ⟨⟨K1, h1⟩, ⟨K2, h2⟩⟩ := number_out c
    obtain ⟨y3, m3, d3, ⟨K3, h3⟩, hv3, hn3⟩ := of_ev (n := 0) (by omega) (by omega)
    dsimp only at h0 h1 h2 h3
    refine ⟨K0 + K1 + K2 + K3 + 2, fun k hk => ?_⟩
    obtain ⟨k, rfl⟩ : ∃ j, k = j + 2 := ⟨k - 2, by omega⟩
    dsimp only
    simp only [customslaw04_CalendarNumbers.j0]
    rw [h1 (k + 1) (by omega), h2 (k + 1) (by omega)]
    simp only [Option.bind_some, bne_self_eq_false]
    rw [if_pos trivial]
    simp only [customslaw04_CalendarNumbers.j1]
    rw [if_neg (by decide), h3 k (by omega)]
    simp only [Option.bind_some]
    rw [if_neg (by decide), h0 k (by omega)]
    rfl
theorem CalendarNumbers : customslaw04_CalendarNumbers.Pure := by
  intro a0 a1 a2 a3 _ _ _
  cases a3 with
  | true =>
    obtain ⟨k, h⟩ := (numbers_j0 a0 a1 a2).rounds
    exact ⟨k, by unfold customslaw04_CalendarNumbers.f; rw [if_pos rfl]; exact h⟩
  | false =>
    obtain ⟨k, h⟩ := (numbers_j0 (1998 + a0 % 104) (a1 % 14) (a2 % 33)).rounds
    refine ⟨k, ?_⟩
    unfold customslaw04_CalendarNumbers.f
    rw [if_neg (by decide), within_f a0 104 (by omega) (by omega), within_f a1 14 (by omega) (by omega), within_f a2 33 (by omega) (by omega)]
    simp only [Option.bind_some]
    rw [w64 (by omega) (by omega)]
    exact h
end Go.Proofs.YtlmcejiebobfbaaDoor.Pure
