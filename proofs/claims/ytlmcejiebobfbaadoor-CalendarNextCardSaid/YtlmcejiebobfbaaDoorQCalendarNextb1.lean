/-
  Plain mathematics: what these functions answer; at the end the law's pure statement. No program's memory in sight.
-/
import Derived.Test.YtlmcejiebobfbaaDoorQCorew1
import Derived.Test.YtlmcejiebobfbaaDoorQCorea1
import Derived.Test.YtlmcejiebobfbaaDoorQCorea2
import Derived.Test.YtlmcejiebobfbaaDoorQCorea3
import Derived.Test.YtlmcejiebobfbaaDoorQCalendarNexta1
import Derived.Test.YtlmcejiebobfbaaDoorQCoreb1
namespace Go.Proofs.YtlmcejiebobfbaaDoor.Pure
open Go.RowKit Go.Proofs.YtlmcejiebobfbaaDoor.G Go.Proofs.YtlmcejiebobfbaaDoorW.PrintWords Go.Proofs.YtlmcejiebobfbaaDoorW.PrintLast Go.Proofs.YtlmcejiebobfbaaDoorW.PrintMore

/-- The next day's date. -/
theorem next_date {y m d y2 m2 d2 : Int} (h : Valid y m d) (h2 : Valid y2 m2 d2) (hn : num y2 m2 d2 = num y m d + 1) :
    (y2 = y ∧ m2 = m ∧ d2 = d + 1) ∨ (y2 = y ∧ m2 = m + 1 ∧ d2 = 1 ∧ 28 ≤ d) ∨ (y2 = y + 1 ∧ m = 12 ∧ m2 = 1 ∧ d2 = 1 ∧ 28 ≤ d) := by
  have h' := h
  obtain ⟨a1, a2, a3, a4, a5, a6⟩ := h
  have hb := lm_bounds y m
  by_cases c : d < lm y m
  · have hv : Valid y m (d + 1) := ⟨a1, a2, a3, a4, by omega, by omega⟩
    have e := num_inj h2 hv (by rw [hn]; unfold num; omega)
    exact .inl ⟨e.1, e.2.1, e.2.2⟩
  · by_cases c2 : m < 12
    · have hs := dbM_succ y m a3 a4
      have hb2 := lm_bounds y (m + 1)
      have hv : Valid y (m + 1) 1 := ⟨a1, a2, by omega, by omega, by omega, by omega⟩
      have e := num_inj h2 hv (by rw [hn]; unfold num; omega)
      exact .inr (.inl ⟨e.1, e.2.1, e.2.2, by omega⟩)
    · obtain rfl : m = 12 := by omega
      have hs := dbM_succ y 12 a3 a4
      have e13 := dbM_13 y
      have e : (12 : Int) + 1 = 13 := rfl
      rw [e, e13] at hs
      have hy := dbY_succ y
      have hb2 := lm_bounds (y + 1) 1
      by_cases c3 : y + 1 ≤ 2099
      · have hv : Valid (y + 1) 1 1 := ⟨by omega, c3, by omega, by omega, by omega, by omega⟩
        have e := num_inj h2 hv (by rw [hn]; unfold num; rw [dbM_one]; omega)
        exact .inr (.inr ⟨e.1, rfl, e.2.1, e.2.2, by omega⟩)
      · obtain rfl : y = 2099 := by omega
        have hr := num_range h2
        have q2 : dbY 2099 = 36160 := by decide
        have q3 : lp 2099 = 0 := by decide
        rw [hn] at hr
        unfold num at hr
        omega
theorem CalendarNext : customslaw04_CalendarNext.Pure := by
  intro a0 _
  obtain ⟨K0, h0⟩ := awake_ev
  obtain ⟨x, hx⟩ : ∃ x, x = a0 % 36524 := ⟨_, rfl⟩
  have hx0 : 0 ≤ x := by omega
  have hx1 : x < 36524 := by omega
  obtain ⟨y1, m1, d1, ⟨K1, h1⟩, hv1, hn1⟩ := of_ev hx0 (by omega)
  obtain ⟨y2, m2, d2, ⟨K2, h2⟩, hv2, hn2⟩ := of_ev (n := x + 1) (by omega) (by omega)
  have hnd := next_date hv1 hv2 (by omega)
  dsimp only at h0 h1 h2
  refine ⟨K0 + K1 + K2 + 1, ?_⟩
  unfold customslaw04_CalendarNext.f
  rw [within_f a0 36524 (by omega) (by omega), ← hx]
  simp only [Option.bind_some]
  rw [h1 _ (by omega), w64 (n := x + 1) (by omega) (by omega), h2 _ (by omega)]
  simp only [Option.bind_some]
  rw [if_pos trivial, if_pos trivial, weekday_f (x + 1) (by omega) (by omega), weekday_f x (by omega) (by omega)]
  simp only [Option.bind_some]
  have ew : ((x + 1 + 5) % 7 != Int.tmod (wrap64 ((x + 5) % 7 + 1)) 7) = false := by
    rw [w64 (by omega) (by omega), tm4 (by omega)]
    have : (x + 1 + 5) % 7 = ((x + 5) % 7 + 1) % 7 := by omega
    rw [this]
    exact bne_self_eq_false _
  rw [ew]
  simp only [customslaw04_CalendarNext.j0]
  have haw := h0 (K0 + K1 + K2) (by omega)
  have hv1' := hv1
  obtain ⟨a1, a2, a3, a4, a5, a6⟩ := hv1'
  have hb := lm_bounds y1 m1
  rw [if_neg (by decide), w64 (n := m1 + 1) (by omega) (by omega), w64 (n := d1 + 1) (by omega) (by omega), w64 (n := y1 + 1) (by omega) (by omega), haw]
  simp only [Option.bind_some]
  rcases hnd with ⟨rfl, rfl, rfl⟩ | ⟨rfl, rfl, rfl, q⟩ | ⟨rfl, rfl, rfl, rfl, q⟩
  · have e1 : ¬ (d1 + 1 = 1) := by omega
    simp [e1]
  · have e1 : ¬ (m1 + 1 = m1) := by omega
    rw [if_pos rfl, if_neg e1, if_pos rfl, if_pos rfl, if_pos q]
  · have e1 : ¬ (y1 + 1 = y1) := by omega
    rw [if_neg e1, if_pos rfl, if_pos rfl, if_pos rfl, if_pos rfl, if_pos q]
end Go.Proofs.YtlmcejiebobfbaaDoor.Pure

