/-
  Plain mathematics: what these functions answer; at the end the law's pure statement. No program's memory in sight.
-/
import Derived.Test.YtlmcejiebobfbaaDoorQCorew1
import Derived.Test.YtlmcejiebobfbaaDoorQCorea1
import Derived.Test.YtlmcejiebobfbaaDoorQCorea2
import Derived.Test.YtlmcejiebobfbaaDoorQCorea3
import Derived.Test.YtlmcejiebobfbaaDoorQCalendarMonthsMonotonea1
import Derived.Test.YtlmcejiebobfbaaDoorQCoreb1
namespace Go.Proofs.YtlmcejiebobfbaaDoor.Pure
open Go.RowKit Go.Proofs.YtlmcejiebobfbaaDoor.G Go.Proofs.YtlmcejiebobfbaaDoorW.PrintWords Go.Proofs.YtlmcejiebobfbaaDoorW.PrintLast Go.Proofs.YtlmcejiebobfbaaDoorW.PrintMore

theorem later_date {y m d n a : Int} (h : Valid y m d) (ha : later y m d n = (a, 0)) :
    24000 ≤ 12 * y + m - 1 + n ∧ 12 * y + m - 1 + n ≤ 25199 ∧ Valid ((12 * y + m - 1 + n) / 12) ((12 * y + m - 1 + n) % 12 + 1) (min d (lm ((12 * y + m - 1 + n) / 12) ((12 * y + m - 1 + n) % 12 + 1))) ∧ a = num ((12 * y + m - 1 + n) / 12) ((12 * y + m - 1 + n) % 12 + 1) (min d (lm ((12 * y + m - 1 + n) / 12) ((12 * y + m - 1 + n) % 12 + 1))) := by
  obtain ⟨a1, a2, a3, a4, a5, a6⟩ := h
  unfold later at ha
  by_cases c : 24000 ≤ 12 * y + m - 1 + n ∧ 12 * y + m - 1 + n ≤ 25199
  · simp only [if_pos c, Prod.mk.injEq, and_true] at ha
    have hb := lm_bounds ((12 * y + m - 1 + n) / 12) ((12 * y + m - 1 + n) % 12 + 1)
    exact ⟨c.1, c.2, ⟨by omega, by omega, by omega, by omega, by omega, by omega⟩, ha.symm⟩
  · simp only [if_neg c, Prod.mk.injEq] at ha
    omega
theorem later_mono {y m d y' m' d' n a b : Int} (h : Valid y m d) (h' : Valid y' m' d') (hle : num y m d ≤ num y' m' d') (ha : later y m d n = (a, 0)) (hb : later y' m' d' n = (b, 0)) : a ≤ b := by
  obtain ⟨p1, p2, p3, rfl⟩ := later_date h ha
  obtain ⟨q1, q2, q3, rfl⟩ := later_date h' hb
  obtain ⟨a1, a2, a3, a4, a5, a6⟩ := h
  obtain ⟨b1, b2, b3, b4, b5, b6⟩ := h'
  rcases Int.lt_trichotomy (12 * y + m) (12 * y' + m') with c | c | c
  · obtain ⟨r1, r2, r3, r4, r5, r6⟩ := p3
    obtain ⟨s1, s2, s3, s4, s5, s6⟩ := q3
    have := num_lt (y2 := (12 * y' + m' - 1 + n) / 12) r3 r4 r6 s3 s4 s5 (by omega)
    omega
  · have e1 : y = y' := by omega
    have e2 : m = m' := by omega
    subst e1
    subst e2
    have hd : d ≤ d' := by unfold num at hle; omega
    unfold num
    omega
  · have := num_lt b3 b4 b6 a3 a4 a5 c
    omega
theorem later_later {y m d n k a c e : Int} (h : Valid y m d) (ha : later y m d n = (a, 0)) (hc : later y m d (n + k) = (c, 0))
    {y2 m2 d2 : Int} (h2 : Valid y2 m2 d2) (he2 : num y2 m2 d2 = a) (he : later y2 m2 d2 k = (e, 0)) : e ≤ c ∧ c - e ≤ 3 := by
  obtain ⟨p1, p2, p3, rfl⟩ := later_date h ha
  obtain ⟨q1, q2, q3, rfl⟩ := later_date h hc
  obtain ⟨rfl, rfl, rfl⟩ := num_inj h2 p3 he2
  obtain ⟨s1, s2, s3, rfl⟩ := later_date h2 he
  have e1 : 12 * ((12 * y + m - 1 + n) / 12) + ((12 * y + m - 1 + n) % 12 + 1) - 1 + k = 12 * y + m - 1 + (n + k) := by omega
  rw [e1]
  have b1 := lm_bounds ((12 * y + m - 1 + n) / 12) ((12 * y + m - 1 + n) % 12 + 1)
  have b2 := lm_bounds ((12 * y + m - 1 + (n + k)) / 12) ((12 * y + m - 1 + (n + k)) % 12 + 1)
  have b3 := lm_bounds y m
  obtain ⟨a1, a2, a3, a4, a5, a6⟩ := h
  unfold num
  omega
/-- AddMonths, whatever the day. -/
theorem add_any {x n : Int} (h : 0 ≤ n) (h' : n ≤ 1200) : ∃ r, Ev (fun k => calendar_AddMonths.f k x n) r ∧ (r.2 = 0 → ∃ y m d, Valid y m d ∧ num y m d = x ∧ later y m d n = r) := by
  by_cases c : 0 ≤ x ∧ x ≤ 36524
  · obtain ⟨y, m, d, _, hv, hn⟩ := of_ev c.1 c.2
    exact ⟨_, (add_ev c.1 c.2 hv hn (by omega) h').1, fun _ => ⟨y, m, d, hv, hn, rfl⟩⟩
  · exact ⟨(0, 2), (add_out (by omega)).1, fun e => absurd e (by decide)⟩
theorem mono_j0 (x n k a e : Int) (hn : 0 ≤ n) (hn' : n < 600) (hk : 0 ≤ k) (hk' : k < 600) (ha : e = 0 → ∃ y m d, Valid y m d ∧ num y m d = x ∧ later y m d n = (a, e)) :
    Ev (fun f => customslaw04_CalendarMonthsMonotone.j0 f x n k a e false) true := by
  obtain ⟨K0, h0⟩ := awake_ev
  obtain ⟨⟨c, g⟩, ⟨K1, h1⟩, f1⟩ := add_any (x := x) (n := n + k) (by omega) (by omega)
  obtain ⟨⟨d, i⟩, ⟨K2, h2⟩, f2⟩ := add_any (x := a) (n := k) (by omega) (by omega)
  dsimp only at h0 h1 h2 f1 f2
  refine ⟨K0 + K1 + K2 + 2, fun f hf => ?_⟩
  obtain ⟨f, rfl⟩ : ∃ j, f = j + 2 := ⟨f - 2, by omega⟩
  dsimp only
  simp only [customslaw04_CalendarMonthsMonotone.j0]
  rw [if_neg (by decide), w64 (by omega) (by omega), h1 _ (by omega), h2 _ (by omega)]
  simp only [Option.bind_some]
  have haw : (customslaw04_awake.f f).bind (fun t => some t) = some true := by rw [h0 f (by omega)]; rfl
  by_cases c1 : e = 0
  · rw [if_pos c1]
    by_cases c2 : g = 0
    · rw [if_pos c2]
      simp only [customslaw04_CalendarMonthsMonotone.j1]
      by_cases c3 : i = 0
      · subst c1
        subst c2
        subst c3
        rw [if_neg (by decide)]
        obtain ⟨y, m, dd, hv, hn1, hl⟩ := ha rfl
        obtain ⟨y', m', dd', hv', hn2, hl'⟩ := f1 rfl
        obtain ⟨rfl, rfl, rfl⟩ := num_inj hv hv' (by omega)
        obtain ⟨y3, m3, d3, hv3, hn3, hl3⟩ := f2 rfl
        obtain ⟨r1, r2⟩ := later_later hv hl hl' hv3 hn3 hl3
        rw [if_pos r1, w64 (by omega) (by omega), if_pos r2]
        exact haw
      · rw [if_pos (bne_iff_ne.mpr c3)]
        exact haw
    · rw [if_neg c2]
      simp only [customslaw04_CalendarMonthsMonotone.j1]
      rw [if_pos trivial]
      exact haw
  · rw [if_neg c1]
    simp only [customslaw04_CalendarMonthsMonotone.j1]
    rw [if_pos trivial]
    exact haw
theorem CalendarMonthsMonotone : customslaw04_CalendarMonthsMonotone.Pure := by
  intro a0 a1 a2 a3 _ _ _ _
  obtain ⟨x, hx⟩ : ∃ x, x = a0 % 36525 := ⟨_, rfl⟩
  obtain ⟨p, hp⟩ : ∃ x, x = a1 % 100 := ⟨_, rfl⟩
  obtain ⟨n, hn⟩ : ∃ x, x = a2 % 600 := ⟨_, rfl⟩
  obtain ⟨q, hq⟩ : ∃ x, x = a3 % 600 := ⟨_, rfl⟩
  obtain ⟨⟨a, e⟩, ⟨K1, h1⟩, f1⟩ := add_any (x := x) (n := n) (by omega) (by omega)
  obtain ⟨⟨b, g⟩, ⟨K2, h2⟩, f2⟩ := add_any (x := x + p) (n := n) (by omega) (by omega)
  obtain ⟨K3, h3⟩ := mono_j0 x n q a e (by omega) (by omega) (by omega) (by omega) f1
  dsimp only at h1 h2 h3 f1 f2
  refine ⟨K1 + K2 + K3, ?_⟩
  unfold customslaw04_CalendarMonthsMonotone.f
  rw [day_made, within_f a1 100 (by omega) (by omega), within_f a2 600 (by omega) (by omega), within_f a3 600 (by omega) (by omega), ← hx, ← hp, ← hn, ← hq]
  simp only [Option.bind_some]
  rw [h1 _ (by omega), w64 (by omega) (by omega), h2 _ (by omega)]
  simp only [Option.bind_some]
  by_cases c1 : e = 0
  · rw [if_pos c1]
    by_cases c2 : g = 0
    · rw [if_pos c2]
      have hf : decide (a > b) = false := by
        apply decide_eq_false
        obtain ⟨y, m, d, hv, hn1, hl⟩ := f1 c1
        obtain ⟨y', m', d', hv', hn2, hl'⟩ := f2 c2
        have := later_mono hv hv' (by omega) (hl.trans (by rw [c1])) (hl'.trans (by rw [c2]))
        omega
      rw [hf]
      exact h3 _ (by omega)
    · rw [if_neg c2]
      exact h3 _ (by omega)
  · rw [if_neg c1]
    exact h3 _ (by omega)
end Go.Proofs.YtlmcejiebobfbaaDoor.Pure

