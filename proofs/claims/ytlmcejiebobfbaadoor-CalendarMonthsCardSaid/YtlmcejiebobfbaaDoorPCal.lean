/-
  The calendar's arithmetic: dates, days, months; what the program's and the reference's date functions answer, with enough rounds. No condition.
-/
import Derived.Test.YtlmcejiebobfbaaDoorGCalendarDeadline
import Derived.Test.YtlmcejiebobfbaaDoorGCustomsref04AddMonths
import Derived.Test.YtlmcejiebobfbaaDoorGCustomsref04Weekday
import Derived.Test.YtlmcejiebobfbaaDoorGCustomsmadeDay
namespace Go.Proofs.YtlmcejiebobfbaaDoor.Pure
open Go.RowKit Go.Proofs.YtlmcejiebobfbaaDoor.G Go.Proofs.YtlmcejiebobfbaaDoorW.PrintWords Go.Proofs.YtlmcejiebobfbaaDoorW.PrintLast Go.Proofs.YtlmcejiebobfbaaDoorW.PrintMore

theorem w64 {n : Int} (h : -9223372036854775808 ≤ n) (h' : n ≤ 9223372036854775807) : wrap64 n = n := by unfold wrap64; omega

/-- Leap years, from 2000 to 2099. -/
def lp (y : Int) : Int := if y % 4 = 0 then 1 else 0
/-- Days before a year. -/
def dbY (y : Int) : Int := 365 * (y - 2000) + (y - 1997) / 4
/-- Days before a month of a common year. -/
def cm (m : Int) : Int := if m ≤ 1 then 0 else if m ≤ 2 then 31 else if m ≤ 3 then 59 else if m ≤ 4 then 90 else if m ≤ 5 then 120 else if m ≤ 6 then 151 else if m ≤ 7 then 181 else if m ≤ 8 then 212 else if m ≤ 9 then 243 else if m ≤ 10 then 273 else if m ≤ 11 then 304 else if m ≤ 12 then 334 else 365
def dbM (y m : Int) : Int := cm m + (if m ≤ 2 then 0 else lp y)
/-- Days of a month. -/
def lm (y m : Int) : Int := if m = 2 then 28 + lp y else if m = 4 then 30 else if m = 6 then 30 else if m = 9 then 30 else if m = 11 then 30 else 31
/-- The number of a date. -/
def num (y m d : Int) : Int := dbY y + dbM y m + d - 1
def Valid (y m d : Int) : Prop := 2000 ≤ y ∧ y ≤ 2099 ∧ 1 ≤ m ∧ m ≤ 12 ∧ 1 ≤ d ∧ d ≤ lm y m

theorem lp_01 (y : Int) : 0 ≤ lp y ∧ lp y ≤ 1 := by unfold lp; split <;> omega
theorem dbY_succ (y : Int) : dbY (y + 1) = dbY y + 365 + lp y := by unfold dbY lp; split <;> omega
theorem dbM_succ (y m : Int) (h1 : 1 ≤ m) (h2 : m ≤ 12) : dbM y (m + 1) = dbM y m + lm y m := by
  have := lp_01 y
  unfold dbM lm
  rcases (by omega : m = 1 ∨ m = 2 ∨ m = 3 ∨ m = 4 ∨ m = 5 ∨ m = 6 ∨ m = 7 ∨ m = 8 ∨ m = 9 ∨ m = 10 ∨ m = 11 ∨ m = 12) with rfl | rfl | rfl | rfl | rfl | rfl | rfl | rfl | rfl | rfl | rfl | rfl <;> simp [cm] <;> omega
theorem lm_bounds (y m : Int) : 28 ≤ lm y m ∧ lm y m ≤ 31 := by
  have := lp_01 y
  unfold lm
  repeat' split
  all_goals omega
theorem dbM_one (y : Int) : dbM y 1 = 0 := rfl
theorem dbM_13 (y : Int) : dbM y 13 = 365 + lp y := rfl
/-- Later months begin behind earlier ones' ends. -/
theorem dbM_lt (y : Int) (m : Int) (h1 : 1 ≤ m) : ∀ (d : Nat), m + d ≤ 12 → dbM y m + lm y m ≤ dbM y (m + d + 1)
  | 0, h => by
    have := dbM_succ y m h1 (by omega)
    have e : m + ((0 : Nat) : Int) + 1 = m + 1 := by omega
    rw [e]
    omega
  | d + 1, h => by
    have ih := dbM_lt y m h1 d (by omega)
    have := dbM_succ y (m + d + 1) (by omega) (by omega)
    have := lm_bounds y (m + d + 1)
    have e : m + ((d + 1 : Nat) : Int) + 1 = m + d + 1 + 1 := by omega
    rw [e]
    omega
theorem dbM_end (y m : Int) (h1 : 1 ≤ m) (h2 : m ≤ 12) : dbM y m + lm y m ≤ 365 + lp y := by
  have := dbM_lt y m h1 (12 - m).toNat (by omega)
  have e : m + ((12 - m).toNat : Int) + 1 = 13 := by omega
  rw [e, dbM_13] at this
  exact this
theorem dbM_le (y m1 m2 : Int) (h1 : 1 ≤ m1) (h2 : m2 ≤ 12) (h : m1 < m2) : dbM y m1 + lm y m1 ≤ dbM y m2 := by
  have := dbM_lt y m1 h1 (m2 - m1 - 1).toNat (by omega)
  have e : m1 + ((m2 - m1 - 1).toNat : Int) + 1 = m2 := by omega
  rw [e] at this
  exact this
theorem dbM_pos (y m : Int) (h1 : 1 ≤ m) (h2 : m ≤ 12) : 0 ≤ dbM y m := by
  by_cases h : m = 1
  · rw [h, dbM_one]; exact Int.le_refl 0
  · have := dbM_le y 1 m (by omega) h2 (by omega)
    have := lm_bounds y 1
    rw [dbM_one] at *
    omega
theorem dbY_le (y1 y2 : Int) (h : y1 ≤ y2) : dbY y1 ≤ dbY y2 := by unfold dbY; omega
/-- Later months: later days. -/
theorem num_lt {y1 m1 d1 y2 m2 d2 : Int} (h1 : 1 ≤ m1) (h1' : m1 ≤ 12) (hd1 : d1 ≤ lm y1 m1) (h2 : 1 ≤ m2) (h2' : m2 ≤ 12) (hd2 : 1 ≤ d2) (h : 12 * y1 + m1 < 12 * y2 + m2) : num y1 m1 d1 < num y2 m2 d2 := by
  unfold num
  by_cases e : y1 = y2
  · subst e
    have := dbM_le y1 m1 m2 h1 h2' (by omega)
    omega
  · have a := dbY_le (y1 + 1) y2 (by omega)
    have b := dbY_succ y1
    have c := dbM_end y1 m1 h1 h1'
    have d := dbM_pos y2 m2 h2 h2'
    omega
/-- A day has one date. -/
theorem num_inj {y1 m1 d1 y2 m2 d2 : Int} (h1 : Valid y1 m1 d1) (h2 : Valid y2 m2 d2) (h : num y1 m1 d1 = num y2 m2 d2) : y1 = y2 ∧ m1 = m2 ∧ d1 = d2 := by
  obtain ⟨a1, a2, a3, a4, a5, a6⟩ := h1
  obtain ⟨b1, b2, b3, b4, b5, b6⟩ := h2
  rcases Int.lt_trichotomy (12 * y1 + m1) (12 * y2 + m2) with c | c | c
  · have := num_lt a3 a4 a6 b3 b4 b5 c
    omega
  · have e1 : y1 = y2 := by omega
    have e2 : m1 = m2 := by omega
    subst e1
    subst e2
    unfold num at h
    exact ⟨rfl, rfl, by omega⟩
  · have := num_lt b3 b4 b6 a3 a4 a5 c
    omega
theorem num_range {y m d : Int} (h : Valid y m d) : 0 ≤ num y m d ∧ num y m d ≤ 36524 := by
  obtain ⟨a1, a2, a3, a4, a5, a6⟩ := h
  have b := dbM_end y m a3 a4
  have c := dbM_pos y m a3 a4
  have e := lp_01 y
  have f := dbY_succ y
  have g := dbY_le (y + 1) 2100 (by omega)
  have i := dbY_le 2000 y a1
  have j : dbY 2100 = 36525 := by decide
  have k : dbY 2000 = 0 := by decide
  unfold num
  omega

/-! ### The small functions -/
theorem valid_f (n : Int) : calendar_valid.f n = some (decide (0 ≤ n ∧ n ≤ 36524)) := by
  unfold calendar_valid.f
  by_cases h : n ≥ 0
  · rw [if_pos h]; congr 1; simp; omega
  · rw [if_neg h]; congr 1; simp; omega
theorem day_f (n : Int) : customsref04_Day.f n = some (decide (0 ≤ n ∧ n ≤ 36524)) := valid_f n
theorem tm4 {y k : Int} (h : 0 ≤ y) : Int.tmod y k = y % k := by rw [Int.tmod_eq_emod_of_nonneg h]
theorem leap_f {y : Int} (h : 2000 ≤ y) (h' : y ≤ 2099) : calendar_leap.f y = some (decide (y % 4 = 0)) := by
  unfold calendar_leap.f
  rw [tm4 (by omega), tm4 (by omega), tm4 (by omega)]
  by_cases a : y % 4 = 0
  · rw [if_pos a]
    by_cases b : y % 100 = 0
    · rw [if_pos b]
      have : y % 400 = 0 := by omega
      simp [a, this]
    · rw [if_neg b]; simp [a]
  · rw [if_neg a]; simp [a]
theorem leap_some (y : Int) : ∃ b, calendar_leap.f y = some b := by unfold calendar_leap.f; repeat' split
                                                                    all_goals exact ⟨_, rfl⟩
theorem days_f {y : Int} (h : 2000 ≤ y) (h' : y ≤ 2099) : calendar_days.f y = some (365 + lp y) := by
  unfold calendar_days.f lp
  rw [leap_f h h']
  simp only [Option.bind_some, decide_eq_true_eq]
  split <;> rfl
/-- The two tables of months are one, for whatever year. -/
theorem length_long (y m : Int) (h1 : 1 ≤ m) (h2 : m ≤ 12) : calendar_length.f y m = customsref04_Long.f y m := by
  unfold calendar_length.f customsref04_Long.f
  by_cases a : m = 2
  · rw [if_pos a, if_pos a]
    unfold calendar_leap.f
    by_cases b : Int.tmod y 4 = 0
    · rw [if_pos b, if_pos b]
      by_cases c : Int.tmod y 100 = 0
      · rw [if_pos c, if_pos c]
        by_cases d : Int.tmod y 400 = 0 <;> simp [d]
      · rw [if_neg c, if_neg c]; rfl
    · rw [if_neg b, if_neg b]; rfl
  · rw [if_neg a, if_neg a, if_pos h1, if_pos h2]
    rcases (by omega : m = 1 ∨ m = 3 ∨ m = 4 ∨ m = 5 ∨ m = 6 ∨ m = 7 ∨ m = 8 ∨ m = 9 ∨ m = 10 ∨ m = 11 ∨ m = 12) with rfl | rfl | rfl | rfl | rfl | rfl | rfl | rfl | rfl | rfl | rfl <;> rfl
theorem length_f {y m : Int} (h : 2000 ≤ y) (h' : y ≤ 2099) (h1 : 1 ≤ m) (h2 : m ≤ 12) : calendar_length.f y m = some (lm y m) := by
  unfold calendar_length.f lm
  by_cases a : m = 2
  · rw [if_pos a, if_pos a, leap_f h h']
    unfold lp
    simp only [Option.bind_some, decide_eq_true_eq]
    split <;> rfl
  · rw [if_neg a, if_neg a, if_pos h1, if_pos h2]
    rcases (by omega : m = 1 ∨ m = 3 ∨ m = 4 ∨ m = 5 ∨ m = 6 ∨ m = 7 ∨ m = 8 ∨ m = 9 ∨ m = 10 ∨ m = 11 ∨ m = 12) with rfl | rfl | rfl | rfl | rfl | rfl | rfl | rfl | rfl | rfl | rfl <;> rfl
theorem long_f {y m : Int} (h : 2000 ≤ y) (h' : y ≤ 2099) (h1 : 1 ≤ m) (h2 : m ≤ 12) : customsref04_Long.f y m = some (lm y m) := by rw [← length_long y m h1 h2, length_f h h' h1 h2]
theorem length_some (y m : Int) (h1 : 1 ≤ m) (h2 : m ≤ 12) : ∃ l, calendar_length.f y m = some l ∧ 28 ≤ l ∧ l ≤ 31 := by
  unfold calendar_length.f
  by_cases a : m = 2
  · obtain ⟨b, hb⟩ := leap_some y
    rw [if_pos a, hb]
    cases b
    · exact ⟨28, rfl, by omega, by omega⟩
    · exact ⟨29, rfl, by omega, by omega⟩
  · rw [if_neg a, if_pos h1, if_pos h2]
    rcases (by omega : m = 1 ∨ m = 3 ∨ m = 4 ∨ m = 5 ∨ m = 6 ∨ m = 7 ∨ m = 8 ∨ m = 9 ∨ m = 10 ∨ m = 11 ∨ m = 12) with rfl | rfl | rfl | rfl | rfl | rfl | rfl | rfl | rfl | rfl | rfl <;> exact ⟨_, rfl, by decide, by decide⟩
theorem weekday_f (n : Int) (h : 0 ≤ n) (h' : n ≤ 36524) : calendar_Weekday.f n = some ((n + 5) % 7) := by
  unfold calendar_Weekday.f
  rw [valid_f]
  simp only [Option.bind_some, decide_eq_true_eq]
  rw [if_pos ⟨h, h'⟩, w64 (by omega) (by omega), tm4 (by omega)]
theorem weekday_out (n : Int) (h : ¬ (0 ≤ n ∧ n ≤ 36524)) : calendar_Weekday.f n = some (-1) := by
  unfold calendar_Weekday.f
  rw [valid_f]
  simp only [Option.bind_some, decide_eq_true_eq]
  rw [if_neg h]
theorem weekday_ref (n : Int) : customsref04_Weekday.f n = calendar_Weekday.f n := rfl
theorem within_f (x n : Int) (hn : 0 < n) (hb : n ≤ 4611686018427387904) : customsmade_Within.f x n = some (x % n) := by
  unfold customsmade_Within.f
  rw [if_neg (by omega)]
  have a := Int.tmod_lt_of_pos x hn
  have b : -n < Int.tmod x n := by
    have := Int.lt_tmod_of_pos x hn
    omega
  rw [w64 (by omega) (by omega)]
  have c : Int.tmod (Int.tmod x n + n) n = (Int.tmod x n + n) % n := tm4 (by omega)
  rw [c, Int.add_emod_right]
  congr 1
  have d := Int.tmod_def x n
  rw [d]
  rw [Int.sub_mul_emod_self_left]
theorem day_made (x : Int) : customsmade_Day.f x = some (x % 36525) := by
  unfold customsmade_Day.f
  rw [within_f x 36525 (by omega) (by omega)]
  rfl
end Go.Proofs.YtlmcejiebobfbaaDoor.Pure
