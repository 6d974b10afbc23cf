/-
  Plain mathematics: what these functions answer; at the end the law's pure statement. No program's memory in sight.
-/
import Derived.Test.YtlmcejiebobfbaaDoorQCorew1
import Derived.Test.YtlmcejiebobfbaaDoorQCorea1
import Derived.Test.YtlmcejiebobfbaaDoorQCorea2
import Derived.Test.YtlmcejiebobfbaaDoorQCorea3
namespace Go.Proofs.YtlmcejiebobfbaaDoor.Pure
open Go.RowKit Go.Proofs.YtlmcejiebobfbaaDoor.G Go.Proofs.YtlmcejiebobfbaaDoorW.PrintWords Go.Proofs.YtlmcejiebobfbaaDoorW.PrintLast Go.Proofs.YtlmcejiebobfbaaDoorW.PrintMore

theorem w64 {n : Int} (h : -9223372036854775808 ≤ n) (h' : n ≤ 9223372036854775807) : wrap64 n = n := by unfold wrap64; omega

/-- Leap years, from 2000 to 2099. -/
def lp (y : Int) : Int := if y % 4 = 0 then 1 else 0
/-- Days before a year. -/
def dbY (y : Int) : Int := 365 * (y - 2000) + (y - 1997) / 4
/-- Days before a month of a common year. -/
def cm (m : Int) : Int := if m ≤ 1 then 0 else if m ≤ 2 then 31 else if m ≤ 3 then 59 else if m ≤ 4 then 90 else if m ≤ 5 then 120 else if m ≤ 6 then 151 else if m ≤ 7 then 181 else if m ≤ 8 then 212 else if m ≤ 9 then 243 else if m ≤ 10 then 273 else if m ≤ 11 then 304 else if m ≤ 12 then 334 else 365
def dbM (y m : Int) : Int := cm m + (if m ≤ 2 then 0 else lp y)
/-- Days of a month. -/
def lm (y m : Int) : Int := if m = 2 then 28 + lp y else if m = 4 then 30 else if m = 6 then 30 else if m = 9 then 30 else if m = 11 then 30 else 31
/-- The number of a date. -/
def num (y m d : Int) : Int := dbY y + dbM y m + d - 1
def Valid (y m d : Int) : Prop := 2000 ≤ y ∧ y ≤ 2099 ∧ 1 ≤ m ∧ m ≤ 12 ∧ 1 ≤ d ∧ d ≤ lm y m

theorem lp_01 (y : Int) : 0 ≤ lp y ∧ lp y ≤ 1 := by unfold lp; split <;> omega
theorem dbY_succ (y : Int) : dbY (y + 1) = dbY y + 365 + lp y := by unfold dbY lp; split <;> omega
theorem dbM_succ (y m : Int) (h1 : 1 ≤ m) (h2 : m ≤ 12) : dbM y (m + 1) = dbM y m + lm y m := by
  have := lp_01 y
  unfold dbM lm
  rcases (by omega : m = 1 ∨ m = 2 ∨ m = 3 ∨ m = 4 ∨ m = 5 ∨ m = 6 ∨ m = 7 ∨ m = 8 ∨ m = 9 ∨ m = 10 ∨ m = 11 ∨ m = 12) with rfl | rfl | rfl | rfl | rfl | rfl | rfl | rfl | rfl | rfl | rfl | rfl <;> simp [cm] <;> omega
theorem lm_bounds (y m : Int) : 28 ≤ lm y m ∧ lm y m ≤ 31 := by
  have := lp_01 y
  unfold lm
  repeat' split
  all_goals omega
theorem dbM_one (y : Int) : dbM y 1 = 0 := rfl
theorem dbM_13 (y : Int) : dbM y 13 = 365 + lp y := rfl
/-- Later months begin behind earlier ones' ends. -/
theorem dbM_lt (y : Int) (m : Int) (h1 : 1 ≤ m) : ∀ (d : Nat), m + d ≤ 12 → dbM y m + lm y m ≤ dbM y (m + d + 1)
  | 0, h => by
    have := dbM_succ y m h1 (by omega)
    have e : m + ((0 : Nat) : Int) + 1 = m + 1 := by omega
    rw [e]
    omega
  | d + 1, h => by
    have ih := dbM_lt y m h1 d (by omega)
    have := dbM_succ y (m + d + 1) (by omega) (by omega)
    have := lm_bounds y (m + d + 1)
    have e : m + ((d + 1 : Nat) : Int) + 1 = m + d + 1 + 1 := by omega
    rw [e]
    omega
theorem dbM_end (y m : Int) (h1 : 1 ≤ m) (h2 : m ≤ 12) : dbM y m + lm y m ≤ 365 + lp y := by
  have := dbM_lt y m h1 (12 - m).toNat (by omega)
  have e : m + ((12 - m).toNat : Int) + 1 = 13 := by omega
  rw [e, dbM_13] at this
  exact this
theorem dbM_le (y m1 m2 : Int) (h1 : 1 ≤ m1) (h2 : m2 ≤ 12) (h : m1 < m2) : dbM y m1 + lm y m1 ≤ dbM y m2 := by
  have := dbM_lt y m1 h1 (m2 - m1 - 1).toNat (by omega)
  have e : m1 + ((m2 - m1 - 1).toNat : Int) + 1 = m2 := by omega
  rw [e] at this
  exact this
theorem dbM_pos (y m : Int) (h1 : 1 ≤ m) (h2 : m ≤ 12) : 0 ≤ dbM y m := by
  by_cases h : m = 1
  · rw [h, dbM_one]; exact Int.le_refl 0
  · have := dbM_le y 1 m (by omega) h2 (by omega)
    have := lm_bounds y 1
    rw [dbM_one] at *
    omega
theorem dbY_le (y1 y2 : Int) (h : y1 ≤ y2) : dbY y1 ≤ dbY y2 := by unfold dbY; omega
/-- Later months: later days. -/
theorem num_lt {y1 m1 d1 y2 m2 d2 : Int} (h1 : 1 ≤ m1) (h1' : m1 ≤ 12) (hd1 : d1 ≤ lm y1 m1) (h2 : 1 ≤ m2) (h2' : m2 ≤ 12) (hd2 : 1 ≤ d2) (h : 12 * y1 + m1 < 12 * y2 + m2) : num y1 m1 d1 < num y2 m2 d2 := by
  unfold num
  by_cases e : y1 = y2
  · subst e
    have := dbM_le y1 m1 m2 h1 h2' (by omega)
    omega
  · have a := dbY_le (y1 + 1) y2 (by omega)
    have b := dbY_succ y1
    have c := dbM_end y1 m1 h1 h1'
    have d := dbM_pos y2 m2 h2 h2'
    omega
/-- A day has one date. -/
theorem num_inj {y1 m1 d1 y2 m2 d2 : Int} (h1 : Valid y1 m1 d1) (h2 : Valid y2 m2 d2) (h : num y1 m1 d1 = num y2 m2 d2) : y1 = y2 ∧ m1 = m2 ∧ d1 = d2 := by
  obtain ⟨a1, a2, a3, a4, a5, a6⟩ := h1
  obtain ⟨b1, b2, b3, b4, b5, b6⟩ := h2
  rcases Int.lt_trichotomy (12 * y1 + m1) (12 * y2 + m2) with c | c | c
  · have := num_lt a3 a4 a6 b3 b4 b5 c
    omega
  · have e1 : y1 = y2 := by omega
    have e2 : m1 = m2 := by omega
    subst e1
    subst e2
    unfold num at h
    exact ⟨rfl, rfl, by omega⟩
  · have := num_lt b3 b4 b6 a3 a4 a5 c
    omega
theorem num_range {y m d : Int} (h : Valid y m d) : 0 ≤ num y m d ∧ num y m d ≤ 36524 := by
  obtain ⟨a1, a2, a3, a4, a5, a6⟩ := h
  have b := dbM_end y m a3 a4
  have c := dbM_pos y m a3 a4
  have e := lp_01 y
  have f := dbY_succ y
  have g := dbY_le (y + 1) 2100 (by omega)
  have i := dbY_le 2000 y a1
  have j : dbY 2100 = 36525 := by decide
  have k : dbY 2000 = 0 := by decide
  unfold num
  omega

/-! ### The small functions -/
theorem valid_f (n : Int) : calendar_valid.f n = some (decide (0 ≤ n ∧ n ≤ 36524)) := by
  unfold calendar_valid.f
  by_cases h : n ≥ 0
  · rw [if_pos h]; congr 1; simp; omega
  · rw [if_neg h]; congr 1; simp; omega
theorem day_f (n : Int) : customsref04_Day.f n = some (decide (0 ≤ n ∧ n ≤ 36524)) := valid_f n
theorem tm4 {y k : Int} (h : 0 ≤ y) : Int.tmod y k = y % k := by rw [Int.tmod_eq_emod_of_nonneg h]
theorem leap_f {y : Int} (h : 2000 ≤ y) (h' : y ≤ 2099) : calendar_leap.f y = some (decide (y % 4 = 0)) := by
  unfold calendar_leap.f
  rw [tm4 (by omega), tm4 (by omega), tm4 (by omega)]
  by_cases a : y % 4 = 0
  · rw [if_pos a]
    by_cases b : y % 100 = 0
    · rw [if_pos b]
      have : y % 400 = 0 := by omega
      simp [a, this]
    · rw [if_neg b]; simp [a]
  · rw [if_neg a]; simp [a]
theorem leap_some (y : Int) : ∃ b, calendar_leap.f y = some b := by unfold calendar_leap.f; repeat' split
                                                                    all_goals exact ⟨_, rfl⟩
theorem days_f {y : Int} (h : 2000 ≤ y) (h' : y ≤ 2099) : calendar_days.f y = some (365 + lp y) := by
  unfold calendar_days.f lp
  rw [leap_f h h']
  simp only [Option.bind_some, decide_eq_true_eq]
  split <;> rfl
/-- The two tables of months are one, for whatever year. -/
theorem length_long (y m : Int) (h1 : 1 ≤ m) (h2 : m ≤ 12) : calendar_length.f y m = customsref04_Long.f y m := by
  unfold calendar_length.f customsref04_Long.f
  by_cases a : m = 2
  · rw [if_pos a, if_pos a]
    unfold calendar_leap.f
    by_cases b : Int.tmod y 4 = 0
    · rw [if_pos b, if_pos b]
      by_cases c : Int.tmod y 100 = 0
      · rw [if_pos c, if_pos c]
        by_cases d : Int.tmod y 400 = 0 <;> simp [d]
      · rw [if_neg c, if_neg c]; rfl
    · rw [if_neg b, if_neg b]; rfl
  · rw [if_neg a, if_neg a, if_pos h1, if_pos h2]
    rcases (by omega : m = 1 ∨ m = 3 ∨ m = 4 ∨ m = 5 ∨ m = 6 ∨ m = 7 ∨ m = 8 ∨ m = 9 ∨ m = 10 ∨ m = 11 ∨ m = 12) with rfl | rfl | rfl | rfl | rfl | rfl | rfl | rfl | rfl | rfl | rfl <;> rfl
theorem length_f {y m : Int} (h : 2000 ≤ y) (h' : y ≤ 2099) (h1 : 1 ≤ m) (h2 : m ≤ 12) : calendar_length.f y m = some (lm y m) := by
  unfold calendar_length.f lm
  by_cases a : m = 2
  · rw [if_pos a, if_pos a, leap_f h h']
    unfold lp
    simp only [Option.bind_some, decide_eq_true_eq]
    split <;> rfl
  · rw [if_neg a, if_neg a, if_pos h1, if_pos h2]
    rcases (by omega : m = 1 ∨ m = 3 ∨ m = 4 ∨ m = 5 ∨ m = 6 ∨ m = 7 ∨ m = 8 ∨ m = 9 ∨ m = 10 ∨ m = 11 ∨ m = 12) with rfl | rfl | rfl | rfl | rfl | rfl | rfl | rfl | rfl | rfl | rfl <;> rfl
theorem long_f {y m : Int} (h : 2000 ≤ y) (h' : y ≤ 2099) (h1 : 1 ≤ m) (h2 : m ≤ 12) : customsref04_Long.f y m = some (lm y m) := by rw [← length_long y m h1 h2, length_f h h' h1 h2]
theorem length_some (y m : Int) (h1 : 1 ≤ m) (h2 : m ≤ 12) : ∃ l, calendar_length.f y m = some l ∧ 28 ≤ l ∧ l ≤ 31 := by
  unfold calendar_length.f
  by_cases a : m = 2
  · obtain ⟨b, hb⟩ := leap_some y
    rw [if_pos a, hb]
    cases b
    · exact ⟨28, rfl, by omega, by omega⟩
    · exact ⟨29, rfl, by omega, by omega⟩
  · rw [if_neg a, if_pos h1, if_pos h2]
    rcases (by omega : m = 1 ∨ m = 3 ∨ m = 4 ∨ m = 5 ∨ m = 6 ∨ m = 7 ∨ m = 8 ∨ m = 9 ∨ m = 10 ∨ m = 11 ∨ m = 12) with rfl | rfl | rfl | rfl | rfl | rfl | rfl | rfl | rfl | rfl | rfl <;> exact ⟨_, rfl, by decide, by decide⟩
theorem weekday_f (n : Int) (h : 0 ≤ n) (h' : n ≤ 36524) : calendar_Weekday.f n = some ((n + 5) % 7) := by
  unfold calendar_Weekday.f
  rw [valid_f]
  simp only [Option.bind_some, decide_eq_true_eq]
  rw [if_pos ⟨h, h'⟩, w64 (by omega) (by omega), tm4 (by omega)]
theorem weekday_out (n : Int) (h : ¬ (0 ≤ n ∧ n ≤ 36524)) : calendar_Weekday.f n = some (-1) := by
  unfold calendar_Weekday.f
  rw [valid_f]
  simp only [Option.bind_some, decide_eq_true_eq]
  rw [if_neg h]
theorem weekday_ref (n : Int) : customsref04_Weekday.f n = calendar_Weekday.f n := rfl
theorem within_f (x n : Int) (hn : 0 < n) (hb : n ≤ 4611686018427387904) : customsmade_Within.f x n = some (x % n) := by
  unfold customsmade_Within.f
  rw [if_neg (by omega)]
  have a := Int.tmod_lt_of_pos x hn
  have b : -n < Int.tmod x n := by
    have := Int.lt_tmod_of_pos x hn
    omega
  rw [w64 (by omega) (by omega)]
  have c : Int.tmod (Int.tmod x n + n) n = (Int.tmod x n + n) % n := tm4 (by omega)
  rw [c, Int.add_emod_right]
  congr 1
  have d := Int.tmod_def x n
  rw [d]
  rw [Int.sub_mul_emod_self_left]
theorem day_made (x : Int) : customsmade_Day.f x = some (x % 36525) := by
  unfold customsmade_Day.f
  rw [within_f x 36525 (by omega) (by omega)]
  rfl
end Go.Proofs.YtlmcejiebobfbaaDoor.Pure

namespace Go.Proofs.YtlmcejiebobfbaaDoor.Pure
open Go.RowKit Go.Proofs.YtlmcejiebobfbaaDoor.G Go.Proofs.YtlmcejiebobfbaaDoorW.PrintWords Go.Proofs.YtlmcejiebobfbaaDoorW.PrintLast Go.Proofs.YtlmcejiebobfbaaDoorW.PrintMore

theorem of_l1 (y : Int) (hy : 2000 ≤ y) (hy' : y ≤ 2099) (d : Nat) : ∀ (x m : Int), 12 - m = d → 1 ≤ m → 0 ≤ x → x + dbM y m < 365 + lp y →
    ∃ mm dd, Ev (fun k => calendar_Of.l1 k x y m 0) (y, mm, dd, 0) ∧ Valid y mm dd ∧ num y mm dd = dbY y + dbM y m + x := by
  induction d with
  | zero =>
    intro x m hd h1 hx hlt
    obtain rfl : m = 12 := by omega
    have hl : lm y 12 = 31 := rfl
    have hs := dbM_succ y 12 (by omega) (by omega)
    have e13 := dbM_13 y
    have hb := lp_01 y
    have e : (12 : Int) + 1 = 13 := rfl
    rw [e, e13] at hs
    refine ⟨12, x + 1, Ev.step (f := fun _ => some (y, 12, x + 1, 0)) (fun k => ?_) (Ev.now _), ⟨hy, hy', by omega, by omega, by omega, by omega⟩, by unfold num; omega⟩
    simp only [calendar_Of.l1, length_f hy hy' (show (1 : Int) ≤ 12 by omega) (show (12 : Int) ≤ 12 by omega), Option.bind_some]
    rw [if_neg (by omega), w64 (by omega) (by omega)]
  | succ d ih =>
    intro x m hd h1 hx hlt
    have hs := dbM_succ y m h1 (by omega)
    have hb := lm_bounds y m
    have hp := dbM_pos y m h1 (by omega)
    have hl := lp_01 y
    by_cases c : lm y m ≤ x
    · obtain ⟨mm, dd, he, hv, hn⟩ := ih (x - lm y m) (m + 1) (by omega) (by omega) (by omega) (by omega)
      refine ⟨mm, dd, Ev.step (fun k => ?_) he, hv, by omega⟩
      simp only [calendar_Of.l1, length_f hy hy' h1 (show m ≤ 12 by omega), Option.bind_some]
      rw [if_pos (by omega), w64 (by omega) (by omega), w64 (by omega) (by omega)]
    · refine ⟨m, x + 1, Ev.step (f := fun _ => some (y, m, x + 1, 0)) (fun k => ?_) (Ev.now _), ⟨hy, hy', h1, by omega, by omega, by omega⟩, by unfold num; omega⟩
      simp only [calendar_Of.l1, length_f hy hy' h1 (show m ≤ 12 by omega), Option.bind_some]
      rw [if_neg (by omega), w64 (by omega) (by omega)]
theorem of_l0 (d : Nat) : ∀ (x y : Int), 2099 - y = d → 2000 ≤ y → 0 ≤ x → dbY y + x ≤ 36524 →
    ∃ yy mm dd, Ev (fun k => calendar_Of.l0 k x y 1 0) (yy, mm, dd, 0) ∧ Valid yy mm dd ∧ num yy mm dd = dbY y + x := by
  induction d with
  | zero =>
    intro x y hd hy hx hlt
    obtain rfl : y = 2099 := by omega
    have e : dbY 2099 = 36160 := by decide
    have e2 : lp 2099 = 0 := by decide
    obtain ⟨mm, dd, he, hv, hn⟩ := of_l1 2099 (by omega) (by omega) 11 x 1 (by omega) (by omega) hx (by rw [dbM_one]; omega)
    refine ⟨2099, mm, dd, Ev.step (fun k => ?_) he, hv, by rw [hn, dbM_one]; omega⟩
    simp only [calendar_Of.l0, days_f (show (2000 : Int) ≤ 2099 by omega) (show (2099 : Int) ≤ 2099 by omega), Option.bind_some]
    rw [if_neg (by omega)]
  | succ d ih =>
    intro x y hd hy hx hlt
    have hs := dbY_succ y
    have hb := lp_01 y
    have hp := dbY_le 2000 y hy
    have e : dbY 2000 = 0 := by decide
    by_cases c : 365 + lp y ≤ x
    · obtain ⟨yy, mm, dd, he, hv, hn⟩ := ih (x - (365 + lp y)) (y + 1) (by omega) (by omega) (by omega) (by omega)
      refine ⟨yy, mm, dd, Ev.step (fun k => ?_) he, hv, by omega⟩
      simp only [calendar_Of.l0, days_f hy (show y ≤ 2099 by omega), Option.bind_some]
      rw [if_pos (by omega), w64 (by omega) (by omega), w64 (by omega) (by omega)]
    · obtain ⟨mm, dd, he, hv, hn⟩ := of_l1 y hy (by omega) 11 x 1 (by omega) (by omega) hx (by rw [dbM_one]; omega)
      refine ⟨y, mm, dd, Ev.step (fun k => ?_) he, hv, by rw [hn, dbM_one]; omega⟩
      simp only [calendar_Of.l0, days_f hy (show y ≤ 2099 by omega), Option.bind_some]
      rw [if_neg (by omega)]
theorem of_ev {n : Int} (h : 0 ≤ n) (h' : n ≤ 36524) : ∃ y m d, Ev (fun k => calendar_Of.f k n) (y, m, d, 0) ∧ Valid y m d ∧ num y m d = n := by
  obtain ⟨y, m, d, he, hv, hn⟩ := of_l0 99 n 2000 (by omega) (by omega) h (by have : dbY 2000 = 0 := by decide
                                                                              omega)
  refine ⟨y, m, d, Ev.congr (fun k => ?_) he, hv, by have : dbY 2000 = 0 := by decide
                                                     omega⟩
  unfold calendar_Of.f
  rw [valid_f]
  simp only [Option.bind_some, decide_eq_true_eq]
  rw [if_pos ⟨h, h'⟩]
theorem of_out {n : Int} (h : ¬ (0 ≤ n ∧ n ≤ 36524)) (k : Nat) : calendar_Of.f k n = some (0, 0, 0, 2) := by
  unfold calendar_Of.f
  rw [valid_f]
  simp only [Option.bind_some, decide_eq_true_eq]
  rw [if_neg h]

/-- The reference's loop: month after month. -/
theorem rof_l0 (d : Nat) : ∀ (x y m : Int), 25200 - (12 * y + m) < d → 2000 ≤ y → y ≤ 2099 → 1 ≤ m → m ≤ 12 → 0 ≤ x → dbY y + dbM y m + x ≤ 36524 →
    ∃ yy mm dd, Ev (fun k => customsref04_Of.l0 k x y m) (yy, mm, dd, 0) ∧ Valid yy mm dd ∧ num yy mm dd = dbY y + dbM y m + x := by
  induction d with
  | zero => intro x y m hd; omega
  | succ d ih =>
    intro x y m hd hy hy' h1 h2 hx hlt
    have hs := dbM_succ y m h1 h2
    have hb := lm_bounds y m
    have hp := dbM_pos y m h1 h2
    have hl := lp_01 y
    have hys := dbY_succ y
    have hyp := dbY_le 2000 y hy
    have e0 : dbY 2000 = 0 := by decide
    have hL := long_f hy hy' h1 h2
    by_cases c : lm y m ≤ x
    · by_cases c2 : m = 12
      · subst c2
        have e13 := dbM_13 y
        have e : (12 : Int) + 1 = 13 := rfl
        rw [e, e13] at hs
        have hy2 : y + 1 ≤ 2099 := by
          rcases (by omega : y + 1 ≤ 2099 ∨ y = 2099) with q | q
          · exact q
          · subst q
            have q2 : dbY 2099 = 36160 := by decide
            have q3 : lp 2099 = 0 := by decide
            omega
        obtain ⟨yy, mm, dd, he, hv, hn⟩ := ih (x - lm y 12) (y + 1) 1 (by omega) (by omega) hy2 (by omega) (by omega) (by omega) (by rw [dbM_one]; omega)
        refine ⟨yy, mm, dd, Ev.step (fun k => ?_) he, hv, by rw [hn, dbM_one]; omega⟩
        simp only [customsref04_Of.l0, hL, Option.bind_some]
        rw [if_pos (by omega), w64 (n := (12 : Int) + 1) (by omega) (by omega), if_pos (by omega), w64 (by omega) (by omega), w64 (by omega) (by omega)]
      · obtain ⟨yy, mm, dd, he, hv, hn⟩ := ih (x - lm y m) y (m + 1) (by omega) hy hy' (by omega) (by omega) (by omega) (by omega)
        refine ⟨yy, mm, dd, Ev.step (fun k => ?_) he, hv, by omega⟩
        simp only [customsref04_Of.l0, hL, Option.bind_some]
        rw [if_pos (by omega), w64 (n := m + 1) (by omega) (by omega), if_neg (by omega), w64 (by omega) (by omega)]
    · refine ⟨y, m, x + 1, Ev.step (f := fun _ => some (y, m, x + 1, 0)) (fun k => ?_) (Ev.now _), ⟨hy, hy', h1, h2, by omega, by omega⟩, by unfold num; omega⟩
      simp only [customsref04_Of.l0, hL, Option.bind_some]
      rw [if_neg (by omega), w64 (by omega) (by omega)]
theorem rof_ev {n : Int} (h : 0 ≤ n) (h' : n ≤ 36524) : ∃ y m d, Ev (fun k => customsref04_Of.f k n) (y, m, d, 0) ∧ Valid y m d ∧ num y m d = n := by
  have e0 : dbY 2000 = 0 := by decide
  obtain ⟨y, m, d, he, hv, hn⟩ := rof_l0 1300 n 2000 1 (by omega) (by omega) (by omega) (by omega) (by omega) h (by rw [dbM_one]; omega)
  refine ⟨y, m, d, Ev.congr (fun k => ?_) he, hv, by rw [hn, dbM_one]; omega⟩
  unfold customsref04_Of.f
  rw [day_f]
  simp only [Option.bind_some, decide_eq_true_eq]
  rw [if_pos ⟨h, h'⟩]
theorem rof_out {n : Int} (h : ¬ (0 ≤ n ∧ n ≤ 36524)) (k : Nat) : customsref04_Of.f k n = some (0, 0, 0, 2) := by
  unfold customsref04_Of.f
  rw [day_f]
  simp only [Option.bind_some, decide_eq_true_eq]
  rw [if_neg h]

/-! ### Number -/
theorem num_l1 (y m dd : Int) (hy : 2000 ≤ y) (hy' : y ≤ 2099) (hm' : m ≤ 12) (d : Nat) : ∀ (x q : Int), m - q = d → 1 ≤ q → 0 ≤ x → x + dbM y m - dbM y q ≤ 100000 →
    Ev (fun k => calendar_Number.l1 k x q y m dd) (x + dbM y m - dbM y q, 0) ∧ Ev (fun k => customsref04_Number.l1 k x q y m dd) (x + dbM y m - dbM y q, 0) := by
  induction d with
  | zero =>
    intro x q hd h1 hx hx'
    obtain rfl : q = m := by omega
    have e : x + dbM y q - dbM y q = x := by omega
    rw [e]
    exact ⟨Ev.step (f := fun _ => some (x, 0)) (fun k => by simp only [calendar_Number.l1]; rw [if_neg (by omega)]) (Ev.now _), Ev.step (f := fun _ => some (x, 0)) (fun k => by simp only [customsref04_Number.l1]; rw [if_neg (by omega)]) (Ev.now _)⟩
  | succ d ih =>
    intro x q hd h1 hx hx'
    have hs := dbM_succ y q h1 (by omega)
    have hb := lm_bounds y q
    have hle := dbM_le y q m h1 hm' (by omega)
    obtain ⟨a, b⟩ := ih (x + lm y q) (q + 1) (by omega) (by omega) (by omega) (by omega)
    have e : x + lm y q + dbM y m - dbM y (q + 1) = x + dbM y m - dbM y q := by omega
    rw [e] at a b
    refine ⟨Ev.step (fun k => ?_) a, Ev.step (fun k => ?_) b⟩
    · simp only [calendar_Number.l1]
      rw [if_pos (by omega), length_f hy hy' h1 (by omega)]
      simp only [Option.bind_some]
      rw [w64 (by omega) (by omega), w64 (by omega) (by omega)]
    · simp only [customsref04_Number.l1]
      rw [if_pos (by omega), long_f hy hy' h1 (by omega)]
      simp only [Option.bind_some]
      rw [w64 (by omega) (by omega), w64 (by omega) (by omega)]
theorem num_l0 (y m dd : Int) (hy : 2000 ≤ y) (hy' : y ≤ 2099) (h1 : 1 ≤ m) (hm' : m ≤ 12) (d : Nat) : ∀ (x q : Int), y - q = d → 2000 ≤ q → 0 ≤ x → x + dbY y - dbY q ≤ 40000 →
    Ev (fun k => calendar_Number.l0 k x q y m dd) (x + dbY y - dbY q + dbM y m, 0) ∧ Ev (fun k => customsref04_Number.l0 k x q y m dd) (x + dbY y - dbY q + dbM y m, 0) := by
  have hmp := dbM_pos y m h1 hm'
  have hme := dbM_end y m h1 hm'
  have hlm := lm_bounds y m
  have hll := lp_01 y
  induction d with
  | zero =>
    intro x q hd h2 hx hx'
    obtain rfl : q = y := by omega
    have e : x + dbY q - dbY q + dbM q m = x + dbM q m - dbM q 1 := by rw [dbM_one]; omega
    rw [e]
    obtain ⟨a, b⟩ := num_l1 q m dd hy hy' hm' (m - 1).toNat x 1 (by omega) (by omega) hx (by rw [dbM_one]; omega)
    exact ⟨Ev.step (fun k => by simp only [calendar_Number.l0]; rw [if_neg (by omega)]) a, Ev.step (fun k => by simp only [customsref04_Number.l0]; rw [if_neg (by omega)]) b⟩
  | succ d ih =>
    intro x q hd h2 hx hx'
    have hs := dbY_succ q
    have hb := lp_01 q
    have hle := dbY_le (q + 1) y (by omega)
    obtain ⟨a, b⟩ := ih (x + (365 + lp q)) (q + 1) (by omega) (by omega) (by omega) (by omega)
    have e : x + (365 + lp q) + dbY y - dbY (q + 1) + dbM y m = x + dbY y - dbY q + dbM y m := by omega
    rw [e] at a b
    refine ⟨Ev.step (fun k => ?_) a, Ev.step (fun k => ?_) b⟩
    · simp only [calendar_Number.l0]
      rw [if_pos (by omega), days_f h2 (by omega)]
      simp only [Option.bind_some]
      rw [w64 (by omega) (by omega), w64 (by omega) (by omega)]
    · have hL : customsref04_Long.f q 2 = some (28 + lp q) := by
        rw [long_f h2 (by omega) (by omega) (by omega)]
        rfl
      simp only [customsref04_Number.l0]
      rw [if_pos (by omega), hL]
      simp only [Option.bind_some]
      rw [w64 (n := x + 337) (by omega) (by omega), w64 (by omega) (by omega), w64 (by omega) (by omega)]
      have e2 : x + 337 + (28 + lp q) = x + (365 + lp q) := by omega
      rw [e2]
theorem number_ev {y m d : Int} (h : Valid y m d) : Ev (fun k => calendar_Number.f k y m d) (num y m d, 0) ∧ Ev (fun k => customsref04_Number.f k y m d) (num y m d, 0) := by
  have hr := num_range h
  obtain ⟨a1, a2, a3, a4, a5, a6⟩ := h
  have e0 : dbY 2000 = 0 := by decide
  have hmp := dbM_pos y m a3 a4
  have hlm := lm_bounds y m
  obtain ⟨a, b⟩ := num_l0 y m d a1 a2 a3 a4 (y - 2000).toNat (d - 1) 2000 (by omega) (by omega) (by omega) (by unfold num at hr; omega)
  have e : d - 1 + dbY y - dbY 2000 + dbM y m = num y m d := by unfold num; omega
  rw [e] at a b
  constructor
  · refine Ev.congr (f := fun k => calendar_Number.j0 k false y m d) (fun k => ?_) (Ev.step (fun k => ?_) a)
    · unfold calendar_Number.f
      rw [if_neg (by omega), if_neg (by omega), if_neg (by omega), if_neg (by omega), if_neg (by omega), length_f a1 a2 a3 a4]
      simp only [Option.bind_some]
      rw [decide_eq_false (by omega)]
    · simp only [calendar_Number.j0]
      rw [if_neg (by decide), w64 (by omega) (by omega)]
  · refine Ev.congr (f := fun k => customsref04_Number.j0 k false y m d) (fun k => ?_) (Ev.step (fun k => ?_) b)
    · unfold customsref04_Number.f
      rw [if_neg (by omega), if_neg (by omega), if_neg (by omega), if_neg (by omega), if_neg (by omega), long_f a1 a2 a3 a4]
      simp only [Option.bind_some]
      rw [decide_eq_false (by omega)]
    · simp only [customsref04_Number.j0]
      rw [if_neg (by decide), w64 (by omega) (by omega)]
theorem number_bad (y m d : Int) : Ev (fun k => calendar_Number.j0 k true y m d) (0, 2) ∧ Ev (fun k => customsref04_Number.j0 k true y m d) (0, 2) :=
  ⟨Ev.step (f := fun _ => some (0, 2)) (fun _ => by simp only [calendar_Number.j0]; rfl) (Ev.now _), Ev.step (f := fun _ => some (0, 2)) (fun _ => by simp only [customsref04_Number.j0]; rfl) (Ev.now _)⟩
theorem number_out {y m d : Int} (h : ¬ Valid y m d) : Ev (fun k => calendar_Number.f k y m d) (0, 2) ∧ Ev (fun k => customsref04_Number.f k y m d) (0, 2) := by
  obtain ⟨a, b⟩ := number_bad y m d
  by_cases c1 : y < 2000
  · exact ⟨Ev.congr (fun k => by unfold calendar_Number.f; rw [if_pos c1]) a, Ev.congr (fun k => by unfold customsref04_Number.f; rw [if_pos c1]) b⟩
  by_cases c2 : y > 2099
  · exact ⟨Ev.congr (fun k => by unfold calendar_Number.f; rw [if_neg c1, if_pos c2]) a, Ev.congr (fun k => by unfold customsref04_Number.f; rw [if_neg c1, if_pos c2]) b⟩
  by_cases c3 : m < 1
  · exact ⟨Ev.congr (fun k => by unfold calendar_Number.f; rw [if_neg c1, if_neg c2, if_pos c3]) a, Ev.congr (fun k => by unfold customsref04_Number.f; rw [if_neg c1, if_neg c2, if_pos c3]) b⟩
  by_cases c4 : m > 12
  · exact ⟨Ev.congr (fun k => by unfold calendar_Number.f; rw [if_neg c1, if_neg c2, if_neg c3, if_pos c4]) a, Ev.congr (fun k => by unfold customsref04_Number.f; rw [if_neg c1, if_neg c2, if_neg c3, if_pos c4]) b⟩
  by_cases c5 : d < 1
  · exact ⟨Ev.congr (fun k => by unfold calendar_Number.f; rw [if_neg c1, if_neg c2, if_neg c3, if_neg c4, if_pos c5]) a, Ev.congr (fun k => by unfold customsref04_Number.f; rw [if_neg c1, if_neg c2, if_neg c3, if_neg c4, if_pos c5]) b⟩
  have c6 : d > lm y m := by
    unfold Valid at h
    omega
  refine ⟨Ev.congr (fun k => ?_) a, Ev.congr (fun k => ?_) b⟩
  · unfold calendar_Number.f
    rw [if_neg c1, if_neg c2, if_neg c3, if_neg c4, if_neg c5, length_f (by omega) (by omega) (by omega) (by omega)]
    simp only [Option.bind_some]
    rw [decide_eq_true c6]
  · unfold customsref04_Number.f
    rw [if_neg c1, if_neg c2, if_neg c3, if_neg c4, if_neg c5, long_f (by omega) (by omega) (by omega) (by omega)]
    simp only [Option.bind_some]
    rw [decide_eq_true c6]

/-! ### AddMonths -/
/-- The day n months later, by the date of the day. -/
def later (y m d n : Int) : Int × Int :=
  let t := 12 * y + m - 1 + n
  if 24000 ≤ t ∧ t ≤ 25199 then (num (t / 12) (t % 12 + 1) (min d (lm (t / 12) (t % 12 + 1))), 0) else (0, 3)
theorem mn_min (a b : Int) : mn a b = min a b := by unfold mn; split <;> omega
theorem add_core {y m d n : Int} (h : Valid y m d) (hn : -1200 ≤ n) (hn' : n ≤ 1200) :
    ∃ l, calendar_length.f (wrap64 (Int.tdiv (wrap64 ((wrap64 ((wrap64 ((wrap64 (12 * y)) + m)) - 1)) + n)) 12)) (wrap64 ((Int.tmod (wrap64 ((wrap64 ((wrap64 ((wrap64 (12 * y)) + m)) - 1)) + n)) 12) + 1)) = some l ∧
      customsref04_Long.f (wrap64 (Int.tdiv (wrap64 ((wrap64 ((wrap64 ((wrap64 (12 * y)) + m)) - 1)) + n)) 12)) (wrap64 ((Int.tmod (wrap64 ((wrap64 ((wrap64 ((wrap64 (12 * y)) + m)) - 1)) + n)) 12) + 1)) = some l ∧
      Ev (fun k => (calendar_Number.f k (wrap64 (Int.tdiv (wrap64 ((wrap64 ((wrap64 ((wrap64 (12 * y)) + m)) - 1)) + n)) 12)) (wrap64 ((Int.tmod (wrap64 ((wrap64 ((wrap64 ((wrap64 (12 * y)) + m)) - 1)) + n)) 12) + 1)) (mn d l)).bind fun bt127 => (if bt127.2 = 0 then (some (bt127.1, 0)) else (some (0, 3)))) (later y m d n) ∧
      Ev (fun k => (customsref04_Number.f k (wrap64 (Int.tdiv (wrap64 ((wrap64 ((wrap64 ((wrap64 (12 * y)) + m)) - 1)) + n)) 12)) (wrap64 ((Int.tmod (wrap64 ((wrap64 ((wrap64 ((wrap64 (12 * y)) + m)) - 1)) + n)) 12) + 1)) (mn d l)).bind fun bt127 => (if bt127.2 = 0 then (some (bt127.1, 0)) else (some (0, 3)))) (later y m d n) := by
  obtain ⟨a1, a2, a3, a4, a5, a6⟩ := h
  obtain ⟨t, ht⟩ : ∃ t, t = 12 * y + m - 1 + n := ⟨_, rfl⟩
  rw [w64 (n := 12 * y) (by omega) (by omega), w64 (n := 12 * y + m) (by omega) (by omega), w64 (n := 12 * y + m - 1) (by omega) (by omega), w64 (n := 12 * y + m - 1 + n) (by omega) (by omega), ← ht]
  have e1 : Int.tdiv t 12 = t / 12 := Int.tdiv_eq_ediv_of_nonneg (by omega)
  have e2 : Int.tmod t 12 = t % 12 := tm4 (by omega)
  rw [e1, e2, w64 (n := t / 12) (by omega) (by omega), w64 (n := t % 12 + 1) (by omega) (by omega)]
  obtain ⟨l, hl, l1, l2⟩ := length_some (t / 12) (t % 12 + 1) (by omega) (by omega)
  refine ⟨l, hl, by rw [← length_long _ _ (by omega) (by omega)]; exact hl, ?_⟩
  have hd31 := lm_bounds y m
  unfold later
  simp only [← ht]
  by_cases c : 24000 ≤ t ∧ t ≤ 25199
  · rw [if_pos c]
    have el : l = lm (t / 12) (t % 12 + 1) := by
      rw [length_f (by omega) (by omega) (by omega) (by omega)] at hl
      exact (Option.some.inj hl).symm
    subst el
    rw [mn_min]
    have hv : Valid (t / 12) (t % 12 + 1) (min d (lm (t / 12) (t % 12 + 1))) := ⟨by omega, by omega, by omega, by omega, by omega, by omega⟩
    obtain ⟨a, b⟩ := number_ev hv
    exact ⟨Ev.bind a (Ev.congr (fun k => by rw [if_pos rfl]) (Ev.now _)), Ev.bind b (Ev.congr (fun k => by rw [if_pos rfl]) (Ev.now _))⟩
  · rw [if_neg c]
    have hv : ¬ Valid (t / 12) (t % 12 + 1) (mn d l) := by
      unfold Valid
      omega
    obtain ⟨a, b⟩ := number_out hv
    exact ⟨Ev.bind a (Ev.congr (fun k => by rw [if_neg (by decide)]) (Ev.now _)), Ev.bind b (Ev.congr (fun k => by rw [if_neg (by decide)]) (Ev.now _))⟩
theorem add_ev {x n y m d : Int} (hx : 0 ≤ x) (hx' : x ≤ 36524) (hv : Valid y m d) (hn : num y m d = x) (h : -1200 ≤ n) (h' : n ≤ 1200) :
    Ev (fun k => calendar_AddMonths.f k x n) (later y m d n) ∧ Ev (fun k => customsref04_AddMonths.f k x n) (later y m d n) := by
  obtain ⟨y1, m1, d1, he1, hv1, hn1⟩ := of_ev hx hx'
  obtain ⟨y2, m2, d2, he2, hv2, hn2⟩ := rof_ev hx hx'
  obtain ⟨rfl, rfl, rfl⟩ := num_inj hv1 hv (by omega)
  obtain ⟨rfl, rfl, rfl⟩ := num_inj hv2 hv (by omega)
  obtain ⟨l, hl, hl2, a, b⟩ := add_core hv h h'
  obtain ⟨K1, h1⟩ := he1
  obtain ⟨K2, h2⟩ := he2
  obtain ⟨K3, h3⟩ := a
  obtain ⟨K4, h4⟩ := b
  dsimp only at h1 h2 h3 h4
  constructor
  · refine ⟨K1 + K3 + 1, fun k hk => ?_⟩
    obtain ⟨k, rfl⟩ : ∃ j, k = j + 1 := ⟨k - 1, by omega⟩
    dsimp only
    unfold calendar_AddMonths.f
    rw [valid_f]
    simp only [Option.bind_some, decide_eq_true_eq]
    rw [if_pos ⟨hx, hx'⟩, if_neg (by omega), decide_eq_false (by omega)]
    simp only [calendar_AddMonths.j0]
    rw [if_neg (by decide), h1 k (by omega)]
    simp only [Option.bind_some]
    rw [hl]
    simp only [Option.bind_some]
    exact h3 k (by omega)
  · refine ⟨K2 + K4 + 1, fun k hk => ?_⟩
    obtain ⟨k, rfl⟩ : ∃ j, k = j + 1 := ⟨k - 1, by omega⟩
    dsimp only
    unfold customsref04_AddMonths.f
    rw [h2 (k + 1) (by omega)]
    simp only [Option.bind_some]
    rw [if_pos trivial, if_neg (by omega), decide_eq_false (by omega)]
    simp only [customsref04_AddMonths.j0]
    rw [if_neg (by decide), hl2]
    simp only [Option.bind_some]
    exact h4 k (by omega)
theorem add_out {x n : Int} (h : ¬ (0 ≤ x ∧ x ≤ 36524 ∧ -1200 ≤ n ∧ n ≤ 1200)) : Ev (fun k => calendar_AddMonths.f k x n) (0, 2) ∧ Ev (fun k => customsref04_AddMonths.f k x n) (0, 2) := by
  constructor
  · refine ⟨1, fun k hk => ?_⟩
    obtain ⟨k, rfl⟩ : ∃ j, k = j + 1 := ⟨k - 1, by omega⟩
    dsimp only
    unfold calendar_AddMonths.f
    rw [valid_f]
    simp only [Option.bind_some, decide_eq_true_eq]
    by_cases c : 0 ≤ x ∧ x ≤ 36524
    · rw [if_pos c]
      by_cases c2 : n < -1200
      · rw [if_pos c2]; simp [calendar_AddMonths.j0]
      · rw [if_neg c2, decide_eq_true (by omega)]; simp [calendar_AddMonths.j0]
    · rw [if_neg c]; simp [calendar_AddMonths.j0]
  · by_cases c : 0 ≤ x ∧ x ≤ 36524
    · obtain ⟨y, m, d, ⟨K, he⟩, _, _⟩ := rof_ev c.1 c.2
      dsimp only at he
      refine ⟨K + 1, fun k hk => ?_⟩
      obtain ⟨k, rfl⟩ : ∃ j, k = j + 1 := ⟨k - 1, by omega⟩
      dsimp only
      unfold customsref04_AddMonths.f
      rw [he (k + 1) (by omega)]
      simp only [Option.bind_some]
      rw [if_pos trivial]
      by_cases c2 : n < -1200
      · rw [if_pos c2]; simp [customsref04_AddMonths.j0]
      · rw [if_neg c2, decide_eq_true (by omega)]; simp [customsref04_AddMonths.j0]
    · refine ⟨1, fun k hk => ?_⟩
      obtain ⟨k, rfl⟩ : ∃ j, k = j + 1 := ⟨k - 1, by omega⟩
      dsimp only
      unfold customsref04_AddMonths.f
      rw [rof_out c]
      simp only [Option.bind_some]
      rw [if_neg (by decide)]
      simp [customsref04_AddMonths.j0]
/-- The sanity check on fixed days. -/
theorem awake_ev : Ev (fun k => customslaw04_awake.f k) true := by
  refine Ev.of (fun k => customslaw04_awake.mono k) (k := 40) ?_
  decide +kernel
end Go.Proofs.YtlmcejiebobfbaaDoor.Pure

