/-
  Plain mathematics: what these functions answer; at the end the law's pure statement. No program's memory in sight.
-/
import Derived.OpenShut
import Derived.Deep.Slices
import Derived.WideShapes
import Derived.SizedLaws
import Derived.WalkKit
import Derived.ProofKit
import Derived.ChangeOld
import Derived.Test.YtbndoihcejieoaaDoorQCorew1
import Derived.Test.YtbndoihcejieoaaDoorQCorev1
import Derived.Test.YtbndoihcejieoaaDoorQCorea1
import Derived.Test.YtbndoihcejieoaaDoorQCorea2
import Derived.Test.YtbndoihcejieoaaDoorQCorea3
import Derived.Test.YtbndoihcejieoaaDoorQCorea4
import Derived.Test.YtbndoihcejieoaaDoorQCorea5
namespace Go.Proofs.YtbndoihcejieoaaDoor.Pure
open Go.RowKit Go.Proofs.YtbndoihcejieoaaDoor.G Go.Proofs.YtbndoihcejieoaaDoorW.PrintWords Go.Proofs.YtbndoihcejieoaaDoorW.PrintLast Go.Proofs.YtbndoihcejieoaaDoorW.PrintMore
set_option linter.unusedSimpArgs false
set_option linter.unusedVariables false

theorem w64 {n : Int} (h : -9223372036854775808 ≤ n) (h' : n ≤ 9223372036854775807) : wrap64 n = n := by unfold wrap64; omega

/-- Leap years, from 2000 to 2099. -/
def lp (y : Int) : Int := if y % 4 = 0 then 1 else 0
/-- Days before a year. -/
def dbY (y : Int) : Int := 365 * (y - 2000) + (y - 1997) / 4
/-- Days before a month of a common year. -/
def cm (m : Int) : Int := if m ≤ 1 then 0 else if m ≤ 2 then 31 else if m ≤ 3 then 59 else if m ≤ 4 then 90 else if m ≤ 5 then 120 else if m ≤ 6 then 151 else if m ≤ 7 then 181 else if m ≤ 8 then 212 else if m ≤ 9 then 243 else if m ≤ 10 then 273 else if m ≤ 11 then 304 else if m ≤ 12 then 334 else 365
def dbM (y m : Int) : Int := cm m + (if m ≤ 2 then 0 else lp y)
/-- Days of a month. -/
def lm (y m : Int) : Int := if m = 2 then 28 + lp y else if m = 4 then 30 else if m = 6 then 30 else if m = 9 then 30 else if m = 11 then 30 else 31
/-- The number of a date. -/
def num (y m d : Int) : Int := dbY y + dbM y m + d - 1
def Valid (y m d : Int) : Prop := 2000 ≤ y ∧ y ≤ 2099 ∧ 1 ≤ m ∧ m ≤ 12 ∧ 1 ≤ d ∧ d ≤ lm y m

theorem lp_01 (y : Int) : 0 ≤ lp y ∧ lp y ≤ 1 := by unfold lp; split <;> omega
theorem dbY_succ (y : Int) : dbY (y + 1) = dbY y + 365 + lp y := by unfold dbY lp; split <;> omega
theorem dbM_succ (y m : Int) (h1 : 1 ≤ m) (h2 : m ≤ 12) : dbM y (m + 1) = dbM y m + lm y m := by
  have := lp_01 y
  unfold dbM lm
  rcases (by omega : m = 1 ∨ m = 2 ∨ m = 3 ∨ m = 4 ∨ m = 5 ∨ m = 6 ∨ m = 7 ∨ m = 8 ∨ m = 9 ∨ m = 10 ∨ m = 11 ∨ m = 12) with rfl | rfl | rfl | rfl | rfl | rfl | rfl | rfl | rfl | rfl | rfl | rfl <;> simp [cm] <;> omega
theorem lm_bounds (y m : Int) : 28 ≤ lm y m ∧ lm y m ≤ 31 := by
  have := lp_01 y
  unfold lm
  repeat' split
  all_goals omega
theorem dbM_one (y : Int) : dbM y 1 = 0 := rfl
theorem dbM_13 (y : Int) : dbM y 13 = 365 + lp y := rfl
/-- Later months begin behind earlier ones' ends. -/
theorem dbM_lt (y : Int) (m : Int) (h1 : 1 ≤ m) : ∀ (d : Nat), m + d ≤ 12 → dbM y m + lm y m ≤ dbM y (m + d + 1)
  | 0, h => by
    have := dbM_succ y m h1 (by omega)
    have e : m + ((0 : Nat) : Int) + 1 = m + 1 := by omega
    rw [e]
    omega
  | d + 1, h => by
    have ih := dbM_lt y m h1 d (by omega)
    have := dbM_succ y (m + d + 1) (by omega) (by omega)
    have := lm_bounds y (m + d + 1)
    have e : m + ((d + 1 : Nat) : Int) + 1 = m + d + 1 + 1 := by omega
    rw [e]
    omega
theorem dbM_end (y m : Int) (h1 : 1 ≤ m) (h2 : m ≤ 12) : dbM y m + lm y m ≤ 365 + lp y := by
  have := dbM_lt y m h1 (12 - m).toNat (by omega)
  have e : m + ((12 - m).toNat : Int) + 1 = 13 := by omega
  rw [e, dbM_13] at this
  exact this
theorem dbM_le (y m1 m2 : Int) (h1 : 1 ≤ m1) (h2 : m2 ≤ 12) (h : m1 < m2) : dbM y m1 + lm y m1 ≤ dbM y m2 := by
  have := dbM_lt y m1 h1 (m2 - m1 - 1).toNat (by omega)
  have e : m1 + ((m2 - m1 - 1).toNat : Int) + 1 = m2 := by omega
  rw [e] at this
  exact this
theorem dbM_pos (y m : Int) (h1 : 1 ≤ m) (h2 : m ≤ 12) : 0 ≤ dbM y m := by
  by_cases h : m = 1
  · rw [h, dbM_one]; exact Int.le_refl 0
  · have := dbM_le y 1 m (by omega) h2 (by omega)
    have := lm_bounds y 1
    rw [dbM_one] at *
    omega
theorem dbY_le (y1 y2 : Int) (h : y1 ≤ y2) : dbY y1 ≤ dbY y2 := by unfold dbY; omega
/-- Later months: later days. -/
theorem num_lt {y1 m1 d1 y2 m2 d2 : Int} (h1 : 1 ≤ m1) (h1' : m1 ≤ 12) (hd1 : d1 ≤ lm y1 m1) (h2 : 1 ≤ m2) (h2' : m2 ≤ 12) (hd2 : 1 ≤ d2) (h : 12 * y1 + m1 < 12 * y2 + m2) : num y1 m1 d1 < num y2 m2 d2 := by
  unfold num
  by_cases e : y1 = y2
  · subst e
    have := dbM_le y1 m1 m2 h1 h2' (by omega)
    omega
  · have a := dbY_le (y1 + 1) y2 (by omega)
    have b := dbY_succ y1
    have c := dbM_end y1 m1 h1 h1'
    have d := dbM_pos y2 m2 h2 h2'
    omega
/-- A day has one date. -/
theorem num_inj {y1 m1 d1 y2 m2 d2 : Int} (h1 : Valid y1 m1 d1) (h2 : Valid y2 m2 d2) (h : num y1 m1 d1 = num y2 m2 d2) : y1 = y2 ∧ m1 = m2 ∧ d1 = d2 := by
  obtain ⟨a1, a2, a3, a4, a5, a6⟩ := h1
  obtain ⟨b1, b2, b3, b4, b5, b6⟩ := h2
  rcases Int.lt_trichotomy (12 * y1 + m1) (12 * y2 + m2) with c | c | c
  · have := num_lt a3 a4 a6 b3 b4 b5 c
    omega
  · have e1 : y1 = y2 := by omega
    have e2 : m1 = m2 := by omega
    subst e1
    subst e2
    unfold num at h
    exact ⟨rfl, rfl, by omega⟩
  · have := num_lt b3 b4 b6 a3 a4 a5 c
    omega
theorem num_range {y m d : Int} (h : Valid y m d) : 0 ≤ num y m d ∧ num y m d ≤ 36524 := by
  obtain ⟨a1, a2, a3, a4, a5, a6⟩ := h
  have b := dbM_end y m a3 a4
  have c := dbM_pos y m a3 a4
  have e := lp_01 y
  have f := dbY_succ y
  have g := dbY_le (y + 1) 2100 (by omega)
  have i := dbY_le 2000 y a1
  have j : dbY 2100 = 36525 := by decide
  have k : dbY 2000 = 0 := by decide
  unfold num
  omega

/-! ### The small functions -/
theorem valid_f (n : Int) : calendar_valid.f n = some (decide (0 ≤ n ∧ n ≤ 36524)) := by
  unfold calendar_valid.f
  by_cases h : n ≥ 0
  · rw [if_pos h]; congr 1; simp; omega
  · rw [if_neg h]; congr 1; simp; omega
theorem day_f (n : Int) : customsref04_Day.f n = some (decide (0 ≤ n ∧ n ≤ 36524)) := valid_f n
theorem tm4 {y k : Int} (h : 0 ≤ y) : Int.tmod y k = y % k := by rw [Int.tmod_eq_emod_of_nonneg h]
theorem leap_f {y : Int} (h : 2000 ≤ y) (h' : y ≤ 2099) : calendar_leap.f y = some (decide (y % 4 = 0)) := by
  unfold calendar_leap.f
  rw [tm4 (by omega), tm4 (by omega), tm4 (by omega)]
  by_cases a : y % 4 = 0
  · rw [if_pos a]
    by_cases b : y % 100 = 0
    · rw [if_pos b]
      have : y % 400 = 0 := by omega
      simp [a, this]
    · rw [if_neg b]; simp [a]
  · rw [if_neg a]; simp [a]
theorem leap_some (y : Int) : ∃ b, calendar_leap.f y = some b := by unfold calendar_leap.f; repeat' split
                                                                    all_goals exact ⟨_, rfl⟩
theorem days_f {y : Int} (h : 2000 ≤ y) (h' : y ≤ 2099) : calendar_days.f y = some (365 + lp y) := by
  unfold calendar_days.f lp
  rw [leap_f h h']
  simp only [Option.bind_some, decide_eq_true_eq]
  split <;> rfl
/-- The two tables of months are one, for whatever year. -/
theorem length_long (y m : Int) (h1 : 1 ≤ m) (h2 : m ≤ 12) : calendar_length.f y m = customsref04_Long.f y m := by
  unfold calendar_length.f customsref04_Long.f
  by_cases a : m = 2
  · rw [if_pos a, if_pos a]
    unfold calendar_leap.f
    by_cases b : Int.tmod y 4 = 0
    · rw [if_pos b, if_pos b]
      by_cases c : Int.tmod y 100 = 0
      · rw [if_pos c, if_pos c]
        by_cases d : Int.tmod y 400 = 0 <;> simp [d]
      · rw [if_neg c, if_neg c]; rfl
    · rw [if_neg b, if_neg b]; rfl
  · rw [if_neg a, if_neg a, if_pos h1, if_pos h2]
    rcases (by omega : m = 1 ∨ m = 3 ∨ m = 4 ∨ m = 5 ∨ m = 6 ∨ m = 7 ∨ m = 8 ∨ m = 9 ∨ m = 10 ∨ m = 11 ∨ m = 12) with rfl | rfl | rfl | rfl | rfl | rfl | rfl | rfl | rfl | rfl | rfl <;> rfl
theorem length_f {y m : Int} (h : 2000 ≤ y) (h' : y ≤ 2099) (h1 : 1 ≤ m) (h2 : m ≤ 12) : calendar_length.f y m = some (lm y m) := by
  unfold calendar_length.f lm
  by_cases a : m = 2
  · rw [if_pos a, if_pos a, leap_f h h']
    unfold lp
    simp only [Option.bind_some, decide_eq_true_eq]
    split <;> rfl
  · rw [if_neg a, if_neg a, if_pos h1, if_pos h2]
    rcases (by omega : m = 1 ∨ m = 3 ∨ m = 4 ∨ m = 5 ∨ m = 6 ∨ m = 7 ∨ m = 8 ∨ m = 9 ∨ m = 10 ∨ m = 11 ∨ m = 12) with rfl | rfl | rfl | rfl | rfl | rfl | rfl | rfl | rfl | rfl | rfl <;> rfl
theorem long_f {y m : Int} (h : 2000 ≤ y) (h' : y ≤ 2099) (h1 : 1 ≤ m) (h2 : m ≤ 12) : customsref04_Long.f y m = some (lm y m) := by rw [← length_long y m h1 h2, length_f h h' h1 h2]
theorem length_some (y m : Int) (h1 : 1 ≤ m) (h2 : m ≤ 12) : ∃ l, calendar_length.f y m = some l ∧ 28 ≤ l ∧ l ≤ 31 := by
  unfold calendar_length.f
  by_cases a : m = 2
  · obtain ⟨b, hb⟩ := leap_some y
    rw [if_pos a, hb]
    cases b
    · exact ⟨28, rfl, by omega, by omega⟩
    · exact ⟨29, rfl, by omega, by omega⟩
  · rw [if_neg a, if_pos h1, if_pos h2]
    rcases (by omega : m = 1 ∨ m = 3 ∨ m = 4 ∨ m = 5 ∨ m = 6 ∨ m = 7 ∨ m = 8 ∨ m = 9 ∨ m = 10 ∨ m = 11 ∨ m = 12) with rfl | rfl | rfl | rfl | rfl | rfl | rfl | rfl | rfl | rfl | rfl <;> exact ⟨_, rfl, by decide, by decide⟩
theorem weekday_f (n : Int) (h : 0 ≤ n) (h' : n ≤ 36524) : calendar_Weekday.f n = some ((n + 5) % 7) := by
  unfold calendar_Weekday.f
  rw [valid_f]
  simp only [Option.bind_some, decide_eq_true_eq]
  rw [if_pos ⟨h, h'⟩, w64 (by omega) (by omega), tm4 (by omega)]
theorem weekday_out (n : Int) (h : ¬ (0 ≤ n ∧ n ≤ 36524)) : calendar_Weekday.f n = some (-1) := by
  unfold calendar_Weekday.f
  rw [valid_f]
  simp only [Option.bind_some, decide_eq_true_eq]
  rw [if_neg h]
theorem weekday_ref (n : Int) : customsref04_Weekday.f n = calendar_Weekday.f n := rfl
theorem of_l1 (y : Int) (hy : 2000 ≤ y) (hy' : y ≤ 2099) (d : Nat) : ∀ (x m : Int), 12 - m = d → 1 ≤ m → 0 ≤ x → x + dbM y m < 365 + lp y →
    ∃ mm dd, Ev (fun k => calendar_Of.l1 k x y m 0) (y, mm, dd, 0) ∧ Valid y mm dd ∧ num y mm dd = dbY y + dbM y m + x := by
  induction d with
  | zero =>
    intro x m hd h1 hx hlt
    obtain rfl : m = 12 := by omega
    have hl : lm y 12 = 31 := rfl
    have hs := dbM_succ y 12 (by omega) (by omega)
    have e13 := dbM_13 y
    have hb := lp_01 y
    have e : (12 : Int) + 1 = 13 := rfl
    rw [e, e13] at hs
    refine ⟨12, x + 1, Ev.step (f := fun _ => some (y, 12, x + 1, 0)) (fun k => ?_) (Ev.now _), ⟨hy, hy', by omega, by omega, by omega, by omega⟩, by unfold num; omega⟩
    simp only [calendar_Of.l1, length_f hy hy' (show (1 : Int) ≤ 12 by omega) (show (12 : Int) ≤ 12 by omega), Option.bind_some]
    rw [if_neg (by omega), w64 (by omega) (by omega)]
  | succ d ih =>
    intro x m hd h1 hx hlt
    have hs := dbM_succ y m h1 (by omega)
    have hb := lm_bounds y m
    have hp := dbM_pos y m h1 (by omega)
    have hl := lp_01 y
    by_cases c : lm y m ≤ x
    · obtain ⟨mm, dd, he, hv, hn⟩ := ih (x - lm y m) (m + 1) (by omega) (by omega) (by omega) (by omega)
      refine ⟨mm, dd, Ev.step (fun k => ?_) he, hv, by omega⟩
      simp only [calendar_Of.l1, length_f hy hy' h1 (show m ≤ 12 by omega), Option.bind_some]
      rw [if_pos (by omega), w64 (by omega) (by omega), w64 (by omega) (by omega)]
    · refine ⟨m, x + 1, Ev.step (f := fun _ => some (y, m, x + 1, 0)) (fun k => ?_) (Ev.now _), ⟨hy, hy', h1, by omega, by omega, by omega⟩, by unfold num; omega⟩
      simp only [calendar_Of.l1, length_f hy hy' h1 (show m ≤ 12 by omega), Option.bind_some]
      rw [if_neg (by omega), w64 (by omega) (by omega)]
theorem of_l0 (d : Nat) : ∀ (x y : Int), 2099 - y = d → 2000 ≤ y → 0 ≤ x → dbY y + x ≤ 36524 →
    ∃ yy mm dd, Ev (fun k => calendar_Of.l0 k x y 1 0) (yy, mm, dd, 0) ∧ Valid yy mm dd ∧ num yy mm dd = dbY y + x := by
  induction d with
  | zero =>
    intro x y hd hy hx hlt
    obtain rfl : y = 2099 := by omega
    have e : dbY 2099 = 36160 := by decide
    have e2 : lp 2099 = 0 := by decide
    obtain ⟨mm, dd, he, hv, hn⟩ := of_l1 2099 (by omega) (by omega) 11 x 1 (by omega) (by omega) hx (by rw [dbM_one]; omega)
    refine ⟨2099, mm, dd, Ev.step (fun k => ?_) he, hv, by rw [hn, dbM_one]; omega⟩
    simp only [calendar_Of.l0, days_f (show (2000 : Int) ≤ 2099 by omega) (show (2099 : Int) ≤ 2099 by omega), Option.bind_some]
    rw [if_neg (by omega)]
  | succ d ih =>
    intro x y hd hy hx hlt
    have hs := dbY_succ y
    have hb := lp_01 y
    have hp := dbY_le 2000 y hy
    have e : dbY 2000 = 0 := by decide
    by_cases c : 365 + lp y ≤ x
    · obtain ⟨yy, mm, dd, he, hv, hn⟩ := ih (x - (365 + lp y)) (y + 1) (by omega) (by omega) (by omega) (by omega)
      refine ⟨yy, mm, dd, Ev.step (fun k => ?_) he, hv, by omega⟩
      simp only [calendar_Of.l0, days_f hy (show y ≤ 2099 by omega), Option.bind_some]
      rw [if_pos (by omega), w64 (by omega) (by omega), w64 (by omega) (by omega)]
    · obtain ⟨mm, dd, he, hv, hn⟩ := of_l1 y hy (by omega) 11 x 1 (by omega) (by omega) hx (by rw [dbM_one]; omega)
      refine ⟨y, mm, dd, Ev.step (fun k => ?_) he, hv, by rw [hn, dbM_one]; omega⟩
      simp only [calendar_Of.l0, days_f hy (show y ≤ 2099 by omega), Option.bind_some]
      rw [if_neg (by omega)]
theorem of_ev {n : Int} (h : 0 ≤ n) (h' : n ≤ 36524) : ∃ y m d, Ev (fun k => calendar_Of.f k n) (y, m, d, 0) ∧ Valid y m d ∧ num y m d = n := by
  obtain ⟨y, m, d, he, hv, hn⟩ := of_l0 99 n 2000 (by omega) (by omega) h (by have : dbY 2000 = 0 := by decide
                                                                              omega)
  refine ⟨y, m, d, Ev.congr (fun k => ?_) he, hv, by have : dbY 2000 = 0 := by decide
                                                     omega⟩
  unfold calendar_Of.f
  rw [valid_f]
  simp only [Option.bind_some, decide_eq_true_eq]
  rw [if_pos ⟨h, h'⟩]
/-- The reference's loop: month after month. -/
theorem rof_l0 (d : Nat) : ∀ (x y m : Int), 25200 - (12 * y + m) < d → 2000 ≤ y → y ≤ 2099 → 1 ≤ m → m ≤ 12 → 0 ≤ x → dbY y + dbM y m + x ≤ 36524 →
    ∃ yy mm dd, Ev (fun k => customsref04_Of.l0 k x y m) (yy, mm, dd, 0) ∧ Valid yy mm dd ∧ num yy mm dd = dbY y + dbM y m + x := by
  induction d with
  | zero => intro x y m hd; omega
  | succ d ih =>
    intro x y m hd hy hy' h1 h2 hx hlt
    have hs := dbM_succ y m h1 h2
    have hb := lm_bounds y m
    have hp := dbM_pos y m h1 h2
    have hl := lp_01 y
    have hys := dbY_succ y
    have hyp := dbY_le 2000 y hy
    have e0 : dbY 2000 = 0 := by decide
    have hL := long_f hy hy' h1 h2
    by_cases c : lm y m ≤ x
    · by_cases c2 : m = 12
      · subst c2
        have e13 := dbM_13 y
        have e : (12 : Int) + 1 = 13 := rfl
        rw [e, e13] at hs
        have hy2 : y + 1 ≤ 2099 := by
          rcases (by omega : y + 1 ≤ 2099 ∨ y = 2099) with q | q
          · exact q
          · subst q
            have q2 : dbY 2099 = 36160 := by decide
            have q3 : lp 2099 = 0 := by decide
            omega
        obtain ⟨yy, mm, dd, he, hv, hn⟩ := ih (x - lm y 12) (y + 1) 1 (by omega) (by omega) hy2 (by omega) (by omega) (by omega) (by rw [dbM_one]; omega)
        refine ⟨yy, mm, dd, Ev.step (fun k => ?_) he, hv, by rw [hn, dbM_one]; omega⟩
        simp only [customsref04_Of.l0, hL, Option.bind_some]
        rw [if_pos (by omega), w64 (n := (12 : Int) + 1) (by omega) (by omega), if_pos (by omega), w64 (by omega) (by omega), w64 (by omega) (by omega)]
      · obtain ⟨yy, mm, dd, he, hv, hn⟩ := ih (x - lm y m) y (m + 1) (by omega) hy hy' (by omega) (by omega) (by omega) (by omega)
        refine ⟨yy, mm, dd, Ev.step (fun k => ?_) he, hv, by omega⟩
        simp only [customsref04_Of.l0, hL, Option.bind_some]
        rw [if_pos (by omega), w64 (n := m + 1) (by omega) (by omega), if_neg (by omega), w64 (by omega) (by omega)]
    · refine ⟨y, m, x + 1, Ev.step (f := fun _ => some (y, m, x + 1, 0)) (fun k => ?_) (Ev.now _), ⟨hy, hy', h1, h2, by omega, by omega⟩, by unfold num; omega⟩
      simp only [customsref04_Of.l0, hL, Option.bind_some]
      rw [if_neg (by omega), w64 (by omega) (by omega)]
theorem rof_ev {n : Int} (h : 0 ≤ n) (h' : n ≤ 36524) : ∃ y m d, Ev (fun k => customsref04_Of.f k n) (y, m, d, 0) ∧ Valid y m d ∧ num y m d = n := by
  have e0 : dbY 2000 = 0 := by decide
  obtain ⟨y, m, d, he, hv, hn⟩ := rof_l0 1300 n 2000 1 (by omega) (by omega) (by omega) (by omega) (by omega) h (by rw [dbM_one]; omega)
  refine ⟨y, m, d, Ev.congr (fun k => ?_) he, hv, by rw [hn, dbM_one]; omega⟩
  unfold customsref04_Of.f
  rw [day_f]
  simp only [Option.bind_some, decide_eq_true_eq]
  rw [if_pos ⟨h, h'⟩]
/-! ### Number -/
theorem num_l1 (y m dd : Int) (hy : 2000 ≤ y) (hy' : y ≤ 2099) (hm' : m ≤ 12) (d : Nat) : ∀ (x q : Int), m - q = d → 1 ≤ q → 0 ≤ x → x + dbM y m - dbM y q ≤ 100000 →
    Ev (fun k => calendar_Number.l1 k x q y m dd) (x + dbM y m - dbM y q, 0) ∧ Ev (fun k => customsref04_Number.l1 k x q y m dd) (x + dbM y m - dbM y q, 0) := by
  induction d with
  | zero =>
    intro x q hd h1 hx hx'
    obtain rfl : q = m := by omega
    have e : x + dbM y q - dbM y q = x := by omega
    rw [e]
    exact ⟨Ev.step (f := fun _ => some (x, 0)) (fun k => by simp only [calendar_Number.l1]; rw [if_neg (by omega)]) (Ev.now _), Ev.step (f := fun _ => some (x, 0)) (fun k => by simp only [customsref04_Number.l1]; rw [if_neg (by omega)]) (Ev.now _)⟩
  | succ d ih =>
    intro x q hd h1 hx hx'
    have hs := dbM_succ y q h1 (by omega)
    have hb := lm_bounds y q
    have hle := dbM_le y q m h1 hm' (by omega)
    obtain ⟨a, b⟩ := ih (x + lm y q) (q + 1) (by omega) (by omega) (by omega) (by omega)
    have e : x + lm y q + dbM y m - dbM y (q + 1) = x + dbM y m - dbM y q := by omega
    rw [e] at a b
    refine ⟨Ev.step (fun k => ?_) a, Ev.step (fun k => ?_) b⟩
    · simp only [calendar_Number.l1]
      rw [if_pos (by omega), length_f hy hy' h1 (by omega)]
      simp only [Option.bind_some]
      rw [w64 (by omega) (by omega), w64 (by omega) (by omega)]
    · simp only [customsref04_Number.l1]
      rw [if_pos (by omega), long_f hy hy' h1 (by omega)]
      simp only [Option.bind_some]
      rw [w64 (by omega) (by omega), w64 (by omega) (by omega)]
theorem num_l0 (y m dd : Int) (hy : 2000 ≤ y) (hy' : y ≤ 2099) (h1 : 1 ≤ m) (hm' : m ≤ 12) (d : Nat) : ∀ (x q : Int), y - q = d → 2000 ≤ q → 0 ≤ x → x + dbY y - dbY q ≤ 40000 →
    Ev (fun k => calendar_Number.l0 k x q y m dd) (x + dbY y - dbY q + dbM y m, 0) ∧ Ev (fun k => customsref04_Number.l0 k x q y m dd) (x + dbY y - dbY q + dbM y m, 0) := by
  have hmp := dbM_pos y m h1 hm'
  have hme := dbM_end y m h1 hm'
  have hlm := lm_bounds y m
  have hll := lp_01 y
  induction d with
  | zero =>
    intro x q hd h2 hx hx'
    obtain rfl : q = y := by omega
    have e : x + dbY q - dbY q + dbM q m = x + dbM q m - dbM q 1 := by rw [dbM_one]; omega
    rw [e]
    obtain ⟨a, b⟩ := num_l1 q m dd hy hy' hm' (m - 1).toNat x 1 (by omega) (by omega) hx (by rw [dbM_one]; omega)
    exact ⟨Ev.step (fun k => by simp only [calendar_Number.l0]; rw [if_neg (by omega)]) a, Ev.step (fun k => by simp only [customsref04_Number.l0]; rw [if_neg (by omega)]) b⟩
  | succ d ih =>
    intro x q hd h2 hx hx'
    have hs := dbY_succ q
    have hb := lp_01 q
    have hle := dbY_le (q + 1) y (by omega)
    obtain ⟨a, b⟩ := ih (x + (365 + lp q)) (q + 1) (by omega) (by omega) (by omega) (by omega)
    have e : x + (365 + lp q) + dbY y - dbY (q + 1) + dbM y m = x + dbY y - dbY q + dbM y m := by omega
    rw [e] at a b
    refine ⟨Ev.step (fun k => ?_) a, Ev.step (fun k => ?_) b⟩
    · simp only [calendar_Number.l0]
      rw [if_pos (by omega), days_f h2 (by omega)]
      simp only [Option.bind_some]
      rw [w64 (by omega) (by omega), w64 (by omega) (by omega)]
    · have hL : customsref04_Long.f q 2 = some (28 + lp q) := by
        rw [long_f h2 (by omega) (by omega) (by omega)]
        rfl
      simp only [customsref04_Number.l0]
      rw [if_pos (by omega), hL]
      simp only [Option.bind_some]
      rw [w64 (n := x + 337) (by omega) (by omega), w64 (by omega) (by omega), w64 (by omega) (by omega)]
      have e2 : x + 337 + (28 + lp q) = x + (365 + lp q) := by omega
      rw [e2]
theorem number_ev {y m d : Int} (h : Valid y m d) : Ev (fun k => calendar_Number.f k y m d) (num y m d, 0) ∧ Ev (fun k => customsref04_Number.f k y m d) (num y m d, 0) := by
  have hr := num_range h
  obtain ⟨a1, a2, a3, a4, a5, a6⟩ := h
  have e0 : dbY 2000 = 0 := by decide
  have hmp := dbM_pos y m a3 a4
  have hlm := lm_bounds y m
  obtain ⟨a, b⟩ := num_l0 y m d a1 a2 a3 a4 (y - 2000).toNat (d - 1) 2000 (by omega) (by omega) (by omega) (by unfold num at hr; omega)
  have e : d - 1 + dbY y - dbY 2000 + dbM y m = num y m d := by unfold num; omega
  rw [e] at a b
  constructor
  · refine Ev.congr (f := fun k => calendar_Number.j0 k false y m d) (fun k => ?_) (Ev.step (fun k => ?_) a)
    · unfold calendar_Number.f
      rw [if_neg (by omega), if_neg (by omega), if_neg (by omega), if_neg (by omega), if_neg (by omega), length_f a1 a2 a3 a4]
      simp only [Option.bind_some]
      rw [decide_eq_false (by omega)]
    · simp only [calendar_Number.j0]
      rw [if_neg (by decide), w64 (by omega) (by omega)]
  · refine Ev.congr (f := fun k => customsref04_Number.j0 k false y m d) (fun k => ?_) (Ev.step (fun k => ?_) b)
    · unfold customsref04_Number.f
      rw [if_neg (by omega), if_neg (by omega), if_neg (by omega), if_neg (by omega), if_neg (by omega), long_f a1 a2 a3 a4]
      simp only [Option.bind_some]
      rw [decide_eq_false (by omega)]
    · simp only [customsref04_Number.j0]
      rw [if_neg (by decide), w64 (by omega) (by omega)]
theorem number_bad (y m d : Int) : Ev (fun k => calendar_Number.j0 k true y m d) (0, 2) ∧ Ev (fun k => customsref04_Number.j0 k true y m d) (0, 2) :=
  ⟨Ev.step (f := fun _ => some (0, 2)) (fun _ => by simp only [calendar_Number.j0]; rfl) (Ev.now _), Ev.step (f := fun _ => some (0, 2)) (fun _ => by simp only [customsref04_Number.j0]; rfl) (Ev.now _)⟩
theorem number_out {y m d : Int} (h : ¬ Valid y m d) : Ev (fun k => calendar_Number.f k y m d) (0, 2) ∧ Ev (fun k => customsref04_Number.f k y m d) (0, 2) := by
  obtain ⟨a, b⟩ := number_bad y m d
  by_cases c1 : y < 2000
  · exact ⟨Ev.congr (fun k => by unfold calendar_Number.f; rw [if_pos c1]) a, Ev.congr (fun k => by unfold customsref04_Number.f; rw [if_pos c1]) b⟩
  by_cases c2 : y > 2099
  · exact ⟨Ev.congr (fun k => by unfold calendar_Number.f; rw [if_neg c1, if_pos c2]) a, Ev.congr (fun k => by unfold customsref04_Number.f; rw [if_neg c1, if_pos c2]) b⟩
  by_cases c3 : m < 1
  · exact ⟨Ev.congr (fun k => by unfold calendar_Number.f; rw [if_neg c1, if_neg c2, if_pos c3]) a, Ev.congr (fun k => by unfold customsref04_Number.f; rw [if_neg c1, if_neg c2, if_pos c3]) b⟩
  by_cases c4 : m > 12
  · exact ⟨Ev.congr (fun k => by unfold calendar_Number.f; rw [if_neg c1, if_neg c2, if_neg c3, if_pos c4]) a, Ev.congr (fun k => by unfold customsref04_Number.f; rw [if_neg c1, if_neg c2, if_neg c3, if_pos c4]) b⟩
  by_cases c5 : d < 1
  · exact ⟨Ev.congr (fun k => by unfold calendar_Number.f; rw [if_neg c1, if_neg c2, if_neg c3, if_neg c4, if_pos c5]) a, Ev.congr (fun k => by unfold customsref04_Number.f; rw [if_neg c1, if_neg c2, if_neg c3, if_neg c4, if_pos c5]) b⟩
  have c6 : d > lm y m := by
    unfold Valid at h
    omega
  refine ⟨Ev.congr (fun k => ?_) a, Ev.congr (fun k => ?_) b⟩
  · unfold calendar_Number.f
    rw [if_neg c1, if_neg c2, if_neg c3, if_neg c4, if_neg c5, length_f (by omega) (by omega) (by omega) (by omega)]
    simp only [Option.bind_some]
    rw [decide_eq_true c6]
  · unfold customsref04_Number.f
    rw [if_neg c1, if_neg c2, if_neg c3, if_neg c4, if_neg c5, long_f (by omega) (by omega) (by omega) (by omega)]
    simp only [Option.bind_some]
    rw [decide_eq_true c6]

/-! ### AddMonths -/
/-- The day n months later, by the date of the day. -/
def later (y m d n : Int) : Int × Int :=
  let t := 12 * y + m - 1 + n
  if 24000 ≤ t ∧ t ≤ 25199 then (num (t / 12) (t % 12 + 1) (min d (lm (t / 12) (t % 12 + 1))), 0) else (0, 3)
theorem mn_min (a b : Int) : mn a b = min a b := by unfold mn; split <;> omega
theorem add_core {y m d n : Int} (h : Valid y m d) (hn : -1200 ≤ n) (hn' : n ≤ 1200) :
    ∃ l, calendar_length.f (wrap64 (Int.tdiv (wrap64 ((wrap64 ((wrap64 ((wrap64 (12 * y)) + m)) - 1)) + n)) 12)) (wrap64 ((Int.tmod (wrap64 ((wrap64 ((wrap64 ((wrap64 (12 * y)) + m)) - 1)) + n)) 12) + 1)) = some l ∧
      customsref04_Long.f (wrap64 (Int.tdiv (wrap64 ((wrap64 ((wrap64 ((wrap64 (12 * y)) + m)) - 1)) + n)) 12)) (wrap64 ((Int.tmod (wrap64 ((wrap64 ((wrap64 ((wrap64 (12 * y)) + m)) - 1)) + n)) 12) + 1)) = some l ∧
      Ev (fun k => (calendar_Number.f k (wrap64 (Int.tdiv (wrap64 ((wrap64 ((wrap64 ((wrap64 (12 * y)) + m)) - 1)) + n)) 12)) (wrap64 ((Int.tmod (wrap64 ((wrap64 ((wrap64 ((wrap64 (12 * y)) + m)) - 1)) + n)) 12) + 1)) (mn d l)).bind fun bt127 => (if bt127.2 = 0 then (some (bt127.1, 0)) else (some (0, 3)))) (later y m d n) ∧
      Ev (fun k => (customsref04_Number.f k (wrap64 (Int.tdiv (wrap64 ((wrap64 ((wrap64 ((wrap64 (12 * y)) + m)) - 1)) + n)) 12)) (wrap64 ((Int.tmod (wrap64 ((wrap64 ((wrap64 ((wrap64 (12 * y)) + m)) - 1)) + n)) 12) + 1)) (mn d l)).bind fun bt127 => (if bt127.2 = 0 then (some (bt127.1, 0)) else (some (0, 3)))) (later y m d n) := by
  obtain ⟨a1, a2, a3, a4, a5, a6⟩ := h
  obtain ⟨t, ht⟩ : ∃ t, t = 12 * y + m - 1 + n := ⟨_, rfl⟩
  rw [w64 (n := 12 * y) (by omega) (by omega), w64 (n := 12 * y + m) (by omega) (by omega), w64 (n := 12 * y + m - 1) (by omega) (by omega), w64 (n := 12 * y + m - 1 + n) (by omega) (by omega), ← ht]
  have e1 : Int.tdiv t 12 = t / 12 := Int.tdiv_eq_ediv_of_nonneg (by omega)
  have e2 : Int.tmod t 12 = t % 12 := tm4 (by omega)
  rw [e1, e2, w64 (n := t / 12) (by omega) (by omega), w64 (n := t % 12 + 1) (by omega) (by omega)]
  obtain ⟨l, hl, l1, l2⟩ := length_some (t / 12) (t % 12 + 1) (by omega) (by omega)
  refine ⟨l, hl, by rw [← length_long _ _ (by omega) (by omega)]; exact hl, ?_⟩
  have hd31 := lm_bounds y m
  unfold later
  simp only [← ht]
  by_cases c : 24000 ≤ t ∧ t ≤ 25199
  · rw [if_pos c]
    have el : l = lm (t / 12) (t % 12 + 1) := by
      rw [length_f (by omega) (by omega) (by omega) (by omega)] at hl
      exact (Option.some.inj hl).symm
    subst el
    rw [mn_min]
    have hv : Valid (t / 12) (t % 12 + 1) (min d (lm (t / 12) (t % 12 + 1))) := ⟨by omega, by omega, by omega, by omega, by omega, by omega⟩
    obtain ⟨a, b⟩ := number_ev hv
    exact ⟨Ev.bind a (Ev.congr (fun k => by rw [if_pos rfl]) (Ev.now _)), Ev.bind b (Ev.congr (fun k => by rw [if_pos rfl]) (Ev.now _))⟩
  · rw [if_neg c]
    have hv : ¬ Valid (t / 12) (t % 12 + 1) (mn d l) := by
      unfold Valid
      omega
    obtain ⟨a, b⟩ := number_out hv
    exact ⟨Ev.bind a (Ev.congr (fun k => by rw [if_neg (by decide)]) (Ev.now _)), Ev.bind b (Ev.congr (fun k => by rw [if_neg (by decide)]) (Ev.now _))⟩
theorem add_ev {x n y m d : Int} (hx : 0 ≤ x) (hx' : x ≤ 36524) (hv : Valid y m d) (hn : num y m d = x) (h : -1200 ≤ n) (h' : n ≤ 1200) :
    Ev (fun k => calendar_AddMonths.f k x n) (later y m d n) ∧ Ev (fun k => customsref04_AddMonths.f k x n) (later y m d n) := by
  obtain ⟨y1, m1, d1, he1, hv1, hn1⟩ := of_ev hx hx'
  obtain ⟨y2, m2, d2, he2, hv2, hn2⟩ := rof_ev hx hx'
  obtain ⟨rfl, rfl, rfl⟩ := num_inj hv1 hv (by omega)
  obtain ⟨rfl, rfl, rfl⟩ := num_inj hv2 hv (by omega)
  obtain ⟨l, hl, hl2, a, b⟩ := add_core hv h h'
  obtain ⟨K1, h1⟩ := he1
  obtain ⟨K2, h2⟩ := he2
  obtain ⟨K3, h3⟩ := a
  obtain ⟨K4, h4⟩ := b
  dsimp only at h1 h2 h3 h4
  constructor
  · refine ⟨K1 + K3 + 1, fun k hk => ?_⟩
    obtain ⟨k, rfl⟩ : ∃ j, k = j + 1 := ⟨k - 1, by omega⟩
    dsimp only
    unfold calendar_AddMonths.f
    rw [valid_f]
    simp only [Option.bind_some, decide_eq_true_eq]
    rw [if_pos ⟨hx, hx'⟩, if_neg (by omega), decide_eq_false (by omega)]
    simp only [calendar_AddMonths.j0]
    rw [if_neg (by decide), h1 k (by omega)]
    simp only [Option.bind_some]
    rw [hl]
    simp only [Option.bind_some]
    exact h3 k (by omega)
  · refine ⟨K2 + K4 + 1, fun k hk => ?_⟩
    obtain ⟨k, rfl⟩ : ∃ j, k = j + 1 := ⟨k - 1, by omega⟩
    dsimp only
    unfold customsref04_AddMonths.f
    rw [h2 (k + 1) (by omega)]
    simp only [Option.bind_some]
    rw [if_pos trivial, if_neg (by omega), decide_eq_false (by omega)]
    simp only [customsref04_AddMonths.j0]
    rw [if_neg (by decide), hl2]
    simp only [Option.bind_some]
    exact h4 k (by omega)
end Go.Proofs.YtbndoihcejieoaaDoor.Pure
namespace Go.Proofs.YtbndoihcejieoaaDoor.G

def calendar_NextWorking.f (k : Nat) (l0 : List Int) (a1 : Int) : Option (Int × Int) := (calendar_Valid.f k l0).bind fun t431 => (if t431 = 0 then ((calendar_valid.f a1).bind fun t432 => (if t432 = true then ((calendar_next.f k l0 a1).bind fun bt433 => (some (bt433.1, bt433.2))) else (some (0, 2)))) else (some (0, t431)))
def calendar_AddWorking.f (k : Nat) (l0 : List Int) (a1 : Int) (a2 : Int) : Option (Int × Int) := (calendar_Valid.f k l0).bind fun t398 => (if t398 = 0 then ((calendar_valid.f a1).bind fun t399 => (if t399 = true then (if a2 < 0 then (some (0, 2)) else (if a2 > 1000 then (some (0, 2)) else ((calendar_add.f k l0 a1 a2).bind fun bt400 => (some (bt400.1, bt400.2))))) else (some (0, 2)))) else (some (0, t398)))
end Go.Proofs.YtbndoihcejieoaaDoor.G
namespace Go.Proofs.YtbndoihcejieoaaDoor.Pure
open Go.RowKit Go.Proofs.YtbndoihcejieoaaDoor.G Go.Proofs.YtbndoihcejieoaaDoorW.PrintWords Go.Proofs.YtbndoihcejieoaaDoorW.PrintLast Go.Proofs.YtbndoihcejieoaaDoorW.PrintMore
set_option linter.unusedSimpArgs false
set_option linter.unusedVariables false

/-- Each number is above the one before it. -/
def Up (l : List Int) : Prop := ∀ i : Int, 0 < i → i < l.length → rd l (i - 1) < rd l i
theorem Up.lt {l : List Int} (h : Up l) : ∀ (n : Nat) (i : Int), 0 ≤ i → i + n + 1 < l.length → rd l i < rd l (i + n + 1)
  | 0, i, h0, h1 => by
    have := h (i + 1) (by omega) (by omega)
    have e : i + 1 - 1 = i := by omega
    rw [e] at this
    simpa using this
  | n + 1, i, h0, h1 => by
    have a := Up.lt h n i h0 (by omega)
    have b := h (i + n + 1 + 1) (by omega) (by omega)
    have e : i + n + 1 + 1 - 1 = i + n + 1 := by omega
    rw [e] at b
    have e2 : i + ((n + 1 : Nat) : Int) + 1 = i + n + 1 + 1 := by omega
    rw [e2]
    omega
theorem Up.mono {l : List Int} (h : Up l) {i j : Int} (h0 : 0 ≤ i) (hij : i < j) (hj : j < l.length) : rd l i < rd l j := by
  have := h.lt (j - i - 1).toNat i h0 (by omega)
  have e : i + ((j - i - 1).toNat : Int) + 1 = j := by omega
  rw [e] at this
  exact this
theorem mem_rd {l : List Int} {x : Int} : x ∈ l ↔ ∃ i : Int, 0 ≤ i ∧ i < l.length ∧ rd l i = x := by
  constructor
  · intro h
    obtain ⟨i, hi, e⟩ := List.getElem_of_mem h
    refine ⟨i, by omega, by omega, ?_⟩
    unfold rd
    simp [List.getD_eq_getElem?_getD, hi, e]
  · rintro ⟨i, h0, h1, rfl⟩
    have hi : i.toNat < l.length := by omega
    unfold rd
    rw [List.getD_eq_getElem?_getD, List.getElem?_eq_getElem hi]
    exact List.getElem_mem hi

/-- Valid, the program's and the reference's: one answer, and what OK says. -/
theorem valid_l (l : List Int) (hl : l.length ≤ 2000) (d : Nat) : ∀ i : Int, (l.length : Int) - i = d → 0 ≤ i →
    ∃ r, Ev (fun k => calendar_Valid.l0 k l l (l.length : Int) i) r ∧ Ev (fun k => customsref04_Valid.l0 k l i) r ∧ (r = 0 → ∀ j : Int, i ≤ j → 0 < j → j < l.length → rd l (j - 1) < rd l j) := by
  induction d with
  | zero =>
    intro i hd h0
    refine ⟨0, Ev.step (f := fun _ => some 0) (fun k => ?_) (Ev.now _), Ev.step (f := fun _ => some 0) (fun k => ?_) (Ev.now _), fun _ j h1 _ h2 => by omega⟩
    · simp only [calendar_Valid.l0]; rw [if_neg (by omega)]
    · simp only [customsref04_Valid.l0]; rw [if_neg (by omega)]
  | succ d ih =>
    intro i hd h0
    have hlt : i < (l.length : Int) := by omega
    by_cases c : 0 ≤ rd l i ∧ rd l i ≤ 36524
    · by_cases c1 : i > 0
      · by_cases c2 : rd l i ≤ rd l (i - 1)
        · refine ⟨9, Ev.step (f := fun _ => some 9) (fun k => ?_) (Ev.now _), Ev.step (f := fun _ => some 9) (fun k => ?_) (Ev.now _), fun e => absurd e (by decide)⟩
          · simp only [calendar_Valid.l0]
            rw [if_pos hlt, if_pos h0, if_pos hlt, valid_f]
            simp only [Option.bind_some, decide_eq_true_eq]
            rw [if_pos c, if_pos c1, w64 (by omega) (by omega), if_pos (by omega), if_pos (by omega), if_pos c2]
          · simp only [customsref04_Valid.l0]
            rw [if_pos hlt, if_pos h0, day_f]
            simp only [Option.bind_some, decide_eq_true_eq]
            rw [if_pos c, if_pos c1, w64 (by omega) (by omega), if_pos (by omega), if_pos (by omega), if_pos c2]
        · obtain ⟨r, a, b, f⟩ := ih (i + 1) (by omega) (by omega)
          refine ⟨r, Ev.step (fun k => ?_) a, Ev.step (fun k => ?_) b, fun e j h1 h2 h3 => ?_⟩
          · simp only [calendar_Valid.l0]
            rw [if_pos hlt, if_pos h0, if_pos hlt, valid_f]
            simp only [Option.bind_some, decide_eq_true_eq]
            rw [if_pos c, if_pos c1, w64 (n := i - 1) (by omega) (by omega), if_pos (by omega), if_pos (by omega), if_neg c2, w64 (by omega) (by omega)]
          · simp only [customsref04_Valid.l0]
            rw [if_pos hlt, if_pos h0, day_f]
            simp only [Option.bind_some, decide_eq_true_eq]
            rw [if_pos c, if_pos c1, w64 (n := i - 1) (by omega) (by omega), if_pos (by omega), if_pos (by omega), if_neg c2, w64 (by omega) (by omega)]
          · by_cases q : j = i
            · subst q; omega
            · exact f e j (by omega) h2 h3
      · obtain ⟨r, a, b, f⟩ := ih (i + 1) (by omega) (by omega)
        refine ⟨r, Ev.step (fun k => ?_) a, Ev.step (fun k => ?_) b, fun e j h1 h2 h3 => f e j (by omega) h2 h3⟩
        · simp only [calendar_Valid.l0]
          rw [if_pos hlt, if_pos h0, if_pos hlt, valid_f]
          simp only [Option.bind_some, decide_eq_true_eq]
          rw [if_pos c, if_neg c1, w64 (by omega) (by omega)]
        · simp only [customsref04_Valid.l0]
          rw [if_pos hlt, if_pos h0, day_f]
          simp only [Option.bind_some, decide_eq_true_eq]
          rw [if_pos c, if_neg c1, w64 (by omega) (by omega)]
    · refine ⟨2, Ev.step (f := fun _ => some 2) (fun k => ?_) (Ev.now _), Ev.step (f := fun _ => some 2) (fun k => ?_) (Ev.now _), fun e => absurd e (by decide)⟩
      · simp only [calendar_Valid.l0]
        rw [if_pos hlt, if_pos h0, if_pos hlt, valid_f]
        simp only [Option.bind_some, decide_eq_true_eq]
        rw [if_neg c]
      · simp only [customsref04_Valid.l0]
        rw [if_pos hlt, if_pos h0, day_f]
        simp only [Option.bind_some, decide_eq_true_eq]
        rw [if_neg c]
theorem valid_ev (l : List Int) : ∃ r, Ev (fun k => calendar_Valid.f k l) r ∧ Ev (fun k => customsref04_Valid.f k l) r ∧ (r = 0 → Up l ∧ l.length ≤ 2000) := by
  by_cases c : (l.length : Int) > 2000
  · exact ⟨8, Ev.congr (fun k => by unfold calendar_Valid.f; rw [if_pos c]) (Ev.now _), Ev.congr (fun k => by unfold customsref04_Valid.f; rw [if_pos c]) (Ev.now _), fun e => absurd e (by decide)⟩
  · obtain ⟨r, a, b, f⟩ := valid_l l (by omega) l.length 0 (by omega) (by omega)
    exact ⟨r, Ev.congr (fun k => by unfold calendar_Valid.f; rw [if_neg c]) a, Ev.congr (fun k => by unfold customsref04_Valid.f; rw [if_neg c]) b, fun e => ⟨fun i h0 h1 => f e i (by omega) h0 h1, by omega⟩⟩

/-! ### The search -/
theorem less_f (a b : Int) : cmp_Less_int.f a b = some (decide (a < b)) := by
  unfold cmp_Less_int.f cmp_isNaN_int.f
  simp
theorem nan_f (a : Int) : slices_isNaN_int.f a = some false := by
  unfold slices_isNaN_int.f
  simp
theorem half {a b : Int} (h0 : 0 ≤ a) (h1 : a ≤ 100000) (h2 : 0 ≤ b) (h3 : b ≤ 100000) : wrap64 ((IntKind.u64.wrap (wrap64 (a + b))) / 2) = (a + b) / 2 := by
  have e : IntKind.u64.wrap (a + b) = a + b := by
    simp [IntKind.wrap, IntKind.min, IntKind.max, IntKind.signed, IntKind.bits]
    omega
  rw [w64 (n := a + b) (by omega) (by omega), e, w64 (by omega) (by omega)]
theorem search_l0 (l : List Int) (hu : Up l) (hl : l.length ≤ 2000) (x : Int) (d : Nat) : ∀ i j : Int, j - i ≤ d → 0 ≤ i → i ≤ j → j ≤ l.length →
    (∀ q : Int, 0 ≤ q → q < i → rd l q < x) → (∀ q : Int, j ≤ q → q < l.length → x ≤ rd l q) → ∃ p, Ev (fun k => slices_BinarySearch_int_int.l0 k l x (l.length : Int) i j) (p, decide (x ∈ l)) := by
  induction d with
  | zero =>
    intro i j hd h0 hij hj ha hb
    obtain rfl : i = j := by omega
    refine ⟨i, Ev.step (f := fun _ => some (i, decide (x ∈ l))) (fun k => ?_) (Ev.now _)⟩
    simp only [slices_BinarySearch_int_int.l0]
    rw [if_neg (by omega)]
    by_cases c : i < (l.length : Int)
    · rw [if_pos c, if_pos h0, if_pos c]
      by_cases e : rd l i = x
      · rw [if_pos e, decide_eq_true (mem_rd.2 ⟨i, h0, c, e⟩)]
      · rw [if_neg e, nan_f]
        simp only [Option.bind_some]
        rw [if_neg (by decide), decide_eq_false]
        intro hm
        obtain ⟨q, q0, q1, q2⟩ := mem_rd.1 hm
        have hb0 := hb i (by omega) c
        rcases Int.lt_trichotomy q i with r | r | r
        · have := ha q q0 r; omega
        · rw [r] at q2; exact e q2
        · have := hu.mono h0 r q1; omega
    · rw [if_neg c, decide_eq_false]
      intro hm
      obtain ⟨q, q0, q1, q2⟩ := mem_rd.1 hm
      have := ha q q0 (by omega)
      omega
  | succ d ih =>
    intro i j hd h0 hij hj ha hb
    by_cases c : i < j
    · have hm0 : 0 ≤ (i + j) / 2 := by omega
      have hm1 : (i + j) / 2 < (l.length : Int) := by omega
      have hh := half (a := i) (b := j) h0 (by omega) (by omega) (by omega)
      by_cases e : rd l ((i + j) / 2) < x
      · obtain ⟨p, hp⟩ := ih ((i + j) / 2 + 1) j (by omega) (by omega) (by omega) hj (fun q q0 q1 => by
          by_cases r : q = (i + j) / 2
          · rw [r]; exact e
          · have := hu.mono q0 (show q < (i + j) / 2 by omega) hm1
            omega) hb
        refine ⟨p, Ev.step (fun k => ?_) hp⟩
        simp only [slices_BinarySearch_int_int.l0]
        rw [if_pos c, hh, if_pos hm0, if_pos hm1, less_f]
        simp only [Option.bind_some, decide_eq_true_eq]
        rw [if_pos e, w64 (by omega) (by omega)]
      · obtain ⟨p, hp⟩ := ih i ((i + j) / 2) (by omega) h0 (by omega) (by omega) ha (fun q q0 q1 => by
          by_cases r : q = (i + j) / 2
          · rw [r]; omega
          · have := hu.mono hm0 (show (i + j) / 2 < q by omega) q1
            omega)
        refine ⟨p, Ev.step (fun k => ?_) hp⟩
        simp only [slices_BinarySearch_int_int.l0]
        rw [if_pos c, hh, if_pos hm0, if_pos hm1, less_f]
        simp only [Option.bind_some, decide_eq_true_eq]
        rw [if_neg e]
    · exact ih i j (by omega) h0 hij hj ha hb

/-! ### Working days -/
def isW (l : List Int) (d : Int) : Bool := decide (0 ≤ d ∧ d ≤ 36524 ∧ (d + 5) % 7 ≤ 4 ∧ ¬ d ∈ l)
theorem working_ev (l : List Int) (hu : Up l) (hl : l.length ≤ 2000) (d : Int) : Ev (fun k => calendar_Working.f k l d) (isW l d) := by
  by_cases c : 0 ≤ d ∧ d ≤ 36524
  · by_cases c2 : (d + 5) % 7 ≥ 5
    · refine Ev.congr (f := fun _ => some (isW l d)) (fun k => ?_) (Ev.now _)
      unfold calendar_Working.f
      rw [valid_f]
      simp only [Option.bind_some, decide_eq_true_eq]
      rw [if_pos c, weekday_f d c.1 c.2]
      simp only [Option.bind_some]
      rw [if_pos c2]
      congr 1
      exact (decide_eq_false (by omega)).symm
    · obtain ⟨p, K, hK⟩ := search_l0 l hu hl d l.length 0 l.length (by omega) (by omega) (by omega) (by omega) (fun q q0 q1 => by omega) (fun q q0 q1 => by omega)
      dsimp only at hK
      refine ⟨K, fun k hk => ?_⟩
      dsimp only
      unfold calendar_Working.f
      rw [valid_f]
      simp only [Option.bind_some, decide_eq_true_eq]
      rw [if_pos c, weekday_f d c.1 c.2]
      simp only [Option.bind_some]
      rw [if_neg c2]
      unfold slices_BinarySearch_int_int.f
      rw [hK k hk]
      simp only [Option.bind_some]
      congr 1
      unfold isW
      by_cases m : d ∈ l
      · simp [m]
      · simp [m]; omega
  · refine Ev.congr (f := fun _ => some (isW l d)) (fun k => ?_) (Ev.now _)
    unfold calendar_Working.f
    rw [valid_f]
    simp only [Option.bind_some, decide_eq_true_eq]
    rw [if_neg c]
    congr 1
    exact (decide_eq_false (by omega)).symm
theorem rworking_l0 (l : List Int) (hl : l.length ≤ 2000) (x w : Int) (d : Nat) : ∀ i : Int, (l.length : Int) - i = d → 0 ≤ i → (∀ q : Int, 0 ≤ q → q < i → rd l q ≠ x) →
    Ev (fun k => customsref04_Working.l0 k l x w i) (decide (¬ x ∈ l ∧ 0 ≤ w ∧ w ≤ 4)) := by
  induction d with
  | zero =>
    intro i hd h0 hq
    refine Ev.step (f := fun _ => some (decide (¬ x ∈ l ∧ 0 ≤ w ∧ w ≤ 4))) (fun k => ?_) (Ev.now _)
    have hn : ¬ x ∈ l := fun hm => by
      obtain ⟨q, q0, q1, q2⟩ := mem_rd.1 hm
      exact hq q q0 (by omega) q2
    simp only [customsref04_Working.l0]
    rw [if_neg (by omega)]
    by_cases c : w ≥ 0
    · rw [if_pos c]; congr 1; simp [hn]; omega
    · rw [if_neg c]; congr 1; exact (decide_eq_false (by omega)).symm
  | succ d ih =>
    intro i hd h0 hq
    have hlt : i < (l.length : Int) := by omega
    by_cases c : rd l i = x
    · refine Ev.step (f := fun _ => some (decide (¬ x ∈ l ∧ 0 ≤ w ∧ w ≤ 4))) (fun k => ?_) (Ev.now _)
      have hm : x ∈ l := mem_rd.2 ⟨i, h0, hlt, c⟩
      simp only [customsref04_Working.l0]
      rw [if_pos hlt, if_pos h0, if_pos c, decide_eq_false (fun h => h.1 hm)]
    · refine Ev.step (fun k => ?_) (ih (i + 1) (by omega) (by omega) (fun q q0 q1 => by
        by_cases r : q = i
        · rw [r]; exact c
        · exact hq q q0 (by omega)))
      simp only [customsref04_Working.l0]
      rw [if_pos hlt, if_pos h0, if_neg c, w64 (by omega) (by omega)]
theorem rworking_ev (l : List Int) (hl : l.length ≤ 2000) (d : Int) : Ev (fun k => customsref04_Working.f k l d) (isW l d) := by
  by_cases c : 0 ≤ d ∧ d ≤ 36524
  · have h := rworking_l0 l hl d ((d + 5) % 7) l.length 0 (by omega) (by omega) (fun q q0 q1 => by omega)
    have e : decide (¬ d ∈ l ∧ 0 ≤ (d + 5) % 7 ∧ (d + 5) % 7 ≤ 4) = isW l d := by
      unfold isW
      apply decide_eq_decide.2
      constructor
      · rintro ⟨a, b, c2⟩; exact ⟨c.1, c.2, c2, a⟩
      · rintro ⟨a, b, c2, e⟩; exact ⟨e, by omega, c2⟩
    rw [e] at h
    refine Ev.congr (fun k => ?_) h
    unfold customsref04_Working.f
    rw [weekday_ref, weekday_f d c.1 c.2]
    rfl
  · have h := rworking_l0 l hl d (-1) l.length 0 (by omega) (by omega) (fun q q0 q1 => by omega)
    have e : decide (¬ d ∈ l ∧ 0 ≤ (-1 : Int) ∧ (-1 : Int) ≤ 4) = isW l d := by
      unfold isW
      rw [decide_eq_false (by omega), decide_eq_false (by omega)]
    rw [e] at h
    refine Ev.congr (fun k => ?_) h
    unfold customsref04_Working.f
    rw [weekday_ref, weekday_out d c]
    rfl
/-- The first working day from d on; n: how many days are left. -/
def nxt (l : List Int) : Nat → Int → Int × Int
  | 0, _ => (0, 3)
  | n + 1, d => if isW l d = true then (d, 0) else nxt l n (d + 1)
theorem nxt_ok (l : List Int) : ∀ (n : Nat) (d : Int), (nxt l n d = (0, 3)) ∨ (∃ e, nxt l n d = (e, 0) ∧ d ≤ e ∧ e < d + n ∧ isW l e = true)
  | 0, _ => .inl rfl
  | n + 1, d => by
    by_cases c : isW l d = true
    · exact .inr ⟨d, by rw [nxt, if_pos c], by omega, by omega, c⟩
    · rcases nxt_ok l n (d + 1) with h | ⟨e, h, h1, h2, h3⟩
      · exact .inl (by rw [nxt, if_neg c, h])
      · exact .inr ⟨e, by rw [nxt, if_neg c, h], by omega, by omega, h3⟩
theorem nextd_ev (l : List Int) (hu : Up l) (hl : l.length ≤ 2000) : ∀ (n : Nat) (d : Int), 0 ≤ d → d + n = 36525 → Ev (fun k => calendar_next.l0 k l d) (nxt l n d)
  | 0, d, h0, hd => Ev.step (f := fun _ => some (0, 3)) (fun k => by
      simp only [calendar_next.l0]
      rw [valid_f, decide_eq_false (by omega)]
      rfl) (Ev.now _)
  | n + 1, d, h0, hd => by
    obtain ⟨K1, h1⟩ := working_ev l hu hl d
    obtain ⟨K2, h2⟩ := nextd_ev l hu hl n (d + 1) (by omega) (by omega)
    dsimp only at h1 h2
    refine ⟨K1 + K2 + 1, fun k hk => ?_⟩
    obtain ⟨k, rfl⟩ : ∃ j, k = j + 1 := ⟨k - 1, by omega⟩
    dsimp only
    simp only [calendar_next.l0]
    rw [valid_f, decide_eq_true (by omega), h1 k (by omega)]
    simp only [Option.bind_some, if_true]
    rw [nxt]
    by_cases c : isW l d = true
    · rw [if_pos c, if_pos c]
    · rw [if_neg c, if_neg c, w64 (by omega) (by omega), h2 k (by omega)]
theorem rnextw_ev (l : List Int) (hl : l.length ≤ 2000) : ∀ (n : Nat) (d : Int), 0 ≤ d → d + n + 1 = 36525 → Ev (fun k => customsref04_NextWorking.l0 k l d) (nxt l (n + 1) d)
  | 0, d, h0, hd => by
    obtain ⟨K1, h1⟩ := rworking_ev l hl d
    dsimp only at h1
    refine ⟨K1 + 1, fun k hk => ?_⟩
    obtain ⟨k, rfl⟩ : ∃ j, k = j + 1 := ⟨k - 1, by omega⟩
    dsimp only
    simp only [customsref04_NextWorking.l0]
    rw [h1 k (by omega)]
    simp only [Option.bind_some]
    rw [nxt, nxt]
    by_cases c : isW l d = true
    · rw [if_pos c, if_pos c]
    · rw [if_neg c, if_neg c, w64 (by omega) (by omega), day_f, decide_eq_false (by omega)]
      rfl
  | n + 1, d, h0, hd => by
    obtain ⟨K1, h1⟩ := rworking_ev l hl d
    obtain ⟨K2, h2⟩ := rnextw_ev l hl n (d + 1) (by omega) (by omega)
    dsimp only at h1 h2
    refine ⟨K1 + K2 + 1, fun k hk => ?_⟩
    obtain ⟨k, rfl⟩ : ∃ j, k = j + 1 := ⟨k - 1, by omega⟩
    dsimp only
    simp only [customsref04_NextWorking.l0]
    rw [h1 k (by omega)]
    simp only [Option.bind_some]
    rw [nxt]
    by_cases c : isW l d = true
    · rw [if_pos c, if_pos c]
    · rw [if_neg c, if_neg c, w64 (by omega) (by omega), day_f, decide_eq_true (by omega)]
      simp only [Option.bind_some, if_true]
      rw [h2 k (by omega)]

/-- The n-th working day after x. -/
def adds (l : List Int) : Nat → Int → Int × Int
  | 0, x => (x, 0)
  | n + 1, x => if (nxt l (36524 - x).toNat (x + 1)).2 = 0 then adds l n (nxt l (36524 - x).toNat (x + 1)).1 else (0, (nxt l (36524 - x).toNat (x + 1)).2)
theorem adds_ok (l : List Int) : ∀ (n : Nat) (x : Int), 0 ≤ x → x ≤ 36524 → adds l n x = (0, 3) ∨ ∃ e, adds l n x = (e, 0) ∧ x ≤ e ∧ e ≤ 36524
  | 0, x, h0, h1 => .inr ⟨x, rfl, by omega, h1⟩
  | n + 1, x, h0, h1 => by
    rcases nxt_ok l (36524 - x).toNat (x + 1) with h | ⟨e, h, e1, e2, e3⟩
    · exact .inl (by rw [adds, h]; rfl)
    · rcases adds_ok l n e (by omega) (by omega) with q | ⟨f, q, q1, q2⟩
      · exact .inl (by rw [adds, h, if_pos rfl, q])
      · exact .inr ⟨f, by rw [adds, h, if_pos rfl, q], by omega, q2⟩
theorem addl_ev (l : List Int) (hu : Up l) (hl : l.length ≤ 2000) (m : Int) (hm : m ≤ 100000) : ∀ (n : Nat) (x i : Int), 0 ≤ x → x ≤ 36524 → 0 ≤ i → m - i = n → Ev (fun k => calendar_add.l0 k l x m i) (adds l n x)
  | 0, x, i, h0, h1, hi, hn => Ev.step (f := fun _ => some (x, 0)) (fun k => by
      simp only [calendar_add.l0]
      rw [if_neg (by omega)]) (Ev.now _)
  | n + 1, x, i, h0, h1, hi, hn => by
    obtain ⟨K1, q1⟩ := nextd_ev l hu hl (36524 - x).toNat (x + 1) (by omega) (by omega)
    dsimp only at q1
    have key : ∀ k, K1 ≤ k → calendar_add.l0 (k + 1) l x m i = (if (nxt l (36524 - x).toNat (x + 1)).2 = 0 then calendar_add.l0 k l (nxt l (36524 - x).toNat (x + 1)).1 m (i + 1) else some (0, (nxt l (36524 - x).toNat (x + 1)).2)) := by
      intro k hk
      simp only [calendar_add.l0]
      rw [if_pos (by omega), w64 (n := x + 1) (by omega) (by omega)]
      unfold calendar_next.f
      rw [q1 k hk]
      simp only [Option.bind_some]
      rw [w64 (by omega) (by omega)]
    rcases nxt_ok l (36524 - x).toNat (x + 1) with h | ⟨e, h, e1, e2, e3⟩
    · refine ⟨K1 + 1, fun k hk => ?_⟩
      obtain ⟨k, rfl⟩ : ∃ j, k = j + 1 := ⟨k - 1, by omega⟩
      dsimp only
      rw [key k (by omega), adds, h]
      rfl
    · obtain ⟨K2, q2⟩ := addl_ev l hu hl m hm n e (i + 1) (by omega) (by omega) (by omega) (by omega)
      dsimp only at q2
      refine ⟨K1 + K2 + 1, fun k hk => ?_⟩
      obtain ⟨k, rfl⟩ : ∃ j, k = j + 1 := ⟨k - 1, by omega⟩
      dsimp only
      rw [key k (by omega), adds, h, if_pos rfl, if_pos rfl, q2 k (by omega)]
theorem raddl_ev (l : List Int) (hl : l.length ≤ 2000) (d : Nat) : ∀ (n : Nat) (x : Int), 0 ≤ x → x ≤ 36524 → (n : Int) ≤ 100000 → n + (36525 - x).toNat < d → Ev (fun k => customsref04_AddWorking.l0 k l x n) (adds l n x) := by
  induction d with
  | zero => intro n x _ _ _ h; omega
  | succ d ih =>
    intro n x h0 h1 hn hd
    cases n with
    | zero =>
      exact Ev.step (f := fun _ => some (x, 0)) (fun k => by
        simp only [customsref04_AddWorking.l0]
        rw [if_neg (by omega)]) (Ev.now _)
    | succ n =>
      by_cases c : x + 1 ≤ 36524
      · obtain ⟨K1, q1⟩ := rworking_ev l hl (x + 1)
        have e1 : (36524 - x).toNat = (36524 - (x + 1)).toNat + 1 := by omega
        by_cases w : isW l (x + 1) = true
        · obtain ⟨K2, q2⟩ := ih n (x + 1) (by omega) c (by omega) (by omega)
          dsimp only at q1 q2
          refine ⟨K1 + K2 + 1, fun k hk => ?_⟩
          obtain ⟨k, rfl⟩ : ∃ j, k = j + 1 := ⟨k - 1, by omega⟩
          dsimp only
          simp only [customsref04_AddWorking.l0]
          rw [if_pos (by omega), w64 (n := x + 1) (by omega) (by omega), day_f, decide_eq_true (by omega)]
          simp only [Option.bind_some, if_true]
          rw [q1 k (by omega)]
          simp only [Option.bind_some]
          rw [if_pos w, w64 (by omega) (by omega), adds, e1, nxt, if_pos w, if_pos rfl]
          have e2 : ((n + 1 : Nat) : Int) - 1 = n := by omega
          rw [e2, q2 k (by omega)]
        · obtain ⟨K2, q2⟩ := ih (n + 1) (x + 1) (by omega) c (by omega) (by omega)
          dsimp only at q1 q2
          refine ⟨K1 + K2 + 1, fun k hk => ?_⟩
          obtain ⟨k, rfl⟩ : ∃ j, k = j + 1 := ⟨k - 1, by omega⟩
          dsimp only
          simp only [customsref04_AddWorking.l0]
          rw [if_pos (by omega), w64 (n := x + 1) (by omega) (by omega), day_f, decide_eq_true (by omega)]
          simp only [Option.bind_some, if_true]
          rw [q1 k (by omega)]
          simp only [Option.bind_some]
          rw [if_neg w, q2 k (by omega), adds, adds, e1, nxt, if_neg w]
      · refine ⟨1, fun k hk => ?_⟩
        obtain ⟨k, rfl⟩ : ∃ j, k = j + 1 := ⟨k - 1, by omega⟩
        have e1 : (36524 - x).toNat = 0 := by omega
        dsimp only
        simp only [customsref04_AddWorking.l0]
        rw [if_pos (by omega), w64 (n := x + 1) (by omega) (by omega), day_f, decide_eq_false (by omega), adds, e1]
        rfl

/-! ### The exported functions -/
theorem addw_ok {l : List Int} (a : Ev (fun k => calendar_Valid.f k l) 0) (b : Ev (fun k => customsref04_Valid.f k l) 0) (hu : Up l) (hl : l.length ≤ 2000) {d n : Int} (h1 : 0 ≤ d) (h2 : d ≤ 36524) (h3 : 0 ≤ n) (h4 : n ≤ 1000) :
    Ev (fun k => calendar_AddWorking.f k l d n) (adds l n.toNat d) ∧ Ev (fun k => customsref04_AddWorking.f k l d n) (adds l n.toNat d) := by
  obtain ⟨K1, q1⟩ := a
  obtain ⟨K2, q2⟩ := b
  obtain ⟨K3, q3⟩ := addl_ev l hu hl n (by omega) n.toNat d 0 h1 h2 (by omega) (by omega)
  obtain ⟨K4, q4⟩ := raddl_ev l hl (n.toNat + 36526) n.toNat d h1 h2 (by omega) (by omega)
  have en : ((n.toNat : Nat) : Int) = n := by omega
  rw [en] at q4
  dsimp only at q1 q2 q3 q4
  refine ⟨⟨K1 + K3, fun k hk => ?_⟩, ⟨K2 + K4 + 1, fun k hk => ?_⟩⟩
  · dsimp only
    unfold calendar_AddWorking.f calendar_add.f
    rw [q1 k (by omega), valid_f]
    simp only [Option.bind_some, if_true, decide_eq_true_eq]
    rw [if_pos ⟨h1, h2⟩, if_neg (by omega), if_neg (by omega), q3 k (by omega)]
    rfl
  · obtain ⟨k, rfl⟩ : ∃ j, k = j + 1 := ⟨k - 1, by omega⟩
    dsimp only
    unfold customsref04_AddWorking.f
    rw [q2 (k + 1) (by omega), day_f]
    simp only [Option.bind_some, if_true, decide_eq_true_eq]
    rw [if_pos ⟨h1, h2⟩, if_neg (by omega), decide_eq_false (by omega)]
    simp only [customsref04_AddWorking.j0]
    rw [if_neg (by decide), q4 k (by omega)]
theorem nextw_ok {l : List Int} (b : Ev (fun k => customsref04_Valid.f k l) 0) (hu : Up l) (hl : l.length ≤ 2000) {d : Int} (h1 : 0 ≤ d) (h2 : d ≤ 36524) :
    Ev (fun k => calendar_next.f k l d) (nxt l (36525 - d).toNat d) ∧ Ev (fun k => customsref04_NextWorking.f k l d) (nxt l (36525 - d).toNat d) := by
  obtain ⟨K2, q2⟩ := b
  obtain ⟨K4, q4⟩ := rnextw_ev l hl (36524 - d).toNat d h1 (by omega)
  have e : (36524 - d).toNat + 1 = (36525 - d).toNat := by omega
  rw [e] at q4
  dsimp only at q2 q4
  refine ⟨nextd_ev l hu hl _ d h1 (by omega), ⟨K2 + K4, fun k hk => ?_⟩⟩
  dsimp only
  unfold customsref04_NextWorking.f
  rw [q2 k (by omega), day_f]
  simp only [Option.bind_some, if_true, decide_eq_true_eq]
  rw [if_pos ⟨h1, h2⟩, q4 k (by omega)]

/-! ### Deadline -/
theorem within_r (t : Int) : customsref04_within.f t = some (decide (0 ≤ t ∧ t ≤ 1000)) := by
  unfold customsref04_within.f
  by_cases h : t ≥ 0
  · rw [if_pos h]; congr 1; simp; omega
  · rw [if_neg h]; congr 1; simp; omega
theorem later_ge {y m d n a : Int} (h : Valid y m d) (hn : 0 ≤ n) (ha : later y m d n = (a, 0)) : num y m d ≤ a ∧ a ≤ 36524 := by
  have h' := h
  obtain ⟨a1, a2, a3, a4, a5, a6⟩ := h
  unfold later at ha
  by_cases c : 24000 ≤ 12 * y + m - 1 + n ∧ 12 * y + m - 1 + n ≤ 25199
  · simp only [if_pos c, Prod.mk.injEq, and_true] at ha
    have hb := lm_bounds ((12 * y + m - 1 + n) / 12) ((12 * y + m - 1 + n) % 12 + 1)
    have hv : Valid ((12 * y + m - 1 + n) / 12) ((12 * y + m - 1 + n) % 12 + 1) (min d (lm ((12 * y + m - 1 + n) / 12) ((12 * y + m - 1 + n) % 12 + 1))) := ⟨by omega, by omega, by omega, by omega, by omega, by omega⟩
    have hr := num_range hv
    refine ⟨?_, by omega⟩
    by_cases e : n = 0
    · subst e
      have e1 : (12 * y + m - 1 + 0) / 12 = y := by omega
      have e2 : (12 * y + m - 1 + 0) % 12 + 1 = m := by omega
      rw [e1, e2] at ha
      have e3 : min d (lm y m) = d := by omega
      rw [e3] at ha
      omega
    · obtain ⟨b1, b2, b3, b4, b5, b6⟩ := hv
      have := num_lt (y2 := (12 * y + m - 1 + n) / 12) a3 a4 a6 b3 b4 b5 (by omega)
      omega
  · simp only [if_neg c, Prod.mk.injEq] at ha
    omega
theorem later_err {y m d n : Int} : (later y m d n).2 = 0 ∨ later y m d n = (0, 3) := by
  unfold later
  dsimp only
  split
  · exact .inl rfl
  · exact .inr rfl
/-- Deadline, both ways: one answer; and what OK says. -/
theorem deadline_ev (l : List Int) (x t0 t1 t2 : Int) : ∃ r, Ev (fun k => calendar_Deadline.f k l x t0 t1 t2) r ∧ Ev (fun k => customsref04_Deadline.f k l x t0 t1 t2) r ∧ (r.2 = 0 → x ≤ r.1 ∧ Ev (fun k => calendar_Working.f k l r.1) true) := by
  obtain ⟨v, av, bv, hv⟩ := valid_ev l
  have av' := av
  have bv' := bv
  obtain ⟨K1, h1⟩ := av
  obtain ⟨K2, h2⟩ := bv
  dsimp only at h1 h2
  by_cases c : v = 0
  · subst c
    obtain ⟨hu, hl⟩ := hv rfl
    by_cases cx : 0 ≤ x ∧ x ≤ 36524
    · by_cases ct : dlOk t0 ∧ dlOk t1 ∧ dlOk t2
      · have ct' := ct
        unfold dlOk at ct'
        obtain ⟨⟨s1, s2⟩, ⟨s3, s4⟩, ⟨s5, s6⟩⟩ := ct'
        obtain ⟨y, m, d, _, hvd, hnd⟩ := of_ev cx.1 cx.2
        obtain ⟨⟨K3, h3⟩, ⟨K4, h4⟩⟩ := add_ev cx.1 cx.2 hvd hnd (show -1200 ≤ t0 by omega) (show t0 ≤ 1200 by omega)
        dsimp only at h3 h4
        have front : ∀ k, K1 ≤ k → calendar_Deadline.f k l x t0 t1 t2 = dlRest k l x t0 t1 t2 := by
          intro k hk
          unfold calendar_Deadline.f
          rw [h1 k hk, valid_f, decide_eq_true cx]
          simp only [Option.bind_some, if_true]
          rw [if_pos ct]
        have rfront : ∀ k, K2 ≤ k → customsref04_Deadline.f k l x t0 t1 t2 = customsref04_Deadline.j0 k l x false t0 t1 t2 := by
          intro k hk
          unfold customsref04_Deadline.f
          rw [h2 k hk, day_f, decide_eq_true cx, within_r, within_r, within_r, decide_eq_true ⟨s1, s2⟩, decide_eq_true ⟨s3, s4⟩, decide_eq_true ⟨s5, s6⟩]
          rfl
        rcases later_err (y := y) (m := m) (d := d) (n := t0) with el | el
        · obtain ⟨a, ha⟩ : ∃ a, later y m d t0 = (a, 0) := ⟨_, Prod.ext rfl el⟩
          obtain ⟨g1, g2⟩ := later_ge hvd s1 ha
          rw [ha] at h3 h4
          by_cases ca : 0 ≤ a + t1 ∧ a + t1 ≤ 36524
          · obtain ⟨⟨K5, h5⟩, ⟨K6, h6⟩⟩ : Ev (fun k => calendar_add.f k l (a + t1) t2) (adds l t2.toNat (a + t1)) ∧ Ev (fun k => customsref04_AddWorking.f k l (a + t1) t2) (adds l t2.toNat (a + t1)) :=
              ⟨addl_ev l hu hl t2 (by omega) t2.toNat (a + t1) 0 ca.1 ca.2 (by omega) (by omega), (addw_ok av' bv' hu hl ca.1 ca.2 s5 s6).2⟩
            dsimp only at h5 h6
            rcases adds_ok l t2.toNat (a + t1) ca.1 ca.2 with q | ⟨e, q, q1, q2⟩
            · rw [q] at h5 h6
              refine ⟨(0, 3), ⟨K1 + K3 + K5, fun k hk => ?_⟩, ⟨K2 + K4 + K6 + 2, fun k hk => ?_⟩, fun e => absurd e (by decide)⟩
              · dsimp only
                rw [front k (by omega)]
                unfold dlRest
                rw [h3 k (by omega)]
                simp only [Option.bind_some]
                rw [if_pos trivial, w64 (by omega) (by omega), valid_f, decide_eq_true ca]
                simp only [Option.bind_some, if_true]
                rw [h5 k (by omega)]
                rfl
              · obtain ⟨k, rfl⟩ : ∃ j, k = j + 2 := ⟨k - 2, by omega⟩
                dsimp only
                rw [rfront _ (by omega)]
                simp only [customsref04_Deadline.j0]
                rw [if_neg (by decide), h4 (k + 1) (by omega)]
                simp only [Option.bind_some]
                rw [if_pos trivial, w64 (by omega) (by omega), day_f, decide_eq_true ca]
                simp only [Option.bind_some, customsref04_Deadline.j1]
                rw [if_neg (by decide), w64 (by omega) (by omega), h6 k (by omega)]
                rfl
            · rw [q] at h5 h6
              obtain ⟨⟨K7, h7⟩, ⟨K8, h8⟩⟩ := nextw_ok bv' hu hl (d := e) (by omega) q2
              dsimp only at h7 h8
              refine ⟨nxt l (36525 - e).toNat e, ⟨K1 + K3 + K5 + K7, fun k hk => ?_⟩, ⟨K2 + K4 + K6 + K8 + 2, fun k hk => ?_⟩, fun e0 => ?_⟩
              · dsimp only
                rw [front k (by omega)]
                unfold dlRest
                rw [h3 k (by omega)]
                simp only [Option.bind_some]
                rw [if_pos trivial, w64 (by omega) (by omega), valid_f, decide_eq_true ca]
                simp only [Option.bind_some, if_true]
                rw [h5 k (by omega)]
                simp only [Option.bind_some]
                rw [if_pos trivial, h7 k (by omega)]
              · obtain ⟨k, rfl⟩ : ∃ j, k = j + 2 := ⟨k - 2, by omega⟩
                dsimp only
                rw [rfront _ (by omega)]
                simp only [customsref04_Deadline.j0]
                rw [if_neg (by decide), h4 (k + 1) (by omega)]
                simp only [Option.bind_some]
                rw [if_pos trivial, w64 (by omega) (by omega), day_f, decide_eq_true ca]
                simp only [Option.bind_some, customsref04_Deadline.j1]
                rw [if_neg (by decide), w64 (by omega) (by omega), h6 k (by omega)]
                simp only [Option.bind_some]
                rw [if_pos trivial, h8 k (by omega)]
                rfl
              · rcases nxt_ok l (36525 - e).toNat e with w | ⟨f, w, w1, w2, w3⟩
                · rw [w] at e0; exact absurd e0 (by decide)
                · rw [w]
                  refine ⟨by omega, ?_⟩
                  have := working_ev l hu hl f
                  rw [w3] at this
                  exact this
          · refine ⟨(0, 3), ⟨K1 + K3, fun k hk => ?_⟩, ⟨K2 + K4 + 2, fun k hk => ?_⟩, fun e => absurd e (by decide)⟩
            · dsimp only
              rw [front k (by omega)]
              unfold dlRest
              rw [h3 k (by omega)]
              simp only [Option.bind_some]
              rw [if_pos trivial, w64 (by omega) (by omega), valid_f, decide_eq_false ca]
              rfl
            · obtain ⟨k, rfl⟩ : ∃ j, k = j + 2 := ⟨k - 2, by omega⟩
              dsimp only
              rw [rfront _ (by omega)]
              simp only [customsref04_Deadline.j0]
              rw [if_neg (by decide), h4 (k + 1) (by omega)]
              simp only [Option.bind_some]
              rw [if_pos trivial, w64 (by omega) (by omega), day_f, decide_eq_false ca]
              simp only [Option.bind_some, customsref04_Deadline.j1]
              rfl
        · rw [el] at h3 h4
          refine ⟨(0, 3), ⟨K1 + K3, fun k hk => ?_⟩, ⟨K2 + K4 + 2, fun k hk => ?_⟩, fun e => absurd e (by decide)⟩
          · dsimp only
            rw [front k (by omega)]
            unfold dlRest
            rw [h3 k (by omega)]
            rfl
          · obtain ⟨k, rfl⟩ : ∃ j, k = j + 2 := ⟨k - 2, by omega⟩
            dsimp only
            rw [rfront _ (by omega)]
            simp only [customsref04_Deadline.j0]
            rw [if_neg (by decide), h4 (k + 1) (by omega)]
            simp only [Option.bind_some]
            rw [if_neg (by decide)]
            simp only [customsref04_Deadline.j1]
            rfl
      · refine ⟨(0, 2), ⟨K1, fun k hk => ?_⟩, ⟨K2 + 1, fun k hk => ?_⟩, fun e => absurd e (by decide)⟩
        · dsimp only
          unfold calendar_Deadline.f
          rw [h1 k hk, valid_f, decide_eq_true cx]
          simp only [Option.bind_some, if_true]
          rw [if_neg ct]
        · obtain ⟨k, rfl⟩ : ∃ j, k = j + 1 := ⟨k - 1, by omega⟩
          dsimp only
          unfold customsref04_Deadline.f
          rw [h2 (k + 1) (by omega), day_f, decide_eq_true cx, within_r, within_r, within_r]
          simp only [Option.bind_some, if_true, decide_eq_true_eq]
          unfold dlOk at ct
          by_cases u0 : 0 ≤ t0 ∧ t0 ≤ 1000
          · rw [if_pos u0]
            by_cases u1 : 0 ≤ t1 ∧ t1 ≤ 1000
            · rw [if_pos u1, decide_eq_false (fun u2 => ct ⟨u0, u1, u2⟩)]
              simp [customsref04_Deadline.j0]
            · rw [if_neg u1]
              simp [customsref04_Deadline.j0]
          · rw [if_neg u0]
            simp [customsref04_Deadline.j0]
    · refine ⟨(0, 2), ⟨K1, fun k hk => ?_⟩, ⟨K2 + 1, fun k hk => ?_⟩, fun e => absurd e (by decide)⟩
      · dsimp only
        unfold calendar_Deadline.f
        rw [h1 k hk, valid_f, decide_eq_false cx]
        rfl
      · obtain ⟨k, rfl⟩ : ∃ j, k = j + 1 := ⟨k - 1, by omega⟩
        dsimp only
        unfold customsref04_Deadline.f
        rw [h2 (k + 1) (by omega), day_f, decide_eq_false cx]
        simp [customsref04_Deadline.j0]
  · refine ⟨(0, v), ⟨K1, fun k hk => ?_⟩, ⟨K2, fun k hk => ?_⟩, fun e => absurd e c⟩
    · dsimp only
      unfold calendar_Deadline.f
      rw [h1 k hk]
      simp only [Option.bind_some]
      rw [if_neg c]
    · dsimp only
      unfold customsref04_Deadline.f
      rw [h2 k hk]
      simp only [Option.bind_some]
      rw [if_neg c]
/-- The next working day: a day, or an error and nothing. -/
theorem next_err (l : List Int) : ∀ (k : Nat) (d : Int) (r : Int × Int), calendar_next.l0 k l d = some r → r.2 = 0 ∨ r.1 = 0
  | 0, d, r, h => by rw [calendar_next.l0] at h; cases h
  | k + 1, d, r, h => by
    rw [calendar_next.l0] at h
    obtain ⟨v, _, h⟩ := Option.bind_eq_some_iff.1 h
    by_cases c : v = true
    · rw [if_pos c] at h
      obtain ⟨t, _, h⟩ := Option.bind_eq_some_iff.1 h
      by_cases c' : t = true
      · rw [if_pos c'] at h
        have := Option.some.inj h
        subst this
        exact .inl rfl
      · rw [if_neg c'] at h
        exact next_err l k _ r h
    · rw [if_neg c] at h
      have := Option.some.inj h
      subst this
      exact .inr rfl
theorem dl_err {k : Nat} {l : List Int} {x t0 t1 t2 : Int} {r : Int × Int} (h : calendar_Deadline.f k l x t0 t1 t2 = some r) : r.2 = 0 ∨ r.1 = 0 := by
  have done : ∀ {e : Int}, some ((0 : Int), e) = some r → r.2 = 0 ∨ r.1 = 0 := fun h => by
    have := Option.some.inj h
    subst this
    exact .inr rfl
  unfold calendar_Deadline.f at h
  obtain ⟨e, _, h⟩ := Option.bind_eq_some_iff.1 h
  by_cases c : e = 0
  · rw [if_pos c] at h
    obtain ⟨v, _, h⟩ := Option.bind_eq_some_iff.1 h
    by_cases cv : v = true
    · rw [if_pos cv] at h
      by_cases cd : dlOk t0 ∧ dlOk t1 ∧ dlOk t2
      · rw [if_pos cd] at h
        unfold dlRest at h
        obtain ⟨s, _, h⟩ := Option.bind_eq_some_iff.1 h
        by_cases cs : s.2 = 0
        · rw [if_pos cs] at h
          obtain ⟨u, _, h⟩ := Option.bind_eq_some_iff.1 h
          by_cases cu : u = true
          · rw [if_pos cu] at h
            obtain ⟨z, _, h⟩ := Option.bind_eq_some_iff.1 h
            by_cases cz : z.2 = 0
            · rw [if_pos cz] at h
              exact next_err l k _ r h
            · rw [if_neg cz] at h; exact done h
          · rw [if_neg cu] at h; exact done h
        · rw [if_neg cs] at h; exact done h
      · rw [if_neg cd] at h; exact done h
    · rw [if_neg cv] at h; exact done h
  · rw [if_neg c] at h; exact done h
/-- What the two functions answer, alike. -/
def Told (p x : Int) (l : List Int) : Prop := ∃ (d : Int) (b : Bool), Ev (fun k => procedure_Deadline.f k p x l) (d, b) ∧ Ev (fun k => customsref24_Deadline.f k p x l) (d, b) ∧ (b = true → x ≤ d ∧ Ev (fun k => calendar_Working.f k l d) true)
theorem told_term {p t0 t1 t2 : Int} (x : Int) (l : List Int) (ht : procedure_term.f p = some (t0, t1, t2, true)) (hr : ∀ k, customsref24_Deadline.f k p x l = (customsref04_Deadline.f k l x t0 t1 t2).bind fun b => some (b.1, b.2 == 0)) : Told p x l := by
  obtain ⟨r, h1, h2, h3⟩ := deadline_ev l x t0 t1 t2
  have e : ∀ k, procedure_Deadline.f k p x l = (calendar_Deadline.f k l x t0 t1 t2).bind fun b => if b.2 = 0 then some (b.1, true) else some (0, false) := fun k => by
    rw [procedure_Deadline.f, ht, Option.bind_some]
    exact if_pos rfl
  by_cases c : r.2 = 0
  · exact ⟨r.1, true, Ev.congr e (Ev.bind (f := fun k b => if b.2 = 0 then some (b.1, true) else some (0, false)) h1 (Ev.congr (fun k => if_pos c) (Ev.now _))), Ev.congr hr (Ev.bind (f := fun k b => some (b.1, b.2 == 0)) h2 (Ev.congr (fun k => by rw [beq_iff_eq.2 c]) (Ev.now _))), fun _ => h3 c⟩
  · have h0 : r.1 = 0 := by
      obtain ⟨k, hk⟩ := h1.rounds
      rcases dl_err hk with q | q
      · exact absurd q c
      · exact q
    exact ⟨0, false, Ev.congr e (Ev.bind (f := fun k b => if b.2 = 0 then some (b.1, true) else some (0, false)) h1 (Ev.congr (fun k => if_neg c) (Ev.now _))), Ev.congr hr (Ev.bind (f := fun k b => some (b.1, b.2 == 0)) h2 (Ev.congr (fun k => by rw [beq_eq_false_iff_ne.2 c, h0]) (Ev.now _))), fun h => by cases h⟩
theorem told (p x : Int) (l : List Int) : Told p x l := by
  by_cases c1 : p = 1
  · exact told_term x l (t0 := 0) (t1 := 90) (t2 := 0) (by rw [procedure_term.f, if_pos c1]) (fun k => by rw [customsref24_Deadline.f, if_pos c1])
  by_cases c2 : p = 2
  · exact told_term x l (t0 := 0) (t1 := 8) (t2 := 0) (by rw [procedure_term.f, if_neg c1, if_pos c2]) (fun k => by rw [customsref24_Deadline.f, if_neg c1, if_pos c2])
  by_cases c4 : p = 4
  · exact told_term x l (t0 := 6) (t1 := 0) (t2 := 0) (by rw [procedure_term.f, if_neg c1, if_neg c2, if_pos c4]) (fun k => by rw [customsref24_Deadline.f, if_neg c1, if_neg c2, if_pos c4])
  by_cases c5 : p = 5
  · exact told_term x l (t0 := 24) (t1 := 0) (t2 := 0) (by rw [procedure_term.f, if_neg c1, if_neg c2, if_neg c4, if_pos c5]) (fun k => by rw [customsref24_Deadline.f, if_neg c1, if_neg c2, if_neg c4, if_pos c5])
  by_cases c7 : p = 7
  · exact told_term x l (t0 := 12) (t1 := 0) (t2 := 0) (by rw [procedure_term.f, if_neg c1, if_neg c2, if_neg c4, if_neg c5, if_pos c7]) (fun k => by rw [customsref24_Deadline.f, if_neg c1, if_neg c2, if_neg c4, if_neg c5, if_pos c7])
  · refine ⟨0, false, Ev.congr (fun k => ?_) (Ev.now _), Ev.congr (fun k => ?_) (Ev.now _), fun h => by cases h⟩
    · rw [procedure_Deadline.f, procedure_term.f, if_neg c1, if_neg c2, if_neg c4, if_neg c5, if_neg c7, Option.bind_some]
      exact if_neg Bool.false_ne_true
    · rw [customsref24_Deadline.f, if_neg c1, if_neg c2, if_neg c4, if_neg c5, if_neg c7]
theorem over (z : Dep) (day : Int) : ∃ b, OverB z day b := by
  obtain ⟨d, b, h1, h2, _⟩ := told 2 z.a4 [3, 10]
  obtain ⟨K1, e1⟩ := h1
  obtain ⟨K2, e2⟩ := h2
  have f1 : procedure_Deadline.f (max K1 K2) 2 z.a4 [3, 10] = some (d, b) := e1 (max K1 K2) (by omega)
  have f2 : customsref24_Deadline.f (max K1 K2) 2 z.a4 [3, 10] = some (d, b) := e2 (max K1 K2) (by omega)
  by_cases c : z.a5 = 3
  · cases b with
    | true =>
      refine ⟨decide (day > d), max K1 K2, ?_, ?_⟩
      · unfold transit_Overdue.f
        rw [f1, Option.bind_some, if_pos c, if_pos rfl]
      · unfold customsref33_Overdue.f
        rw [f2, Option.bind_some, if_pos c, if_pos rfl]
    | false =>
      refine ⟨false, max K1 K2, ?_, ?_⟩
      · unfold transit_Overdue.f
        rw [f1, Option.bind_some, if_pos c, if_neg Bool.false_ne_true]
      · unfold customsref33_Overdue.f
        rw [f2, Option.bind_some, if_pos c, if_neg Bool.false_ne_true]
  · refine ⟨false, max K1 K2, ?_, ?_⟩
    · unfold transit_Overdue.f
      rw [f1, Option.bind_some, if_neg c]
    · unfold customsref33_Overdue.f
      rw [f2, Option.bind_some, if_neg c]
end Go.Proofs.YtbndoihcejieoaaDoor.Pure
namespace Go.Proofs.YtbndoihcejieoaaDoor.Pure
open Go.ChangeShapes Go.WideShapes Go.ChangeAt Go.RowKit Go.Proofs.YtbndoihcejieoaaDoor.G Go.Proofs.YtbndoihcejieoaaDoorW.PrintWords Go.Proofs.YtbndoihcejieoaaDoorW.PrintLast Go.Proofs.YtbndoihcejieoaaDoorW.PrintMore
set_option linter.unusedVariables false
set_option linter.unusedSimpArgs false
set_option maxRecDepth 100000

theorem list_of {α : Type} {Q : Nat → α → Prop} : ∀ n, (∀ i, i < n → ∃ x, Q i x) → ∃ l : List α, l.length = n ∧ ∀ j p, l[j]? = some p → Q j p
  | 0, _ => ⟨[], rfl, fun j p h => by simp at h⟩
  | n + 1, h => by
    obtain ⟨l, hl, hq⟩ := list_of n (fun i hi => h i (by omega))
    obtain ⟨x, hx⟩ := h n (by omega)
    refine ⟨l ++ [x], by simp [hl], fun j p hj => ?_⟩
    by_cases c : j < n
    · rw [List.getElem?_append_left (by omega)] at hj
      exact hq j p hj
    · by_cases c2 : j = n
      · subst c2
        rw [List.getElem?_append_right (by omega)] at hj
        simp [hl] at hj
        rw [← hj]
        exact hx
      · rw [List.getElem?_eq_none (by simp; omega)] at hj
        cases hj
theorem add_add (a : Addr) (m i : Nat) : (a.add m).add i = a.add (m + i) := by
  unfold Addr.add
  by_cases hm : m = 0
  · subst hm
    simp
  · by_cases hi : i = 0
    · subst hi
      simp [hm]
    · have : ¬ m + i = 0 := by omega
      simp [hm, hi, this, Nat.add_assoc]
section
variable {H : Type} {enc : TypeId × Value → H} {W : World} {b : Nat} {sp : Nat → Bool} {held : Bool}
/-- A slice, whatever its elements: a list, where each element reads as one. -/
theorem read_rows {α : Type} (k : Kd α) {t e B : Nat} (ht : Tryd.prog.underlying t = some (.slice e)) (hC : Tryd.prog.cellsOf e = k.sz) (hB : Tryd.prog.bytesOf e = B) (he : ∀ (n : Nat) (cs : List Value) (y : DataW H × List MemPlace), DataW.trod enc Tryd.prog W b sp held n e cs = some y → ∃ x, k.K W x cs)
    {n : Nat} {v : Value} {y : DataW H × List MemPlace} (h : DataW.trod enc Tryd.prog W b sp held n t [v] = some y) (hw : ∀ z, z ∈ DataW.weights Tryd.prog t y.1 → z ≤ reachBytes) : ∃ l : List α, Rd k W v l ∧ l.length * B ≤ 140737488351232 := by
  rcases Go.Deep.open_slice ht h with ⟨hcs, hx⟩ | ⟨a, len, cap, m, n', D, Pl, hcs, hb, hl, hm, hmm, hx, hel⟩
  · obtain rfl : v = .slice none 0 0 := by simpa using hcs
    exact ⟨[], Rd.nil k W, by simp⟩
  · obtain rfl : v = .slice (some a) len cap := by simpa using hcs
    have hlm : len ≤ m := by rw [hmm]; split <;> omega
    obtain ⟨l, hlen, hq⟩ := list_of (α := α) (Q := fun j p => ∃ cs', W.cells? b (a.add (j * k.sz)) k.sz = some cs' ∧ k.K W p cs') len (fun i hi => by
      obtain ⟨cs', h1, h2⟩ := hel i (by omega)
      obtain ⟨x, hx⟩ := he _ _ _ h2
      rw [hC] at h1
      exact ⟨x, cs', h1, hx⟩)
    have hmax : cap ≤ 9223372036854775807 := hm
    refine ⟨l, ⟨some a, cap, by rw [hlen], by omega, rfl, by omega, fun _ => ⟨a, rfl, fun j p hj => ?_⟩⟩, ?_⟩
    · obtain ⟨cs', h1, h2⟩ := hq j p hj
      obtain ⟨_, h3, h4⟩ := World.cells?_some h1
      refine ⟨cs', h3, h2, fun i u hu => ?_⟩
      have hi : i < k.sz := by rw [← h3]; exact (List.getElem?_eq_some_iff.1 hu).1
      rw [← add_add, h4 i hi]
      exact hu
    · have h5 := hw ((len + (m - len)) * B) (by rw [hx]; simp [DataW.weights, ht, hB])
      have h6 : reachBytes = 140737488351232 + 4096 - 4096 := by decide
      have h7 : l.length * B ≤ (len + (m - len)) * B := Nat.mul_le_mul_right _ (by omega)
      unfold reachBytes at h5
      omega
theorem read38 {n : Nat} {cs : List Value} {y : DataW H × List MemPlace} (h : DataW.trod enc Tryd.prog W b sp held n 38 cs = some y) : ∃ (k0 : Int) (k1 : Int) (k2 : Int) (k3 : Int) (k4 : Int) (k5 : Int) (k6 : Int) (k7 : Int) (k8 : Int) (k9 : Int) (c10 : Value) (z10 : DataW H × List MemPlace) (m : Nat) (d0 : DataW H) (d1 : DataW H) (d2 : DataW H) (d3 : DataW H) (d4 : DataW H) (d5 : DataW H) (d6 : DataW H) (d7 : DataW H) (d8 : DataW H) (d9 : DataW H), cs = [.int .i64 k0, .int .i64 k1, .int .i64 k2, .int .i64 k3, .int .i64 k4, .int .i64 k5, .int .i64 k6, .int .i64 k7, .int .i64 k8, .int .i64 k9, c10] ∧ DataW.trod enc Tryd.prog W b sp held m 25 [c10] = some z10 ∧ y.1 = .agg [d0, d1, d2, d3, d4, d5, d6, d7, d8, d9, z10.1] := by
  have ce : Tryd.prog.cellsOf 38 = 11 := by kernel_rfl
  have ci3 : Tryd.prog.cellsOf 3 = 1 := by kernel_rfl
  have ci25 : Tryd.prog.cellsOf 25 = 1 := by kernel_rfl
  cases n with
  | zero => simp [DataW.trod] at h
  | succ n =>
    simp only [DataW.trod, Tryd.underlying38, ce] at h
    split at h
    · rename_i hl
      obtain ⟨c0, c1, c2, c3, c4, c5, c6, c7, c8, c9, c10, rfl⟩ : ∃ c0 c1 c2 c3 c4 c5 c6 c7 c8 c9 c10, cs = [c0, c1, c2, c3, c4, c5, c6, c7, c8, c9, c10] := by
        match cs, hl with
        | [c0, c1, c2, c3, c4, c5, c6, c7, c8, c9, c10], _ => exact ⟨c0, c1, c2, c3, c4, c5, c6, c7, c8, c9, c10, rfl⟩
      simp only [List.mapM_cons, List.mapM_nil, Option.map_eq_some_iff, Option.bind_eq_bind, Option.bind_eq_some_iff, Option.pure_def, Option.some.injEq, ci3, ci25] at h
      obtain ⟨ys, ⟨y0, h0, ys0, ⟨y1, h1, ys1, ⟨y2, h2, ys2, ⟨y3, h3, ys3, ⟨y4, h4, ys4, ⟨y5, h5, ys5, ⟨y6, h6, ys6, ⟨y7, h7, ys7, ⟨y8, h8, ys8, ⟨y9, h9, ys9, ⟨y10, h10, ys10, rfl, rfl⟩, rfl⟩, rfl⟩, rfl⟩, rfl⟩, rfl⟩, rfl⟩, rfl⟩, rfl⟩, rfl⟩, rfl⟩, rfl⟩ := h
      obtain ⟨k0, e0, f0, _⟩ := DataW.trod_int Tryd.underlying3 h0
      obtain ⟨k1, e1, f1, _⟩ := DataW.trod_int Tryd.underlying3 h1
      obtain ⟨k2, e2, f2, _⟩ := DataW.trod_int Tryd.underlying3 h2
      obtain ⟨k3, e3, f3, _⟩ := DataW.trod_int Tryd.underlying3 h3
      obtain ⟨k4, e4, f4, _⟩ := DataW.trod_int Tryd.underlying3 h4
      obtain ⟨k5, e5, f5, _⟩ := DataW.trod_int Tryd.underlying3 h5
      obtain ⟨k6, e6, f6, _⟩ := DataW.trod_int Tryd.underlying3 h6
      obtain ⟨k7, e7, f7, _⟩ := DataW.trod_int Tryd.underlying3 h7
      obtain ⟨k8, e8, f8, _⟩ := DataW.trod_int Tryd.underlying3 h8
      obtain ⟨k9, e9, f9, _⟩ := DataW.trod_int Tryd.underlying3 h9
      simp at e0 e1 e2 e3 e4 e5 e6 e7 e8 e9
      subst e0 e1 e2 e3 e4 e5 e6 e7 e8 e9
      exact ⟨k0, k1, k2, k3, k4, k5, k6, k7, k8, k9, c10, y10, n, y0.1, y1.1, y2.1, y3.1, y4.1, y5.1, y6.1, y7.1, y8.1, y9.1, rfl, h10, rfl⟩
    · cases h
theorem read3 {n : Nat} {cs : List Value} {y : DataW H × List MemPlace} (h : DataW.trod enc Tryd.prog W b sp held n 3 cs = some y) : ∃ x : Int, (Kd.int .i64).K W x cs := by
  obtain ⟨x, rfl, _, _⟩ := DataW.trod_int Tryd.underlying3 h
  exact ⟨x, rfl⟩
/-- Slices of numbers, of incidents, of a lot's slices. -/
theorem rows25 {n : Nat} {v : Value} {y : DataW H × List MemPlace} (h : DataW.trod enc Tryd.prog W b sp held n 25 [v] = some y) (hw : ∀ z, z ∈ DataW.weights Tryd.prog 25 y.1 → z ≤ reachBytes) : ∃ l : List Int, Rd (Kd.int .i64) W v l ∧ l.length * 8 ≤ 140737488351232 := read_rows (Kd.int .i64) Tryd.underlying25 (by kernel_rfl) (by kernel_rfl) (fun _ _ _ h => read3 h) h hw
end
end Go.Proofs.YtbndoihcejieoaaDoor.Pure
