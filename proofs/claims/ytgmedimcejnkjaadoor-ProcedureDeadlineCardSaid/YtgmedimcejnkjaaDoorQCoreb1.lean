/-
  Plain mathematics: what these functions answer; at the end the law's pure statement. No program's memory in sight.
-/
import Derived.Test.YtgmedimcejnkjaaDoorQCorew1
import Derived.Test.YtgmedimcejnkjaaDoorQCorea1
namespace Go.Proofs.YtgmedimcejnkjaaDoor.Pure
open Go.RowKit Go.Proofs.YtgmedimcejnkjaaDoor.G Go.Proofs.YtgmedimcejnkjaaDoorW.PrintWords Go.Proofs.YtgmedimcejnkjaaDoorW.PrintLast Go.Proofs.YtgmedimcejnkjaaDoorW.PrintMore
set_option linter.unusedSimpArgs false
set_option linter.unusedVariables false

theorem w6424 {n : Int} (h : -9223372036854775808 ≤ n) (h' : n ≤ 9223372036854775807) : wrap64 n = n := by unfold wrap64; omega
theorem tm24 {y k : Int} (h : 0 ≤ y) : Int.tmod y k = y % k := by rw [Int.tmod_eq_emod_of_nonneg h]
theorem within24 (x n : Int) (hn : 0 < n) (hb : n ≤ 4611686018427387904) : customsmade_Within.f x n = some (x % n) := by
  unfold customsmade_Within.f
  rw [if_neg (by omega)]
  have a := Int.tmod_lt_of_pos x hn
  have b : -n < Int.tmod x n := by
    have := Int.lt_tmod_of_pos x hn
    omega
  rw [w6424 (by omega) (by omega)]
  have c : Int.tmod (Int.tmod x n + n) n = (Int.tmod x n + n) % n := tm24 (by omega)
  rw [c, Int.add_emod_right]
  congr 1
  have d := Int.tmod_def x n
  rw [d]
  rw [Int.sub_mul_emod_self_left]
/-- What an action leads to. -/
def nx (p a : Int) : Int × Int := if p < 0 ∨ p ≥ 14 ∨ a < 1 ∨ a > 14 then (0, 2) else if targetIn transL p a = -1 then (0, 17) else (targetIn transL p a, 0)
theorem next_f (k : Nat) (p a : Int) : procedure_Next.f (k + 1) p a = some (nx p a) := by
  unfold procedure_Next.f nx
  by_cases h1 : p < 0
  · rw [if_pos h1, if_pos (by omega)]; rfl
  by_cases h2 : p ≥ 14
  · rw [if_neg h1, if_pos h2, if_pos (by omega)]; rfl
  by_cases h3 : a < 1
  · rw [if_neg h1, if_neg h2, if_pos h3, if_pos (by omega)]; rfl
  by_cases h4 : a > 14
  · rw [if_neg h1, if_neg h2, if_neg h3, if_pos (by omega), decide_eq_true h4]; rfl
  rw [if_neg h1, if_neg h2, if_neg h3, if_neg (by omega), decide_eq_false h4]
  simp only [procedure_Next.j0, procedure_target.f, Option.bind_some]
  rw [if_neg (by simp)]
  split <;> rfl
theorem next_ev (p a : Int) : Ev (fun k => procedure_Next.f k p a) (nx p a) := ⟨1, fun k hk => by obtain ⟨j, rfl⟩ : ∃ j, k = j + 1 := ⟨k - 1, by omega⟩; exact next_f j p a⟩
/-- A number below a bound, as one of a list. -/
theorem in_range {n : Nat} {p : Int} (h0 : 0 ≤ p) (h1 : p < n) : ∃ i, i ∈ List.range n ∧ (i : Int) = p := ⟨p.toNat, List.mem_range.2 (by omega), by omega⟩
theorem rnext_in : ∀ i ∈ List.range 14, ∀ j ∈ List.range 14, customsref24_Next.f 8 (i : Int) (j + 1 : Int) = some (nx i (j + 1)) := by decide +kernel
theorem rnext_ev (p a : Int) : Ev (fun k => customsref24_Next.f k p a) (nx p a) := by
  by_cases h : p < 0 ∨ p ≥ 14 ∨ a < 1 ∨ a > 14
  · refine ⟨1, fun k hk => ?_⟩
    obtain ⟨j, rfl⟩ : ∃ j, k = j + 1 := ⟨k - 1, by omega⟩
    show customsref24_Next.f (j + 1) p a = some (nx p a)
    unfold customsref24_Next.f nx
    rw [if_pos h]
    by_cases h1 : p < 0
    · rw [if_pos h1]; rfl
    by_cases h2 : p > 13
    · rw [if_neg h1, if_pos h2]; rfl
    by_cases h3 : a < 1
    · rw [if_neg h1, if_neg h2, if_pos h3]; rfl
    rw [if_neg h1, if_neg h2, if_neg h3, decide_eq_true (by omega : a > 14)]; rfl
  · obtain ⟨i, hi, rfl⟩ := in_range (n := 14) (p := p) (by omega) (by omega)
    obtain ⟨j, hj, e⟩ := in_range (n := 14) (p := a - 1) (by omega) (by omega)
    have e' : a = (j : Int) + 1 := by omega
    subst e'
    exact Ev.of (fun k => customsref24_Next.mono _ _ k) (k := 8) (rnext_in i hi j hj)
/-- What a procedure means. -/
def cl (p : Int) : Int := if p = 1 ∨ p = 2 ∨ p = 3 ∨ p = 4 ∨ p = 5 then 1 else if p = 6 ∨ p = 7 ∨ p = 9 ∨ p = 12 then 2 else if p = 8 ∨ p = 10 ∨ p = 11 then 3 else if p = 13 then 4 else 0
theorem class_in : ∀ i ∈ List.range 14, procedure_Class.f 8 (i : Int) = some (cl i) ∧ customsref24_Class.f 8 (i : Int) = some (cl i) := by decide +kernel
theorem class_ev (p : Int) : Ev (fun k => procedure_Class.f k p) (cl p) ∧ Ev (fun k => customsref24_Class.f k p) (cl p) := by
  by_cases h : 0 ≤ p ∧ p < 14
  · obtain ⟨i, hi, rfl⟩ := in_range (n := 14) (p := p) h.1 h.2
    exact ⟨Ev.of (fun k => procedure_Class.mono _ k) (k := 8) (class_in i hi).1, Ev.of (fun k => customsref24_Class.mono _ k) (k := 8) (class_in i hi).2⟩
  · have hc : cl p = 0 := by unfold cl; rw [if_neg (by omega), if_neg (by omega), if_neg (by omega), if_neg (by omega)]
    have e : ∀ q : Int, 0 ≤ q → q < 14 → (p == q) = false := fun q h1 h2 => beq_eq_false_iff_ne.2 (by omega)
    rw [hc]
    constructor
    · refine ⟨3, fun k hk => ?_⟩
      obtain ⟨j, rfl⟩ : ∃ j, k = j + 3 := ⟨k - 3, by omega⟩
      show procedure_Class.f (j + 3) p = some 0
      unfold procedure_Class.f procedure_Class.j0 procedure_Class.j1 procedure_Class.j2
      simp only [if_neg (by omega : ¬ p = 1), if_neg (by omega : ¬ p = 2), if_neg (by omega : ¬ p = 3), if_neg (by omega : ¬ p = 4), if_neg (by omega : ¬ p = 6), if_neg (by omega : ¬ p = 7), if_neg (by omega : ¬ p = 9), if_neg (by omega : ¬ p = 8), if_neg (by omega : ¬ p = 10), if_neg (by omega : ¬ p = 13), e 5 (by omega) (by omega), e 12 (by omega) (by omega), e 11 (by omega) (by omega)]
      rfl
    · refine ⟨3, fun k hk => ?_⟩
      obtain ⟨j, rfl⟩ : ∃ j, k = j + 3 := ⟨k - 3, by omega⟩
      show customsref24_Class.f (j + 3) p = some 0
      unfold customsref24_Class.f customsref24_Class.j0 customsref24_Class.j1 customsref24_Class.j2
      simp only [if_neg (by omega : ¬ p = 1), if_neg (by omega : ¬ p = 2), if_neg (by omega : ¬ p = 3), if_neg (by omega : ¬ p = 4), if_neg (by omega : ¬ p = 6), if_neg (by omega : ¬ p = 7), if_neg (by omega : ¬ p = 9), if_neg (by omega : ¬ p = 8), if_neg (by omega : ¬ p = 10), if_neg (by omega : ¬ p = 13), e 5 (by omega) (by omega), e 12 (by omega) (by omega), e 11 (by omega) (by omega)]
      rfl
/-- The first of the shortest ways. -/
def best : List (List (List Int × Bool)) :=
  [[([], true), ([1], true), ([1, 2], true), ([1, 5], true), ([1, 6], true), ([1, 7], true), ([1, 8], true), ([1, 8, 9], true), ([1, 11], true), ([1, 8, 11], true), ([1, 12], true), ([1, 13], true), ([1, 14], true), ([1, 2, 4], true)],
  [([], false), ([], true), ([2], true), ([5], true), ([6], true), ([7], true), ([8], true), ([8, 9], true), ([11], true), ([8, 11], true), ([12], true), ([13], true), ([14], true), ([2, 4], true)],
  [([], false), ([3], true), ([], true), ([3, 5], true), ([3, 6], true), ([3, 7], true), ([3, 8], true), ([3, 8, 9], true), ([3, 11], true), ([3, 8, 11], true), ([3, 12], true), ([3, 13], true), ([14], true), ([4], true)],
  [([], false), ([2, 3], true), ([2], true), ([], true), ([6], true), ([7], true), ([8], true), ([8, 9], true), ([11], true), ([8, 11], true), ([12], true), ([13], true), ([14], true), ([2, 4], true)],
  [([], false), ([2, 3], true), ([2], true), ([5], true), ([], true), ([5, 7], true), ([8], true), ([8, 9], true), ([11], true), ([8, 11], true), ([12], true), ([5, 13], true), ([14], true), ([2, 4], true)],
  [([], false), ([2, 3], true), ([2], true), ([5], true), ([5, 6], true), ([], true), ([8], true), ([8, 9], true), ([11], true), ([8, 11], true), ([12], true), ([5, 13], true), ([14], true), ([2, 4], true)],
  [([], false), ([], false), ([], false), ([], false), ([], false), ([], false), ([], true), ([9], true), ([], false), ([11], true), ([], false), ([], false), ([], false), ([], false)],
  [([], false), ([], false), ([], false), ([], false), ([], false), ([], false), ([10], true), ([], true), ([], false), ([10, 11], true), ([], false), ([], false), ([], false), ([], false)],
  [([], false), ([], false), ([], false), ([], false), ([], false), ([], false), ([], false), ([], false), ([], true), ([], false), ([], false), ([], false), ([], false), ([], false)],
  [([], false), ([], false), ([], false), ([], false), ([], false), ([], false), ([], false), ([], false), ([], false), ([], true), ([], false), ([], false), ([], false), ([], false)],
  [([], false), ([], false), ([], false), ([], false), ([], false), ([], false), ([], false), ([], false), ([], false), ([], false), ([], true), ([], false), ([], false), ([], false)],
  [([], false), ([], false), ([], false), ([], false), ([], false), ([], false), ([], false), ([], false), ([], false), ([], false), ([], false), ([], true), ([], false), ([], false)],
  [([], false), ([], false), ([], false), ([], false), ([], false), ([], false), ([], false), ([], false), ([], false), ([], false), ([], false), ([], false), ([], true), ([], false)],
  [([], false), ([], false), ([], false), ([], false), ([], false), ([], false), ([], false), ([], false), ([], false), ([], false), ([], false), ([], false), ([], false), ([], true)]]
def bestOf (p q : Nat) : List Int × Bool := (best.getD p []).getD q ([], false)
theorem path_in : ∀ i ∈ List.range 14, ∀ j ∈ List.range 14, procedure_Path.f 300 (i : Int) (j : Int) = some (bestOf i j) := by decide +kernel
theorem best_short : ∀ i ∈ List.range 14, ∀ j ∈ List.range 14, (bestOf i j).1.length ≤ 100 := by decide +kernel
theorem awake_ev : Ev (fun k => customslaw24_awake.f k) true := Ev.of (fun k => customslaw24_awake.mono k) (k := 300) (by decide +kernel)
end Go.Proofs.YtgmedimcejnkjaaDoor.Pure
