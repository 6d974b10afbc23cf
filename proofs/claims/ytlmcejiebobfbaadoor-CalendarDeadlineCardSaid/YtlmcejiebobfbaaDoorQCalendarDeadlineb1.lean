/-
  Plain mathematics: what these functions answer; at the end the law's pure statement. No program's memory in sight.
-/
import Derived.Test.YtlmcejiebobfbaaDoorQCorew1
import Derived.Test.YtlmcejiebobfbaaDoorQCalendarDeadlinew1
import Derived.Test.YtlmcejiebobfbaaDoorQCorea1
import Derived.Test.YtlmcejiebobfbaaDoorQCorea2
import Derived.Test.YtlmcejiebobfbaaDoorQCorea3
import Derived.Test.YtlmcejiebobfbaaDoorQCalendarDeadlinea1
import Derived.Test.YtlmcejiebobfbaaDoorQCalendarDeadlinea2
import Derived.Test.YtlmcejiebobfbaaDoorQCalendarDeadlinea3
import Derived.Test.YtlmcejiebobfbaaDoorQCalendarDeadlinea4
import Derived.Test.YtlmcejiebobfbaaDoorQCoreb1
namespace Go.Proofs.YtlmcejiebobfbaaDoor.Pure
open Go.RowKit Go.Proofs.YtlmcejiebobfbaaDoor.G Go.Proofs.YtlmcejiebobfbaaDoorW.PrintWords Go.Proofs.YtlmcejiebobfbaaDoorW.PrintLast Go.Proofs.YtlmcejiebobfbaaDoorW.PrintMore
set_option linter.unusedSimpArgs false
set_option linter.unusedVariables false

/-- Each number is above the one before it. -/
def Up (l : List Int) : Prop := ∀ i : Int, 0 < i → i < l.length → rd l (i - 1) < rd l i
theorem Up.lt {l : List Int} (h : Up l) : ∀ (n : Nat) (i : Int), 0 ≤ i → i + n + 1 < l.length → rd l i < rd l (i + n + 1)
  | 0, i, h0, h1 => by
    have := h (i + 1) (by omega) (by omega)
    have e : i + 1 - 1 = i := by omega
    rw [e] at this
    simpa using this
  | n + 1, i, h0, h1 => by
    have a := Up.lt h n i h0 (by omega)
    have b := h (i + n + 1 + 1) (by omega) (by omega)
    have e : i + n + 1 + 1 - 1 = i + n + 1 := by omega
    rw [e] at b
    have e2 : i + ((n + 1 : Nat) : Int) + 1 = i + n + 1 + 1 := by omega
    rw [e2]
    omega
theorem Up.mono {l : List Int} (h : Up l) {i j : Int} (h0 : 0 ≤ i) (hij : i < j) (hj : j < l.length) : rd l i < rd l j := by
  have := h.lt (j - i - 1).toNat i h0 (by omega)
  have e : i + ((j - i - 1).toNat : Int) + 1 = j := by omega
  rw [e] at this
  exact this
theorem mem_rd {l : List Int} {x : Int} : x ∈ l ↔ ∃ i : Int, 0 ≤ i ∧ i < l.length ∧ rd l i = x := by
  constructor
  · intro h
    obtain ⟨i, hi, e⟩ := List.getElem_of_mem h
    refine ⟨i, by omega, by omega, ?_⟩
    unfold rd
    simp [List.getD_eq_getElem?_getD, hi, e]
  · rintro ⟨i, h0, h1, rfl⟩
    have hi : i.toNat < l.length := by omega
    unfold rd
    rw [List.getD_eq_getElem?_getD, List.getElem?_eq_getElem hi]
    exact List.getElem_mem hi

/-- Valid, the program's and the reference's: one answer, and what OK says. -/
theorem valid_l (l : List Int) (hl : l.length ≤ 2000) (d : Nat) : ∀ i : Int, (l.length : Int) - i = d → 0 ≤ i →
    ∃ r, Ev (fun k => calendar_Valid.l0 k l l (l.length : Int) i) r ∧ Ev (fun k => customsref04_Valid.l0 k l i) r ∧ (r = 0 → ∀ j : Int, i ≤ j → 0 < j → j < l.length → rd l (j - 1) < rd l j) := by
  induction d with
  | zero =>
    intro i hd h0
    refine ⟨0, Ev.step (f := fun _ => some 0) (fun k => ?_) (Ev.now _), Ev.step (f := fun _ => some 0) (fun k => ?_) (Ev.now _), fun _ j h1 _ h2 => by omega⟩
    · simp only [calendar_Valid.l0]; rw [if_neg (by omega)]
    · simp only [customsref04_Valid.l0]; rw [if_neg (by omega)]
  | succ d ih =>
    intro i hd h0
    have hlt : i < (l.length : Int) := by omega
    by_cases c : 0 ≤ rd l i ∧ rd l i ≤ 36524
    · by_cases c1 : i > 0
      · by_cases c2 : rd l i ≤ rd l (i - 1)
        · refine ⟨9, Ev.step (f := fun _ => some 9) (fun k => ?_) (Ev.now _), Ev.step (f := fun _ => some 9) (fun k => ?_) (Ev.now _), fun e => absurd e (by decide)⟩
          · simp only [calendar_Valid.l0]
            rw [if_pos hlt, if_pos h0, if_pos hlt, valid_f]
            simp only [Option.bind_some, decide_eq_true_eq]
            rw [if_pos c, if_pos c1, w64 (by omega) (by omega), if_pos (by omega), if_pos (by omega), if_pos c2]
          · simp only [customsref04_Valid.l0]
            rw [if_pos hlt, if_pos h0, day_f]
            simp only [Option.bind_some, decide_eq_true_eq]
            rw [if_pos c, if_pos c1, w64 (by omega) (by omega), if_pos (by omega), if_pos (by omega), if_pos c2]
        · obtain ⟨r, a, b, f⟩ := ih (i + 1) (by omega) (by omega)
          refine ⟨r, Ev.step (fun k => ?_) a, Ev.step (fun k => ?_) b, fun e j h1 h2 h3 => ?_⟩
          · simp only [calendar_Valid.l0]
            rw [if_pos hlt, if_pos h0, if_pos hlt, valid_f]
            simp only [Option.bind_some, decide_eq_true_eq]
            rw [if_pos c, if_pos c1, w64 (n := i - 1) (by omega) (by omega), if_pos (by omega), if_pos (by omega), if_neg c2, w64 (by omega) (by omega)]
          · simp only [customsref04_Valid.l0]
            rw [if_pos hlt, if_pos h0, day_f]
            simp only [Option.bind_some, decide_eq_true_eq]
            rw [if_pos c, if_pos c1, w64 (n := i - 1) (by omega) (by omega), if_pos (by omega), if_pos (by omega), if_neg c2, w64 (by omega) (by omega)]
          · by_cases q : j = i
            · subst q; omega
            · exact f e j (by omega) h2 h3
      · obtain ⟨r, a, b, f⟩ := ih (i + 1) (by omega) (by omega)
        refine ⟨r, Ev.step (fun k => ?_) a, Ev.step (fun k => ?_) b, fun e j h1 h2 h3 => f e j (by omega) h2 h3⟩
        · simp only [calendar_Valid.l0]
          rw [if_pos hlt, if_pos h0, if_pos hlt, valid_f]
          simp only [Option.bind_some, decide_eq_true_eq]
          rw [if_pos c, if_neg c1, w64 (by omega) (by omega)]
        · simp only [customsref04_Valid.l0]
          rw [if_pos hlt, if_pos h0, day_f]
          simp only [Option.bind_some, decide_eq_true_eq]
          rw [if_pos c, if_neg c1, w64 (by omega) (by omega)]
    · refine ⟨2, Ev.step (f := fun _ => some 2) (fun k => ?_) (Ev.now _), Ev.step (f := fun _ => some 2) (fun k => ?_) (Ev.now _), fun e => absurd e (by decide)⟩
      · simp only [calendar_Valid.l0]
        rw [if_pos hlt, if_pos h0, if_pos hlt, valid_f]
        simp only [Option.bind_some, decide_eq_true_eq]
        rw [if_neg c]
      · simp only [customsref04_Valid.l0]
        rw [if_pos hlt, if_pos h0, day_f]
        simp only [Option.bind_some, decide_eq_true_eq]
        rw [if_neg c]
theorem valid_ev (l : List Int) : ∃ r, Ev (fun k => calendar_Valid.f k l) r ∧ Ev (fun k => customsref04_Valid.f k l) r ∧ (r = 0 → Up l ∧ l.length ≤ 2000) := by
  by_cases c : (l.length : Int) > 2000
  · exact ⟨8, Ev.congr (fun k => by unfold calendar_Valid.f; rw [if_pos c]) (Ev.now _), Ev.congr (fun k => by unfold customsref04_Valid.f; rw [if_pos c]) (Ev.now _), fun e => absurd e (by decide)⟩
  · obtain ⟨r, a, b, f⟩ := valid_l l (by omega) l.length 0 (by omega) (by omega)
    exact ⟨r, Ev.congr (fun k => by unfold calendar_Valid.f; rw [if_neg c]) a, Ev.congr (fun k => by unfold customsref04_Valid.f; rw [if_neg c]) b, fun e => ⟨fun i h0 h1 => f e i (by omega) h0 h1, by omega⟩⟩

/-! ### The search -/
theorem less_f (a b : Int) : cmp_Less_int.f a b = some (decide (a < b)) := by
  unfold cmp_Less_int.f cmp_isNaN_int.f
  simp
theorem nan_f (a : Int) : slices_isNaN_int.f a = some false := by
  unfold slices_isNaN_int.f
  simp
theorem half {a b : Int} (h0 : 0 ≤ a) (h1 : a ≤ 100000) (h2 : 0 ≤ b) (h3 : b ≤ 100000) : wrap64 ((IntKind.u64.wrap (wrap64 (a + b))) / 2) = (a + b) / 2 := by
  have e : IntKind.u64.wrap (a + b) = a + b := by
    simp [IntKind.wrap, IntKind.min, IntKind.max, IntKind.signed, IntKind.bits]
    omega
  rw [w64 (n := a + b) (by omega) (by omega), e, w64 (by omega) (by omega)]
theorem search_l0 (l : List Int) (hu : Up l) (hl : l.length ≤ 2000) (x : Int) (d : Nat) : ∀ i j : Int, j - i ≤ d → 0 ≤ i → i ≤ j → j ≤ l.length →
    (∀ q : Int, 0 ≤ q → q < i → rd l q < x) → (∀ q : Int, j ≤ q → q < l.length → x ≤ rd l q) → ∃ p, Ev (fun k => slices_BinarySearch_int_int.l0 k l x (l.length : Int) i j) (p, decide (x ∈ l)) := by
  induction d with
  | zero =>
    intro i j hd h0 hij hj ha hb
    obtain rfl : i = j := by omega
    refine ⟨i, Ev.step (f := fun _ => some (i, decide (x ∈ l))) (fun k => ?_) (Ev.now _)⟩
    simp only [slices_BinarySearch_int_int.l0]
    rw [if_neg (by omega)]
    by_cases c : i < (l.length : Int)
    · rw [if_pos c, if_pos h0, if_pos c]
      by_cases e : rd l i = x
      · rw [if_pos e, decide_eq_true (mem_rd.2 ⟨i, h0, c, e⟩)]
      · rw [if_neg e, nan_f]
        simp only [Option.bind_some]
        rw [if_neg (by decide), decide_eq_false]
        intro hm
        obtain ⟨q, q0, q1, q2⟩ := mem_rd.1 hm
        have hb0 := hb i (by omega) c
        rcases Int.lt_trichotomy q i with r | r | r
        · have := ha q q0 r; omega
        · rw [r] at q2; exact e q2
        · have := hu.mono h0 r q1; omega
    · rw [if_neg c, decide_eq_false]
      intro hm
      obtain ⟨q, q0, q1, q2⟩ := mem_rd.1 hm
      have := ha q q0 (by omega)
      omega
  | succ d ih =>
    intro i j hd h0 hij hj ha hb
    by_cases c : i < j
    · have hm0 : 0 ≤ (i + j) / 2 := by omega
      have hm1 : (i + j) / 2 < (l.length : Int) := by omega
      have hh := half (a := i) (b := j) h0 (by omega) (by omega) (by omega)
      by_cases e : rd l ((i + j) / 2) < x
      · obtain ⟨p, hp⟩ := ih ((i + j) / 2 + 1) j (by omega) (by omega) (by omega) hj (fun q q0 q1 => by
          by_cases r : q = (i + j) / 2
          · rw [r]; exact e
          · have := hu.mono q0 (show q < (i + j) / 2 by omega) hm1
            omega) hb
        refine ⟨p, Ev.step (fun k => ?_) hp⟩
        simp only [slices_BinarySearch_int_int.l0]
        rw [if_pos c, hh, if_pos hm0, if_pos hm1, less_f]
        simp only [Option.bind_some, decide_eq_true_eq]
        rw [if_pos e, w64 (by omega) (by omega)]
      · obtain ⟨p, hp⟩ := ih i ((i + j) / 2) (by omega) h0 (by omega) (by omega) ha (fun q q0 q1 => by
          by_cases r : q = (i + j) / 2
          · rw [r]; omega
          · have := hu.mono hm0 (show (i + j) / 2 < q by omega) q1
            omega)
        refine ⟨p, Ev.step (fun k => ?_) hp⟩
        simp only [slices_BinarySearch_int_int.l0]
        rw [if_pos c, hh, if_pos hm0, if_pos hm1, less_f]
        simp only [Option.bind_some, decide_eq_true_eq]
        rw [if_neg e]
    · exact ih i j (by omega) h0 hij hj ha hb

/-! ### Working days -/
def isW (l : List Int) (d : Int) : Bool := decide (0 ≤ d ∧ d ≤ 36524 ∧ (d + 5) % 7 ≤ 4 ∧ ¬ d ∈ l)
theorem working_ev (l : List Int) (hu : Up l) (hl : l.length ≤ 2000) (d : Int) : Ev (fun k => calendar_Working.f k l d) (isW l d) := by
  by_cases c : 0 ≤ d ∧ d ≤ 36524
  · by_cases c2 : (d + 5) % 7 ≥ 5
    · refine Ev.congr (f := fun _ => some (isW l d)) (fun k => ?_) (Ev.now _)
      unfold calendar_Working.f
      rw [valid_f]
      simp only [Option.bind_some, decide_eq_true_eq]
      rw [if_pos c, weekday_f d c.1 c.2]
      simp only [Option.bind_some]
      rw [if_pos c2]
      congr 1
      exact (decide_eq_false (by omega)).symm
    · obtain ⟨p, K, hK⟩ := search_l0 l hu hl d l.length 0 l.length (by omega) (by omega) (by omega) (by omega) (fun q q0 q1 => by omega) (fun q q0 q1 => by omega)
      dsimp only at hK
      refine ⟨K, fun k hk => ?_⟩
      dsimp only
      unfold calendar_Working.f
      rw [valid_f]
      simp only [Option.bind_some, decide_eq_true_eq]
      rw [if_pos c, weekday_f d c.1 c.2]
      simp only [Option.bind_some]
      rw [if_neg c2]
      unfold slices_BinarySearch_int_int.f
      rw [hK k hk]
      simp only [Option.bind_some]
      congr 1
      unfold isW
      by_cases m : d ∈ l
      · simp [m]
      · simp [m]; omega
  · refine Ev.congr (f := fun _ => some (isW l d)) (fun k => ?_) (Ev.now _)
    unfold calendar_Working.f
    rw [valid_f]
    simp only [Option.bind_some, decide_eq_true_eq]
    rw [if_neg c]
    congr 1
    exact (decide_eq_false (by omega)).symm
theorem rworking_l0 (l : List Int) (hl : l.length ≤ 2000) (x w : Int) (d : Nat) : ∀ i : Int, (l.length : Int) - i = d → 0 ≤ i → (∀ q : Int, 0 ≤ q → q < i → rd l q ≠ x) →
    Ev (fun k => customsref04_Working.l0 k l x w i) (decide (¬ x ∈ l ∧ 0 ≤ w ∧ w ≤ 4)) := by
  induction d with
  | zero =>
    intro i hd h0 hq
    refine Ev.step (f := fun _ => some (decide (¬ x ∈ l ∧ 0 ≤ w ∧ w ≤ 4))) (fun k => ?_) (Ev.now _)
    have hn : ¬ x ∈ l := fun hm => by
      obtain ⟨q, q0, q1, q2⟩ := mem_rd.1 hm
      exact hq q q0 (by omega) q2
    simp only [customsref04_Working.l0]
    rw [if_neg (by omega)]
    by_cases c : w ≥ 0
    · rw [if_pos c]; congr 1; simp [hn]; omega
    · rw [if_neg c]; congr 1; exact (decide_eq_false (by omega)).symm
  | succ d ih =>
    intro i hd h0 hq
    have hlt : i < (l.length : Int) := by omega
    by_cases c : rd l i = x
    · refine Ev.step (f := fun _ => some (decide (¬ x ∈ l ∧ 0 ≤ w ∧ w ≤ 4))) (fun k => ?_) (Ev.now _)
      have hm : x ∈ l := mem_rd.2 ⟨i, h0, hlt, c⟩
      simp only [customsref04_Working.l0]
      rw [if_pos hlt, if_pos h0, if_pos c, decide_eq_false (fun h => h.1 hm)]
    · refine Ev.step (fun k => ?_) (ih (i + 1) (by omega) (by omega) (fun q q0 q1 => by
        by_cases r : q = i
        · rw [r]; exact c
        · exact hq q q0 (by omega)))
      simp only [customsref04_Working.l0]
      rw [if_pos hlt, if_pos h0, if_neg c, w64 (by omega) (by omega)]
theorem rworking_ev (l : List Int) (hl : l.length ≤ 2000) (d : Int) : Ev (fun k => customsref04_Working.f k l d) (isW l d) := by
  by_cases c : 0 ≤ d ∧ d ≤ 36524
  · have h := rworking_l0 l hl d ((d + 5) % 7) l.length 0 (by omega) (by omega) (fun q q0 q1 => by omega)
    have e : decide (¬ d ∈ l ∧ 0 ≤ (d + 5) % 7 ∧ (d + 5) % 7 ≤ 4) = isW l d := by
      unfold isW
      apply decide_eq_decide.2
      constructor
      · rintro ⟨a, b, c2⟩; exact ⟨c.1, c.2, c2, a⟩
      · rintro ⟨a, b, c2, e⟩; exact ⟨e, by omega, c2⟩
    rw [e] at h
    refine Ev.congr (fun k => ?_) h
    unfold customsref04_Working.f
    rw [weekday_ref, weekday_f d c.1 c.2]
    rfl
  · have h := rworking_l0 l hl d (-1) l.length 0 (by omega) (by omega) (fun q q0 q1 => by omega)
    have e : decide (¬ d ∈ l ∧ 0 ≤ (-1 : Int) ∧ (-1 : Int) ≤ 4) = isW l d := by
      unfold isW
      rw [decide_eq_false (by omega), decide_eq_false (by omega)]
    rw [e] at h
    refine Ev.congr (fun k => ?_) h
    unfold customsref04_Working.f
    rw [weekday_ref, weekday_out d c]
    rfl
end Go.Proofs.YtlmcejiebobfbaaDoor.Pure

namespace Go.Proofs.YtlmcejiebobfbaaDoor.Pure
open Go.RowKit Go.Proofs.YtlmcejiebobfbaaDoor.G Go.Proofs.YtlmcejiebobfbaaDoorW.PrintWords Go.Proofs.YtlmcejiebobfbaaDoorW.PrintLast Go.Proofs.YtlmcejiebobfbaaDoorW.PrintMore
set_option linter.unusedSimpArgs false
set_option linter.unusedVariables false

/-- The first working day from d on; n: how many days are left. -/
def nxt (l : List Int) : Nat → Int → Int × Int
  | 0, _ => (0, 3)
  | n + 1, d => if isW l d = true then (d, 0) else nxt l n (d + 1)
theorem nxt_ok (l : List Int) : ∀ (n : Nat) (d : Int), (nxt l n d = (0, 3)) ∨ (∃ e, nxt l n d = (e, 0) ∧ d ≤ e ∧ e < d + n ∧ isW l e = true)
  | 0, _ => .inl rfl
  | n + 1, d => by
    by_cases c : isW l d = true
    · exact .inr ⟨d, by rw [nxt, if_pos c], by omega, by omega, c⟩
    · rcases nxt_ok l n (d + 1) with h | ⟨e, h, h1, h2, h3⟩
      · exact .inl (by rw [nxt, if_neg c, h])
      · exact .inr ⟨e, by rw [nxt, if_neg c, h], by omega, by omega, h3⟩
theorem next_ev (l : List Int) (hu : Up l) (hl : l.length ≤ 2000) : ∀ (n : Nat) (d : Int), 0 ≤ d → d + n = 36525 → Ev (fun k => calendar_next.l0 k l d) (nxt l n d)
  | 0, d, h0, hd => Ev.step (f := fun _ => some (0, 3)) (fun k => by
      simp only [calendar_next.l0]
      rw [valid_f, decide_eq_false (by omega)]
      rfl) (Ev.now _)
  | n + 1, d, h0, hd => by
    obtain ⟨K1, h1⟩ := working_ev l hu hl d
    obtain ⟨K2, h2⟩ := next_ev l hu hl n (d + 1) (by omega) (by omega)
    dsimp only at h1 h2
    refine ⟨K1 + K2 + 1, fun k hk => ?_⟩
    obtain ⟨k, rfl⟩ : ∃ j, k = j + 1 := ⟨k - 1, by omega⟩
    dsimp only
    simp only [calendar_next.l0]
    rw [valid_f, decide_eq_true (by omega), h1 k (by omega)]
    simp only [Option.bind_some, if_true]
    rw [nxt]
    by_cases c : isW l d = true
    · rw [if_pos c, if_pos c]
    · rw [if_neg c, if_neg c, w64 (by omega) (by omega), h2 k (by omega)]
theorem rnext_ev (l : List Int) (hl : l.length ≤ 2000) : ∀ (n : Nat) (d : Int), 0 ≤ d → d + n + 1 = 36525 → Ev (fun k => customsref04_NextWorking.l0 k l d) (nxt l (n + 1) d)
  | 0, d, h0, hd => by
    obtain ⟨K1, h1⟩ := rworking_ev l hl d
    dsimp only at h1
    refine ⟨K1 + 1, fun k hk => ?_⟩
    obtain ⟨k, rfl⟩ : ∃ j, k = j + 1 := ⟨k - 1, by omega⟩
    dsimp only
    simp only [customsref04_NextWorking.l0]
    rw [h1 k (by omega)]
    simp only [Option.bind_some]
    rw [nxt, nxt]
    by_cases c : isW l d = true
    · rw [if_pos c, if_pos c]
    · rw [if_neg c, if_neg c, w64 (by omega) (by omega), day_f, decide_eq_false (by omega)]
      rfl
  | n + 1, d, h0, hd => by
    obtain ⟨K1, h1⟩ := rworking_ev l hl d
    obtain ⟨K2, h2⟩ := rnext_ev l hl n (d + 1) (by omega) (by omega)
    dsimp only at h1 h2
    refine ⟨K1 + K2 + 1, fun k hk => ?_⟩
    obtain ⟨k, rfl⟩ : ∃ j, k = j + 1 := ⟨k - 1, by omega⟩
    dsimp only
    simp only [customsref04_NextWorking.l0]
    rw [h1 k (by omega)]
    simp only [Option.bind_some]
    rw [nxt]
    by_cases c : isW l d = true
    · rw [if_pos c, if_pos c]
    · rw [if_neg c, if_neg c, w64 (by omega) (by omega), day_f, decide_eq_true (by omega)]
      simp only [Option.bind_some, if_true]
      rw [h2 k (by omega)]

/-- The n-th working day after x. -/
def adds (l : List Int) : Nat → Int → Int × Int
  | 0, x => (x, 0)
  | n + 1, x => if (nxt l (36524 - x).toNat (x + 1)).2 = 0 then adds l n (nxt l (36524 - x).toNat (x + 1)).1 else (0, (nxt l (36524 - x).toNat (x + 1)).2)
theorem adds_ok (l : List Int) : ∀ (n : Nat) (x : Int), 0 ≤ x → x ≤ 36524 → adds l n x = (0, 3) ∨ ∃ e, adds l n x = (e, 0) ∧ x ≤ e ∧ e ≤ 36524
  | 0, x, h0, h1 => .inr ⟨x, rfl, by omega, h1⟩
  | n + 1, x, h0, h1 => by
    rcases nxt_ok l (36524 - x).toNat (x + 1) with h | ⟨e, h, e1, e2, e3⟩
    · exact .inl (by rw [adds, h]; rfl)
    · rcases adds_ok l n e (by omega) (by omega) with q | ⟨f, q, q1, q2⟩
      · exact .inl (by rw [adds, h, if_pos rfl, q])
      · exact .inr ⟨f, by rw [adds, h, if_pos rfl, q], by omega, q2⟩
theorem adds_add (l : List Int) (k : Nat) : ∀ (n : Nat) (x : Int), adds l (n + k) x = if (adds l n x).2 = 0 then adds l k (adds l n x).1 else (0, (adds l n x).2)
  | 0, x => by
    rw [Nat.zero_add, adds, if_pos rfl]
  | n + 1, x => by
    have e : n + 1 + k = (n + k) + 1 := by omega
    rw [e, adds, adds]
    by_cases c : (nxt l (36524 - x).toNat (x + 1)).2 = 0
    · rw [if_pos c, if_pos c, adds_add l k n]
    · rw [if_neg c, if_neg c, if_neg c]
theorem addl_ev (l : List Int) (hu : Up l) (hl : l.length ≤ 2000) (m : Int) (hm : m ≤ 100000) : ∀ (n : Nat) (x i : Int), 0 ≤ x → x ≤ 36524 → 0 ≤ i → m - i = n → Ev (fun k => calendar_add.l0 k l x m i) (adds l n x)
  | 0, x, i, h0, h1, hi, hn => Ev.step (f := fun _ => some (x, 0)) (fun k => by
      simp only [calendar_add.l0]
      rw [if_neg (by omega)]) (Ev.now _)
  | n + 1, x, i, h0, h1, hi, hn => by
    obtain ⟨K1, q1⟩ := next_ev l hu hl (36524 - x).toNat (x + 1) (by omega) (by omega)
    dsimp only at q1
    have key : ∀ k, K1 ≤ k → calendar_add.l0 (k + 1) l x m i = (if (nxt l (36524 - x).toNat (x + 1)).2 = 0 then calendar_add.l0 k l (nxt l (36524 - x).toNat (x + 1)).1 m (i + 1) else some (0, (nxt l (36524 - x).toNat (x + 1)).2)) := by
      intro k hk
      simp only [calendar_add.l0]
      rw [if_pos (by omega), w64 (n := x + 1) (by omega) (by omega)]
      unfold calendar_next.f
      rw [q1 k hk]
      simp only [Option.bind_some]
      rw [w64 (by omega) (by omega)]
    rcases nxt_ok l (36524 - x).toNat (x + 1) with h | ⟨e, h, e1, e2, e3⟩
    · refine ⟨K1 + 1, fun k hk => ?_⟩
      obtain ⟨k, rfl⟩ : ∃ j, k = j + 1 := ⟨k - 1, by omega⟩
      dsimp only
      rw [key k (by omega), adds, h]
      rfl
    · obtain ⟨K2, q2⟩ := addl_ev l hu hl m hm n e (i + 1) (by omega) (by omega) (by omega) (by omega)
      dsimp only at q2
      refine ⟨K1 + K2 + 1, fun k hk => ?_⟩
      obtain ⟨k, rfl⟩ : ∃ j, k = j + 1 := ⟨k - 1, by omega⟩
      dsimp only
      rw [key k (by omega), adds, h, if_pos rfl, if_pos rfl, q2 k (by omega)]
theorem raddl_ev (l : List Int) (hl : l.length ≤ 2000) (d : Nat) : ∀ (n : Nat) (x : Int), 0 ≤ x → x ≤ 36524 → (n : Int) ≤ 100000 → n + (36525 - x).toNat < d → Ev (fun k => customsref04_AddWorking.l0 k l x n) (adds l n x) := by
  induction d with
  | zero => intro n x _ _ _ h; omega
  | succ d ih =>
    intro n x h0 h1 hn hd
    cases n with
    | zero =>
      exact Ev.step (f := fun _ => some (x, 0)) (fun k => by
        simp only [customsref04_AddWorking.l0]
        rw [if_neg (by omega)]) (Ev.now _)
    | succ n =>
      by_cases c : x + 1 ≤ 36524
      · obtain ⟨K1, q1⟩ := rworking_ev l hl (x + 1)
        have e1 : (36524 - x).toNat = (36524 - (x + 1)).toNat + 1 := by omega
        by_cases w : isW l (x + 1) = true
        · obtain ⟨K2, q2⟩ := ih n (x + 1) (by omega) c (by omega) (by omega)
          dsimp only at q1 q2
          refine ⟨K1 + K2 + 1, fun k hk => ?_⟩
          obtain ⟨k, rfl⟩ : ∃ j, k = j + 1 := ⟨k - 1, by omega⟩
          dsimp only
          simp only [customsref04_AddWorking.l0]
          rw [if_pos (by omega), w64 (n := x + 1) (by omega) (by omega), day_f, decide_eq_true (by omega)]
          simp only [Option.bind_some, if_true]
          rw [q1 k (by omega)]
          simp only [Option.bind_some]
          rw [if_pos w, w64 (by omega) (by omega), adds, e1, nxt, if_pos w, if_pos rfl]
          have e2 : ((n + 1 : Nat) : Int) - 1 = n := by omega
          rw [e2, q2 k (by omega)]
        · obtain ⟨K2, q2⟩ := ih (n + 1) (x + 1) (by omega) c (by omega) (by omega)
          dsimp only at q1 q2
          refine ⟨K1 + K2 + 1, fun k hk => ?_⟩
          obtain ⟨k, rfl⟩ : ∃ j, k = j + 1 := ⟨k - 1, by omega⟩
          dsimp only
          simp only [customsref04_AddWorking.l0]
          rw [if_pos (by omega), w64 (n := x + 1) (by omega) (by omega), day_f, decide_eq_true (by omega)]
          simp only [Option.bind_some, if_true]
          rw [q1 k (by omega)]
          simp only [Option.bind_some]
          rw [if_neg w, q2 k (by omega), adds, adds, e1, nxt, if_neg w]
      · refine ⟨1, fun k hk => ?_⟩
        obtain ⟨k, rfl⟩ : ∃ j, k = j + 1 := ⟨k - 1, by omega⟩
        have e1 : (36524 - x).toNat = 0 := by omega
        dsimp only
        simp only [customsref04_AddWorking.l0]
        rw [if_pos (by omega), w64 (n := x + 1) (by omega) (by omega), day_f, decide_eq_false (by omega), adds, e1]
        rfl

/-! ### The exported functions -/
theorem nextw_ev (l : List Int) (d : Int) : ∃ r, Ev (fun k => calendar_NextWorking.f k l d) r ∧ Ev (fun k => customsref04_NextWorking.f k l d) r ∧ (Up l → l.length ≤ 2000 → 0 ≤ d → d ≤ 36524 → Ev (fun k => calendar_Valid.f k l) 0 → r = nxt l (36525 - d).toNat d) := by
  obtain ⟨v, ⟨K1, h1⟩, ⟨K2, h2⟩, hv⟩ := valid_ev l
  dsimp only at h1 h2
  by_cases c : v = 0
  · subst c
    obtain ⟨hu, hl⟩ := hv rfl
    by_cases c2 : 0 ≤ d ∧ d ≤ 36524
    · obtain ⟨K3, h3⟩ := next_ev l hu hl (36525 - d).toNat d c2.1 (by omega)
      obtain ⟨K4, h4⟩ := rnext_ev l hl (36524 - d).toNat d c2.1 (by omega)
      have e : (36524 - d).toNat + 1 = (36525 - d).toNat := by omega
      rw [e] at h4
      dsimp only at h3 h4
      refine ⟨nxt l (36525 - d).toNat d, ⟨K1 + K3, fun k hk => ?_⟩, ⟨K2 + K4, fun k hk => ?_⟩, fun _ _ _ _ _ => rfl⟩
      · dsimp only
        unfold calendar_NextWorking.f calendar_next.f
        rw [h1 k (by omega), valid_f, decide_eq_true c2]
        simp only [Option.bind_some, if_true]
        rw [h3 k (by omega)]
        rfl
      · dsimp only
        unfold customsref04_NextWorking.f
        rw [h2 k (by omega), day_f, decide_eq_true c2]
        simp only [Option.bind_some, if_true]
        rw [h4 k (by omega)]
    · refine ⟨(0, 2), ⟨K1, fun k hk => ?_⟩, ⟨K2, fun k hk => ?_⟩, fun _ _ a b _ => absurd ⟨a, b⟩ c2⟩
      · dsimp only
        unfold calendar_NextWorking.f
        rw [h1 k (by omega), valid_f, decide_eq_false c2]
        rfl
      · dsimp only
        unfold customsref04_NextWorking.f
        rw [h2 k (by omega), day_f, decide_eq_false c2]
        rfl
  · refine ⟨(0, v), ⟨K1, fun k hk => ?_⟩, ⟨K2, fun k hk => ?_⟩, fun _ _ _ _ ⟨K, h⟩ => ?_⟩
    · dsimp only
      unfold calendar_NextWorking.f
      rw [h1 k (by omega)]
      simp only [Option.bind_some]
      rw [if_neg c]
    · dsimp only
      unfold customsref04_NextWorking.f
      rw [h2 k (by omega)]
      simp only [Option.bind_some]
      rw [if_neg c]
    · have a := h (K + K1) (by omega)
      dsimp only at a
      rw [h1 (K + K1) (by omega)] at a
      exact absurd (Option.some.inj a) c
end Go.Proofs.YtlmcejiebobfbaaDoor.Pure

namespace Go.Proofs.YtlmcejiebobfbaaDoor.Pure
open Go.RowKit Go.Proofs.YtlmcejiebobfbaaDoor.G Go.Proofs.YtlmcejiebobfbaaDoorW.PrintWords Go.Proofs.YtlmcejiebobfbaaDoorW.PrintLast Go.Proofs.YtlmcejiebobfbaaDoorW.PrintMore
set_option linter.unusedSimpArgs false
set_option linter.unusedVariables false

theorem addw_bad {l : List Int} {v : Int} (hv : v ≠ 0) (a : Ev (fun k => calendar_Valid.f k l) v) (b : Ev (fun k => customsref04_Valid.f k l) v) (d n : Int) :
    Ev (fun k => calendar_AddWorking.f k l d n) (0, v) ∧ Ev (fun k => customsref04_AddWorking.f k l d n) (0, v) := by
  obtain ⟨K1, h1⟩ := a
  obtain ⟨K2, h2⟩ := b
  dsimp only at h1 h2
  refine ⟨⟨K1, fun k hk => ?_⟩, ⟨K2, fun k hk => ?_⟩⟩
  · dsimp only
    unfold calendar_AddWorking.f
    rw [h1 k hk]
    simp only [Option.bind_some]
    rw [if_neg hv]
  · dsimp only
    unfold customsref04_AddWorking.f
    rw [h2 k hk]
    simp only [Option.bind_some]
    rw [if_neg hv]
theorem addw_range {l : List Int} (a : Ev (fun k => calendar_Valid.f k l) 0) (b : Ev (fun k => customsref04_Valid.f k l) 0) {d n : Int} (h : ¬ (0 ≤ d ∧ d ≤ 36524 ∧ 0 ≤ n ∧ n ≤ 1000)) :
    Ev (fun k => calendar_AddWorking.f k l d n) (0, 2) ∧ Ev (fun k => customsref04_AddWorking.f k l d n) (0, 2) := by
  obtain ⟨K1, h1⟩ := a
  obtain ⟨K2, h2⟩ := b
  dsimp only at h1 h2
  refine ⟨⟨K1, fun k hk => ?_⟩, ⟨K2 + 1, fun k hk => ?_⟩⟩
  · dsimp only
    unfold calendar_AddWorking.f
    rw [h1 k hk, valid_f]
    simp only [Option.bind_some, if_true, decide_eq_true_eq]
    by_cases c : 0 ≤ d ∧ d ≤ 36524
    · rw [if_pos c]
      by_cases c2 : n < 0
      · rw [if_pos c2]
      · rw [if_neg c2, if_pos (by omega)]
    · rw [if_neg c]
  · obtain ⟨k, rfl⟩ : ∃ j, k = j + 1 := ⟨k - 1, by omega⟩
    dsimp only
    unfold customsref04_AddWorking.f
    rw [h2 (k + 1) (by omega), day_f]
    simp only [Option.bind_some, if_true, decide_eq_true_eq]
    by_cases c : 0 ≤ d ∧ d ≤ 36524
    · rw [if_pos c]
      by_cases c2 : n < 0
      · rw [if_pos c2]; simp [customsref04_AddWorking.j0]
      · rw [if_neg c2, decide_eq_true (by omega)]; simp [customsref04_AddWorking.j0]
    · rw [if_neg c]; simp [customsref04_AddWorking.j0]
theorem addw_ok {l : List Int} (a : Ev (fun k => calendar_Valid.f k l) 0) (b : Ev (fun k => customsref04_Valid.f k l) 0) (hu : Up l) (hl : l.length ≤ 2000) {d n : Int} (h1 : 0 ≤ d) (h2 : d ≤ 36524) (h3 : 0 ≤ n) (h4 : n ≤ 1000) :
    Ev (fun k => calendar_AddWorking.f k l d n) (adds l n.toNat d) ∧ Ev (fun k => customsref04_AddWorking.f k l d n) (adds l n.toNat d) := by
  obtain ⟨K1, q1⟩ := a
  obtain ⟨K2, q2⟩ := b
  obtain ⟨K3, q3⟩ := addl_ev l hu hl n (by omega) n.toNat d 0 h1 h2 (by omega) (by omega)
  obtain ⟨K4, q4⟩ := raddl_ev l hl (n.toNat + 36526) n.toNat d h1 h2 (by omega) (by omega)
  have en : ((n.toNat : Nat) : Int) = n := by omega
  rw [en] at q4
  dsimp only at q1 q2 q3 q4
  refine ⟨⟨K1 + K3, fun k hk => ?_⟩, ⟨K2 + K4 + 1, fun k hk => ?_⟩⟩
  · dsimp only
    unfold calendar_AddWorking.f calendar_add.f
    rw [q1 k (by omega), valid_f]
    simp only [Option.bind_some, if_true, decide_eq_true_eq]
    rw [if_pos ⟨h1, h2⟩, if_neg (by omega), if_neg (by omega), q3 k (by omega)]
    rfl
  · obtain ⟨k, rfl⟩ : ∃ j, k = j + 1 := ⟨k - 1, by omega⟩
    dsimp only
    unfold customsref04_AddWorking.f
    rw [q2 (k + 1) (by omega), day_f]
    simp only [Option.bind_some, if_true, decide_eq_true_eq]
    rw [if_pos ⟨h1, h2⟩, if_neg (by omega), decide_eq_false (by omega)]
    simp only [customsref04_AddWorking.j0]
    rw [if_neg (by decide), q4 k (by omega)]
theorem nextw_ok {l : List Int} (b : Ev (fun k => customsref04_Valid.f k l) 0) (hu : Up l) (hl : l.length ≤ 2000) {d : Int} (h1 : 0 ≤ d) (h2 : d ≤ 36524) :
    Ev (fun k => calendar_next.f k l d) (nxt l (36525 - d).toNat d) ∧ Ev (fun k => customsref04_NextWorking.f k l d) (nxt l (36525 - d).toNat d) := by
  obtain ⟨K2, q2⟩ := b
  obtain ⟨K4, q4⟩ := rnext_ev l hl (36524 - d).toNat d h1 (by omega)
  have e : (36524 - d).toNat + 1 = (36525 - d).toNat := by omega
  rw [e] at q4
  dsimp only at q2 q4
  refine ⟨next_ev l hu hl _ d h1 (by omega), ⟨K2 + K4, fun k hk => ?_⟩⟩
  dsimp only
  unfold customsref04_NextWorking.f
  rw [q2 k (by omega), day_f]
  simp only [Option.bind_some, if_true, decide_eq_true_eq]
  rw [if_pos ⟨h1, h2⟩, q4 k (by omega)]

/-! ### Deadline -/
theorem within_r (t : Int) : customsref04_within.f t = some (decide (0 ≤ t ∧ t ≤ 1000)) := by
  unfold customsref04_within.f
  by_cases h : t ≥ 0
  · rw [if_pos h]; congr 1; simp; omega
  · rw [if_neg h]; congr 1; simp; omega
theorem later_ge {y m d n a : Int} (h : Valid y m d) (hn : 0 ≤ n) (ha : later y m d n = (a, 0)) : num y m d ≤ a ∧ a ≤ 36524 := by
  have h' := h
  obtain ⟨a1, a2, a3, a4, a5, a6⟩ := h
  unfold later at ha
  by_cases c : 24000 ≤ 12 * y + m - 1 + n ∧ 12 * y + m - 1 + n ≤ 25199
  · simp only [if_pos c, Prod.mk.injEq, and_true] at ha
    have hb := lm_bounds ((12 * y + m - 1 + n) / 12) ((12 * y + m - 1 + n) % 12 + 1)
    have hv : Valid ((12 * y + m - 1 + n) / 12) ((12 * y + m - 1 + n) % 12 + 1) (min d (lm ((12 * y + m - 1 + n) / 12) ((12 * y + m - 1 + n) % 12 + 1))) := ⟨by omega, by omega, by omega, by omega, by omega, by omega⟩
    have hr := num_range hv
    refine ⟨?_, by omega⟩
    by_cases e : n = 0
    · subst e
      have e1 : (12 * y + m - 1 + 0) / 12 = y := by omega
      have e2 : (12 * y + m - 1 + 0) % 12 + 1 = m := by omega
      rw [e1, e2] at ha
      have e3 : min d (lm y m) = d := by omega
      rw [e3] at ha
      omega
    · obtain ⟨b1, b2, b3, b4, b5, b6⟩ := hv
      have := num_lt (y2 := (12 * y + m - 1 + n) / 12) a3 a4 a6 b3 b4 b5 (by omega)
      omega
  · simp only [if_neg c, Prod.mk.injEq] at ha
    omega
theorem later_err {y m d n : Int} : (later y m d n).2 = 0 ∨ later y m d n = (0, 3) := by
  unfold later
  dsimp only
  split
  · exact .inl rfl
  · exact .inr rfl
/-- Deadline, both ways: one answer; and what OK says. -/
theorem deadline_ev (l : List Int) (x t0 t1 t2 : Int) : ∃ r, Ev (fun k => calendar_Deadline.f k l x t0 t1 t2) r ∧ Ev (fun k => customsref04_Deadline.f k l x t0 t1 t2) r ∧ (r.2 = 0 → x ≤ r.1 ∧ Ev (fun k => calendar_Working.f k l r.1) true) := by
  obtain ⟨v, av, bv, hv⟩ := valid_ev l
  have av' := av
  have bv' := bv
  obtain ⟨K1, h1⟩ := av
  obtain ⟨K2, h2⟩ := bv
  dsimp only at h1 h2
  by_cases c : v = 0
  · subst c
    obtain ⟨hu, hl⟩ := hv rfl
    by_cases cx : 0 ≤ x ∧ x ≤ 36524
    · by_cases ct : dlOk t0 ∧ dlOk t1 ∧ dlOk t2
      · have ct' := ct
        unfold dlOk at ct'
        obtain ⟨⟨s1, s2⟩, ⟨s3, s4⟩, ⟨s5, s6⟩⟩ := ct'
        obtain ⟨y, m, d, _, hvd, hnd⟩ := of_ev cx.1 cx.2
        obtain ⟨⟨K3, h3⟩, ⟨K4, h4⟩⟩ := add_ev cx.1 cx.2 hvd hnd (show -1200 ≤ t0 by omega) (show t0 ≤ 1200 by omega)
        dsimp only at h3 h4
        have front : ∀ k, K1 ≤ k → calendar_Deadline.f k l x t0 t1 t2 = dlRest k l x t0 t1 t2 := by
          intro k hk
          unfold calendar_Deadline.f
          rw [h1 k hk, valid_f, decide_eq_true cx]
          simp only [Option.bind_some, if_true]
          rw [if_pos ct]
        have rfront : ∀ k, K2 ≤ k → customsref04_Deadline.f k l x t0 t1 t2 = customsref04_Deadline.j0 k l x false t0 t1 t2 := by
          intro k hk
          unfold customsref04_Deadline.f
          rw [h2 k hk, day_f, decide_eq_true cx, within_r, within_r, within_r, decide_eq_true ⟨s1, s2⟩, decide_eq_true ⟨s3, s4⟩, decide_eq_true ⟨s5, s6⟩]
          rfl
        rcases later_err (y := y) (m := m) (d := d) (n := t0) with el | el
        · obtain ⟨a, ha⟩ : ∃ a, later y m d t0 = (a, 0) := ⟨_, Prod.ext rfl el⟩
          obtain ⟨g1, g2⟩ := later_ge hvd s1 ha
          rw [ha] at h3 h4
          by_cases ca : 0 ≤ a + t1 ∧ a + t1 ≤ 36524
          · obtain ⟨⟨K5, h5⟩, ⟨K6, h6⟩⟩ : Ev (fun k => calendar_add.f k l (a + t1) t2) (adds l t2.toNat (a + t1)) ∧ Ev (fun k => customsref04_AddWorking.f k l (a + t1) t2) (adds l t2.toNat (a + t1)) :=
              ⟨addl_ev l hu hl t2 (by omega) t2.toNat (a + t1) 0 ca.1 ca.2 (by omega) (by omega), (addw_ok av' bv' hu hl ca.1 ca.2 s5 s6).2⟩
            dsimp only at h5 h6
            rcases adds_ok l t2.toNat (a + t1) ca.1 ca.2 with q | ⟨e, q, q1, q2⟩
            · rw [q] at h5 h6
              refine ⟨(0, 3), ⟨K1 + K3 + K5, fun k hk => ?_⟩, ⟨K2 + K4 + K6 + 2, fun k hk => ?_⟩, fun e => absurd e (by decide)⟩
              · dsimp only
                rw [front k (by omega)]
                unfold dlRest
                rw [h3 k (by omega)]
                simp only [Option.bind_some]
                rw [if_pos trivial, w64 (by omega) (by omega), valid_f, decide_eq_true ca]
                simp only [Option.bind_some, if_true]
                rw [h5 k (by omega)]
                rfl
              · obtain ⟨k, rfl⟩ : ∃ j, k = j + 2 := ⟨k - 2, by omega⟩
                dsimp only
                rw [rfront _ (by omega)]
                simp only [customsref04_Deadline.j0]
                rw [if_neg (by decide), h4 (k + 1) (by omega)]
                simp only [Option.bind_some]
                rw [if_pos trivial, w64 (by omega) (by omega), day_f, decide_eq_true ca]
                simp only [Option.bind_some, customsref04_Deadline.j1]
                rw [if_neg (by decide), w64 (by omega) (by omega), h6 k (by omega)]
                rfl
            · rw [q] at h5 h6
              obtain ⟨⟨K7, h7⟩, ⟨K8, h8⟩⟩ := nextw_ok bv' hu hl (d := e) (by omega) q2
              dsimp only at h7 h8
              refine ⟨nxt l (36525 - e).toNat e, ⟨K1 + K3 + K5 + K7, fun k hk => ?_⟩, ⟨K2 + K4 + K6 + K8 + 2, fun k hk => ?_⟩, fun e0 => ?_⟩
              · dsimp only
                rw [front k (by omega)]
                unfold dlRest
                rw [h3 k (by omega)]
                simp only [Option.bind_some]
                rw [if_pos trivial, w64 (by omega) (by omega), valid_f, decide_eq_true ca]
                simp only [Option.bind_some, if_true]
                rw [h5 k (by omega)]
                simp only [Option.bind_some]
                rw [if_pos trivial, h7 k (by omega)]
              · obtain ⟨k, rfl⟩ : ∃ j, k = j + 2 := ⟨k - 2, by omega⟩
                dsimp only
                rw [rfront _ (by omega)]
                simp only [customsref04_Deadline.j0]
                rw [if_neg (by decide), h4 (k + 1) (by omega)]
                simp only [Option.bind_some]
                rw [if_pos trivial, w64 (by omega) (by omega), day_f, decide_eq_true ca]
                simp only [Option.bind_some, customsref04_Deadline.j1]
                rw [if_neg (by decide), w64 (by omega) (by omega), h6 k (by omega)]
                simp only [Option.bind_some]
                rw [if_pos trivial, h8 k (by omega)]
                rfl
              · rcases nxt_ok l (36525 - e).toNat e with w | ⟨f, w, w1, w2, w3⟩
                · rw [w] at e0; exact absurd e0 (by decide)
                · rw [w]
                  refine ⟨by omega, ?_⟩
                  have := working_ev l hu hl f
                  rw [w3] at this
                  exact this
          · refine ⟨(0, 3), ⟨K1 + K3, fun k hk => ?_⟩, ⟨K2 + K4 + 2, fun k hk => ?_⟩, fun e => absurd e (by decide)⟩
            · dsimp only
              rw [front k (by omega)]
              unfold dlRest
              rw [h3 k (by omega)]
              simp only [Option.bind_some]
              rw [if_pos trivial, w64 (by omega) (by omega), valid_f, decide_eq_false ca]
              rfl
            · obtain ⟨k, rfl⟩ : ∃ j, k = j + 2 := ⟨k - 2, by omega⟩
              dsimp only
              rw [rfront _ (by omega)]
              simp only [customsref04_Deadline.j0]
              rw [if_neg (by decide), h4 (k + 1) (by omega)]
              simp only [Option.bind_some]
              rw [if_pos trivial, w64 (by omega) (by omega), day_f, decide_eq_false ca]
              simp only [Option.bind_some, customsref04_Deadline.j1]
              rfl
        · rw [el] at h3 h4
          refine ⟨(0, 3), ⟨K1 + K3, fun k hk => ?_⟩, ⟨K2 + K4 + 2, fun k hk => ?_⟩, fun e => absurd e (by decide)⟩
          · dsimp only
            rw [front k (by omega)]
            unfold dlRest
            rw [h3 k (by omega)]
            rfl
          · obtain ⟨k, rfl⟩ : ∃ j, k = j + 2 := ⟨k - 2, by omega⟩
            dsimp only
            rw [rfront _ (by omega)]
            simp only [customsref04_Deadline.j0]
            rw [if_neg (by decide), h4 (k + 1) (by omega)]
            simp only [Option.bind_some]
            rw [if_neg (by decide)]
            simp only [customsref04_Deadline.j1]
            rfl
      · refine ⟨(0, 2), ⟨K1, fun k hk => ?_⟩, ⟨K2 + 1, fun k hk => ?_⟩, fun e => absurd e (by decide)⟩
        · dsimp only
          unfold calendar_Deadline.f
          rw [h1 k hk, valid_f, decide_eq_true cx]
          simp only [Option.bind_some, if_true]
          rw [if_neg ct]
        · obtain ⟨k, rfl⟩ : ∃ j, k = j + 1 := ⟨k - 1, by omega⟩
          dsimp only
          unfold customsref04_Deadline.f
          rw [h2 (k + 1) (by omega), day_f, decide_eq_true cx, within_r, within_r, within_r]
          simp only [Option.bind_some, if_true, decide_eq_true_eq]
          unfold dlOk at ct
          by_cases u0 : 0 ≤ t0 ∧ t0 ≤ 1000
          · rw [if_pos u0]
            by_cases u1 : 0 ≤ t1 ∧ t1 ≤ 1000
            · rw [if_pos u1, decide_eq_false (fun u2 => ct ⟨u0, u1, u2⟩)]
              simp [customsref04_Deadline.j0]
            · rw [if_neg u1]
              simp [customsref04_Deadline.j0]
          · rw [if_neg u0]
            simp [customsref04_Deadline.j0]
    · refine ⟨(0, 2), ⟨K1, fun k hk => ?_⟩, ⟨K2 + 1, fun k hk => ?_⟩, fun e => absurd e (by decide)⟩
      · dsimp only
        unfold calendar_Deadline.f
        rw [h1 k hk, valid_f, decide_eq_false cx]
        rfl
      · obtain ⟨k, rfl⟩ : ∃ j, k = j + 1 := ⟨k - 1, by omega⟩
        dsimp only
        unfold customsref04_Deadline.f
        rw [h2 (k + 1) (by omega), day_f, decide_eq_false cx]
        simp [customsref04_Deadline.j0]
  · refine ⟨(0, v), ⟨K1, fun k hk => ?_⟩, ⟨K2, fun k hk => ?_⟩, fun e => absurd e c⟩
    · dsimp only
      unfold calendar_Deadline.f
      rw [h1 k hk]
      simp only [Option.bind_some]
      rw [if_neg c]
    · dsimp only
      unfold customsref04_Deadline.f
      rw [h2 k hk]
      simp only [Option.bind_some]
      rw [if_neg c]
end Go.Proofs.YtlmcejiebobfbaaDoor.Pure

namespace Go.Proofs.YtlmcejiebobfbaaDoor.Pure
open Go.RowKit Go.Proofs.YtlmcejiebobfbaaDoor.G Go.Proofs.YtlmcejiebobfbaaDoorW.PrintWords Go.Proofs.YtlmcejiebobfbaaDoorW.PrintLast Go.Proofs.YtlmcejiebobfbaaDoorW.PrintMore
set_option linter.unusedSimpArgs false
set_option linter.unusedVariables false

theorem asc_l0 (x0 : List Int) (hl : x0.length ≤ 1000) (d : Nat) : ∀ (x3 : List Int) (i : Int), (x0.length : Int) - i = d → 0 ≤ i → (x3.length : Int) ≤ i → ∃ r, Ev (fun k => customsmade_Ascending.l0 k x0 x3 i) r := by
  induction d with
  | zero =>
    intro x3 i hd h0 h1
    exact ⟨x3, Ev.step (f := fun _ => some x3) (fun k => by simp only [customsmade_Ascending.l0]; rw [if_neg (by omega)]) (Ev.now _)⟩
  | succ d ih =>
    intro x3 i hd h0 h1
    have hlt : i < (x0.length : Int) := by omega
    obtain ⟨rc, hc⟩ := ih x3 (i + 1) (by omega) (by omega) (by omega)
    have inner : ∀ j : Nat, j ≤ x3.length → ∃ r, Ev (fun k => customsmade_Ascending.l1 k x0 x3 i (j : Int)) r := by
      intro j
      induction j with
      | zero =>
        intro hj
        obtain ⟨r, h⟩ := ih ([] ++ x3.take ((0 : Nat) : Int).toNat ++ [rd x0 i] ++ x3.drop ((0 : Nat) : Int).toNat) (i + 1) (by omega) (by omega) (by simp; omega)
        refine ⟨r, Ev.step (fun k => ?_) h⟩
        simp only [customsmade_Ascending.l1, Option.bind_some]
        rw [if_neg (by omega), if_pos (by omega), if_pos (by omega), if_pos (by simp), if_pos h0, if_pos hlt, if_pos (by simp), if_pos (by simp; omega), w64 (by omega) (by omega)]
      | succ j ihj =>
        intro hj
        have e1 : wrap64 (((j + 1 : Nat) : Int) - 1) = (j : Int) := by rw [w64 (by omega) (by omega)]; omega
        by_cases c : rd x3 (j : Int) > rd x0 i
        · obtain ⟨r, h⟩ := ihj (by omega)
          refine ⟨r, Ev.step (fun k => ?_) h⟩
          simp only [customsmade_Ascending.l1]
          rw [if_pos (by omega), e1, if_pos (by omega), if_pos (by omega), if_pos h0, if_pos hlt, if_pos c]
        · by_cases c2 : rd x3 (j : Int) = rd x0 i
          · refine ⟨rc, Ev.step (fun k => ?_) hc⟩
            simp only [customsmade_Ascending.l1]
            rw [if_pos (by omega), e1, if_pos (by omega), if_pos (by omega), if_pos h0, if_pos hlt, if_neg c, if_pos c2, w64 (by omega) (by omega)]
          · obtain ⟨r, h⟩ := ih ([] ++ x3.take ((j + 1 : Nat) : Int).toNat ++ [rd x0 i] ++ x3.drop ((j + 1 : Nat) : Int).toNat) (i + 1) (by omega) (by omega) (by simp; omega)
            refine ⟨r, Ev.step (fun k => ?_) h⟩
            simp only [customsmade_Ascending.l1, Option.bind_some]
            rw [if_pos (by omega), e1, if_pos (by omega), if_pos (by omega), if_pos h0, if_pos hlt, if_neg c, if_neg c2, if_pos (by omega), if_pos (by omega), if_pos (by simp; omega), if_pos (by simp; omega), if_pos (by simp; omega), w64 (by omega) (by omega)]
    obtain ⟨r, h⟩ := inner x3.length (by omega)
    refine ⟨r, Ev.step (fun k => ?_) h⟩
    simp only [customsmade_Ascending.l0]
    rw [if_pos hlt]
theorem asc_some (l : List Int) (hl : l.length ≤ 1000) : ∃ r, Ev (fun k => customsmade_Ascending.f k l) r := asc_l0 l hl l.length [] 0 (by omega) (by omega) (by simp)
theorem hol_l0 (x0 : List Int) (hl : x0.length ≤ 300) (d : Nat) : ∀ (x3 : List Int) (i : Int), (x0.length : Int) - i = d → 0 ≤ i → x3.length = x0.length → ∃ r, Ev (fun k => customsmade_Holidays.l0 k x0 x3 i) r := by
  induction d with
  | zero =>
    intro x3 i hd h0 h1
    obtain ⟨r, K, h⟩ := asc_some x3 (by omega)
    dsimp only at h
    refine ⟨r, K + 1, fun k hk => ?_⟩
    obtain ⟨k, rfl⟩ : ∃ j, k = j + 1 := ⟨k - 1, by omega⟩
    dsimp only
    simp only [customsmade_Holidays.l0]
    rw [if_neg (by omega), h k (by omega)]
    rfl
  | succ d ih =>
    intro x3 i hd h0 h1
    have hlt : i < (x0.length : Int) := by omega
    by_cases c : Go.bits .and .i64 (rd x0 i) 1 = 1
    · obtain ⟨r, h⟩ := ih ((x3.set (i : Int).toNat (rd x0 i % 36525)).set (i : Int).toNat (Int.tmod (rd (x3.set (i : Int).toNat (rd x0 i % 36525)) i) 60)) (i + 1) (by omega) (by omega) (by simp [h1])
      refine ⟨r, Ev.step (fun k => ?_) h⟩
      simp only [customsmade_Holidays.l0]
      rw [if_pos hlt, if_pos h0, day_made]
      simp only [Option.bind_some]
      rw [if_pos (by omega), if_pos c, w64 (by omega) (by omega)]
    · obtain ⟨r, h⟩ := ih (x3.set (i : Int).toNat (rd x0 i % 36525)) (i + 1) (by omega) (by omega) (by simp [h1])
      refine ⟨r, Ev.step (fun k => ?_) h⟩
      simp only [customsmade_Holidays.l0]
      rw [if_pos hlt, if_pos h0, day_made]
      simp only [Option.bind_some]
      rw [if_pos (by omega), if_neg c, w64 (by omega) (by omega)]
theorem hol_some (l : List Int) : ∃ r, Ev (fun k => customsmade_Holidays.f k l) r := by
  obtain ⟨t, ht, htl⟩ : ∃ t, customsmade_Cut.f l 300 = some t ∧ t.length ≤ 300 := by
    unfold customsmade_Cut.f
    by_cases c : (l.length : Int) > 300
    · rw [if_pos c, if_pos (by omega), if_pos (by omega)]
      exact ⟨_, rfl, by simp; omega⟩
    · rw [if_neg c]
      exact ⟨_, rfl, by omega⟩
  obtain ⟨r, h⟩ := hol_l0 t htl t.length (List.replicate ((t.length : Int) : Int).toNat 0) 0 (by omega) (by omega) (by simp)
  refine ⟨r, Ev.congr (fun k => ?_) h⟩
  unfold customsmade_Holidays.f
  rw [ht]
  simp only [Option.bind_some]
  rw [if_pos (by omega), if_pos (by omega)]
end Go.Proofs.YtlmcejiebobfbaaDoor.Pure

namespace Go.Proofs.YtlmcejiebobfbaaDoor.Pure
open Go.RowKit Go.Proofs.YtlmcejiebobfbaaDoor.G Go.Proofs.YtlmcejiebobfbaaDoorW.PrintWords Go.Proofs.YtlmcejiebobfbaaDoorW.PrintLast Go.Proofs.YtlmcejiebobfbaaDoorW.PrintMore
set_option linter.unusedSimpArgs false
set_option linter.unusedVariables false

/-- What stands behind the making of the values, in each of the four ways. -/
theorem dl_tail (l : List Int) (x t0 t1 t2 : Int) : ∃ K, ∀ k, K ≤ k → ((calendar_Deadline.f k l x t0 t1 t2).bind fun a => (customsref04_Deadline.f k l x t0 t1 t2).bind fun b =>
    if a.1 = b.1 then (if a.2 = b.2 then (if a.2 = 0 then (if a.1 ≥ x then ((calendar_Working.f k l a.1).bind fun t => if t = true then ((customslaw04_awake.f k).bind fun t => some t) else some false) else some false) else ((customslaw04_awake.f k).bind fun t => some t)) else some false) else some false) = some true := by
  obtain ⟨K0, h0⟩ := awake_ev
  obtain ⟨r, ⟨K1, h1⟩, ⟨K2, h2⟩, hr⟩ := deadline_ev l x t0 t1 t2
  dsimp only at h0 h1 h2
  by_cases c : r.2 = 0
  · obtain ⟨hx, K3, h3⟩ := hr c
    dsimp only at h3
    refine ⟨K0 + K1 + K2 + K3, fun k hk => ?_⟩
    rw [h1 k (by omega), h2 k (by omega)]
    simp only [Option.bind_some]
    rw [if_pos trivial, if_pos trivial, if_pos c, if_pos hx, h3 k (by omega), h0 k (by omega)]
    rfl
  · refine ⟨K0 + K1 + K2, fun k hk => ?_⟩
    rw [h1 k (by omega), h2 k (by omega)]
    simp only [Option.bind_some]
    rw [if_pos trivial, if_pos trivial, if_neg c, h0 k (by omega)]
    rfl
theorem CalendarDeadline : customslaw04_CalendarDeadline.Pure := by
  intro l0 a1 a2 a3 a4 a5 _ _ _ _ _ _ _
  have main : ∀ l : List Int, ∃ k, (if a5 = true then ((calendar_Deadline.f k l a1 a2 a3 a4).bind fun a => (customsref04_Deadline.f k l a1 a2 a3 a4).bind fun b =>
      if a.1 = b.1 then (if a.2 = b.2 then (if a.2 = 0 then (if a.1 ≥ a1 then ((calendar_Working.f k l a.1).bind fun t => if t = true then ((customslaw04_awake.f k).bind fun t => some t) else some false) else some false) else ((customslaw04_awake.f k).bind fun t => some t)) else some false) else some false) else
      ((customsmade_Holidays.f k l).bind fun t352 => (customsmade_Day.f a1).bind fun x => (customsmade_Within.f a2 30).bind fun t0 => (customsmade_Within.f a3 90).bind fun t1 => (customsmade_Within.f a4 30).bind fun t2 => (calendar_Deadline.f k t352 x t0 t1 t2).bind fun a => (customsref04_Deadline.f k t352 x t0 t1 t2).bind fun b =>
      if a.1 = b.1 then (if a.2 = b.2 then (if a.2 = 0 then (if a.1 ≥ x then ((calendar_Working.f k t352 a.1).bind fun t => if t = true then ((customslaw04_awake.f k).bind fun t => some t) else some false) else some false) else ((customslaw04_awake.f k).bind fun t => some t)) else some false) else some false)) = some true := by
    intro l
    cases a5 with
    | true =>
      obtain ⟨K, h⟩ := dl_tail l a1 a2 a3 a4
      exact ⟨K, by rw [if_pos rfl]; exact h K (Nat.le_refl _)⟩
    | false =>
      obtain ⟨r, K1, h1⟩ := hol_some l
      obtain ⟨K, h⟩ := dl_tail r (a1 % 36525) (a2 % 30) (a3 % 90) (a4 % 30)
      dsimp only at h1
      refine ⟨K + K1, ?_⟩
      rw [if_neg (by decide), h1 _ (by omega), day_made, within_f a2 30 (by omega) (by omega), within_f a3 90 (by omega) (by omega), within_f a4 30 (by omega) (by omega)]
      exact h _ (by omega)
  by_cases c : (l0.length : Int) > 100
  · obtain ⟨k, h⟩ := main (l0.take 100)
    refine ⟨k, ?_⟩
    unfold customslaw04_CalendarDeadline.f
    rw [if_pos c, if_pos (by omega)]
    exact h
  · obtain ⟨k, h⟩ := main l0
    refine ⟨k, ?_⟩
    unfold customslaw04_CalendarDeadline.f
    rw [if_neg c]
    exact h
end Go.Proofs.YtlmcejiebobfbaaDoor.Pure

