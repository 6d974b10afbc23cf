-- Written by a program of this session (wip/tools/gprint.py) for this claim; Lean checks it.
import Derived.Test.YtlmcejiebobfbaaDoorGx0
import Derived.Test.YtlmcejiebobfbaaDoorGCalendarleap
namespace Go.Proofs.YtlmcejiebobfbaaDoor.G
open Go.RowKit Go.Proofs.YtlmcejiebobfbaaDoorW.PrintWords Go.Proofs.YtlmcejiebobfbaaDoorW.PrintLast Go.Proofs.YtlmcejiebobfbaaDoorW.PrintMore
attribute [local go_sem] max2_int min2_int max_two min_two max_three min_three max_four min_four   -- for this text's walks alone
set_option linter.unusedVariables false
set_option linter.unusedSimpArgs false

/-! ### calendar_length: function 35 -/
def monthLengths : List Int := [31, 28, 31, 30, 31, 30, 31, 31, 30, 31, 30, 31]
def calendar_length.f (a0 : Int) (a1 : Int) : Option (Int) := if a1 = 2 then ((calendar_leap.f a0).bind fun t => if t = true then some 29 else some 28) else if 1 ≤ a1 then (if a1 ≤ 12 then some (rd monthLengths (a1 - 1)) else none) else none
theorem months_cell {w : World} (h : GL_lengths w) {i : Nat} (hi : i < 12) : w.cell? ⟨0, i, none⟩ = some (.int .i64 (rd monthLengths i)) := by
  obtain ⟨t, fr, h⟩ := h
  have e : w.cell? ⟨0, i, none⟩ = cells_lengths[i]? := by
    unfold World.cell?
    rw [h]
    rfl
  rw [e]
  have hall : ∀ i : Nat, i < 12 → cells_lengths[i]? = some (.int .i64 (rd monthLengths i)) := by
    intro i hi
    match i, hi with
    | 0, _ => rfl
    | 1, _ => rfl
    | 2, _ => rfl
    | 3, _ => rfl
    | 4, _ => rfl
    | 5, _ => rfl
    | 6, _ => rfl
    | 7, _ => rfl
    | 8, _ => rfl
    | 9, _ => rfl
    | 10, _ => rfl
    | 11, _ => rfl
  exact hall i hi
set_option maxHeartbeats 8000000 in
set_option maxRecDepth 100000 in
theorem calendar_length.calls (a0 : Int) (a1 : Int) (r : Int) (w : World) (hG_lengths : GL_lengths w) (h : calendar_length.f a0 a1 = some r) :
    Calls Tryd.prog 35 #[.int .i64 a0, .int .i64 a1] w fun e w' => e = .returned (.int .i64 r) ∧ Drawn0 w w' := by
  unfold calendar_length.f at h
  have HG := Aside0.mk hG_lengths
  clear hG_lengths
  by_cases c2 : a1 = 2
  · rw [if_pos c2] at h
    obtain ⟨t, ht, h⟩ := Option.bind_eq_some_iff.mp h
    have HL := Aside0.mk ht
    clear ht
    subst c2
    have hb := months_cell (HG.out : GL_lengths w) (i := 1) (by omega)
    cases t with
    | true =>
      rw [if_pos rfl] at h
      obtain rfl := Option.some.inj h
      clear h
      go_enter Tryd.func35, Tryd.ntmps35
      go_wp2_with (first | (go_at_call 44; (with_reducible refine (calendar_leap.calls a0 true _ HL.out).mono ?_); rintro e w' ⟨rfl, ⟨nd, rfl⟩⟩))
      go_ret
      exact ⟨rfl, by repeat (first | exact Drawn0.refl _ | apply Drawn0.step)⟩
    | false =>
      rw [if_neg (by decide)] at h
      obtain rfl := Option.some.inj h
      clear h
      go_enter Tryd.func35, Tryd.ntmps35
      go_wp2_with (first | (go_at_call 44; (with_reducible refine (calendar_leap.calls a0 false _ HL.out).mono ?_); rintro e w' ⟨rfl, ⟨nd, rfl⟩⟩))
      go_ret
      exact ⟨rfl, by repeat (first | exact Drawn0.refl _ | apply Drawn0.step)⟩
  · rw [if_neg c2] at h
    by_cases c3 : 1 ≤ a1
    · rw [if_pos c3] at h
      by_cases c4 : a1 ≤ 12
      · rw [if_pos c4] at h
        obtain ⟨i, rfl⟩ : ∃ i : Nat, a1 = i + 1 := ⟨(a1 - 1).toNat, by omega⟩
        have hi : i < 12 := by omega
        have hb := months_cell HG.out hi
        have e1 : ((i : Int) + 1 - 1) = i := by omega
        rw [e1] at h
        obtain rfl := Option.some.inj h
        clear h e1
        have c2b : ((i : Int) + 1 == 2) = false := beq_eq_false_iff_ne.mpr c2
        clear c2
        go_enter Tryd.func35, Tryd.ntmps35
        go_wp2
        go_ret
        exact ⟨rfl, by repeat (first | exact Drawn0.refl _ | apply Drawn0.step)⟩
      · rw [if_neg c4] at h
        exact absurd h (by simp)
    · rw [if_neg c3] at h
      exact absurd h (by simp)

end Go.Proofs.YtlmcejiebobfbaaDoor.G
