/-
  The law CalendarDeadline holds for every input: the call returns true and each argument reads afterwards as it read before. Conditions: what the given row itself says; none of this session's.
-/
import Derived.Test.YtlmcejiebobfbaaDoorRows
import Derived.ProofKit
import Derived.LaidMore
import Derived.OpenShut
import Derived.Stop.Joined
import Derived.Test.YtlmcejiebobfbaaDoorQCorew1
import Derived.Test.YtlmcejiebobfbaaDoorQCorea1
import Derived.Test.YtlmcejiebobfbaaDoorQCorea2
import Derived.Test.YtlmcejiebobfbaaDoorQCorea3
import Derived.Test.YtlmcejiebobfbaaDoorQCoreb1
namespace Go.Proofs.YtlmcejiebobfbaaDoor.Laid
open Go.ChangeShapes Go.WideShapes Go.ChangeAt Go.RowKit Go.Proofs.YtlmcejiebobfbaaDoor.G
set_option linter.unusedVariables false
set_option linter.unusedSimpArgs false
set_option maxRecDepth 100000
theorem gl_of {w : World} {name : String} {g : Nat} {cs : Array Value} (hg : Tryd.prog.globalNamed name = some g) (h : w.var? Tryd.prog name = some cs) : ∃ t fr, w.heap[g]? = some (.cells cs t fr) := by
  unfold World.var? at h
  rw [hg] at h
  simp only [Option.bind_some] at h
  split at h
  · rename_i t fr hh
    obtain rfl := Option.some.inj h
    exact ⟨t, fr, hh⟩
  · cases h
theorem chunks {α : Type} (m : Nat) : ∀ (n : Nat) (cs : List α) (rows : List (List α)), cs.length = n * m → rows.length = n → (∀ i, i < n → (cs.drop (i * m)).take m = rows.getD i []) → cs = rows.flatten
  | 0, cs, rows, h, hr, _ => by
    have e1 : cs = [] := List.eq_nil_of_length_eq_zero (by simpa using h)
    have e2 : rows = [] := List.eq_nil_of_length_eq_zero hr
    rw [e1, e2]
    rfl
  | n + 1, cs, rows, h, hr, hi => by
    cases rows with
    | nil => simp at hr
    | cons r rs =>
      have h0 := hi 0 (by omega)
      simp only [Nat.zero_mul, List.drop_zero, List.getD_cons_zero] at h0
      have ih := chunks m n (cs.drop m) rs (by rw [List.length_drop, h, Nat.add_mul]; omega) (by simpa using hr) (fun i hlt => by
        have := hi (i + 1) (by omega)
        rw [List.getD_cons_succ, Nat.add_mul, Nat.one_mul] at this
        rw [List.drop_drop, ← this, Nat.add_comm m])
      rw [List.flatten_cons, ← h0, ← ih, List.take_append_drop]
/-- The table customs/calendar.lengths. -/
theorem g_lengths : Tryd.prog.globalNamed "customs/calendar.lengths" = some 0 := by kernel_rfl
theorem t_lengths : (Tryd.prog.globals[0]?).map (·.type) = some 54 := by kernel_rfl
theorem c_lengths : Tryd.prog.cellsOf 54 = 12 := by kernel_rfl
theorem ce_lengths : Tryd.prog.cellsOf 3 = 1 := by kernel_rfl
def rows_lengths : List (List Value) := [[(.int .i64 31)], [(.int .i64 28)], [(.int .i64 31)], [(.int .i64 30)], [(.int .i64 31)], [(.int .i64 30)], [(.int .i64 31)], [(.int .i64 31)], [(.int .i64 30)], [(.int .i64 31)], [(.int .i64 30)], [(.int .i64 31)]]
theorem cells_lengths_of {cs : Array Value} {w : World} {enc : TypeId × Value → Unit} {sp : Nat → Bool} {held : Bool} {fuel : Nat} {p : List MemPlace} (h : DataW.trod enc Tryd.prog w 0 sp held fuel 54 cs.toList = some (Rows.laid_customs_calendar_lengths, p)) : cs = cells_lengths := by
  obtain ⟨xs, m, rfl, hx, hlen, hn, hel⟩ := DataW.trod_array Tryd.underlying54 h
  rw [c_lengths] at hlen
  rw [ce_lengths] at hel
  simp only [Prod.mk.injEq, Rows.laid_customs_calendar_lengths, DataW.agg.injEq] at hx
  have key : cs.toList = rows_lengths.flatten := by
    refine chunks 1 12 cs.toList rows_lengths hlen rfl ?_
    intro i hi
    have hh := hel i hi
    have hxi : (xs.map (·.1))[i]? = (xs[i]?).map (·.1) := List.getElem?_map
    rw [← hx.1] at hxi
    obtain ⟨x, hxe⟩ : ∃ x, xs[i]? = some x := ⟨xs[i]'(by omega), List.getElem?_eq_getElem (by omega)⟩
    rw [hxe] at hh hxi
    clear hx hel hxe h hn hlen
    match i, hi with
    | 0, _ =>
      simp only [List.getElem?_cons_zero, List.getElem?_cons_succ, Option.map_some, Option.some.injEq] at hxi
      obtain ⟨k, e1, e2, _⟩ := DataW.trod_int Tryd.underlying3 hh
      rw [e2] at hxi
      simp only [DataW.lit.injEq, Lit.int.injEq, true_and] at hxi
      subst hxi
      exact e1
    | 1, _ =>
      simp only [List.getElem?_cons_zero, List.getElem?_cons_succ, Option.map_some, Option.some.injEq] at hxi
      obtain ⟨k, e1, e2, _⟩ := DataW.trod_int Tryd.underlying3 hh
      rw [e2] at hxi
      simp only [DataW.lit.injEq, Lit.int.injEq, true_and] at hxi
      subst hxi
      exact e1
    | 2, _ =>
      simp only [List.getElem?_cons_zero, List.getElem?_cons_succ, Option.map_some, Option.some.injEq] at hxi
      obtain ⟨k, e1, e2, _⟩ := DataW.trod_int Tryd.underlying3 hh
      rw [e2] at hxi
      simp only [DataW.lit.injEq, Lit.int.injEq, true_and] at hxi
      subst hxi
      exact e1
    | 3, _ =>
      simp only [List.getElem?_cons_zero, List.getElem?_cons_succ, Option.map_some, Option.some.injEq] at hxi
      obtain ⟨k, e1, e2, _⟩ := DataW.trod_int Tryd.underlying3 hh
      rw [e2] at hxi
      simp only [DataW.lit.injEq, Lit.int.injEq, true_and] at hxi
      subst hxi
      exact e1
    | 4, _ =>
      simp only [List.getElem?_cons_zero, List.getElem?_cons_succ, Option.map_some, Option.some.injEq] at hxi
      obtain ⟨k, e1, e2, _⟩ := DataW.trod_int Tryd.underlying3 hh
      rw [e2] at hxi
      simp only [DataW.lit.injEq, Lit.int.injEq, true_and] at hxi
      subst hxi
      exact e1
    | 5, _ =>
      simp only [List.getElem?_cons_zero, List.getElem?_cons_succ, Option.map_some, Option.some.injEq] at hxi
      obtain ⟨k, e1, e2, _⟩ := DataW.trod_int Tryd.underlying3 hh
      rw [e2] at hxi
      simp only [DataW.lit.injEq, Lit.int.injEq, true_and] at hxi
      subst hxi
      exact e1
    | 6, _ =>
      simp only [List.getElem?_cons_zero, List.getElem?_cons_succ, Option.map_some, Option.some.injEq] at hxi
      obtain ⟨k, e1, e2, _⟩ := DataW.trod_int Tryd.underlying3 hh
      rw [e2] at hxi
      simp only [DataW.lit.injEq, Lit.int.injEq, true_and] at hxi
      subst hxi
      exact e1
    | 7, _ =>
      simp only [List.getElem?_cons_zero, List.getElem?_cons_succ, Option.map_some, Option.some.injEq] at hxi
      obtain ⟨k, e1, e2, _⟩ := DataW.trod_int Tryd.underlying3 hh
      rw [e2] at hxi
      simp only [DataW.lit.injEq, Lit.int.injEq, true_and] at hxi
      subst hxi
      exact e1
    | 8, _ =>
      simp only [List.getElem?_cons_zero, List.getElem?_cons_succ, Option.map_some, Option.some.injEq] at hxi
      obtain ⟨k, e1, e2, _⟩ := DataW.trod_int Tryd.underlying3 hh
      rw [e2] at hxi
      simp only [DataW.lit.injEq, Lit.int.injEq, true_and] at hxi
      subst hxi
      exact e1
    | 9, _ =>
      simp only [List.getElem?_cons_zero, List.getElem?_cons_succ, Option.map_some, Option.some.injEq] at hxi
      obtain ⟨k, e1, e2, _⟩ := DataW.trod_int Tryd.underlying3 hh
      rw [e2] at hxi
      simp only [DataW.lit.injEq, Lit.int.injEq, true_and] at hxi
      subst hxi
      exact e1
    | 10, _ =>
      simp only [List.getElem?_cons_zero, List.getElem?_cons_succ, Option.map_some, Option.some.injEq] at hxi
      obtain ⟨k, e1, e2, _⟩ := DataW.trod_int Tryd.underlying3 hh
      rw [e2] at hxi
      simp only [DataW.lit.injEq, Lit.int.injEq, true_and] at hxi
      subst hxi
      exact e1
    | 11, _ =>
      simp only [List.getElem?_cons_zero, List.getElem?_cons_succ, Option.map_some, Option.some.injEq] at hxi
      obtain ⟨k, e1, e2, _⟩ := DataW.trod_int Tryd.underlying3 hh
      rw [e2] at hxi
      simp only [DataW.lit.injEq, Lit.int.injEq, true_and] at hxi
      subst hxi
      exact e1
  have e : cells_lengths = ⟨rows_lengths.flatten⟩ := rfl
  rw [e, ← key]
def list_lengths : List (String × DataW Unit) := [("customs/calendar.lengths", Rows.laid_customs_calendar_lengths)]
theorem door_lengths (os : Os) (args : Array Value) : laidMetH Tryd.prog list_lengths ((World.doorLaid Tryd.prog 14 os).forCall (fun _ _ => 0) ⟨#[], args, []⟩).memory :=
  laidMetH_of_parts3 (fuel := 8) (laidMet_of_run' 8 (by kernel_rfl) (by kernel_rfl)) (by kernel_rfl) (by kernel_rfl)
theorem of_lengths {W : World} (h : laidMetH Tryd.prog list_lengths W) : GL_lengths W := by
  unfold list_lengths at h
  rw [MakeChecks.laidMetH_plain _ _ _ (by kernel_rfl)] at h
  obtain ⟨ps, ⟨g0, t0, cs0, f0, p0, q0, hg0, ht0, hv0, hd0, _, _⟩, _⟩ := h
  obtain rfl := Option.some.inj (g_lengths.symm.trans hg0)
  obtain rfl := Option.some.inj (t_lengths.symm.trans ht0)
  obtain rfl := cells_lengths_of hd0
  exact gl_of g_lengths hv0
end Go.Proofs.YtlmcejiebobfbaaDoor.Laid

