/-
  The law ProcedureDeadline holds for every input: the call returns true and each argument reads afterwards as it read before. Conditions: what the given row itself says; none of this session's.
-/
import Derived.Test.YtgmedimcejnkjaaDoorRows
import Derived.ProofKit
import Derived.LaidMore
import Derived.OpenShut
import Derived.Stop.Joined
import Derived.Test.YtgmedimcejnkjaaDoorQCorew1
import Derived.Test.YtgmedimcejnkjaaDoorQCorea1
import Derived.Test.YtgmedimcejnkjaaDoorQCoreb1
namespace Go.Proofs.YtgmedimcejnkjaaDoor.Laid
open Go.ChangeShapes Go.WideShapes Go.ChangeAt Go.RowKit Go.Proofs.YtgmedimcejnkjaaDoor.G
set_option linter.unusedVariables false
set_option linter.unusedSimpArgs false
set_option maxRecDepth 100000

theorem gl_of {w : World} {name : String} {g : Nat} {cs : Array Value} (hg : Tryd.prog.globalNamed name = some g) (h : w.var? Tryd.prog name = some cs) : ∃ t fr, w.heap[g]? = some (.cells cs t fr) := by
  unfold World.var? at h
  rw [hg] at h
  simp only [Option.bind_some] at h
  split at h
  · rename_i t fr hh
    obtain rfl := Option.some.inj h
    exact ⟨t, fr, hh⟩
  · cases h
theorem chunks {α : Type} (m : Nat) : ∀ (n : Nat) (cs : List α) (rows : List (List α)), cs.length = n * m → rows.length = n → (∀ i, i < n → (cs.drop (i * m)).take m = rows.getD i []) → cs = rows.flatten
  | 0, cs, rows, h, hr, _ => by
    have e1 : cs = [] := List.eq_nil_of_length_eq_zero (by simpa using h)
    have e2 : rows = [] := List.eq_nil_of_length_eq_zero hr
    rw [e1, e2]
    rfl
  | n + 1, cs, rows, h, hr, hi => by
    cases rows with
    | nil => simp at hr
    | cons r rs =>
      have h0 := hi 0 (by omega)
      simp only [Nat.zero_mul, List.drop_zero, List.getD_cons_zero] at h0
      have ih := chunks m n (cs.drop m) rs (by rw [List.length_drop, h, Nat.add_mul]; omega) (by simpa using hr) (fun i hlt => by
        have := hi (i + 1) (by omega)
        rw [List.getD_cons_succ, Nat.add_mul, Nat.one_mul] at this
        rw [List.drop_drop, ← this, Nat.add_comm m])
      rw [List.flatten_cons, ← h0, ← ih, List.take_append_drop]
/-- The table customs/calendar.lengths. -/
theorem g_lengths : Tryd.prog.globalNamed "customs/calendar.lengths" = some 1 := by kernel_rfl
theorem t_lengths : (Tryd.prog.globals[1]?).map (·.type) = some 65 := by kernel_rfl
theorem c_lengths : Tryd.prog.cellsOf 65 = 12 := by kernel_rfl
theorem ce_lengths : Tryd.prog.cellsOf 3 = 1 := by kernel_rfl
def rows_lengths : List (List Value) := [[(.int .i64 31)], [(.int .i64 28)], [(.int .i64 31)], [(.int .i64 30)], [(.int .i64 31)], [(.int .i64 30)], [(.int .i64 31)], [(.int .i64 31)], [(.int .i64 30)], [(.int .i64 31)], [(.int .i64 30)], [(.int .i64 31)]]
theorem cells_lengths_of {cs : Array Value} {w : World} {enc : TypeId × Value → Unit} {sp : Nat → Bool} {held : Bool} {fuel : Nat} {p : List MemPlace} (h : DataW.trod enc Tryd.prog w 0 sp held fuel 65 cs.toList = some (Rows.laid_customs_calendar_lengths, p)) : cs = cells_lengths := by
  obtain ⟨xs, m, rfl, hx, hlen, hn, hel⟩ := DataW.trod_array Tryd.underlying65 h
  rw [c_lengths] at hlen
  rw [ce_lengths] at hel
  simp only [Prod.mk.injEq, Rows.laid_customs_calendar_lengths, DataW.agg.injEq] at hx
  have key : cs.toList = rows_lengths.flatten := by
    refine chunks 1 12 cs.toList rows_lengths hlen rfl ?_
    intro i hi
    have hh := hel i hi
    have hxi : (xs.map (·.1))[i]? = (xs[i]?).map (·.1) := List.getElem?_map
    rw [← hx.1] at hxi
    obtain ⟨x, hxe⟩ : ∃ x, xs[i]? = some x := ⟨xs[i]'(by omega), List.getElem?_eq_getElem (by omega)⟩
    rw [hxe] at hh hxi
    clear hx hel hxe h hn hlen
    match i, hi with
    | 0, _ =>
      simp only [List.getElem?_cons_zero, List.getElem?_cons_succ, Option.map_some, Option.some.injEq] at hxi
      obtain ⟨k, e1, e2, _⟩ := DataW.trod_int Tryd.underlying3 hh
      rw [e2] at hxi
      simp only [DataW.lit.injEq, Lit.int.injEq, true_and] at hxi
      subst hxi
      exact e1
    | 1, _ =>
      simp only [List.getElem?_cons_zero, List.getElem?_cons_succ, Option.map_some, Option.some.injEq] at hxi
      obtain ⟨k, e1, e2, _⟩ := DataW.trod_int Tryd.underlying3 hh
      rw [e2] at hxi
      simp only [DataW.lit.injEq, Lit.int.injEq, true_and] at hxi
      subst hxi
      exact e1
    | 2, _ =>
      simp only [List.getElem?_cons_zero, List.getElem?_cons_succ, Option.map_some, Option.some.injEq] at hxi
      obtain ⟨k, e1, e2, _⟩ := DataW.trod_int Tryd.underlying3 hh
      rw [e2] at hxi
      simp only [DataW.lit.injEq, Lit.int.injEq, true_and] at hxi
      subst hxi
      exact e1
    | 3, _ =>
      simp only [List.getElem?_cons_zero, List.getElem?_cons_succ, Option.map_some, Option.some.injEq] at hxi
      obtain ⟨k, e1, e2, _⟩ := DataW.trod_int Tryd.underlying3 hh
      rw [e2] at hxi
      simp only [DataW.lit.injEq, Lit.int.injEq, true_and] at hxi
      subst hxi
      exact e1
    | 4, _ =>
      simp only [List.getElem?_cons_zero, List.getElem?_cons_succ, Option.map_some, Option.some.injEq] at hxi
      obtain ⟨k, e1, e2, _⟩ := DataW.trod_int Tryd.underlying3 hh
      rw [e2] at hxi
      simp only [DataW.lit.injEq, Lit.int.injEq, true_and] at hxi
      subst hxi
      exact e1
    | 5, _ =>
      simp only [List.getElem?_cons_zero, List.getElem?_cons_succ, Option.map_some, Option.some.injEq] at hxi
      obtain ⟨k, e1, e2, _⟩ := DataW.trod_int Tryd.underlying3 hh
      rw [e2] at hxi
      simp only [DataW.lit.injEq, Lit.int.injEq, true_and] at hxi
      subst hxi
      exact e1
    | 6, _ =>
      simp only [List.getElem?_cons_zero, List.getElem?_cons_succ, Option.map_some, Option.some.injEq] at hxi
      obtain ⟨k, e1, e2, _⟩ := DataW.trod_int Tryd.underlying3 hh
      rw [e2] at hxi
      simp only [DataW.lit.injEq, Lit.int.injEq, true_and] at hxi
      subst hxi
      exact e1
    | 7, _ =>
      simp only [List.getElem?_cons_zero, List.getElem?_cons_succ, Option.map_some, Option.some.injEq] at hxi
      obtain ⟨k, e1, e2, _⟩ := DataW.trod_int Tryd.underlying3 hh
      rw [e2] at hxi
      simp only [DataW.lit.injEq, Lit.int.injEq, true_and] at hxi
      subst hxi
      exact e1
    | 8, _ =>
      simp only [List.getElem?_cons_zero, List.getElem?_cons_succ, Option.map_some, Option.some.injEq] at hxi
      obtain ⟨k, e1, e2, _⟩ := DataW.trod_int Tryd.underlying3 hh
      rw [e2] at hxi
      simp only [DataW.lit.injEq, Lit.int.injEq, true_and] at hxi
      subst hxi
      exact e1
    | 9, _ =>
      simp only [List.getElem?_cons_zero, List.getElem?_cons_succ, Option.map_some, Option.some.injEq] at hxi
      obtain ⟨k, e1, e2, _⟩ := DataW.trod_int Tryd.underlying3 hh
      rw [e2] at hxi
      simp only [DataW.lit.injEq, Lit.int.injEq, true_and] at hxi
      subst hxi
      exact e1
    | 10, _ =>
      simp only [List.getElem?_cons_zero, List.getElem?_cons_succ, Option.map_some, Option.some.injEq] at hxi
      obtain ⟨k, e1, e2, _⟩ := DataW.trod_int Tryd.underlying3 hh
      rw [e2] at hxi
      simp only [DataW.lit.injEq, Lit.int.injEq, true_and] at hxi
      subst hxi
      exact e1
    | 11, _ =>
      simp only [List.getElem?_cons_zero, List.getElem?_cons_succ, Option.map_some, Option.some.injEq] at hxi
      obtain ⟨k, e1, e2, _⟩ := DataW.trod_int Tryd.underlying3 hh
      rw [e2] at hxi
      simp only [DataW.lit.injEq, Lit.int.injEq, true_and] at hxi
      subst hxi
      exact e1
  have e : cells_lengths = ⟨rows_lengths.flatten⟩ := rfl
  rw [e, ← key]
/-- The table customs/procedure.transitions. -/
theorem g_transitions : Tryd.prog.globalNamed "customs/procedure.transitions" = some 0 := by kernel_rfl
theorem t_transitions : (Tryd.prog.globals[0]?).map (·.type) = some 54 := by kernel_rfl
theorem c_transitions : Tryd.prog.cellsOf 54 = 108 := by kernel_rfl
theorem ce_transitions : Tryd.prog.cellsOf 53 = 3 := by kernel_rfl
def rows_transitions : List (List Value) := [[(.int .i64 1), (.int .i64 0), (.int .i64 1)], [(.int .i64 2), (.int .i64 1), (.int .i64 2)], [(.int .i64 2), (.int .i64 3), (.int .i64 2)], [(.int .i64 2), (.int .i64 4), (.int .i64 2)], [(.int .i64 2), (.int .i64 5), (.int .i64 2)], [(.int .i64 3), (.int .i64 2), (.int .i64 1)], [(.int .i64 4), (.int .i64 2), (.int .i64 13)], [(.int .i64 5), (.int .i64 1), (.int .i64 3)], [(.int .i64 5), (.int .i64 4), (.int .i64 3)], [(.int .i64 5), (.int .i64 5), (.int .i64 3)], [(.int .i64 6), (.int .i64 1), (.int .i64 4)], [(.int .i64 6), (.int .i64 3), (.int .i64 4)], [(.int .i64 7), (.int .i64 1), (.int .i64 5)], [(.int .i64 7), (.int .i64 3), (.int .i64 5)], [(.int .i64 8), (.int .i64 1), (.int .i64 6)], [(.int .i64 8), (.int .i64 3), (.int .i64 6)], [(.int .i64 8), (.int .i64 4), (.int .i64 6)], [(.int .i64 8), (.int .i64 5), (.int .i64 6)], [(.int .i64 9), (.int .i64 6), (.int .i64 7)], [(.int .i64 10), (.int .i64 7), (.int .i64 6)], [(.int .i64 11), (.int .i64 1), (.int .i64 8)], [(.int .i64 11), (.int .i64 3), (.int .i64 8)], [(.int .i64 11), (.int .i64 4), (.int .i64 8)], [(.int .i64 11), (.int .i64 5), (.int .i64 8)], [(.int .i64 11), (.int .i64 6), (.int .i64 9)], [(.int .i64 12), (.int .i64 1), (.int .i64 10)], [(.int .i64 12), (.int .i64 3), (.int .i64 10)], [(.int .i64 12), (.int .i64 4), (.int .i64 10)], [(.int .i64 12), (.int .i64 5), (.int .i64 10)], [(.int .i64 13), (.int .i64 1), (.int .i64 11)], [(.int .i64 13), (.int .i64 3), (.int .i64 11)], [(.int .i64 14), (.int .i64 1), (.int .i64 12)], [(.int .i64 14), (.int .i64 2), (.int .i64 12)], [(.int .i64 14), (.int .i64 3), (.int .i64 12)], [(.int .i64 14), (.int .i64 4), (.int .i64 12)], [(.int .i64 14), (.int .i64 5), (.int .i64 12)]]
theorem row_transitions {cs : List Value} {w : World} {enc : TypeId × Value → Unit} {sp : Nat → Bool} {held : Bool} {fuel : Nat} {x : DataW Unit × List MemPlace} {n0 n1 n2 : Int} (h : DataW.trod enc Tryd.prog w 0 sp held fuel 53 cs = some x) (hx : x.1 = .agg [.lit (.int .i64 n0), .lit (.int .i64 n1), .lit (.int .i64 n2)]) : cs = [(.int .i64 n0), (.int .i64 n1), (.int .i64 n2)] := by
  cases fuel with
  | zero => simp [DataW.trod] at h
  | succ fuel =>
    simp only [DataW.trod, Tryd.underlying53, ce_transitions] at h
    split at h
    · rename_i hl
      obtain ⟨c0, c1, c2, rfl⟩ : ∃ c0 c1 c2, cs = [c0, c1, c2] := by
        match cs, hl with
        | [c0, c1, c2], _ => exact ⟨c0, c1, c2, rfl⟩
      have ci : ∀ t, t = 3 → Tryd.prog.cellsOf t = 1 := by
        intro t ht
        rcases ht with rfl
        · kernel_rfl
      simp only [List.mapM_cons, List.mapM_nil, Option.map_eq_some_iff, Option.bind_eq_bind, Option.bind_eq_some_iff, Option.pure_def, Option.some.injEq, ci 3 (by simp)] at h
      obtain ⟨ys, ⟨y0, h0, ys0, ⟨y1, h1, ys1, ⟨y2, h2, ys2, rfl, rfl⟩, rfl⟩, rfl⟩, rfl⟩ := h
      obtain ⟨k0, e0, f0, _⟩ := DataW.trod_int Tryd.underlying3 h0
      obtain ⟨k1, e1, f1, _⟩ := DataW.trod_int Tryd.underlying3 h1
      obtain ⟨k2, e2, f2, _⟩ := DataW.trod_int Tryd.underlying3 h2
      simp only [List.map_cons, List.map_nil, DataW.agg.injEq, List.cons.injEq, and_true, f0, f1, f2] at hx
      simp only [DataW.lit.injEq, Lit.int.injEq, true_and] at hx
      simp at e0 e1 e2
      obtain ⟨rfl, rfl, rfl⟩ := hx
      simp [e0, e1, e2]
    · cases h
theorem cells_transitions_of {cs : Array Value} {w : World} {enc : TypeId × Value → Unit} {sp : Nat → Bool} {held : Bool} {fuel : Nat} {p : List MemPlace} (h : DataW.trod enc Tryd.prog w 0 sp held fuel 54 cs.toList = some (Rows.laid_customs_procedure_transitions, p)) : cs = cells_transitions := by
  obtain ⟨xs, m, rfl, hx, hlen, hn, hel⟩ := DataW.trod_array Tryd.underlying54 h
  rw [c_transitions] at hlen
  rw [ce_transitions] at hel
  simp only [Prod.mk.injEq, Rows.laid_customs_procedure_transitions, DataW.agg.injEq] at hx
  have key : cs.toList = rows_transitions.flatten := by
    refine chunks 3 36 cs.toList rows_transitions hlen rfl ?_
    intro i hi
    have hh := hel i hi
    have hxi : (xs.map (·.1))[i]? = (xs[i]?).map (·.1) := List.getElem?_map
    rw [← hx.1] at hxi
    obtain ⟨x, hxe⟩ : ∃ x, xs[i]? = some x := ⟨xs[i]'(by omega), List.getElem?_eq_getElem (by omega)⟩
    rw [hxe] at hh hxi
    clear hx hel hxe h hn hlen
    match i, hi with
    | 0, _ =>
      simp only [List.getElem?_cons_zero, List.getElem?_cons_succ, Option.map_some, Option.some.injEq] at hxi
      exact row_transitions hh hxi.symm
    | 1, _ =>
      simp only [List.getElem?_cons_zero, List.getElem?_cons_succ, Option.map_some, Option.some.injEq] at hxi
      exact row_transitions hh hxi.symm
    | 2, _ =>
      simp only [List.getElem?_cons_zero, List.getElem?_cons_succ, Option.map_some, Option.some.injEq] at hxi
      exact row_transitions hh hxi.symm
    | 3, _ =>
      simp only [List.getElem?_cons_zero, List.getElem?_cons_succ, Option.map_some, Option.some.injEq] at hxi
      exact row_transitions hh hxi.symm
    | 4, _ =>
      simp only [List.getElem?_cons_zero, List.getElem?_cons_succ, Option.map_some, Option.some.injEq] at hxi
      exact row_transitions hh hxi.symm
    | 5, _ =>
      simp only [List.getElem?_cons_zero, List.getElem?_cons_succ, Option.map_some, Option.some.injEq] at hxi
      exact row_transitions hh hxi.symm
    | 6, _ =>
      simp only [List.getElem?_cons_zero, List.getElem?_cons_succ, Option.map_some, Option.some.injEq] at hxi
      exact row_transitions hh hxi.symm
    | 7, _ =>
      simp only [List.getElem?_cons_zero, List.getElem?_cons_succ, Option.map_some, Option.some.injEq] at hxi
      exact row_transitions hh hxi.symm
    | 8, _ =>
      simp only [List.getElem?_cons_zero, List.getElem?_cons_succ, Option.map_some, Option.some.injEq] at hxi
      exact row_transitions hh hxi.symm
    | 9, _ =>
      simp only [List.getElem?_cons_zero, List.getElem?_cons_succ, Option.map_some, Option.some.injEq] at hxi
      exact row_transitions hh hxi.symm
    | 10, _ =>
      simp only [List.getElem?_cons_zero, List.getElem?_cons_succ, Option.map_some, Option.some.injEq] at hxi
      exact row_transitions hh hxi.symm
    | 11, _ =>
      simp only [List.getElem?_cons_zero, List.getElem?_cons_succ, Option.map_some, Option.some.injEq] at hxi
      exact row_transitions hh hxi.symm
    | 12, _ =>
      simp only [List.getElem?_cons_zero, List.getElem?_cons_succ, Option.map_some, Option.some.injEq] at hxi
      exact row_transitions hh hxi.symm
    | 13, _ =>
      simp only [List.getElem?_cons_zero, List.getElem?_cons_succ, Option.map_some, Option.some.injEq] at hxi
      exact row_transitions hh hxi.symm
    | 14, _ =>
      simp only [List.getElem?_cons_zero, List.getElem?_cons_succ, Option.map_some, Option.some.injEq] at hxi
      exact row_transitions hh hxi.symm
    | 15, _ =>
      simp only [List.getElem?_cons_zero, List.getElem?_cons_succ, Option.map_some, Option.some.injEq] at hxi
      exact row_transitions hh hxi.symm
    | 16, _ =>
      simp only [List.getElem?_cons_zero, List.getElem?_cons_succ, Option.map_some, Option.some.injEq] at hxi
      exact row_transitions hh hxi.symm
    | 17, _ =>
      simp only [List.getElem?_cons_zero, List.getElem?_cons_succ, Option.map_some, Option.some.injEq] at hxi
      exact row_transitions hh hxi.symm
    | 18, _ =>
      simp only [List.getElem?_cons_zero, List.getElem?_cons_succ, Option.map_some, Option.some.injEq] at hxi
      exact row_transitions hh hxi.symm
    | 19, _ =>
      simp only [List.getElem?_cons_zero, List.getElem?_cons_succ, Option.map_some, Option.some.injEq] at hxi
      exact row_transitions hh hxi.symm
    | 20, _ =>
      simp only [List.getElem?_cons_zero, List.getElem?_cons_succ, Option.map_some, Option.some.injEq] at hxi
      exact row_transitions hh hxi.symm
    | 21, _ =>
      simp only [List.getElem?_cons_zero, List.getElem?_cons_succ, Option.map_some, Option.some.injEq] at hxi
      exact row_transitions hh hxi.symm
    | 22, _ =>
      simp only [List.getElem?_cons_zero, List.getElem?_cons_succ, Option.map_some, Option.some.injEq] at hxi
      exact row_transitions hh hxi.symm
    | 23, _ =>
      simp only [List.getElem?_cons_zero, List.getElem?_cons_succ, Option.map_some, Option.some.injEq] at hxi
      exact row_transitions hh hxi.symm
    | 24, _ =>
      simp only [List.getElem?_cons_zero, List.getElem?_cons_succ, Option.map_some, Option.some.injEq] at hxi
      exact row_transitions hh hxi.symm
    | 25, _ =>
      simp only [List.getElem?_cons_zero, List.getElem?_cons_succ, Option.map_some, Option.some.injEq] at hxi
      exact row_transitions hh hxi.symm
    | 26, _ =>
      simp only [List.getElem?_cons_zero, List.getElem?_cons_succ, Option.map_some, Option.some.injEq] at hxi
      exact row_transitions hh hxi.symm
    | 27, _ =>
      simp only [List.getElem?_cons_zero, List.getElem?_cons_succ, Option.map_some, Option.some.injEq] at hxi
      exact row_transitions hh hxi.symm
    | 28, _ =>
      simp only [List.getElem?_cons_zero, List.getElem?_cons_succ, Option.map_some, Option.some.injEq] at hxi
      exact row_transitions hh hxi.symm
    | 29, _ =>
      simp only [List.getElem?_cons_zero, List.getElem?_cons_succ, Option.map_some, Option.some.injEq] at hxi
      exact row_transitions hh hxi.symm
    | 30, _ =>
      simp only [List.getElem?_cons_zero, List.getElem?_cons_succ, Option.map_some, Option.some.injEq] at hxi
      exact row_transitions hh hxi.symm
    | 31, _ =>
      simp only [List.getElem?_cons_zero, List.getElem?_cons_succ, Option.map_some, Option.some.injEq] at hxi
      exact row_transitions hh hxi.symm
    | 32, _ =>
      simp only [List.getElem?_cons_zero, List.getElem?_cons_succ, Option.map_some, Option.some.injEq] at hxi
      exact row_transitions hh hxi.symm
    | 33, _ =>
      simp only [List.getElem?_cons_zero, List.getElem?_cons_succ, Option.map_some, Option.some.injEq] at hxi
      exact row_transitions hh hxi.symm
    | 34, _ =>
      simp only [List.getElem?_cons_zero, List.getElem?_cons_succ, Option.map_some, Option.some.injEq] at hxi
      exact row_transitions hh hxi.symm
    | 35, _ =>
      simp only [List.getElem?_cons_zero, List.getElem?_cons_succ, Option.map_some, Option.some.injEq] at hxi
      exact row_transitions hh hxi.symm
  have e : cells_transitions = ⟨rows_transitions.flatten⟩ := rfl
  rw [e, ← key]
def list_lengths_transitions : List (String × DataW Unit) := [("customs/calendar.lengths", Rows.laid_customs_calendar_lengths), ("customs/procedure.transitions", Rows.laid_customs_procedure_transitions)]
theorem door_lengths_transitions (os : Os) (args : Array Value) : laidMetH Tryd.prog list_lengths_transitions ((World.doorLaid Tryd.prog 55 os).forCall (fun _ _ => 0) ⟨#[], args, []⟩).memory :=
  laidMetH_of_parts3 (fuel := 8) (laidMet_of_run' 8 (by kernel_rfl) (by kernel_rfl)) (by kernel_rfl) (by kernel_rfl)
theorem of_lengths_transitions {W : World} (h : laidMetH Tryd.prog list_lengths_transitions W) : GL_lengths W ∧ GL_transitions W := by
  unfold list_lengths_transitions at h
  rw [MakeChecks.laidMetH_plain _ _ _ (by kernel_rfl)] at h
  obtain ⟨ps, ⟨g0, t0, cs0, f0, p0, q0, hg0, ht0, hv0, hd0, ⟨g1, t1, cs1, f1, p1, q1, hg1, ht1, hv1, hd1, _, _⟩, _⟩, _⟩ := h
  obtain rfl := Option.some.inj (g_lengths.symm.trans hg0)
  obtain rfl := Option.some.inj (t_lengths.symm.trans ht0)
  obtain rfl := cells_lengths_of hd0
  obtain rfl := Option.some.inj (g_transitions.symm.trans hg1)
  obtain rfl := Option.some.inj (t_transitions.symm.trans ht1)
  obtain rfl := cells_transitions_of hd1
  refine ⟨?_, ?_⟩
  · exact gl_of g_lengths hv0
  · exact gl_of g_transitions hv1
def list_transitions : List (String × DataW Unit) := [("customs/procedure.transitions", Rows.laid_customs_procedure_transitions)]
theorem door_transitions (os : Os) (args : Array Value) : laidMetH Tryd.prog list_transitions ((World.doorLaid Tryd.prog 55 os).forCall (fun _ _ => 0) ⟨#[], args, []⟩).memory :=
  laidMetH_of_parts3 (fuel := 8) (laidMet_of_run' 8 (by kernel_rfl) (by kernel_rfl)) (by kernel_rfl) (by kernel_rfl)
theorem of_transitions {W : World} (h : laidMetH Tryd.prog list_transitions W) : GL_transitions W := by
  unfold list_transitions at h
  rw [MakeChecks.laidMetH_plain _ _ _ (by kernel_rfl)] at h
  obtain ⟨ps, ⟨g0, t0, cs0, f0, p0, q0, hg0, ht0, hv0, hd0, _, _⟩, _⟩ := h
  obtain rfl := Option.some.inj (g_transitions.symm.trans hg0)
  obtain rfl := Option.some.inj (t_transitions.symm.trans ht0)
  obtain rfl := cells_transitions_of hd0
  exact gl_of g_transitions hv0
end Go.Proofs.YtgmedimcejnkjaaDoor.Laid
