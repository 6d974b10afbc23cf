/-
  The law TransitArrival holds for every input: the call returns true and each argument reads afterwards as it read before. Conditions: what the given row itself says; none of this session's.
-/
import Derived.Test.YtbndoihcejieoaaDoorRows
import Derived.ProofKit
import Derived.LaidMore
import Derived.OpenShut
import Derived.Stop.Joined
import Derived.Test.YtbndoihcejieoaaDoorQCorew1
import Derived.Test.YtbndoihcejieoaaDoorQCorev1
import Derived.Test.YtbndoihcejieoaaDoorQCorea1
import Derived.Test.YtbndoihcejieoaaDoorQCorea2
import Derived.Test.YtbndoihcejieoaaDoorQCorea3
namespace Go.Proofs.YtbndoihcejieoaaDoor.Laid
open Go.ChangeShapes Go.WideShapes Go.ChangeAt Go.RowKit Go.Proofs.YtbndoihcejieoaaDoor.G
set_option linter.unusedVariables false
set_option linter.unusedSimpArgs false
set_option maxRecDepth 100000

theorem gl_of {w : World} {name : String} {g : Nat} {cs : Array Value} (hg : Tryd.prog.globalNamed name = some g) (h : w.var? Tryd.prog name = some cs) : ∃ t fr, w.heap[g]? = some (.cells cs t fr) := by
  unfold World.var? at h
  rw [hg] at h
  simp only [Option.bind_some] at h
  split at h
  · rename_i t fr hh
    obtain rfl := Option.some.inj h
    exact ⟨t, fr, hh⟩
  · cases h
theorem chunks {α : Type} (m : Nat) : ∀ (n : Nat) (cs : List α) (rows : List (List α)), cs.length = n * m → rows.length = n → (∀ i, i < n → (cs.drop (i * m)).take m = rows.getD i []) → cs = rows.flatten
  | 0, cs, rows, h, hr, _ => by
    have e1 : cs = [] := List.eq_nil_of_length_eq_zero (by simpa using h)
    have e2 : rows = [] := List.eq_nil_of_length_eq_zero hr
    rw [e1, e2]
    rfl
  | n + 1, cs, rows, h, hr, hi => by
    cases rows with
    | nil => simp at hr
    | cons r rs =>
      have h0 := hi 0 (by omega)
      simp only [Nat.zero_mul, List.drop_zero, List.getD_cons_zero] at h0
      have ih := chunks m n (cs.drop m) rs (by rw [List.length_drop, h, Nat.add_mul]; omega) (by simpa using hr) (fun i hlt => by
        have := hi (i + 1) (by omega)
        rw [List.getD_cons_succ, Nat.add_mul, Nat.one_mul] at this
        rw [List.drop_drop, ← this, Nat.add_comm m])
      rw [List.flatten_cons, ← h0, ← ih, List.take_append_drop]
/-- The table customs/transit.changes. -/
theorem g_changes : Tryd.prog.globalNamed "customs/transit.changes" = some 0 := by kernel_rfl
theorem t_changes : (Tryd.prog.globals[0]?).map (·.type) = some 86 := by kernel_rfl
theorem c_changes : Tryd.prog.cellsOf 86 = 15 := by kernel_rfl
theorem ce_changes : Tryd.prog.cellsOf 85 = 3 := by kernel_rfl
def rows_changes : List (List Value) := [[(.int .i64 0), (.int .i64 1), (.int .i64 2)], [(.int .i64 1), (.int .i64 1), (.int .i64 3)], [(.int .i64 0), (.int .i64 2), (.int .i64 1)], [(.int .i64 2), (.int .i64 2), (.int .i64 3)], [(.int .i64 2), (.int .i64 3), (.int .i64 4)]]
theorem row_changes {cs : List Value} {w : World} {enc : TypeId × Value → Unit} {sp : Nat → Bool} {held : Bool} {fuel : Nat} {x : DataW Unit × List MemPlace} {n0 n1 n2 : Int} (h : DataW.trod enc Tryd.prog w 0 sp held fuel 85 cs = some x) (hx : x.1 = .agg [.agg [.lit (.int .i64 n0), .lit (.int .i64 n1)], .lit (.int .i64 n2)]) : cs = [(.int .i64 n0), (.int .i64 n1), (.int .i64 n2)] := by
  have ce := ce_changes
  have ci3 : Tryd.prog.cellsOf 3 = 1 := by kernel_rfl
  have ci83 : Tryd.prog.cellsOf 83 = 2 := by kernel_rfl
  cases fuel with
  | zero => simp [DataW.trod] at h
  | succ fuel =>
    simp only [DataW.trod, Tryd.underlying85, ce] at h
    split at h
    · rename_i hl
      obtain ⟨c0, c1, c2, rfl⟩ : ∃ c0 c1 c2, cs = [c0, c1, c2] := by
        match cs, hl with
        | [c0, c1, c2], _ => exact ⟨c0, c1, c2, rfl⟩
      simp only [List.mapM_cons, List.mapM_nil, Option.map_eq_some_iff, Option.bind_eq_bind, Option.bind_eq_some_iff, Option.pure_def, Option.some.injEq, ci3, ci83] at h
      obtain ⟨ys, ⟨y0, h0, ys0, ⟨y1, h1, ys1, rfl, rfl⟩, rfl⟩, rfl⟩ := h
      obtain ⟨xs0, m0, hm0, hy0, hlen0, hn0, hel0⟩ := DataW.trod_array Tryd.underlying83 h0
      obtain ⟨z0_0, z0_1, rfl⟩ : ∃ z0_0 z0_1, xs0 = [z0_0, z0_1] := by
        match xs0, hn0 with
        | [z0_0, z0_1], _ => exact ⟨z0_0, z0_1, rfl⟩
      have g0 := hel0 0 (by decide)
      rw [ci3] at g0
      obtain ⟨k0, e0, f0, _⟩ := DataW.trod_int (x := z0_0) Tryd.underlying3 g0
      have g1 := hel0 1 (by decide)
      rw [ci3] at g1
      obtain ⟨k1, e1, f1, _⟩ := DataW.trod_int (x := z0_1) Tryd.underlying3 g1
      obtain ⟨k2, e2, f2, _⟩ := DataW.trod_int Tryd.underlying3 h1
      simp only [List.map_cons, List.map_nil, DataW.agg.injEq, List.cons.injEq, and_true, f0, f1, hy0, f2] at hx
      simp only [DataW.lit.injEq, Lit.int.injEq, true_and] at hx
      simp at e0 e1 e2
      obtain ⟨⟨rfl, rfl⟩, rfl⟩ := hx
      simp [e0, e1, e2]
    · cases h
theorem cells_changes_of {cs : Array Value} {w : World} {enc : TypeId × Value → Unit} {sp : Nat → Bool} {held : Bool} {fuel : Nat} {p : List MemPlace} (h : DataW.trod enc Tryd.prog w 0 sp held fuel 86 cs.toList = some (Rows.laid_customs_transit_changes, p)) : cs = cells_changes := by
  obtain ⟨xs, m, rfl, hx, hlen, hn, hel⟩ := DataW.trod_array Tryd.underlying86 h
  rw [c_changes] at hlen
  rw [ce_changes] at hel
  simp only [Prod.mk.injEq, Rows.laid_customs_transit_changes, DataW.agg.injEq] at hx
  have key : cs.toList = rows_changes.flatten := by
    refine chunks 3 5 cs.toList rows_changes hlen rfl ?_
    intro i hi
    have hh := hel i hi
    have hxi : (xs.map (·.1))[i]? = (xs[i]?).map (·.1) := List.getElem?_map
    rw [← hx.1] at hxi
    obtain ⟨x, hxe⟩ : ∃ x, xs[i]? = some x := ⟨xs[i]'(by omega), List.getElem?_eq_getElem (by omega)⟩
    rw [hxe] at hh hxi
    clear hx hel hxe h hn hlen
    match i, hi with
    | 0, _ =>
      simp only [List.getElem?_cons_zero, List.getElem?_cons_succ, Option.map_some, Option.some.injEq] at hxi
      exact row_changes hh hxi.symm
    | 1, _ =>
      simp only [List.getElem?_cons_zero, List.getElem?_cons_succ, Option.map_some, Option.some.injEq] at hxi
      exact row_changes hh hxi.symm
    | 2, _ =>
      simp only [List.getElem?_cons_zero, List.getElem?_cons_succ, Option.map_some, Option.some.injEq] at hxi
      exact row_changes hh hxi.symm
    | 3, _ =>
      simp only [List.getElem?_cons_zero, List.getElem?_cons_succ, Option.map_some, Option.some.injEq] at hxi
      exact row_changes hh hxi.symm
    | 4, _ =>
      simp only [List.getElem?_cons_zero, List.getElem?_cons_succ, Option.map_some, Option.some.injEq] at hxi
      exact row_changes hh hxi.symm
  have e : cells_changes = ⟨rows_changes.flatten⟩ := rfl
  rw [e, ← key]
/-- The table customs/calendar.lengths. -/
theorem g_lengths : Tryd.prog.globalNamed "customs/calendar.lengths" = some 1 := by kernel_rfl
theorem t_lengths : (Tryd.prog.globals[1]?).map (·.type) = some 132 := by kernel_rfl
theorem c_lengths : Tryd.prog.cellsOf 132 = 12 := by kernel_rfl
theorem ce_lengths : Tryd.prog.cellsOf 3 = 1 := by kernel_rfl
def rows_lengths : List (List Value) := [[(.int .i64 31)], [(.int .i64 28)], [(.int .i64 31)], [(.int .i64 30)], [(.int .i64 31)], [(.int .i64 30)], [(.int .i64 31)], [(.int .i64 31)], [(.int .i64 30)], [(.int .i64 31)], [(.int .i64 30)], [(.int .i64 31)]]
theorem cells_lengths_of {cs : Array Value} {w : World} {enc : TypeId × Value → Unit} {sp : Nat → Bool} {held : Bool} {fuel : Nat} {p : List MemPlace} (h : DataW.trod enc Tryd.prog w 0 sp held fuel 132 cs.toList = some (Rows.laid_customs_calendar_lengths, p)) : cs = cells_lengths := by
  obtain ⟨xs, m, rfl, hx, hlen, hn, hel⟩ := DataW.trod_array Tryd.underlying132 h
  rw [c_lengths] at hlen
  rw [ce_lengths] at hel
  simp only [Prod.mk.injEq, Rows.laid_customs_calendar_lengths, DataW.agg.injEq] at hx
  have key : cs.toList = rows_lengths.flatten := by
    refine chunks 1 12 cs.toList rows_lengths hlen rfl ?_
    intro i hi
    have hh := hel i hi
    have hxi : (xs.map (·.1))[i]? = (xs[i]?).map (·.1) := List.getElem?_map
    rw [← hx.1] at hxi
    obtain ⟨x, hxe⟩ : ∃ x, xs[i]? = some x := ⟨xs[i]'(by omega), List.getElem?_eq_getElem (by omega)⟩
    rw [hxe] at hh hxi
    clear hx hel hxe h hn hlen
    match i, hi with
    | 0, _ =>
      simp only [List.getElem?_cons_zero, List.getElem?_cons_succ, Option.map_some, Option.some.injEq] at hxi
      obtain ⟨k, e1, e2, _⟩ := DataW.trod_int Tryd.underlying3 hh
      rw [e2] at hxi
      simp only [DataW.lit.injEq, Lit.int.injEq, true_and] at hxi
      subst hxi
      exact e1
    | 1, _ =>
      simp only [List.getElem?_cons_zero, List.getElem?_cons_succ, Option.map_some, Option.some.injEq] at hxi
      obtain ⟨k, e1, e2, _⟩ := DataW.trod_int Tryd.underlying3 hh
      rw [e2] at hxi
      simp only [DataW.lit.injEq, Lit.int.injEq, true_and] at hxi
      subst hxi
      exact e1
    | 2, _ =>
      simp only [List.getElem?_cons_zero, List.getElem?_cons_succ, Option.map_some, Option.some.injEq] at hxi
      obtain ⟨k, e1, e2, _⟩ := DataW.trod_int Tryd.underlying3 hh
      rw [e2] at hxi
      simp only [DataW.lit.injEq, Lit.int.injEq, true_and] at hxi
      subst hxi
      exact e1
    | 3, _ =>
      simp only [List.getElem?_cons_zero, List.getElem?_cons_succ, Option.map_some, Option.some.injEq] at hxi
      obtain ⟨k, e1, e2, _⟩ := DataW.trod_int Tryd.underlying3 hh
      rw [e2] at hxi
      simp only [DataW.lit.injEq, Lit.int.injEq, true_and] at hxi
      subst hxi
      exact e1
    | 4, _ =>
      simp only [List.getElem?_cons_zero, List.getElem?_cons_succ, Option.map_some, Option.some.injEq] at hxi
      obtain ⟨k, e1, e2, _⟩ := DataW.trod_int Tryd.underlying3 hh
      rw [e2] at hxi
      simp only [DataW.lit.injEq, Lit.int.injEq, true_and] at hxi
      subst hxi
      exact e1
    | 5, _ =>
      simp only [List.getElem?_cons_zero, List.getElem?_cons_succ, Option.map_some, Option.some.injEq] at hxi
      obtain ⟨k, e1, e2, _⟩ := DataW.trod_int Tryd.underlying3 hh
      rw [e2] at hxi
      simp only [DataW.lit.injEq, Lit.int.injEq, true_and] at hxi
      subst hxi
      exact e1
    | 6, _ =>
      simp only [List.getElem?_cons_zero, List.getElem?_cons_succ, Option.map_some, Option.some.injEq] at hxi
      obtain ⟨k, e1, e2, _⟩ := DataW.trod_int Tryd.underlying3 hh
      rw [e2] at hxi
      simp only [DataW.lit.injEq, Lit.int.injEq, true_and] at hxi
      subst hxi
      exact e1
    | 7, _ =>
      simp only [List.getElem?_cons_zero, List.getElem?_cons_succ, Option.map_some, Option.some.injEq] at hxi
      obtain ⟨k, e1, e2, _⟩ := DataW.trod_int Tryd.underlying3 hh
      rw [e2] at hxi
      simp only [DataW.lit.injEq, Lit.int.injEq, true_and] at hxi
      subst hxi
      exact e1
    | 8, _ =>
      simp only [List.getElem?_cons_zero, List.getElem?_cons_succ, Option.map_some, Option.some.injEq] at hxi
      obtain ⟨k, e1, e2, _⟩ := DataW.trod_int Tryd.underlying3 hh
      rw [e2] at hxi
      simp only [DataW.lit.injEq, Lit.int.injEq, true_and] at hxi
      subst hxi
      exact e1
    | 9, _ =>
      simp only [List.getElem?_cons_zero, List.getElem?_cons_succ, Option.map_some, Option.some.injEq] at hxi
      obtain ⟨k, e1, e2, _⟩ := DataW.trod_int Tryd.underlying3 hh
      rw [e2] at hxi
      simp only [DataW.lit.injEq, Lit.int.injEq, true_and] at hxi
      subst hxi
      exact e1
    | 10, _ =>
      simp only [List.getElem?_cons_zero, List.getElem?_cons_succ, Option.map_some, Option.some.injEq] at hxi
      obtain ⟨k, e1, e2, _⟩ := DataW.trod_int Tryd.underlying3 hh
      rw [e2] at hxi
      simp only [DataW.lit.injEq, Lit.int.injEq, true_and] at hxi
      subst hxi
      exact e1
    | 11, _ =>
      simp only [List.getElem?_cons_zero, List.getElem?_cons_succ, Option.map_some, Option.some.injEq] at hxi
      obtain ⟨k, e1, e2, _⟩ := DataW.trod_int Tryd.underlying3 hh
      rw [e2] at hxi
      simp only [DataW.lit.injEq, Lit.int.injEq, true_and] at hxi
      subst hxi
      exact e1
  have e : cells_lengths = ⟨rows_lengths.flatten⟩ := rfl
  rw [e, ← key]
def list_changes : List (String × DataW Unit) := [("customs/transit.changes", Rows.laid_customs_transit_changes)]
theorem door_changes (os : Os) (args : Array Value) : laidMetH Tryd.prog list_changes ((World.doorLaid Tryd.prog 29 os).forCall (fun _ _ => 0) ⟨#[], args, []⟩).memory :=
  laidMetH_of_parts3 (fuel := 8) (laidMet_of_run' 8 (by kernel_rfl) (by kernel_rfl)) (by kernel_rfl) (by kernel_rfl)
theorem of_changes {W : World} (h : laidMetH Tryd.prog list_changes W) : GL_changes W := by
  unfold list_changes at h
  rw [MakeChecks.laidMetH_plain _ _ _ (by kernel_rfl)] at h
  obtain ⟨ps, ⟨g0, t0, cs0, f0, p0, q0, hg0, ht0, hv0, hd0, _, _⟩, _⟩ := h
  obtain rfl := Option.some.inj (g_changes.symm.trans hg0)
  obtain rfl := Option.some.inj (t_changes.symm.trans ht0)
  obtain rfl := cells_changes_of hd0
  exact gl_of g_changes hv0
end Go.Proofs.YtbndoihcejieoaaDoor.Laid
