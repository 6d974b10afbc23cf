/-
  The law TransitDeparture holds for every input: the call returns true and each argument reads afterwards as it read before. Conditions: what the given row itself says; none of this session's.
-/
import Derived.Test.YtbndoihcejieoaaDoorRows
import Derived.ProofKit
import Derived.LaidMore
import Derived.OpenShut
import Derived.Stop.Joined
import Derived.Test.YtbndoihcejieoaaDoorTie
import Derived.Test.YtbndoihcejieoaaDoorCards
import Derived.WalkKit
import Derived.ShutString
import Derived.ChangeOld
import Derived.Below
import Derived.SizedLaws
import Derived.SevenTiedAt
import Derived.Test.YtbndoihcejieoaaDoorQCorew1
import Derived.Test.YtbndoihcejieoaaDoorQCorev1
import Derived.Test.YtbndoihcejieoaaDoorQCorea1
import Derived.Test.YtbndoihcejieoaaDoorQCorea2
import Derived.Test.YtbndoihcejieoaaDoorQCorea3
import Derived.Test.YtbndoihcejieoaaDoorQCorea4
import Derived.Test.YtbndoihcejieoaaDoorQCorea5
import Derived.Test.YtbndoihcejieoaaDoorQCoreb1
namespace Go.Proofs.YtbndoihcejieoaaDoor.Laid
open Go.ChangeShapes Go.WideShapes Go.ChangeAt Go.RowKit Go.Proofs.YtbndoihcejieoaaDoor.G
set_option linter.unusedVariables false
set_option linter.unusedSimpArgs false
set_option maxRecDepth 100000

theorem gl_of {w : World} {name : String} {g : Nat} {cs : Array Value} (hg : Tryd.prog.globalNamed name = some g) (h : w.var? Tryd.prog name = some cs) : ∃ t fr, w.heap[g]? = some (.cells cs t fr) := by
  unfold World.var? at h
  rw [hg] at h
  simp only [Option.bind_some] at h
  split at h
  · rename_i t fr hh
    obtain rfl := Option.some.inj h
    exact ⟨t, fr, hh⟩
  · cases h
theorem chunks {α : Type} (m : Nat) : ∀ (n : Nat) (cs : List α) (rows : List (List α)), cs.length = n * m → rows.length = n → (∀ i, i < n → (cs.drop (i * m)).take m = rows.getD i []) → cs = rows.flatten
  | 0, cs, rows, h, hr, _ => by
    have e1 : cs = [] := List.eq_nil_of_length_eq_zero (by simpa using h)
    have e2 : rows = [] := List.eq_nil_of_length_eq_zero hr
    rw [e1, e2]
    rfl
  | n + 1, cs, rows, h, hr, hi => by
    cases rows with
    | nil => simp at hr
    | cons r rs =>
      have h0 := hi 0 (by omega)
      simp only [Nat.zero_mul, List.drop_zero, List.getD_cons_zero] at h0
      have ih := chunks m n (cs.drop m) rs (by rw [List.length_drop, h, Nat.add_mul]; omega) (by simpa using hr) (fun i hlt => by
        have := hi (i + 1) (by omega)
        rw [List.getD_cons_succ, Nat.add_mul, Nat.one_mul] at this
        rw [List.drop_drop, ← this, Nat.add_comm m])
      rw [List.flatten_cons, ← h0, ← ih, List.take_append_drop]
/-- The table customs/transit.changes. -/
theorem g_changes : Tryd.prog.globalNamed "customs/transit.changes" = some 0 := by kernel_rfl
theorem t_changes : (Tryd.prog.globals[0]?).map (·.type) = some 86 := by kernel_rfl
theorem c_changes : Tryd.prog.cellsOf 86 = 15 := by kernel_rfl
theorem ce_changes : Tryd.prog.cellsOf 85 = 3 := by kernel_rfl
def rows_changes : List (List Value) := [[(.int .i64 0), (.int .i64 1), (.int .i64 2)], [(.int .i64 1), (.int .i64 1), (.int .i64 3)], [(.int .i64 0), (.int .i64 2), (.int .i64 1)], [(.int .i64 2), (.int .i64 2), (.int .i64 3)], [(.int .i64 2), (.int .i64 3), (.int .i64 4)]]
theorem row_changes {cs : List Value} {w : World} {enc : TypeId × Value → Unit} {sp : Nat → Bool} {held : Bool} {fuel : Nat} {x : DataW Unit × List MemPlace} {n0 n1 n2 : Int} (h : DataW.trod enc Tryd.prog w 0 sp held fuel 85 cs = some x) (hx : x.1 = .agg [.agg [.lit (.int .i64 n0), .lit (.int .i64 n1)], .lit (.int .i64 n2)]) : cs = [(.int .i64 n0), (.int .i64 n1), (.int .i64 n2)] := by
  have ce := ce_changes
  have ci3 : Tryd.prog.cellsOf 3 = 1 := by kernel_rfl
  have ci83 : Tryd.prog.cellsOf 83 = 2 := by kernel_rfl
  cases fuel with
  | zero => simp [DataW.trod] at h
  | succ fuel =>
    simp only [DataW.trod, Tryd.underlying85, ce] at h
    split at h
    · rename_i hl
      obtain ⟨c0, c1, c2, rfl⟩ : ∃ c0 c1 c2, cs = [c0, c1, c2] := by
        match cs, hl with
        | [c0, c1, c2], _ => exact ⟨c0, c1, c2, rfl⟩
      simp only [List.mapM_cons, List.mapM_nil, Option.map_eq_some_iff, Option.bind_eq_bind, Option.bind_eq_some_iff, Option.pure_def, Option.some.injEq, ci3, ci83] at h
      obtain ⟨ys, ⟨y0, h0, ys0, ⟨y1, h1, ys1, rfl, rfl⟩, rfl⟩, rfl⟩ := h
      obtain ⟨xs0, m0, hm0, hy0, hlen0, hn0, hel0⟩ := DataW.trod_array Tryd.underlying83 h0
      obtain ⟨z0_0, z0_1, rfl⟩ : ∃ z0_0 z0_1, xs0 = [z0_0, z0_1] := by
        match xs0, hn0 with
        | [z0_0, z0_1], _ => exact ⟨z0_0, z0_1, rfl⟩
      have g0 := hel0 0 (by decide)
      rw [ci3] at g0
      obtain ⟨k0, e0, f0, _⟩ := DataW.trod_int (x := z0_0) Tryd.underlying3 g0
      have g1 := hel0 1 (by decide)
      rw [ci3] at g1
      obtain ⟨k1, e1, f1, _⟩ := DataW.trod_int (x := z0_1) Tryd.underlying3 g1
      obtain ⟨k2, e2, f2, _⟩ := DataW.trod_int Tryd.underlying3 h1
      simp only [List.map_cons, List.map_nil, DataW.agg.injEq, List.cons.injEq, and_true, f0, f1, hy0, f2] at hx
      simp only [DataW.lit.injEq, Lit.int.injEq, true_and] at hx
      simp at e0 e1 e2
      obtain ⟨⟨rfl, rfl⟩, rfl⟩ := hx
      simp [e0, e1, e2]
    · cases h
theorem cells_changes_of {cs : Array Value} {w : World} {enc : TypeId × Value → Unit} {sp : Nat → Bool} {held : Bool} {fuel : Nat} {p : List MemPlace} (h : DataW.trod enc Tryd.prog w 0 sp held fuel 86 cs.toList = some (Rows.laid_customs_transit_changes, p)) : cs = cells_changes := by
  obtain ⟨xs, m, rfl, hx, hlen, hn, hel⟩ := DataW.trod_array Tryd.underlying86 h
  rw [c_changes] at hlen
  rw [ce_changes] at hel
  simp only [Prod.mk.injEq, Rows.laid_customs_transit_changes, DataW.agg.injEq] at hx
  have key : cs.toList = rows_changes.flatten := by
    refine chunks 3 5 cs.toList rows_changes hlen rfl ?_
    intro i hi
    have hh := hel i hi
    have hxi : (xs.map (·.1))[i]? = (xs[i]?).map (·.1) := List.getElem?_map
    rw [← hx.1] at hxi
    obtain ⟨x, hxe⟩ : ∃ x, xs[i]? = some x := ⟨xs[i]'(by omega), List.getElem?_eq_getElem (by omega)⟩
    rw [hxe] at hh hxi
    clear hx hel hxe h hn hlen
    match i, hi with
    | 0, _ =>
      simp only [List.getElem?_cons_zero, List.getElem?_cons_succ, Option.map_some, Option.some.injEq] at hxi
      exact row_changes hh hxi.symm
    | 1, _ =>
      simp only [List.getElem?_cons_zero, List.getElem?_cons_succ, Option.map_some, Option.some.injEq] at hxi
      exact row_changes hh hxi.symm
    | 2, _ =>
      simp only [List.getElem?_cons_zero, List.getElem?_cons_succ, Option.map_some, Option.some.injEq] at hxi
      exact row_changes hh hxi.symm
    | 3, _ =>
      simp only [List.getElem?_cons_zero, List.getElem?_cons_succ, Option.map_some, Option.some.injEq] at hxi
      exact row_changes hh hxi.symm
    | 4, _ =>
      simp only [List.getElem?_cons_zero, List.getElem?_cons_succ, Option.map_some, Option.some.injEq] at hxi
      exact row_changes hh hxi.symm
  have e : cells_changes = ⟨rows_changes.flatten⟩ := rfl
  rw [e, ← key]
/-- The table customs/calendar.lengths. -/
theorem g_lengths : Tryd.prog.globalNamed "customs/calendar.lengths" = some 1 := by kernel_rfl
theorem t_lengths : (Tryd.prog.globals[1]?).map (·.type) = some 132 := by kernel_rfl
theorem c_lengths : Tryd.prog.cellsOf 132 = 12 := by kernel_rfl
theorem ce_lengths : Tryd.prog.cellsOf 3 = 1 := by kernel_rfl
def rows_lengths : List (List Value) := [[(.int .i64 31)], [(.int .i64 28)], [(.int .i64 31)], [(.int .i64 30)], [(.int .i64 31)], [(.int .i64 30)], [(.int .i64 31)], [(.int .i64 31)], [(.int .i64 30)], [(.int .i64 31)], [(.int .i64 30)], [(.int .i64 31)]]
theorem cells_lengths_of {cs : Array Value} {w : World} {enc : TypeId × Value → Unit} {sp : Nat → Bool} {held : Bool} {fuel : Nat} {p : List MemPlace} (h : DataW.trod enc Tryd.prog w 0 sp held fuel 132 cs.toList = some (Rows.laid_customs_calendar_lengths, p)) : cs = cells_lengths := by
  obtain ⟨xs, m, rfl, hx, hlen, hn, hel⟩ := DataW.trod_array Tryd.underlying132 h
  rw [c_lengths] at hlen
  rw [ce_lengths] at hel
  simp only [Prod.mk.injEq, Rows.laid_customs_calendar_lengths, DataW.agg.injEq] at hx
  have key : cs.toList = rows_lengths.flatten := by
    refine chunks 1 12 cs.toList rows_lengths hlen rfl ?_
    intro i hi
    have hh := hel i hi
    have hxi : (xs.map (·.1))[i]? = (xs[i]?).map (·.1) := List.getElem?_map
    rw [← hx.1] at hxi
    obtain ⟨x, hxe⟩ : ∃ x, xs[i]? = some x := ⟨xs[i]'(by omega), List.getElem?_eq_getElem (by omega)⟩
    rw [hxe] at hh hxi
    clear hx hel hxe h hn hlen
    match i, hi with
    | 0, _ =>
      simp only [List.getElem?_cons_zero, List.getElem?_cons_succ, Option.map_some, Option.some.injEq] at hxi
      obtain ⟨k, e1, e2, _⟩ := DataW.trod_int Tryd.underlying3 hh
      rw [e2] at hxi
      simp only [DataW.lit.injEq, Lit.int.injEq, true_and] at hxi
      subst hxi
      exact e1
    | 1, _ =>
      simp only [List.getElem?_cons_zero, List.getElem?_cons_succ, Option.map_some, Option.some.injEq] at hxi
      obtain ⟨k, e1, e2, _⟩ := DataW.trod_int Tryd.underlying3 hh
      rw [e2] at hxi
      simp only [DataW.lit.injEq, Lit.int.injEq, true_and] at hxi
      subst hxi
      exact e1
    | 2, _ =>
      simp only [List.getElem?_cons_zero, List.getElem?_cons_succ, Option.map_some, Option.some.injEq] at hxi
      obtain ⟨k, e1, e2, _⟩ := DataW.trod_int Tryd.underlying3 hh
      rw [e2] at hxi
      simp only [DataW.lit.injEq, Lit.int.injEq, true_and] at hxi
      subst hxi
      exact e1
    | 3, _ =>
      simp only [List.getElem?_cons_zero, List.getElem?_cons_succ, Option.map_some, Option.some.injEq] at hxi
      obtain ⟨k, e1, e2, _⟩ := DataW.trod_int Tryd.underlying3 hh
      rw [e2] at hxi
      simp only [DataW.lit.injEq, Lit.int.injEq, true_and] at hxi
      subst hxi
      exact e1
    | 4, _ =>
      simp only [List.getElem?_cons_zero, List.getElem?_cons_succ, Option.map_some, Option.some.injEq] at hxi
      obtain ⟨k, e1, e2, _⟩ := DataW.trod_int Tryd.underlying3 hh
      rw [e2] at hxi
      simp only [DataW.lit.injEq, Lit.int.injEq, true_and] at hxi
      subst hxi
      exact e1
    | 5, _ =>
      simp only [List.getElem?_cons_zero, List.getElem?_cons_succ, Option.map_some, Option.some.injEq] at hxi
      obtain ⟨k, e1, e2, _⟩ := DataW.trod_int Tryd.underlying3 hh
      rw [e2] at hxi
      simp only [DataW.lit.injEq, Lit.int.injEq, true_and] at hxi
      subst hxi
      exact e1
    | 6, _ =>
      simp only [List.getElem?_cons_zero, List.getElem?_cons_succ, Option.map_some, Option.some.injEq] at hxi
      obtain ⟨k, e1, e2, _⟩ := DataW.trod_int Tryd.underlying3 hh
      rw [e2] at hxi
      simp only [DataW.lit.injEq, Lit.int.injEq, true_and] at hxi
      subst hxi
      exact e1
    | 7, _ =>
      simp only [List.getElem?_cons_zero, List.getElem?_cons_succ, Option.map_some, Option.some.injEq] at hxi
      obtain ⟨k, e1, e2, _⟩ := DataW.trod_int Tryd.underlying3 hh
      rw [e2] at hxi
      simp only [DataW.lit.injEq, Lit.int.injEq, true_and] at hxi
      subst hxi
      exact e1
    | 8, _ =>
      simp only [List.getElem?_cons_zero, List.getElem?_cons_succ, Option.map_some, Option.some.injEq] at hxi
      obtain ⟨k, e1, e2, _⟩ := DataW.trod_int Tryd.underlying3 hh
      rw [e2] at hxi
      simp only [DataW.lit.injEq, Lit.int.injEq, true_and] at hxi
      subst hxi
      exact e1
    | 9, _ =>
      simp only [List.getElem?_cons_zero, List.getElem?_cons_succ, Option.map_some, Option.some.injEq] at hxi
      obtain ⟨k, e1, e2, _⟩ := DataW.trod_int Tryd.underlying3 hh
      rw [e2] at hxi
      simp only [DataW.lit.injEq, Lit.int.injEq, true_and] at hxi
      subst hxi
      exact e1
    | 10, _ =>
      simp only [List.getElem?_cons_zero, List.getElem?_cons_succ, Option.map_some, Option.some.injEq] at hxi
      obtain ⟨k, e1, e2, _⟩ := DataW.trod_int Tryd.underlying3 hh
      rw [e2] at hxi
      simp only [DataW.lit.injEq, Lit.int.injEq, true_and] at hxi
      subst hxi
      exact e1
    | 11, _ =>
      simp only [List.getElem?_cons_zero, List.getElem?_cons_succ, Option.map_some, Option.some.injEq] at hxi
      obtain ⟨k, e1, e2, _⟩ := DataW.trod_int Tryd.underlying3 hh
      rw [e2] at hxi
      simp only [DataW.lit.injEq, Lit.int.injEq, true_and] at hxi
      subst hxi
      exact e1
  have e : cells_lengths = ⟨rows_lengths.flatten⟩ := rfl
  rw [e, ← key]
def list_changes : List (String × DataW Unit) := [("customs/transit.changes", Rows.laid_customs_transit_changes)]
theorem door_changes (os : Os) (args : Array Value) : laidMetH Tryd.prog list_changes ((World.doorLaid Tryd.prog 29 os).forCall (fun _ _ => 0) ⟨#[], args, []⟩).memory :=
  laidMetH_of_parts3 (fuel := 8) (laidMet_of_run' 8 (by kernel_rfl) (by kernel_rfl)) (by kernel_rfl) (by kernel_rfl)
theorem of_changes {W : World} (h : laidMetH Tryd.prog list_changes W) : GL_changes W := by
  unfold list_changes at h
  rw [MakeChecks.laidMetH_plain _ _ _ (by kernel_rfl)] at h
  obtain ⟨ps, ⟨g0, t0, cs0, f0, p0, q0, hg0, ht0, hv0, hd0, _, _⟩, _⟩ := h
  obtain rfl := Option.some.inj (g_changes.symm.trans hg0)
  obtain rfl := Option.some.inj (t_changes.symm.trans ht0)
  obtain rfl := cells_changes_of hd0
  exact gl_of g_changes hv0
def list_lengths_changes : List (String × DataW Unit) := [("customs/calendar.lengths", Rows.laid_customs_calendar_lengths), ("customs/transit.changes", Rows.laid_customs_transit_changes)]
theorem door_lengths_changes (os : Os) (args : Array Value) : laidMetH Tryd.prog list_lengths_changes ((World.doorLaid Tryd.prog 29 os).forCall (fun _ _ => 0) ⟨#[], args, []⟩).memory :=
  laidMetH_of_parts3 (fuel := 8) (laidMet_of_run' 8 (by kernel_rfl) (by kernel_rfl)) (by kernel_rfl) (by kernel_rfl)
theorem of_lengths_changes {W : World} (h : laidMetH Tryd.prog list_lengths_changes W) : GL_lengths W ∧ GL_changes W := by
  unfold list_lengths_changes at h
  rw [MakeChecks.laidMetH_plain _ _ _ (by kernel_rfl)] at h
  obtain ⟨ps, ⟨g0, t0, cs0, f0, p0, q0, hg0, ht0, hv0, hd0, ⟨g1, t1, cs1, f1, p1, q1, hg1, ht1, hv1, hd1, _, _⟩, _⟩, _⟩ := h
  obtain rfl := Option.some.inj (g_lengths.symm.trans hg0)
  obtain rfl := Option.some.inj (t_lengths.symm.trans ht0)
  obtain rfl := cells_lengths_of hd0
  obtain rfl := Option.some.inj (g_changes.symm.trans hg1)
  obtain rfl := Option.some.inj (t_changes.symm.trans ht1)
  obtain rfl := cells_changes_of hd1
  refine ⟨?_, ?_⟩
  · exact gl_of g_lengths hv0
  · exact gl_of g_changes hv1
end Go.Proofs.YtbndoihcejieoaaDoor.Laid
namespace Go.Proofs.YtbndoihcejieoaaDoor.transitDeparture
open Go.ChangeShapes Go.WideShapes Go.ChangeAt Go.RowKit Go.Proofs.YtbndoihcejieoaaDoor.G Go.Proofs.YtbndoihcejieoaaDoorW.PrintWords Go.Proofs.YtbndoihcejieoaaDoorW.PrintLast Go.Proofs.YtbndoihcejieoaaDoorW.PrintMore
open Go.ChangeMaps (open_string shut_string)
set_option linter.unusedVariables false
set_option linter.unusedSimpArgs false
theorem own : ownKnob Tryd.prog.godebug = none := by kernel_rfl
theorem laidOut : laidOutB Tryd.prog = true := by kernel_rfl
theorem small {n : Nat} (h : n * 8 ≤ 140737488351232) : n < 17592186044416 := by omega
set_option maxRecDepth 100000 in
theorem lifted (os : Os) (started : os.Started) (H : Type) (enc : TypeId × Value → H) :
    ReturnsInHanded {} Tryd.checked os 7 .any (fun w args => (Rows.transitDepartureSpec.pre enc Tryd.prog Tryd.f7 Rows.transitDepartureRow.domain false w args ∧ laidMetH Tryd.prog Laid.list_lengths_changes w) ∧ sizedMet enc Tryd.prog Tryd.f7 (OpenSpec.ofChange Rows.transitDepartureSpec) false w args) (Rows.transitDepartureSpec.post enc Tryd.prog Tryd.f7 false true false false) := by
  refine returnsInHanded_of_change_and (C := Tryd.checked) (X := fun w _ => laidMetH Tryd.prog Laid.list_lengths_changes w) (fun _ _ _ hh h => h.of_heap hh) own started (by kernel_rfl) Tryd.func7
    (ChangeSpec.witness_shaped (enc := enc) (C := Tryd.checked) (os := os) (X := fun w _ => laidMetH Tryd.prog Laid.list_lengths_changes w) false (World.doorLaid Tryd.prog 29 os) #[.agg #[.int .i64 0, .int .i64 0, .int .i64 0, .int .i64 0, .int .i64 0, .int .i64 0, .int .i64 0, .int .i64 0, .int .i64 0, .int .i64 0, .slice none 0 0], .int .i64 0, .int .i64 0, .int .i64 0, .bool false, .bool false] 8 rfl (World.shaped_of_RefB (by kernel_rfl) (by kernel_rfl)) (by kernel_rfl) (by kernel_rfl) (by kernel_rfl) (Laid.door_lengths_changes os _)) ?_
  intro W base args ds gs before hval0 hW hcnd hsz0 hL _
  have hsz : (DataW.weightsEach Tryd.prog (Tryd.f7.params.toList ++ Rows.transitDepartureSpec.plain.varTypes Tryd.prog) (ds ++ gs)).all (· ≤ reachBytes) = true := hsz0
  have hval : ∀ (j : Nat) t v, Tryd.f7.params[j]? = some t → args[j]? = some v → Value.okWide Tryd.prog W .any base t v := hval0
  have hW' := hW
  obtain ⟨p, q, hA0, hV, rfl, hfz, hnd⟩ := hW
  have hA : DataW.TrodAll enc Tryd.prog W 0 (fun _ => true) true Tryd.f7.params.toList args.toList ds p := hA0
  rw [Tryd.params7] at hA hval hsz
  obtain ⟨v0, vs0, d0, ds0, p0, q0, hargs, rfl, rfl, h0, r0⟩ := trodAll_cons hA
  obtain ⟨v1, vs1, d1, ds1, p1, q1, rfl, rfl, rfl, h1, r1⟩ := trodAll_cons r0
  obtain ⟨v2, vs2, d2, ds2, p2, q2, rfl, rfl, rfl, h2, r2⟩ := trodAll_cons r1
  obtain ⟨v3, vs3, d3, ds3, p3, q3, rfl, rfl, rfl, h3, r3⟩ := trodAll_cons r2
  obtain ⟨v4, vs4, d4, ds4, p4, q4, rfl, rfl, rfl, h4, r4⟩ := trodAll_cons r3
  obtain ⟨v5, vs5, d5, ds5, p5, q5, rfl, rfl, rfl, h5, r5⟩ := trodAll_cons r4
  obtain ⟨rfl, rfl, rfl⟩ := trodAll_nil r5
  obtain rfl : args = #[v0, v1, v2, v3, v4, v5] := by cases args; simp_all
  obtain ⟨rfl, rfl⟩ := trodVars_none hV
  have k0 := h0
  have lt0 : ∀ x ∈ p0, x.block < W.heap.size := by obtain ⟨m, hm⟩ := k0; exact DataW.trod_lt m _ _ _ hm
  obtain ⟨C0, rfl, _⟩ := okWide_struct Tryd.underlying38 (hval 0 38 v0 rfl rfl)
  obtain ⟨m0, f0⟩ := h0
  obtain ⟨a0_0, a0_1, a0_2, a0_3, a0_4, a0_5, a0_6, a0_7, a0_8, a0_9, y10, z10, m, D0, D1, D2, D3, D4, D5, D6, D7, D8, D9, hcs0, t10, hd0⟩ := Pure.read38 f0
  obtain rfl : C0 = #[.int .i64 a0_0, .int .i64 a0_1, .int .i64 a0_2, .int .i64 a0_3, .int .i64 a0_4, .int .i64 a0_5, .int .i64 a0_6, .int .i64 a0_7, .int .i64 a0_8, .int .i64 a0_9, y10] := Array.ext' hcs0
  dsimp only at hd0
  obtain ⟨l0_10, hr0_10, hl0_10⟩ := Pure.rows25 t10 (fun z hz => of_decide_eq_true (List.all_eq_true.1 hsz z (DataW.weights_mem_each (j := 0) (t := 38) rfl rfl z (by rw [hd0]; simp only [DataW.weights, Tryd.underlying38, List.map_cons, List.map_nil, DataW.weightsEach, List.mem_append]; simp [hz]))))
  obtain ⟨a1, rfl, rfl, rfl, w1⟩ := open_int Tryd.underlying3 (hval 1 3 v1 rfl rfl) h1
  obtain ⟨a2, rfl, rfl, rfl, w2⟩ := open_int Tryd.underlying3 (hval 2 3 v2 rfl rfl) h2
  obtain ⟨a3, rfl, rfl, rfl, w3⟩ := open_int Tryd.underlying3 (hval 3 3 v3 rfl rfl) h3
  obtain ⟨a4, rfl, rfl, rfl⟩ := open_bool Tryd.underlying4 (hval 4 4 v4 rfl rfl) h4
  obtain ⟨a5, rfl, rfl, rfl⟩ := open_bool Tryd.underlying4 (hval 5 4 v5 rfl rfl) h5
  clear hA0 hval0 hsz0 hsz
  have hGs := Laid.of_lengths_changes hL
  obtain ⟨hG0, hG1⟩ := hGs
  refine (G.depart_calls ⟨a0_0, a0_1, a0_2, a0_3, a0_4, a0_5, a0_6, a0_7, a0_8, a0_9, l0_10⟩ y10 a1 a2 a3 a4 a5 W hr0_10 (by show l0_10.length ≤ _; omega) (by first | exact hG0 | exact hG1) (by first | exact hG1 | exact hG0) Pure.over).mono fun e W' ⟨he, bel⟩ => ?_
  subst he
  exact ⟨_, rfl, _, _, _, [], _, [], hW', trodAll_mk1 (shut_bool Tryd.underlying4 _), (trodAll_cons_mk (Below.trod laidOut (by kernel_rfl) (of_decide_eq_true (by kernel_rfl)) k0 bel lt0) (trodAll_cons_mk (shut_int Tryd.underlying3 w1) (trodAll_cons_mk (shut_int Tryd.underlying3 w2) (trodAll_cons_mk (shut_int Tryd.underlying3 w3) (trodAll_cons_mk (shut_bool Tryd.underlying4 _) (trodAll_cons_mk (shut_bool Tryd.underlying4 _) trodAll_mk0)))))), rfl, bel.frame _, fun h => by cases h⟩
theorem over : Rows.transitDepartureRow.holds Tryd.pinned (OpenSpec.ofChange Rows.transitDepartureSpec) :=
  OpenClaim.holds_of_wide 7 Tryd.f7 rfl rfl rfl rfl rfl rfl rfl ⟨rfl, rfl, rfl, rfl, rfl⟩ rfl rfl rfl rfl rfl (by kernel_rfl) Tryd.func7 (by kernel_rfl)
    (of_decide_eq_true (by kernel_rfl)) (by unfold Func.isWrapper; first | (rw [if_pos (by decide +kernel)]; kernel_rfl) | (rw [if_neg (by decide +kernel)]; exact ⟨rfl, rfl⟩))
    (fun os started H enc _ => lifted os started H enc)
theorem proved : Rows.TransitDepartureSaid := over
end Go.Proofs.YtbndoihcejieoaaDoor.transitDeparture
namespace Go.Proofs.YtbndoihcejieoaaDoor
/-- The row. -/
theorem transitDeparture_holds : Rows.TransitDepartureSaid := transitDeparture.proved
open Go
/-- The tied card. -/
theorem transitDeparture_card : Rows.TransitDepartureCardSaid :=
  Claim7.holds_tied_plain_at .later [] [.data, .data] true (true, "d343da5cd7a1261890156307d7a9e62f44eed23e7391c30dd9a5bf23ca3d943d") false
    transitDeparture_holds (fun _ h => by cases h) (by kernel_rfl) (fun _ h => by cases h) transitDeparture_row_tie rfl ⟨rfl, rfl⟩ (by kernel_rfl) rfl
    (fun f fn hf hfn => by
      obtain rfl : f = 7 := Option.some.inj ((show Tryd.prog.funcNamed "customs/customslaw35.TransitDeparture" = some 7 by kernel_rfl).symm.trans hf) |>.symm
      obtain rfl : fn = Tryd.f7 := (Option.some.inj (Tryd.func7.symm.trans hfn)).symm
      exact ⟨by kernel_rfl, fun j t ht => by
        rw [Tryd.params7] at ht
        have hm : t ∈ [38, 3, 3, 3, 4, 4] := by simpa using Array.mem_of_getElem? ht
        have hall : ([38, 3, 3, 3, 4, 4].all fun u => !Tryd.prog.wantsStandIn u) = true := by kernel_rfl
        exact (show Tryd.prog.wantsStandIn t = false by simpa using List.all_eq_true.1 hall t hm)⟩)
    (by kernel_rfl)
#print axioms transitDeparture_card
end Go.Proofs.YtbndoihcejieoaaDoor

