/-
  Plain mathematics: what these functions answer; at the end the law's pure statement. No program's memory in sight.
-/
import Derived.OpenShut
import Derived.Deep.Slices
import Derived.WideShapes
import Derived.SizedLaws
import Derived.WalkKit
import Derived.ProofKit
import Derived.ChangeOld
import Derived.Test.YtbndoihcejieoaaDoorQCorew1
import Derived.Test.YtbndoihcejieoaaDoorQCorev1
import Derived.Test.YtbndoihcejieoaaDoorQCorea1
import Derived.Test.YtbndoihcejieoaaDoorQCorea2
import Derived.Test.YtbndoihcejieoaaDoorQCorea3
import Derived.Test.YtbndoihcejieoaaDoorQTransitArrivala1
import Derived.Test.YtbndoihcejieoaaDoorQTransitArrivala2
namespace Go.Proofs.YtbndoihcejieoaaDoor.Pure
open Go.ChangeShapes Go.WideShapes Go.ChangeAt Go.RowKit Go.Proofs.YtbndoihcejieoaaDoor.G Go.Proofs.YtbndoihcejieoaaDoorW.PrintWords Go.Proofs.YtbndoihcejieoaaDoorW.PrintLast Go.Proofs.YtbndoihcejieoaaDoorW.PrintMore
set_option linter.unusedVariables false
set_option linter.unusedSimpArgs false
set_option maxRecDepth 100000

theorem list_of {α : Type} {Q : Nat → α → Prop} : ∀ n, (∀ i, i < n → ∃ x, Q i x) → ∃ l : List α, l.length = n ∧ ∀ j p, l[j]? = some p → Q j p
  | 0, _ => ⟨[], rfl, fun j p h => by simp at h⟩
  | n + 1, h => by
    obtain ⟨l, hl, hq⟩ := list_of n (fun i hi => h i (by omega))
    obtain ⟨x, hx⟩ := h n (by omega)
    refine ⟨l ++ [x], by simp [hl], fun j p hj => ?_⟩
    by_cases c : j < n
    · rw [List.getElem?_append_left (by omega)] at hj
      exact hq j p hj
    · by_cases c2 : j = n
      · subst c2
        rw [List.getElem?_append_right (by omega)] at hj
        simp [hl] at hj
        rw [← hj]
        exact hx
      · rw [List.getElem?_eq_none (by simp; omega)] at hj
        cases hj
theorem add_add (a : Addr) (m i : Nat) : (a.add m).add i = a.add (m + i) := by
  unfold Addr.add
  by_cases hm : m = 0
  · subst hm
    simp
  · by_cases hi : i = 0
    · subst hi
      simp [hm]
    · have : ¬ m + i = 0 := by omega
      simp [hm, hi, this, Nat.add_assoc]
section
variable {H : Type} {enc : TypeId × Value → H} {W : World} {b : Nat} {sp : Nat → Bool} {held : Bool}
/-- A slice, whatever its elements: a list, where each element reads as one. -/
theorem read_rows {α : Type} (k : Kd α) {t e B : Nat} (ht : Tryd.prog.underlying t = some (.slice e)) (hC : Tryd.prog.cellsOf e = k.sz) (hB : Tryd.prog.bytesOf e = B) (he : ∀ (n : Nat) (cs : List Value) (y : DataW H × List MemPlace), DataW.trod enc Tryd.prog W b sp held n e cs = some y → ∃ x, k.K W x cs)
    {n : Nat} {v : Value} {y : DataW H × List MemPlace} (h : DataW.trod enc Tryd.prog W b sp held n t [v] = some y) (hw : ∀ z, z ∈ DataW.weights Tryd.prog t y.1 → z ≤ reachBytes) : ∃ l : List α, Rd k W v l ∧ l.length * B ≤ 140737488351232 := by
  rcases Go.Deep.open_slice ht h with ⟨hcs, hx⟩ | ⟨a, len, cap, m, n', D, Pl, hcs, hb, hl, hm, hmm, hx, hel⟩
  · obtain rfl : v = .slice none 0 0 := by simpa using hcs
    exact ⟨[], Rd.nil k W, by simp⟩
  · obtain rfl : v = .slice (some a) len cap := by simpa using hcs
    have hlm : len ≤ m := by rw [hmm]; split <;> omega
    obtain ⟨l, hlen, hq⟩ := list_of (α := α) (Q := fun j p => ∃ cs', W.cells? b (a.add (j * k.sz)) k.sz = some cs' ∧ k.K W p cs') len (fun i hi => by
      obtain ⟨cs', h1, h2⟩ := hel i (by omega)
      obtain ⟨x, hx⟩ := he _ _ _ h2
      rw [hC] at h1
      exact ⟨x, cs', h1, hx⟩)
    have hmax : cap ≤ 9223372036854775807 := hm
    refine ⟨l, ⟨some a, cap, by rw [hlen], by omega, rfl, by omega, fun _ => ⟨a, rfl, fun j p hj => ?_⟩⟩, ?_⟩
    · obtain ⟨cs', h1, h2⟩ := hq j p hj
      obtain ⟨_, h3, h4⟩ := World.cells?_some h1
      refine ⟨cs', h3, h2, fun i u hu => ?_⟩
      have hi : i < k.sz := by rw [← h3]; exact (List.getElem?_eq_some_iff.1 hu).1
      rw [← add_add, h4 i hi]
      exact hu
    · have h5 := hw ((len + (m - len)) * B) (by rw [hx]; simp [DataW.weights, ht, hB])
      have h6 : reachBytes = 140737488351232 + 4096 - 4096 := by decide
      have h7 : l.length * B ≤ (len + (m - len)) * B := Nat.mul_le_mul_right _ (by omega)
      unfold reachBytes at h5
      omega
theorem read53 {n : Nat} {cs : List Value} {y : DataW H × List MemPlace} (h : DataW.trod enc Tryd.prog W b sp held n 53 cs = some y) : ∃ x : S53, k53.K W x cs := by
  have ce : Tryd.prog.cellsOf 53 = 5 := by kernel_rfl
  have ci3 : Tryd.prog.cellsOf 3 = 1 := by kernel_rfl
  cases n with
  | zero => simp [DataW.trod] at h
  | succ n =>
    simp only [DataW.trod, Tryd.underlying53, ce] at h
    split at h
    · rename_i hl
      obtain ⟨c0, c1, c2, c3, c4, rfl⟩ : ∃ c0 c1 c2 c3 c4, cs = [c0, c1, c2, c3, c4] := by
        match cs, hl with
        | [c0, c1, c2, c3, c4], _ => exact ⟨c0, c1, c2, c3, c4, rfl⟩
      simp only [List.mapM_cons, List.mapM_nil, Option.map_eq_some_iff, Option.bind_eq_bind, Option.bind_eq_some_iff, Option.pure_def, Option.some.injEq, ci3] at h
      obtain ⟨ys, ⟨y0, h0, ys0, ⟨y1, h1, ys1, ⟨y2, h2, ys2, ⟨y3, h3, ys3, ⟨y4, h4, ys4, rfl, rfl⟩, rfl⟩, rfl⟩, rfl⟩, rfl⟩, rfl⟩ := h
      obtain ⟨k0, e0, f0, _⟩ := DataW.trod_int Tryd.underlying3 h0
      obtain ⟨k1, e1, f1, _⟩ := DataW.trod_int Tryd.underlying3 h1
      obtain ⟨k2, e2, f2, _⟩ := DataW.trod_int Tryd.underlying3 h2
      obtain ⟨k3, e3, f3, _⟩ := DataW.trod_int Tryd.underlying3 h3
      obtain ⟨k4, e4, f4, _⟩ := DataW.trod_int Tryd.underlying3 h4
      simp at e0 e1 e2 e3 e4
      subst e0 e1 e2 e3 e4
      exact ⟨⟨k0, k1, k2, k3, k4⟩, k53_mk W _⟩
    · cases h
theorem read89 {n : Nat} {cs : List Value} {y : DataW H × List MemPlace} (h : DataW.trod enc Tryd.prog W b sp held n 89 cs = some y) : ∃ x : S89, k89.K W x cs := by
  have ce : Tryd.prog.cellsOf 89 = 3 := by kernel_rfl
  have ci3 : Tryd.prog.cellsOf 3 = 1 := by kernel_rfl
  cases n with
  | zero => simp [DataW.trod] at h
  | succ n =>
    simp only [DataW.trod, Tryd.underlying89, ce] at h
    split at h
    · rename_i hl
      obtain ⟨c0, c1, c2, rfl⟩ : ∃ c0 c1 c2, cs = [c0, c1, c2] := by
        match cs, hl with
        | [c0, c1, c2], _ => exact ⟨c0, c1, c2, rfl⟩
      simp only [List.mapM_cons, List.mapM_nil, Option.map_eq_some_iff, Option.bind_eq_bind, Option.bind_eq_some_iff, Option.pure_def, Option.some.injEq, ci3] at h
      obtain ⟨ys, ⟨y0, h0, ys0, ⟨y1, h1, ys1, ⟨y2, h2, ys2, rfl, rfl⟩, rfl⟩, rfl⟩, rfl⟩ := h
      obtain ⟨k0, e0, f0, _⟩ := DataW.trod_int Tryd.underlying3 h0
      obtain ⟨k1, e1, f1, _⟩ := DataW.trod_int Tryd.underlying3 h1
      obtain ⟨k2, e2, f2, _⟩ := DataW.trod_int Tryd.underlying3 h2
      simp at e0 e1 e2
      subst e0 e1 e2
      exact ⟨⟨k0, k1, k2⟩, k89_mk W _⟩
    · cases h
theorem read24 {n : Nat} {cs : List Value} {y : DataW H × List MemPlace} (h : DataW.trod enc Tryd.prog W b sp held n 24 cs = some y) : ∃ (k0 : Int) (k1 : ByteArray) (k2 : Int) (k3 : Int) (c4 : Value) (z4 : DataW H × List MemPlace) (m : Nat) (d0 : DataW H) (d1 : DataW H) (d2 : DataW H) (d3 : DataW H), cs = [.int .i64 k0, .string k1, .int .i64 k2, .int .i64 k3, c4] ∧ DataW.trod enc Tryd.prog W b sp held m 22 [c4] = some z4 ∧ y.1 = .agg [d0, d1, d2, d3, z4.1] := by
  have ce : Tryd.prog.cellsOf 24 = 5 := by kernel_rfl
  have ci3 : Tryd.prog.cellsOf 3 = 1 := by kernel_rfl
  have ci9 : Tryd.prog.cellsOf 9 = 1 := by kernel_rfl
  have ci22 : Tryd.prog.cellsOf 22 = 1 := by kernel_rfl
  cases n with
  | zero => simp [DataW.trod] at h
  | succ n =>
    simp only [DataW.trod, Tryd.underlying24, ce] at h
    split at h
    · rename_i hl
      obtain ⟨c0, c1, c2, c3, c4, rfl⟩ : ∃ c0 c1 c2 c3 c4, cs = [c0, c1, c2, c3, c4] := by
        match cs, hl with
        | [c0, c1, c2, c3, c4], _ => exact ⟨c0, c1, c2, c3, c4, rfl⟩
      simp only [List.mapM_cons, List.mapM_nil, Option.map_eq_some_iff, Option.bind_eq_bind, Option.bind_eq_some_iff, Option.pure_def, Option.some.injEq, ci3, ci9, ci22] at h
      obtain ⟨ys, ⟨y0, h0, ys0, ⟨y1, h1, ys1, ⟨y2, h2, ys2, ⟨y3, h3, ys3, ⟨y4, h4, ys4, rfl, rfl⟩, rfl⟩, rfl⟩, rfl⟩, rfl⟩, rfl⟩ := h
      obtain ⟨k0, e0, f0, _⟩ := DataW.trod_int Tryd.underlying3 h0
      obtain ⟨k1, e1, f1, _⟩ := DataW.trod_string Tryd.underlying9 h1
      obtain ⟨k2, e2, f2, _⟩ := DataW.trod_int Tryd.underlying3 h2
      obtain ⟨k3, e3, f3, _⟩ := DataW.trod_int Tryd.underlying3 h3
      simp at e0 e1 e2 e3
      subst e0 e1 e2 e3
      exact ⟨k0, k1, k2, k3, c4, y4, n, y0.1, y1.1, y2.1, y3.1, rfl, h4, rfl⟩
    · cases h
theorem read27 {n : Nat} {cs : List Value} {y : DataW H × List MemPlace} (h : DataW.trod enc Tryd.prog W b sp held n 27 cs = some y) : ∃ (k0 : Int) (k1 : Int) (k2 : Int) (k3 : Int) (c4 : Value) (c5 : Value) (c6 : Value) (c7 : Value) (c8 : Value) (c9 : Value) (c10 : Value) (z4 : DataW H × List MemPlace) (z5 : DataW H × List MemPlace) (z6 : DataW H × List MemPlace) (m : Nat) (d0 : DataW H) (d1 : DataW H) (d2 : DataW H) (d3 : DataW H), cs = [.int .i64 k0, .int .i64 k1, .int .i64 k2, .int .i64 k3, c4, c5, c6, c7, c8, c9, c10] ∧ DataW.trod enc Tryd.prog W b sp held m 24 [c4, c5, c6, c7, c8] = some z4 ∧ DataW.trod enc Tryd.prog W b sp held m 25 [c9] = some z5 ∧ DataW.trod enc Tryd.prog W b sp held m 25 [c10] = some z6 ∧ y.1 = .agg [d0, d1, d2, d3, z4.1, z5.1, z6.1] := by
  have ce : Tryd.prog.cellsOf 27 = 11 := by kernel_rfl
  have ci3 : Tryd.prog.cellsOf 3 = 1 := by kernel_rfl
  have ci24 : Tryd.prog.cellsOf 24 = 5 := by kernel_rfl
  have ci25 : Tryd.prog.cellsOf 25 = 1 := by kernel_rfl
  cases n with
  | zero => simp [DataW.trod] at h
  | succ n =>
    simp only [DataW.trod, Tryd.underlying27, ce] at h
    split at h
    · rename_i hl
      obtain ⟨c0, c1, c2, c3, c4, c5, c6, c7, c8, c9, c10, rfl⟩ : ∃ c0 c1 c2 c3 c4 c5 c6 c7 c8 c9 c10, cs = [c0, c1, c2, c3, c4, c5, c6, c7, c8, c9, c10] := by
        match cs, hl with
        | [c0, c1, c2, c3, c4, c5, c6, c7, c8, c9, c10], _ => exact ⟨c0, c1, c2, c3, c4, c5, c6, c7, c8, c9, c10, rfl⟩
      simp only [List.mapM_cons, List.mapM_nil, Option.map_eq_some_iff, Option.bind_eq_bind, Option.bind_eq_some_iff, Option.pure_def, Option.some.injEq, ci3, ci24, ci25] at h
      obtain ⟨ys, ⟨y0, h0, ys0, ⟨y1, h1, ys1, ⟨y2, h2, ys2, ⟨y3, h3, ys3, ⟨y4, h4, ys4, ⟨y5, h5, ys5, ⟨y6, h6, ys6, rfl, rfl⟩, rfl⟩, rfl⟩, rfl⟩, rfl⟩, rfl⟩, rfl⟩, rfl⟩ := h
      obtain ⟨k0, e0, f0, _⟩ := DataW.trod_int Tryd.underlying3 h0
      obtain ⟨k1, e1, f1, _⟩ := DataW.trod_int Tryd.underlying3 h1
      obtain ⟨k2, e2, f2, _⟩ := DataW.trod_int Tryd.underlying3 h2
      obtain ⟨k3, e3, f3, _⟩ := DataW.trod_int Tryd.underlying3 h3
      simp at e0 e1 e2 e3
      subst e0 e1 e2 e3
      exact ⟨k0, k1, k2, k3, c4, c5, c6, c7, c8, c9, c10, y4, y5, y6, n, y0.1, y1.1, y2.1, y3.1, rfl, h4, h5, h6, rfl⟩
    · cases h
theorem read3 {n : Nat} {cs : List Value} {y : DataW H × List MemPlace} (h : DataW.trod enc Tryd.prog W b sp held n 3 cs = some y) : ∃ x : Int, (Kd.int .i64).K W x cs := by
  obtain ⟨x, rfl, _, _⟩ := DataW.trod_int Tryd.underlying3 h
  exact ⟨x, rfl⟩
/-- Slices of numbers, of incidents, of a lot's slices. -/
theorem rows25 {n : Nat} {v : Value} {y : DataW H × List MemPlace} (h : DataW.trod enc Tryd.prog W b sp held n 25 [v] = some y) (hw : ∀ z, z ∈ DataW.weights Tryd.prog 25 y.1 → z ≤ reachBytes) : ∃ l : List Int, Rd (Kd.int .i64) W v l ∧ l.length * 8 ≤ 140737488351232 := read_rows (Kd.int .i64) Tryd.underlying25 (by kernel_rfl) (by kernel_rfl) (fun _ _ _ h => read3 h) h hw
theorem rows44 {n : Nat} {v : Value} {y : DataW H × List MemPlace} (h : DataW.trod enc Tryd.prog W b sp held n 44 [v] = some y) (hw : ∀ z, z ∈ DataW.weights Tryd.prog 44 y.1 → z ≤ reachBytes) : ∃ l : List S53, Rd k53 W v l ∧ l.length * 40 ≤ 140737488351232 := read_rows k53 Tryd.underlying44 (by kernel_rfl) (by kernel_rfl) (fun _ _ _ h => read53 h) h hw
theorem rows22 {n : Nat} {v : Value} {y : DataW H × List MemPlace} (h : DataW.trod enc Tryd.prog W b sp held n 22 [v] = some y) (hw : ∀ z, z ∈ DataW.weights Tryd.prog 22 y.1 → z ≤ reachBytes) : ∃ l : List S89, Rd k89 W v l ∧ l.length * 24 ≤ 140737488351232 := read_rows k89 Tryd.underlying22 (by kernel_rfl) (by kernel_rfl) (fun _ _ _ h => read89 h) h hw
end
end Go.Proofs.YtbndoihcejieoaaDoor.Pure
