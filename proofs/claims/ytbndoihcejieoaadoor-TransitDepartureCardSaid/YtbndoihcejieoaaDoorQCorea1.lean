/-
  Functions of the program and of the references as plain Lean functions, each with a proof that the machine's call comes to what it answers. Conditions: what each contract states.
-/
import Derived.Test.YtbndoihcejieoaaDoorProg
import Derived.Below
import Derived.Deep.Draws
import Derived.Deep.AppendLies
import Derived.Maps.AppendAt
import Derived.OwnWalk
import Derived.Laws.BytesArg
import Derived.Laws.MakeOwn
import Derived.Laws.OwnMore
import Derived.Deep.OwnRows
import Derived.Tactics
import Derived.Lib.ConvBytes
import Derived.Laws.Slices
import Derived.WalkKit
import Derived.KernelRfl
import Derived.RowKit3
import Derived.Deep.LoopGhost
import Derived.Deep.QuietTactic
import Derived.BigQuiet
import Derived.WideLaws
import Derived.Deep.DeepCutAuto
import Derived.Deep.CutBlock
import Derived.Deep.RegionHeld3
import Derived.Laws.Rows
import Derived.Lib.AppendStr
import Derived.ArgAppend
import Derived.Laws.IdiomCopy
import Derived.OrdersHeld
import Derived.Laws.BitsLemmas
import Derived.RowKit
import Derived.Deep.MidRow
import Derived.Laws.Cover3
import Derived.Test.YtbndoihcejieoaaDoorQCorew1
import Derived.Test.YtbndoihcejieoaaDoorQCorev1
namespace Go.Proofs.YtbndoihcejieoaaDoor.G
open Go.RowKit Go.Proofs.YtbndoihcejieoaaDoorW.PrintWords Go.Proofs.YtbndoihcejieoaaDoorW.PrintLast Go.Proofs.YtbndoihcejieoaaDoorW.PrintMore
attribute [local go_sem] max2_int min2_int max_two min_two max_three min_three max_four min_four   -- for this text's walks alone
set_option linter.unusedVariables false
set_option linter.unusedSimpArgs false

def errW : Option Int → Value
 | none => .nilIface
 | some c => .iface 0 (.int .i64 c)
theorem errW_none : errW none = .nilIface := rfl
theorem errW_some (c : Int) : errW (some c) = .iface 0 (.int .i64 c) := rfl

/-- The package-level table customs/transit.changes, as it lies in memory. -/
def cells_changes : Array Value := #[.int .i64 0, .int .i64 1, .int .i64 2, .int .i64 1, .int .i64 1, .int .i64 3, .int .i64 0, .int .i64 2, .int .i64 1, .int .i64 2, .int .i64 2, .int .i64 3, .int .i64 2, .int .i64 3, .int .i64 4]
def GL_changes (w : World) : Prop := ∃ t fr, w.heap[0]? = some (.cells cells_changes t fr)
theorem GL_changes.drewN {w : World} {n : Nat} (h : GL_changes w) : GL_changes (w.drewN n) := h
theorem GL_changes.drew {w : World} (h : GL_changes w) : GL_changes w.drew := h
theorem GL_changes.lt {w : World} (h : GL_changes w) : 0 < w.heap.size := by
 obtain ⟨t, fr, h⟩ := h
 exact (Array.getElem?_eq_some_iff.1 h).1
theorem GL_changes.of_below {w w' : World} (hb : Below w.heap.size w w') (h : GL_changes w) : GL_changes w' := by
 have hl := h.lt
 obtain ⟨t, fr, h⟩ := h
 exact ⟨t, fr, (hb.block 0 hl).trans h⟩

/-- The package-level table customs/calendar.lengths, as it lies in memory. -/
def cells_lengths : Array Value := #[.int .i64 31, .int .i64 28, .int .i64 31, .int .i64 30, .int .i64 31, .int .i64 30, .int .i64 31, .int .i64 31, .int .i64 30, .int .i64 31, .int .i64 30, .int .i64 31]
def GL_lengths (w : World) : Prop := ∃ t fr, w.heap[1]? = some (.cells cells_lengths t fr)
theorem GL_lengths.drewN {w : World} {n : Nat} (h : GL_lengths w) : GL_lengths (w.drewN n) := h
theorem GL_lengths.drew {w : World} (h : GL_lengths w) : GL_lengths w.drew := h
theorem GL_lengths.lt {w : World} (h : GL_lengths w) : 1 < w.heap.size := by
 obtain ⟨t, fr, h⟩ := h
 exact (Array.getElem?_eq_some_iff.1 h).1
theorem GL_lengths.of_below {w w' : World} (hb : Below w.heap.size w w') (h : GL_lengths w) : GL_lengths w' := by
 have hl := h.lt
 obtain ⟨t, fr, h⟩ := h
 exact ⟨t, fr, (hb.block 1 hl).trans h⟩

theorem info3 : (Tryd.prog.info? 3).map (fun i => (i.zero, i.size, i.bytes)) = some (some (.int .i64 0), 1, 8) := by kernel_rfl
theorem info89 : (Tryd.prog.info? 89).map (fun i => (i.zero, i.size, i.bytes)) = some (some (.agg #[(.int .i64 0), (.int .i64 0), (.int .i64 0)]), 3, 24) := by kernel_rfl
structure S89 where
 f0 : Int
 f1 : Int
 f2 : Int
def k89 : Kd S89 := Kd.iso (Kd.pair (Kd.int .i64) (Kd.pair (Kd.int .i64) (Kd.int .i64))) (fun x : S89 => (x.f0, x.f1, x.f2))
structure S53 where
 f0 : Int
 f1 : Int
 f2 : Int
 f3 : Int
 f4 : Int
def z53 : S53 := ⟨(0 : Int), (0 : Int), (0 : Int), (0 : Int), (0 : Int)⟩
end Go.Proofs.YtbndoihcejieoaaDoor.G
namespace Go.Proofs.YtbndoihcejieoaaDoor.G
open Go.RowKit Go.Proofs.YtbndoihcejieoaaDoorW.PrintWords Go.Proofs.YtbndoihcejieoaaDoorW.PrintLast Go.Proofs.YtbndoihcejieoaaDoorW.PrintMore
set_option linter.unusedVariables false
set_option linter.unusedSimpArgs false

/-- Eleven cells, each one cell. -/
structure Elf (xs : Array Value) : Prop where
 size : xs.size = 11
 one : xs.all (·.oneCell') = true
theorem dep_elf (a0 a1 a2 a3 a4 a5 a6 a7 a8 a9 : Int) {v : Value} (hv : v.oneCell' = true) : Elf #[.int .i64 a0, .int .i64 a1, .int .i64 a2, .int .i64 a3, .int .i64 a4, .int .i64 a5, .int .i64 a6, .int .i64 a7, .int .i64 a8, .int .i64 a9, v] :=
 ⟨rfl, by
  refine Array.all_eq_true_iff_forall_mem.2 (fun x hx => ?_)
  simp only [List.mem_toArray, List.mem_cons, List.not_mem_nil, or_false] at hx
  rcases hx with rfl | rfl | rfl | rfl | rfl | rfl | rfl | rfl | rfl | rfl | rfl <;> first | rfl | assumption⟩
theorem arr_elf (b0 b1 b2 b3 b4 : Int) (b5 : ByteArray) (b6 b7 : Int) {v8 v9 v10 : Value} (h8 : v8.oneCell' = true) (h9 : v9.oneCell' = true) (h10 : v10.oneCell' = true) : Elf #[.int .i64 b0, .int .i64 b1, .int .i64 b2, .int .i64 b3, .int .i64 b4, .string b5, .int .i64 b6, .int .i64 b7, v8, v9, v10] :=
 ⟨rfl, by
  refine Array.all_eq_true_iff_forall_mem.2 (fun x hx => ?_)
  simp only [List.mem_toArray, List.mem_cons, List.not_mem_nil, or_false] at hx
  rcases hx with rfl | rfl | rfl | rfl | rfl | rfl | rfl | rfl | rfl | rfl | rfl <;> first | rfl | assumption⟩
def tf (cd ca : Array Value) (vf vb : Value) : Array Value := cd ++ ca ++ #[vf, vb]
theorem tf_size {cd ca : Array Value} {vf vb : Value} (hd : Elf cd) (ha : Elf ca) : (tf cd ca vf vb).size = 24 := by
 simp [tf, hd.size, ha.size]
theorem tf_one {cd ca : Array Value} {vf vb : Value} (hd : Elf cd) (ha : Elf ca) (hf : vf.oneCell' = true) (hb : vb.oneCell' = true) : (tf cd ca vf vb).all (·.oneCell') = true := by
 have h1 := hd.one
 have h2 := ha.one
 simp only [tf, Array.all_append, h1, h2, Bool.true_and]
 simp [hf, hb]
theorem tf_d {cd ca : Array Value} {vf vb : Value} (hd : Elf cd) {j : Nat} (hj : j < 11) : (tf cd ca vf vb)[j]? = cd[j]? := by
 unfold tf
 rw [Array.getElem?_append_left (by simp [hd.size]; omega), Array.getElem?_append_left (by rw [hd.size]; exact hj)]
theorem tf_a {cd ca : Array Value} {vf vb : Value} (hd : Elf cd) (ha : Elf ca) {j : Nat} (hj : j < 11) : (tf cd ca vf vb)[11 + j]? = ca[j]? := by
 unfold tf
 rw [Array.getElem?_append_left (by simp [hd.size, ha.size]; omega), Array.getElem?_append_right (by rw [hd.size]; omega), hd.size]
 congr 1
 omega
theorem tf_f {cd ca : Array Value} {vf vb : Value} (hd : Elf cd) (ha : Elf ca) : (tf cd ca vf vb)[22]? = some vf := by
 unfold tf
 rw [Array.getElem?_append_right (by simp [hd.size, ha.size])]
 simp [hd.size, ha.size]
theorem tf_b {cd ca : Array Value} {vf vb : Value} (hd : Elf cd) (ha : Elf ca) : (tf cd ca vf vb)[23]? = some vb := by
 unfold tf
 rw [Array.getElem?_append_right (by simp [hd.size, ha.size])]
 simp [hd.size, ha.size]
theorem tf_list {cd ca : Array Value} {vf vb : Value} : (tf cd ca vf vb).toList = cd.toList ++ ca.toList ++ [vf, vb] := by simp [tf]

/-- All but block g is as it was. -/
structure Same (g : Nat) (W W1 : World) : Prop where
 os : W1.os = W.os
 tape : W1.tape = W.tape
 output : W1.output = W.output
 size : W1.heap.size = W.heap.size
 block : ∀ k, k ≠ g → W1.heap[k]? = W.heap[k]?
theorem Same.setRow (W : World) (g : Nat) (cs : Array Value) : Same g W (W.setRow g cs) := ⟨rfl, rfl, rfl, by simp, fun k hk => setRow_other W g k cs hk⟩

section
variable {W : World} {g : Nat} {cd ca : Array Value} {vf vb : Value}
theorem tf_cell {T : Array Value} (h : W.heap[g]? = some (.cells T 40 (0, 0))) (j : Nat) : W.cell? ⟨g, j, none⟩ = T[j]? := cell_of_row W g j T 40 (0, 0) h
/-- The whole transfer is read. -/
theorem load_all (h : W.heap[g]? = some (.cells (tf cd ca vf vb) 40 (0, 0))) (hd : Elf cd) (ha : Elf ca) : (Instr.loadAt 40 (.pointer (some ⟨g, 0, none⟩))).run Tryd.prog W = .ok (.agg (tf cd ca vf vb)) W := by
 have := run_loadAt_mid (P := Tryd.prog) W g 0 40 (tf cd ca vf vb).toList _ (fun j v hv => by rw [Nat.zero_add, tf_cell h]; simpa using hv) Tryd.underlying40 rfl (by rw [Array.length_toList, tf_size hd ha]; kernel_rfl)
 simpa using this
theorem load_dep (h : W.heap[g]? = some (.cells (tf cd ca vf vb) 40 (0, 0))) (hd : Elf cd) : (Instr.loadAt 38 (.pointer (some ⟨g, 0, none⟩))).run Tryd.prog W = .ok (.agg cd) W := by
 have := run_loadAt_mid (P := Tryd.prog) W g 0 38 cd.toList _ (fun j v hv => by
  have hj : j < 11 := by rw [← hd.size, ← Array.length_toList]; exact (List.getElem?_eq_some_iff.1 hv).1
  rw [Nat.zero_add, tf_cell h, tf_d hd hj]; simpa using hv) Tryd.underlying38 rfl (by rw [Array.length_toList, hd.size]; kernel_rfl)
 simpa using this
theorem load_arr (h : W.heap[g]? = some (.cells (tf cd ca vf vb) 40 (0, 0))) (hd : Elf cd) (ha : Elf ca) : (Instr.loadAt 27 (.pointer (some ⟨g, 11, none⟩))).run Tryd.prog W = .ok (.agg ca) W := by
 have := run_loadAt_mid (P := Tryd.prog) W g 11 27 ca.toList _ (fun j v hv => by
  have hj : j < 11 := by rw [← ha.size, ← Array.length_toList]; exact (List.getElem?_eq_some_iff.1 hv).1
  rw [tf_cell h, tf_a hd ha hj]; simpa using hv) Tryd.underlying27 rfl (by rw [Array.length_toList, ha.size]; kernel_rfl)
 simpa using this
/-- A single cell of the departure, or of the lists. -/
theorem cell_dep (h : W.heap[g]? = some (.cells (tf cd ca vf vb) 40 (0, 0))) (hd : Elf cd) {j : Nat} {v : Value} (hj : j < 11) (hv : cd[j]? = some v) : W.cell? ⟨g, j, none⟩ = some v := by rw [tf_cell h, tf_d hd hj, hv]
theorem cell_f (h : W.heap[g]? = some (.cells (tf cd ca vf vb) 40 (0, 0))) (hd : Elf cd) (ha : Elf ca) : W.cell? ⟨g, 22, none⟩ = some vf := by rw [tf_cell h, tf_f hd ha]
theorem cell_b (h : W.heap[g]? = some (.cells (tf cd ca vf vb) 40 (0, 0))) (hd : Elf cd) (ha : Elf ca) : W.cell? ⟨g, 23, none⟩ = some vb := by rw [tf_cell h, tf_b hd ha]

theorem load_whole {T : Array Value} (h : W.heap[g]? = some (.cells T 27 (0, 0))) (hT : Elf T) : (Instr.loadAt 27 (.pointer (some ⟨g, 0, none⟩))).run Tryd.prog W = .ok (.agg T) W := by
 have := run_loadAt_mid (P := Tryd.prog) W g 0 27 T.toList _ (fun j v hv => by rw [Nat.zero_add, cell_of_row W g j T 27 (0, 0) h]; simpa using hv) Tryd.underlying27 rfl (by rw [Array.length_toList, hT.size]; kernel_rfl)
 simpa using this
theorem store_gen {tt : TypeId} {T : Array Value} (h : W.heap[g]? = some (.cells T tt (0, 0))) (o : Nat) (ty : TypeId) (cs : Array Value) (hl : o + cs.size ≤ T.size) (hi : (Tryd.prog.info? ty).map (·.size) = some cs.size) (h1 : cs.all (·.oneCell') = true)
  (T' : Array Value) (hT' : T'.toList = T.toList.take o ++ cs.toList ++ T.toList.drop (o + cs.size)) :
  ∃ W1, (Instr.storeAt ty (.pointer (some ⟨g, o, none⟩)) (.agg cs)).run Tryd.prog W = .ok () W1 ∧ W1.heap[g]? = some (.cells T' tt (0, 0)) ∧ Same g W W1 := by
 have hs := run_storeCells_at Tryd.prog g o tt cs.toList 0 T W h (by simp; omega) (fun v hv => (Array.all_eq_true_iff_forall_mem.1 h1) v (by simpa using hv))
 simp only [Nat.add_zero, Array.length_toList] at hs
 rw [← hT', Array.toArray_toList] at hs
 refine ⟨W.setRow g T', ?_, setRow_heap W g T T' tt (0, 0) h, Same.setRow W g T'⟩
 cases hq : Tryd.prog.info? ty with
 | none => simp [hq] at hi
 | some i =>
  have hz : i.size = cs.size := by simpa [hq] using hi
  simp [Instr.storeAt, Instr.sureAddr, Sem.run_bind, storeVar, sizeOf, typeInfo, hq, Value.cells, hz, hs]
theorem store_all {T : Array Value} (h : W.heap[g]? = some (.cells T 40 (0, 0))) (hT : T.size = 24) (hd : Elf cd) (ha : Elf ca) (hf : vf.oneCell' = true) (hb : vb.oneCell' = true) :
  ∃ W1, (Instr.storeAt 40 (.pointer (some ⟨g, 0, none⟩)) (.agg (tf cd ca vf vb))).run Tryd.prog W = .ok () W1 ∧ W1.heap[g]? = some (.cells (tf cd ca vf vb) 40 (0, 0)) ∧ Same g W W1 :=
 store_gen h 0 40 _ (by rw [tf_size hd ha]; omega) (by rw [tf_size hd ha]; kernel_rfl) (tf_one hd ha hf hb) _ (by
  rw [List.drop_of_length_le (by rw [Array.length_toList, tf_size hd ha, hT]; omega)]; simp)
theorem store_dep {cd' : Array Value} (h : W.heap[g]? = some (.cells (tf cd ca vf vb) 40 (0, 0))) (hd : Elf cd) (ha : Elf ca) (hd' : Elf cd') :
  ∃ W1, (Instr.storeAt 38 (.pointer (some ⟨g, 0, none⟩)) (.agg cd')).run Tryd.prog W = .ok () W1 ∧ W1.heap[g]? = some (.cells (tf cd' ca vf vb) 40 (0, 0)) ∧ Same g W W1 :=
 store_gen h 0 38 _ (by rw [hd'.size, tf_size hd ha]; omega) (by rw [hd'.size]; kernel_rfl) hd'.one _ (by
  rw [tf_list, tf_list, hd'.size, Nat.zero_add, List.take_zero, List.nil_append, List.append_assoc, List.append_assoc, List.drop_left' (by rw [Array.length_toList, hd.size])])
theorem store_arr {ca' : Array Value} (h : W.heap[g]? = some (.cells (tf cd ca vf vb) 40 (0, 0))) (hd : Elf cd) (ha : Elf ca) (ha' : Elf ca') :
  ∃ W1, (Instr.storeAt 27 (.pointer (some ⟨g, 11, none⟩)) (.agg ca')).run Tryd.prog W = .ok () W1 ∧ W1.heap[g]? = some (.cells (tf cd ca' vf vb) 40 (0, 0)) ∧ Same g W W1 :=
 store_gen h 11 27 _ (by rw [ha'.size, tf_size hd ha]; omega) (by rw [ha'.size]; kernel_rfl) ha'.one _ (by
  rw [tf_list, tf_list, ha'.size, List.drop_left' (by rw [List.length_append, Array.length_toList, Array.length_toList, hd.size, ha.size]), List.append_assoc cd.toList ca.toList, List.take_left' (by rw [Array.length_toList, hd.size])])
theorem store_one {tt : TypeId} {T T' : Array Value} (h : W.heap[g]? = some (.cells T tt (0, 0))) (o : Nat) (ho : o < T.size) (v : Value) (h1 : v.oneCell' = true) (hT' : T.setIfInBounds o v = T') (ty : TypeId) (hq : (Tryd.prog.info? ty).map (·.size) = some 1) :
  ∃ W1, (Instr.storeAt ty (.pointer (some ⟨g, o, none⟩)) v).run Tryd.prog W = .ok () W1 ∧ W1.heap[g]? = some (.cells T' tt (0, 0)) ∧ Same g W W1 := by
 subst hT'
 have hs := run_storeCells_at Tryd.prog g o tt [v] 0 T W h (by simp; omega) (fun x hx => by rw [List.mem_singleton.1 hx]; exact h1)
 have e : (T.toList.take (o + 0) ++ [v] ++ T.toList.drop (o + 0 + [v].length)).toArray = T.setIfInBounds o v := by
  apply Array.ext'
  simp only [Nat.add_zero, List.length_singleton, Array.toList_setIfInBounds]
  rw [List.set_eq_take_append_cons_drop, if_pos (by simpa using ho)]
  simp
 rw [e] at hs
 refine ⟨_, ?_, setRow_heap W g T _ tt (0, 0) h, Same.setRow W g _⟩
 have hc : v.cells = #[v] := by cases v <;> simp_all [Value.oneCell', Value.cells]
 cases hi : Tryd.prog.info? ty with
 | none => simp [hi] at hq
 | some i =>
  have hz : i.size = 1 := by simpa [hi] using hq
  simp [Instr.storeAt, Instr.sureAddr, Sem.run_bind, storeVar, sizeOf, typeInfo, hi, hc, hz, hs]
theorem store_f {v : Value} (h : W.heap[g]? = some (.cells (tf cd ca vf vb) 40 (0, 0))) (hd : Elf cd) (ha : Elf ca) (h1 : v.oneCell' = true) :
  ∃ W1, (Instr.storeAt 25 (.pointer (some ⟨g, 22, none⟩)) v).run Tryd.prog W = .ok () W1 ∧ W1.heap[g]? = some (.cells (tf cd ca v vb) 40 (0, 0)) ∧ Same g W W1 :=
 store_one h 22 (by rw [tf_size hd ha]; omega) v h1 (by
  unfold tf
  rw [Array.setIfInBounds_append_right (by simp [hd.size, ha.size])]
  simp [hd.size, ha.size]) 25 (by kernel_rfl)
theorem store_b {v : Value} (h : W.heap[g]? = some (.cells (tf cd ca vf vb) 40 (0, 0))) (hd : Elf cd) (ha : Elf ca) (h1 : v.oneCell' = true) :
  ∃ W1, (Instr.storeAt 25 (.pointer (some ⟨g, 23, none⟩)) v).run Tryd.prog W = .ok () W1 ∧ W1.heap[g]? = some (.cells (tf cd ca vf v) 40 (0, 0)) ∧ Same g W W1 :=
 store_one h 23 (by rw [tf_size hd ha]; omega) v h1 (by
  unfold tf
  rw [Array.setIfInBounds_append_right (by simp [hd.size, ha.size])]
  simp [hd.size, ha.size]) 25 (by kernel_rfl)
end

section
variable {W : World} {g : Nat}
theorem load_eleven {tt : TypeId} {d : TypeDesc} (hu : Tryd.prog.underlying tt = some d) (hd : d.isRow = true) (hi : (Tryd.prog.info? tt).map (·.size) = some 11) {T : Array Value} (h : W.heap[g]? = some (.cells T tt (0, 0))) (hT : T.size = 11) : (Instr.loadAt tt (.pointer (some ⟨g, 0, none⟩))).run Tryd.prog W = .ok (.agg T) W := by
 have := run_loadAt_mid (P := Tryd.prog) W g 0 tt T.toList d (fun j v hv => by rw [Nat.zero_add, cell_of_row W g j T tt (0, 0) h]; simpa using hv) hu hd (by rw [Array.length_toList, hT]; exact hi)
 simpa using this
theorem store_eleven {tt : TypeId} (hi : (Tryd.prog.info? tt).map (·.size) = some 11) {T T' : Array Value} (h : W.heap[g]? = some (.cells T tt (0, 0))) (hT : T.size = 11) (hT' : Elf T') :
  ∃ W1, (Instr.storeAt tt (.pointer (some ⟨g, 0, none⟩)) (.agg T')).run Tryd.prog W = .ok () W1 ∧ W1.heap[g]? = some (.cells T' tt (0, 0)) ∧ Same g W W1 :=
 store_gen h 0 tt _ (by rw [hT'.size, hT]; omega) (by rw [hT'.size]; exact hi) hT'.one _ (by
  rw [List.drop_of_length_le (by rw [Array.length_toList, hT'.size, hT]; omega)]; simp)
end

section
variable {P : Program} {ops : Array Oper} {rest : List Oper} {o : Oper} {a : Act} {Q : Exit → Act → World → Prop}
theorem ev_load {W : World} (hgd : o.guard = none) {N : Tmp} (_hd : o.dst = some N) {ty : TypeId} {x : Operand} (ho : o.op = .load ty x) {q v : Value} (hx : a.eval x = q)
  (hrun : (Instr.loadAt ty q).run P W = .ok v W) (h : wpList P ops Q rest (a.put o.dst v) W) : wpList P ops Q (o :: rest) a W := by
 refine wpList_plain hgd fun K hK => ?_
 unfold Oper.wp execOp
 simp only [ho, hx, hrun, Sem.run_bind, Sem.run_pure, Result.andThen_ok]
 exact hK _ _ h
/-- A store, told by what it leaves. -/
theorem ev_store {W : World} {F : World → Prop} (hgd : o.guard = none) {ty : TypeId} {p : Tmp} {y : Operand} (ho : o.op = .store ty (.tmp p) y) (hd : o.dst = none) {q v : Value} (hx : a.eval (.tmp p) = q) (hy : a.eval y = v)
  (hrun : ∃ W1, (Instr.storeAt ty q v).run P W = .ok () W1 ∧ F W1) (h : ∀ W1, F W1 → wpList P ops Q rest a W1) : wpList P ops Q (o :: rest) a W := by
 obtain ⟨W1, hr, hf⟩ := hrun
 refine wpList_plain hgd fun K hK => ?_
 unfold Oper.wp execOp
 simp only [ho, hx, hy, hr, Sem.run_bind, Sem.run_pure, Result.andThen_ok]
 show K (a.put o.dst undef) W1
 rw [hd]
 exact hK _ _ (h W1 hf)
end

structure Lo (tt : TypeId) (w : World) (S : Nat → Prop) (W : World) (g gr : Nat) (cs : Array Value) : Prop where
 os : W.os = w.os
 tape : W.tape = w.tape
 output : W.output = w.output
 kept : Kept w W S
 hg : w.heap.size ≤ g
 hr : w.heap.size ≤ gr
 ne : g ≠ gr
 at1 : W.heap[g]? = some (.cells cs tt (0, 0))
 at2 : ∃ old : Array Value, old.size = cs.size ∧ W.heap[gr]? = some (.cells old tt (0, 0))
/-- What a call that writes no block but those of S leaves. -/
structure Mv (S : Nat → Prop) (w w' : World) : Prop where
 os : w'.os = w.os
 tape : w'.tape = w.tape
 output : w'.output = w.output
 kept : Kept w w' S
theorem Mv.of_below {w w' : World} (h : Below w.heap.size w w') (S : Nat → Prop) : Mv S w w' := ⟨h.os, h.tape, h.output, Kept.of_below h S⟩
theorem Mv.below {S : Nat → Prop} {w w' : World} (h : Mv S w w') {B : Nat} (hB : B ≤ w.heap.size) (hS : ∀ k, S k → B ≤ k) : Below B w w' :=
 ⟨h.os, h.tape, h.output, h.kept.1, fun k hk => h.kept.2 k (by omega) (fun hs => by have := hS k hs; omega)⟩
theorem Mv.then_ {S S2 : Nat → Prop} {w w1 w2 : World} (h : Mv S w w1) (k : Mv S2 w1 w2) (hs : ∀ k, S2 k → S k ∨ w.heap.size ≤ k) : Mv S w w2 :=
 ⟨k.os.trans h.os, k.tape.trans h.tape, k.output.trans h.output, h.kept.then_ k.kept hs⟩
section
variable {w W W1 : World} {S S2 : Nat → Prop} {g gr : Nat} {cs : Array Value} {tt : TypeId}
theorem Lo.start {w1 w2 : World} {z : Array Value} (hg : g = w.heap.size) (h1 : w1.heap[g]? = some (.cells cs tt (0, 0))) (b1 : Below w.heap.size w w1) (hr : gr = w1.heap.size) (h2 : w2.heap[gr]? = some (.cells z tt (0, 0))) (hz : z.size = cs.size) (b2 : Below w1.heap.size w1 w2) (S : Nat → Prop) : Lo tt w S w2 g gr cs :=
 have b := b1.trans (b2.mono b1.size)
 ⟨b.os, b.tape, b.output, Kept.of_below b S, by omega, by have := b1.size; omega, by have := blk_lt h1; omega, blk_below h1 b2, z, hz, h2⟩
theorem Lo.start3 {w1 w2 w3 : World} {z cy : Array Value} {g2 : Nat} (h1 : g = w.heap.size ∧ w1.heap[g]? = some (.cells cs tt (0, 0)) ∧ Below w.heap.size w w1) (h2 : g2 = w1.heap.size ∧ w2.heap[g2]? = some (.cells cy 27 (0, 0)) ∧ Below w1.heap.size w1 w2) (h3 : gr = w2.heap.size ∧ w3.heap[gr]? = some (.cells z tt (0, 0)) ∧ Below w2.heap.size w2 w3) (hz : z.size = cs.size) (S : Nat → Prop) :
  Lo tt w S w3 g gr cs ∧ w3.heap[g2]? = some (.cells cy 27 (0, 0)) ∧ g2 ≠ g :=
 ⟨Lo.start (w1 := w2) h1.1 (blk_below h1.2.1 h2.2.2) (h1.2.2.trans (h2.2.2.mono h1.2.2.size)) h3.1 h3.2.1 hz h3.2.2 S, blk_below h2.2.1 h3.2.2, by have := blk_lt h1.2.1; omega⟩
theorem Lo.mv (h : Lo tt w S W g gr cs) (k : Mv S2 W W1) (hs : ∀ k, S2 k → (S k ∨ w.heap.size ≤ k) ∧ k ≠ g ∧ k ≠ gr) : Lo tt w S W1 g gr cs := by
 obtain ⟨old, ho, h2⟩ := h.at2
 exact ⟨k.os.trans h.os, k.tape.trans h.tape, k.output.trans h.output, h.kept.then_ k.kept (fun i hi => (hs i hi).1), h.hg, h.hr, h.ne, blk_kept h.at1 k.kept (fun hk => (hs _ hk).2.1 rfl), old, ho, blk_kept h2 k.kept (fun hk => (hs _ hk).2.2 rfl)⟩
theorem Lo.below (h : Lo tt w S W g gr cs) (k : Below W.heap.size W W1) : Lo tt w S W1 g gr cs := h.mv (Mv.of_below k (fun _ => False)) (fun _ hk => hk.elim)
theorem Mv.of_grown {row : Option Nat} (hg : W.grownBy W1 row) : Mv (fun k => row = some k) W W1 := ⟨hg.os, hg.tape, hg.output, hg.size, fun i hi hn => hg.block i hi (fun he => hn he.symm)⟩
theorem Lo.same {cs' : Array Value} (h : Lo tt w S W g gr cs) (hW : W1.heap[g]? = some (.cells cs' tt (0, 0))) (hs : cs'.size = cs.size) (k : Same g W W1) : Lo tt w S W1 g gr cs' := by
 obtain ⟨old, ho, h2⟩ := h.at2
 exact ⟨k.os.trans h.os, k.tape.trans h.tape, k.output.trans h.output, h.kept.then_ (S2 := fun i => i = g) ⟨by rw [k.size]; exact Nat.le_refl _, fun i _ hn => k.block i hn⟩ (fun i hi => .inr (by rw [hi]; exact h.hg)), h.hg, h.hr, h.ne, hW, old, ho.trans hs.symm, (k.block gr (Ne.symm h.ne)).trans h2⟩
/-- The result is written: what the call leaves. -/
theorem Lo.done (h : Lo tt w S W g gr cs) (k : Same gr W W1) : Mv S w W1 :=
 ⟨k.os.trans h.os, k.tape.trans h.tape, k.output.trans h.output, h.kept.then_ (S2 := fun i => i = gr) ⟨by rw [k.size]; exact Nat.le_refl _, fun i _ hn => k.block i hn⟩ (fun i hi => .inr (by rw [hi]; exact h.hr))⟩
/-- Another block, new, in place of g. -/
theorem Lo.shift {g3 : Nat} {z : Array Value} (h : Lo tt w S W g gr cs) (hg : g3 = W.heap.size) (h3 : W1.heap[g3]? = some (.cells z tt (0, 0))) (hz : z.size = cs.size) (b : Below W.heap.size W W1) : Lo tt w S W1 g3 gr z := by
 obtain ⟨old, ho, h2⟩ := h.at2
 exact ⟨b.os.trans h.os, b.tape.trans h.tape, b.output.trans h.output, h.kept.below b, by have := h.kept.1; omega, h.hr, by have := blk_lt h2; omega, h3, old, ho.trans hz.symm, blk_below h2 b⟩
theorem Lo.mv0 (h : Lo tt w S W g gr cs) : Mv S w W := ⟨h.os, h.tape, h.output, h.kept⟩
end
theorem Lo.weaken {tt : TypeId} {w W : World} {S S' : Nat → Prop} {g gr : Nat} {cs : Array Value} (h : Lo tt w S W g gr cs) (hs : ∀ k, S k → S' k) : Lo tt w S' W g gr cs := ⟨h.os, h.tape, h.output, h.kept.mono hs, h.hg, h.hr, h.ne, h.at1, h.at2⟩
section
variable {w W W1 : World} {S P : Nat → Prop} {g gr B : Nat} {cs : Array Value} {v : Value} {l : List Int} {tt : TypeId}
/-- A row of an elder world is appended to. -/
theorem Lo.app (h : Lo tt w S W g gr cs) (hS : ∀ k, S k → P k) (hR : Kd.R (Kd.int .i64) 3 w B P v l) (hg : W.grownBy W1 v.ownBlock) : Lo tt w P W1 g gr cs :=
 (h.weaken hS).mv (Mv.of_grown hg) (fun k hk => by
  have h1 := (Kd.R_bound hR).1 k hk
  exact ⟨.inl h1.1, by have := h.hg; have := h1.2.2.1; omega, by have := h.hr; have := h1.2.2.1; omega⟩)
theorem R_same {T : Array Value} (h : Kd.R (Kd.int .i64) 3 W B P v l) (hb : W.heap[g]? = some (.cells T tt (0, 0))) (ht : 3 ≠ tt) (k : Same g W W1) : Kd.R (Kd.int .i64) 3 W1 B P v l :=
 Kd.R_mono (Kd.R_step (Kd.R_types h hb (fun q hq => by
  rcases List.mem_cons.1 hq with rfl | hq
  ·
   exact ht
  ·
   exact absurd hq (by simp [Kd.int, Kd.scalar]))) (fun i hi _ => k.block i hi.2)) (fun _ hi => hi.1)
theorem R_old {w W : World} {S P : Nat → Prop} {B : Nat} {v : Value} {l : List Int} (h : Kd.R (Kd.int .i64) 3 w B P v l) (k : Mv S w W) (hS : ∀ i, P i → ¬ S i) : Kd.R (Kd.int .i64) 3 W B (fun i => P i ∨ w.heap.size ≤ i) v l :=
 Kd.R_mono (Kd.R_step h (fun i hi hlt => k.kept.2 i hlt (hS i hi))) (fun _ hi => .inl hi)
theorem R_one (h : Kd.R (Kd.int .i64) 3 w B P v l) : v.oneCell' = true := by
 obtain ⟨A, c, rfl, _⟩ := Kd.R_reads h
 rfl
/-- The result is stored. -/
theorem store_res {cd ca : Array Value} {vf vb : Value} (h : Lo 40 w S W g gr (tf cd ca vf vb)) (hd : Elf cd) (ha : Elf ca) (hf : vf.oneCell' = true) (hb : vb.oneCell' = true) :
  ∃ W1, (Instr.storeAt 40 (.pointer (some ⟨gr, 0, none⟩)) (.agg (tf cd ca vf vb))).run Tryd.prog W = .ok () W1 ∧ W1.heap[gr]? = some (.cells (tf cd ca vf vb) 40 (0, 0)) ∧ Same gr W W1 := by
 obtain ⟨old, ho, h2⟩ := h.at2
 exact store_all h2 (ho.trans (tf_size hd ha)) hd ha hf hb
end
theorem rone {α : Type} {d : Kd α} {e B : Nat} {w : World} {P : Nat → Prop} {v : Value} {l : List α} (h : d.R e w B P v l) : v.oneCell' = true := by
 obtain ⟨A, c, rfl, _⟩ := Kd.R_reads h
 rfl
def zero24 : Array Value := #[.int .i64 0, .int .i64 0, .int .i64 0, .int .i64 0, .int .i64 0, .int .i64 0, .int .i64 0, .int .i64 0, .int .i64 0, .int .i64 0, .slice none 0 0, .int .i64 0, .int .i64 0, .int .i64 0, .int .i64 0, .int .i64 0, .string (⟨#[]⟩ : ByteArray), .int .i64 0, .int .i64 0, .slice none 0 0, .slice none 0 0, .slice none 0 0, .slice none 0 0, .slice none 0 0]
theorem zero24_size : zero24.size = 24 := rfl
end Go.Proofs.YtbndoihcejieoaaDoor.G
namespace Go.Proofs.YtbndoihcejieoaaDoor.G
open Go.RowKit Go.Proofs.YtbndoihcejieoaaDoorW.PrintWords Go.Proofs.YtbndoihcejieoaaDoorW.PrintLast Go.Proofs.YtbndoihcejieoaaDoorW.PrintMore
attribute [local go_sem] max2_int min2_int max_two min_two max_three min_three max_four min_four   -- for this text's walks alone
set_option linter.unusedVariables false
set_option linter.unusedSimpArgs false

set_option maxHeartbeats 4000000 in
set_option maxRecDepth 100000 in
theorem met_calls (cd ca cy : Array Value) (hd : Elf cd) (ha : Elf ca) (hy : Elf cy) (vf vb : Value) (hf : vf.oneCell' = true) (s : Int) (hs : cy[3]? = some (.int .i64 s)) (p : Bool) (B : Nat) (P : Nat → Prop) (l : List Int) (w : World)
  (hR : Kd.R (Kd.int .i64) 3 w B P vb l) (hl : l.length < 17592186044416) (hB : B ≤ w.heap.size) :
  Calls Tryd.prog 47 #[.agg (tf cd ca vf vb), .agg cy, .bool p] w fun e w' => ∃ v : Value, e = .returned (.agg (tf cd cy vf v)) ∧ Kd.R (Kd.int .i64) 3 w' B (fun k => P k ∨ w.heap.size ≤ k) v (if p = true ∧ s = 3 then l ++ [3] else l) ∧ Mv P w w' := by
 have HD := Aside0.mk hd
 have HA := Aside0.mk ha
 have HY := Aside0.mk hy
 have HF := Aside0.mk hf
 have HR := Aside0.mk hR
 have HL := Aside0.mk hl
 have HBB := Aside0.mk hB
 have HS := Aside0.mk hs
 clear hd ha hy hf hR hl hB hs
 have hu40 := Tryd.underlying40
 have hu27 := Tryd.underlying27
 by_cases hc : p = true ∧ s = 3
 ·
  obtain ⟨rfl, rfl⟩ := hc
  go_enter Tryd.func47, Tryd.ntmps47
  go_wp2_with (first
   | ((with_reducible refine gate_dst (N := 3) rfl ?_); refine box_event rfl (N := 3) rfl (cs := tf cd ca vf vb) (t := 40) ?hr ?_; (case hr => first | (go_simp; done) | (go_simp; rfl)); intro g hg w1 h1 b1; have G1 := Aside0.mk (And.intro hg (And.intro h1 b1)); clear hg h1 b1)
   | ((with_reducible refine gate_dst (N := 4) rfl ?_); refine box_event rfl (N := 4) rfl (cs := cy) (t := 27) ?hr ?_; (case hr => first | (go_simp; done) | (go_simp; rfl)); intro g2 hg w2 h1 b1; have G2 := Aside0.mk (And.intro hg (And.intro h1 b1)); clear hg h1 b1)
   | ((with_reducible refine gate_dst (N := 6) rfl ?_); refine box_event rfl (N := 6) rfl (cs := zero24) (t := 40) ?hr ?_; (case hr => first | (go_simp; done) | (go_simp; rfl)); intro gr hg w3 h1 b1; obtain ⟨lo, at2, ne2⟩ := Lo.start3 G1.out G2.out ⟨hg, h1, b1⟩ (zero24_size.trans (tf_size HD.out HA.out).symm) (fun _ => False); have L := Aside0.mk lo; have A2 := Aside0.mk at2; have N2 := Aside0.mk ne2; clear hg h1 b1 lo at2 ne2 G1 G2)
   | ((with_reducible refine gate_dst (N := 7) rfl ?_); refine ev_load rfl (N := 7) rfl rfl (q := .pointer (some ⟨g2, 0, none⟩)) rfl (load_whole A2.out HY.out) ?_)
   | ((with_reducible refine gate_store (t := 27) (p := 8) rfl ?_); refine ev_store rfl (ty := 27) (p := 8) rfl rfl (q := .pointer (some ⟨g, 11, none⟩)) (v := .agg cy) rfl rfl (store_arr L.out.at1 HD.out HA.out HY.out) ?_; intro w4 hF; have L4 := Aside0.mk (L.out.same hF.1 ((tf_size HD.out HY.out).trans (tf_size HD.out HA.out).symm) hF.2); have A4 := Aside0.mk ((hF.2.block _ N2.out).trans A2.out); have hc3 : w4.cell? ⟨g2, 3, none⟩ = some (.int .i64 3) := (cell_of_row w4 g2 3 cy 27 (0, 0) A4.out).trans HS.out; have hc23 := cell_b L4.out.at1 HD.out HY.out; clear hF L A2)
   | ((with_reducible refine gate_builtin (b := .append) (xs := #[.tmp 16, .tmp 17]) rfl ?_); at_builtin; refine Kd.R_append (Kd.int .i64) (w0 := w) B rfl (.tmp 16) (.tmp 17) 25 3 (.int .i64 0) 8 rfl Tryd.underlying25 info3 rfl (by decide) (by omega) vb l 3 [.int .i64 3] (fun k => P k ∨ w.heap.size ≤ k) (fun _ => False) rfl ?hx rfl (fun _ hk => hk.elim) ?aF (R_old HR.out L4.out.mv0 (fun _ _ hk => hk)) (L4.out.mv0.below HBB.out (fun _ hk => hk.elim)) (Nat.le_trans HBB.out L4.out.kept.1) ?aL ?_; (case hx => first | (go_simp; done) | (go_simp; rfl)); (case aF => exact fun k hk => .inr (Nat.le_trans L4.out.kept.1 hk)); (case aL => have := HL.out; omega); intro v1 w5 ho hb hg hat; have L5 := Aside0.mk (L4.out.app (fun _ hk => hk.elim) HR.out hg); have O5 := Aside0.mk ho; clear ho hb hg hat L4 hc23 hc3)
   | ((with_reducible refine gate_store (t := 25) (p := 19) rfl ?_); refine ev_store rfl (ty := 25) (p := 19) rfl rfl (q := .pointer (some ⟨g, 23, none⟩)) (v := v1) rfl rfl (store_b L5.out.at1 HD.out HY.out (R_one O5.out)) ?_; intro w6 hF; have L6 := Aside0.mk (L5.out.same hF.1 ((tf_size HD.out HY.out).trans (tf_size HD.out HY.out).symm) hF.2); have O6 := Aside0.mk (R_same O5.out L5.out.at1 (by decide) hF.2); clear hF L5 O5)
   | ((with_reducible refine gate_dst (N := 20) rfl ?_); refine ev_load rfl (N := 20) rfl rfl (q := .pointer (some ⟨g, 0, none⟩)) rfl (load_all L6.out.at1 HD.out HY.out) ?_)
   | ((with_reducible refine gate_store (t := 40) (p := 6) rfl ?_); refine ev_store rfl (ty := 40) (p := 6) rfl rfl (q := .pointer (some ⟨gr, 0, none⟩)) (v := .agg (tf cd cy vf v1)) rfl rfl (store_res L6.out HD.out HY.out HF.out (R_one O6.out)) ?_; intro w7 hF; have A7 := Aside0.mk hF.1; have M7 := Aside0.mk (L6.out.done hF.2); have O7 := Aside0.mk (R_same O6.out (L6.out.at2.choose_spec.2) (by decide) hF.2); clear hF L6 O6))
  refine bodyPost_ret (results_cell_row rfl _ _ gr 40 (tf cd cy vf v1) (0, 0) _ rfl A7.out Tryd.underlying40 rfl (by rw [tf_size HD.out HY.out]; kernel_rfl)) rfl ?_
  exact ⟨v1, rfl, O7.out, M7.out⟩
 ·
  rw [if_neg hc]
  cases p with
  | true =>
   have hs3 : (s == 3) = false := beq_eq_false_iff_ne.mpr (fun e => hc ⟨rfl, e⟩)
   clear hc
   go_enter Tryd.func47, Tryd.ntmps47
   go_wp2_with (first
    | ((with_reducible refine gate_dst (N := 3) rfl ?_); refine box_event rfl (N := 3) rfl (cs := tf cd ca vf vb) (t := 40) ?hr ?_; (case hr => first | (go_simp; done) | (go_simp; rfl)); intro g hg w1 h1 b1; have G1 := Aside0.mk (And.intro hg (And.intro h1 b1)); clear hg h1 b1)
    | ((with_reducible refine gate_dst (N := 4) rfl ?_); refine box_event rfl (N := 4) rfl (cs := cy) (t := 27) ?hr ?_; (case hr => first | (go_simp; done) | (go_simp; rfl)); intro g2 hg w2 h1 b1; have G2 := Aside0.mk (And.intro hg (And.intro h1 b1)); clear hg h1 b1)
    | ((with_reducible refine gate_dst (N := 6) rfl ?_); refine box_event rfl (N := 6) rfl (cs := zero24) (t := 40) ?hr ?_; (case hr => first | (go_simp; done) | (go_simp; rfl)); intro gr hg w3 h1 b1; obtain ⟨lo, at2, ne2⟩ := Lo.start3 G1.out G2.out ⟨hg, h1, b1⟩ (zero24_size.trans (tf_size HD.out HA.out).symm) (fun _ => False); have L := Aside0.mk lo; have A2 := Aside0.mk at2; have N2 := Aside0.mk ne2; clear hg h1 b1 lo at2 ne2 G1 G2)
    | ((with_reducible refine gate_dst (N := 7) rfl ?_); refine ev_load rfl (N := 7) rfl rfl (q := .pointer (some ⟨g2, 0, none⟩)) rfl (load_whole A2.out HY.out) ?_)
    | ((with_reducible refine gate_store (t := 27) (p := 8) rfl ?_); refine ev_store rfl (ty := 27) (p := 8) rfl rfl (q := .pointer (some ⟨g, 11, none⟩)) (v := .agg cy) rfl rfl (store_arr L.out.at1 HD.out HA.out HY.out) ?_; intro w4 hF; have L4 := Aside0.mk (L.out.same hF.1 ((tf_size HD.out HY.out).trans (tf_size HD.out HA.out).symm) hF.2); have A4 := Aside0.mk ((hF.2.block _ N2.out).trans A2.out); have hc3 : w4.cell? ⟨g2, 3, none⟩ = some (.int .i64 s) := (cell_of_row w4 g2 3 cy 27 (0, 0) A4.out).trans HS.out; clear hF L A2)
    | ((with_reducible refine gate_dst (N := 20) rfl ?_); refine ev_load rfl (N := 20) rfl rfl (q := .pointer (some ⟨g, 0, none⟩)) rfl (load_all L4.out.at1 HD.out HY.out) ?_)
    | ((with_reducible refine gate_store (t := 40) (p := 6) rfl ?_); refine ev_store rfl (ty := 40) (p := 6) rfl rfl (q := .pointer (some ⟨gr, 0, none⟩)) (v := .agg (tf cd cy vf vb)) rfl rfl (store_res L4.out HD.out HY.out HF.out (R_one HR.out)) ?_; intro w7 hF; have A7 := Aside0.mk hF.1; have M7 := Aside0.mk (L4.out.done hF.2); clear hF L4 hc3))
   refine bodyPost_ret (results_cell_row rfl _ _ gr 40 (tf cd cy vf vb) (0, 0) _ rfl A7.out Tryd.underlying40 rfl (by rw [tf_size HD.out HY.out]; kernel_rfl)) rfl ?_
   exact ⟨vb, rfl, R_old HR.out M7.out (fun _ _ hk => hk), ⟨M7.out.os, M7.out.tape, M7.out.output, M7.out.kept.mono (fun _ hk => hk.elim)⟩⟩
  | false =>
   clear hc
   go_enter Tryd.func47, Tryd.ntmps47
   go_wp2_with (first
    | ((with_reducible refine gate_dst (N := 3) rfl ?_); refine box_event rfl (N := 3) rfl (cs := tf cd ca vf vb) (t := 40) ?hr ?_; (case hr => first | (go_simp; done) | (go_simp; rfl)); intro g hg w1 h1 b1; have G1 := Aside0.mk (And.intro hg (And.intro h1 b1)); clear hg h1 b1)
    | ((with_reducible refine gate_dst (N := 4) rfl ?_); refine box_event rfl (N := 4) rfl (cs := cy) (t := 27) ?hr ?_; (case hr => first | (go_simp; done) | (go_simp; rfl)); intro g2 hg w2 h1 b1; have G2 := Aside0.mk (And.intro hg (And.intro h1 b1)); clear hg h1 b1)
    | ((with_reducible refine gate_dst (N := 6) rfl ?_); refine box_event rfl (N := 6) rfl (cs := zero24) (t := 40) ?hr ?_; (case hr => first | (go_simp; done) | (go_simp; rfl)); intro gr hg w3 h1 b1; obtain ⟨lo, at2, ne2⟩ := Lo.start3 G1.out G2.out ⟨hg, h1, b1⟩ (zero24_size.trans (tf_size HD.out HA.out).symm) (fun _ => False); have L := Aside0.mk lo; have A2 := Aside0.mk at2; have N2 := Aside0.mk ne2; clear hg h1 b1 lo at2 ne2 G1 G2)
    | ((with_reducible refine gate_dst (N := 7) rfl ?_); refine ev_load rfl (N := 7) rfl rfl (q := .pointer (some ⟨g2, 0, none⟩)) rfl (load_whole A2.out HY.out) ?_)
    | ((with_reducible refine gate_store (t := 27) (p := 8) rfl ?_); refine ev_store rfl (ty := 27) (p := 8) rfl rfl (q := .pointer (some ⟨g, 11, none⟩)) (v := .agg cy) rfl rfl (store_arr L.out.at1 HD.out HA.out HY.out) ?_; intro w4 hF; have L4 := Aside0.mk (L.out.same hF.1 ((tf_size HD.out HY.out).trans (tf_size HD.out HA.out).symm) hF.2); have A4 := Aside0.mk ((hF.2.block _ N2.out).trans A2.out); have hc3 : w4.cell? ⟨g2, 3, none⟩ = some (.int .i64 s) := (cell_of_row w4 g2 3 cy 27 (0, 0) A4.out).trans HS.out; clear hF L A2)
    | ((with_reducible refine gate_dst (N := 20) rfl ?_); refine ev_load rfl (N := 20) rfl rfl (q := .pointer (some ⟨g, 0, none⟩)) rfl (load_all L4.out.at1 HD.out HY.out) ?_)
    | ((with_reducible refine gate_store (t := 40) (p := 6) rfl ?_); refine ev_store rfl (ty := 40) (p := 6) rfl rfl (q := .pointer (some ⟨gr, 0, none⟩)) (v := .agg (tf cd cy vf vb)) rfl rfl (store_res L4.out HD.out HY.out HF.out (R_one HR.out)) ?_; intro w7 hF; have A7 := Aside0.mk hF.1; have M7 := Aside0.mk (L4.out.done hF.2); clear hF L4 hc3))
   refine bodyPost_ret (results_cell_row rfl _ _ gr 40 (tf cd cy vf vb) (0, 0) _ rfl A7.out Tryd.underlying40 rfl (by rw [tf_size HD.out HY.out]; kernel_rfl)) rfl ?_
   exact ⟨vb, rfl, R_old HR.out M7.out (fun _ _ hk => hk), ⟨M7.out.os, M7.out.tape, M7.out.output, M7.out.kept.mono (fun _ hk => hk.elim)⟩⟩
end Go.Proofs.YtbndoihcejieoaaDoor.G
namespace Go.Proofs.YtbndoihcejieoaaDoor.G
open Go.RowKit Go.Proofs.YtbndoihcejieoaaDoorW.PrintWords Go.Proofs.YtbndoihcejieoaaDoorW.PrintLast Go.Proofs.YtbndoihcejieoaaDoorW.PrintMore
set_option linter.unusedVariables false
set_option linter.unusedSimpArgs false

theorem exec_load {P : Program} {o : Oper} {a : Act} {W : World} {ty : TypeId} {x : Operand} (ho : o.op = .load ty x) {q v : Value} (hx : a.eval x = q) (hr : (Instr.loadAt ty q).run P W = .ok v W) : (execOp a.eval o).run P W = .ok (.value v) W := by
 unfold execOp
 simp only [ho, hx, hr, Sem.run_bind, Sem.run_pure, Result.andThen_ok]
theorem exec_store {P : Program} {o : Oper} {a : Act} {W W1 : World} {ty : TypeId} {x y : Operand} (ho : o.op = .store ty x y) {q v : Value} (hx : a.eval x = q) (hy : a.eval y = v) (hr : (Instr.storeAt ty q v).run P W = .ok () W1) : (execOp a.eval o).run P W = .ok .skip W1 := by
 unfold execOp
 simp only [ho, hx, hy, hr, Sem.run_bind, Sem.run_pure, Result.andThen_ok]
theorem load_lot {W : World} {g : Nat} {T : Array Value} (h : W.heap[g]? = some (.cells T 24 (0, 0))) (hT : T.size = 5) : (Instr.loadAt 24 (.pointer (some ⟨g, 0, none⟩))).run Tryd.prog W = .ok (.agg T) W := by
 have := run_loadAt_mid (P := Tryd.prog) W g 0 24 T.toList _ (fun j v hv => by rw [Nat.zero_add, cell_of_row W g j T 24 (0, 0) h]; simpa using hv) Tryd.underlying24 rfl (by rw [Array.length_toList, hT]; kernel_rfl)
 simpa using this
/-- A lot into an arrival. -/
theorem store_lot {W : World} {g : Nat} (b0 b1 b2 b3 b4 : Int) (b5 : ByteArray) (b6 b7 : Int) (v8 v9 v10 : Value) (c4 : Int) (c5 : ByteArray) (c6 c7 : Int) {c8 : Value} (h8 : c8.oneCell' = true)
  (h : W.heap[g]? = some (.cells #[.int .i64 b0, .int .i64 b1, .int .i64 b2, .int .i64 b3, .int .i64 b4, .string b5, .int .i64 b6, .int .i64 b7, v8, v9, v10] 27 (0, 0))) :
  ∃ W1, (Instr.storeAt 24 (.pointer (some ⟨g, 4, none⟩)) (.agg #[.int .i64 c4, .string c5, .int .i64 c6, .int .i64 c7, c8])).run Tryd.prog W = .ok () W1 ∧ W1.heap[g]? = some (.cells #[.int .i64 b0, .int .i64 b1, .int .i64 b2, .int .i64 b3, .int .i64 c4, .string c5, .int .i64 c6, .int .i64 c7, c8, v9, v10] 27 (0, 0)) ∧ Same g W W1 :=
 store_gen h 4 24 _ (by show 4 + 5 ≤ 11; omega) (by kernel_rfl) (by
  refine Array.all_eq_true_iff_forall_mem.2 (fun x hx => ?_)
  simp only [List.mem_toArray, List.mem_cons, List.not_mem_nil, or_false] at hx
  rcases hx with rfl | rfl | rfl | rfl | rfl <;> first | rfl | assumption) _ rfl

section
variable {P : Program} {ops : Array Oper} {Q : Exit → Act → World → Prop} {S : World → Prop} {ds : List Nat} {md : Region.Mode}
/-- The last store of a region that draws, in one step. -/
theorem last_store {i : Nat} {oi : Oper} {fuel : Nat} {l : Array Bool} {a : Act} {w w1 : World} (l' : Array Bool) (hi : ops[i]? = some oi) (hN : oi.dst = none) (hc : readyB md ops l l' i = true) (hd : i ∈ ds)
  (hw : Region.wanted oi (yielded ops a.tmps) = true) (hrun : (execOp a.eval oi).run P w = .ok .skip w1) (h : wpAnyLast P md ops Q S ds fuel l' a w1) : wpAnyLast P md ops Q S ds (fuel + 1) l a w :=
 last_ l' hi hN hc hd (fun K hK => skip_ hw hN hrun (hK.out _ _ h))
end
/-- A body on an arrival (block g), beside a lot (block g2), its result (block gr); w3: the last call. -/
structure St (w w3 W : World) (g gr g2 : Nat) (T LOT : Array Value) : Prop where
 lo : Lo 27 w (fun _ => False) W g gr T
 lot : W.heap[g2]? = some (.cells LOT 24 (0, 0))
 n1 : g2 ≠ g
 n2 : g2 ≠ gr
 mv : Mv (fun k => k = g ∨ k = gr) w3 W
section
variable {w w3 W W1 : World} {g gr g2 : Nat} {T T' LOT : Array Value}
theorem Mv.refl (P : Nat → Prop) (w : World) : Mv P w w := ⟨rfl, rfl, rfl, Kept.refl _ _⟩
theorem Mv.same (S : Nat → Prop) (hS : S g) (k : Same g W W1) : Mv S W W1 := ⟨k.os, k.tape, k.output, by rw [k.size]; exact Nat.le_refl _, fun i _ hn => k.block i (fun e => hn (e ▸ hS))⟩
theorem St.start {w1 w2 : World} {z : Array Value} (h1 : g = w.heap.size ∧ w1.heap[g]? = some (.cells T 27 (0, 0)) ∧ Below w.heap.size w w1) (h2 : g2 = w1.heap.size ∧ w2.heap[g2]? = some (.cells LOT 24 (0, 0)) ∧ Below w1.heap.size w1 w2) (h3 : gr = w2.heap.size ∧ W.heap[gr]? = some (.cells z 27 (0, 0)) ∧ Below w2.heap.size w2 W) (hz : z.size = T.size) : St w W W g gr g2 T LOT :=
 ⟨Lo.start (w1 := w2) h1.1 (blk_below h1.2.1 h2.2.2) (h1.2.2.trans (h2.2.2.mono h1.2.2.size)) h3.1 h3.2.1 hz h3.2.2 _, blk_below h2.2.1 h3.2.2, by have := blk_lt h1.2.1; omega, by have := blk_lt h2.2.1; omega, Mv.refl _ _⟩
theorem St.same (h : St w w3 W g gr g2 T LOT) (hW : W1.heap[g]? = some (.cells T' 27 (0, 0))) (hs : T'.size = T.size) (k : Same g W W1) : St w w3 W1 g gr g2 T' LOT :=
 ⟨h.lo.same hW hs k, (k.block _ h.n1).trans h.lot, h.n1, h.n2, h.mv.then_ (Mv.same _ (.inl rfl) k) (fun _ hk => .inl hk)⟩
theorem St.call (h : St w w3 W g gr g2 T LOT) (k : Below W.heap.size W W1) : St w W1 W1 g gr g2 T LOT := ⟨h.lo.below k, blk_below h.lot k, h.n1, h.n2, Mv.refl _ _⟩
theorem St.draw (h : St w w3 W g gr g2 T LOT) : St w w3 W.drew g gr g2 T LOT :=
 have b : Below W.heap.size W W.drew := (Below.refl _ _).drew
 ⟨h.lo.below b, blk_below h.lot b, h.n1, h.n2, h.mv.then_ (Mv.of_below b _) (fun _ hk => .inl hk)⟩
theorem St.below (h : St w w3 W g gr g2 T LOT) : Below w.heap.size w W := h.lo.mv0.below (Nat.le_refl _) (fun _ hk => hk.elim)
/-- A row made by a call at a time when both blocks lay. -/
theorem R_past {α : Type} {d : Kd α} {e B : Nat} {Q : Nat → Prop} {v : Value} {l : List α} {Tg Tr : Array Value} (ht : ∀ q, q ∈ e :: d.E → q ≠ 27) (h : d.R e w3 B Q v l) (h1 : w3.heap[g]? = some (.cells Tg 27 (0, 0))) (h2 : w3.heap[gr]? = some (.cells Tr 27 (0, 0))) (k : Mv (fun k => k = g ∨ k = gr) w3 W) : d.R e W B Q v l :=
 Kd.R_mono (Kd.R_step (Kd.R_types (Kd.R_types h h1 ht) h2 ht) (fun i hi hlt => k.kept.2 i hlt (fun e => e.elim hi.1.2 hi.2))) (fun _ hk => hk.1.1)
end
end Go.Proofs.YtbndoihcejieoaaDoor.G
namespace Go.Proofs.YtbndoihcejieoaaDoor.G

/-- Which of a region's n operations are done, written as a number. -/
def bmask (n m : Nat) : Array Bool := ((List.range n).map fun i => m.testBit i).toArray
end Go.Proofs.YtbndoihcejieoaaDoor.G
namespace Go.Proofs.YtbndoihcejieoaaDoor.G
open Go.RowKit Go.Proofs.YtbndoihcejieoaaDoorW.PrintWords Go.Proofs.YtbndoihcejieoaaDoorW.PrintLast Go.Proofs.YtbndoihcejieoaaDoorW.PrintMore
attribute [local go_sem] max2_int min2_int max_two min_two max_three min_three max_four min_four   -- for this text's walks alone
set_option linter.unusedVariables false
set_option linter.unusedSimpArgs false

def api_Slice.f (l0 : List S89) : Option (List S89) := if l0.length < 5864062014806 then some l0 else none
set_option maxHeartbeats 8000000 in
set_option maxRecDepth 100000 in
theorem api_Slice.calls (A0 : Option Addr) (c0 : Nat) (l0 : List S89) (r : List S89) (w : World) (hr0 : Kd.C k89 w A0 l0.length l0) (hc0 : l0.length ≤ c0) (h : api_Slice.f l0 = some r) :
  Calls Tryd.prog 63 #[.slice A0 l0.length c0] w fun e w' => ∃ v0_ : Value, e = .returned (v0_) ∧ Kd.R k89 89 w' w.heap.size (fun _ => True) v0_ r ∧ Below w.heap.size w w' := by
 obtain ⟨hl, rfl⟩ : l0.length < 5864062014806 ∧ l0 = r := by
  unfold api_Slice.f at h
  by_cases c : l0.length < 5864062014806
  ·
   rw [if_pos c] at h
   exact ⟨c, Option.some.inj h⟩
  ·
   rw [if_neg c] at h
   cases h
 clear h
 rcases A0 with _ | ad
 ·
  have h0 : l0 = [] := by
   rcases Nat.eq_zero_or_pos l0.length with q | q
   ·
    exact List.eq_nil_of_length_eq_zero q
   ·
    obtain ⟨ad, e, _⟩ := hr0.2.2 q
    cases e
  subst h0
  clear hr0 hc0 hl
  have hq : ∀ W : World, (binOp .eql 22 (.slice none 0 c0) (.slice none 0 0)).run Tryd.prog W = .ok (.bool true) W := fun W => by
   simp only [binOp]
   simp [run_equal_slice_nil W 22 89 none 0 c0 Tryd.underlying22]
  go_enter Tryd.func63, Tryd.ntmps63
  go_wp2
  go_ret
  exact ⟨_, rfl, Kd.R_nil _ _ _ _ _, by repeat (first | exact Below.refl _ _ | apply pw_below_drewN | apply below_drew1)⟩
 ·
  have HR := Aside0.mk hr0
  have HL := Aside0.mk hl
  clear hr0 hc0 hl
  have hq : ∀ W : World, (binOp .eql 22 (.slice (some ad) l0.length c0) (.slice none 0 0)).run Tryd.prog W = .ok (.bool false) W := fun W => by
   simp only [binOp]
   simp [run_equal_slice_nil W 22 89 (some ad) l0.length c0 Tryd.underlying22]
  go_enter Tryd.func63, Tryd.ntmps63
  go_wp2_with (first | ((with_reducible refine gate_dst (N := 5) rfl ?_); refine Kd.R_lit k89 (w0 := w) w.heap.size 89 ?hg (N := 5) ?hd (xs := ([] : List S89)) (inner := []) (ok := fun _ => True) (okp := fun _ => True) ?hr ?hp (fun _ hk => hk) trivial ?hb ?hs (by simp) ?_; (case hd => rfl); (case hg => rfl); (case hr => first | (go_simp; done) | (go_simp; rfl)); (case hp => exact (Reps.none _ _)); (case hb => repeat (first | exact Below.refl _ _ | apply pw_below_drewN | apply below_drew1)); (case hs => exact below_size (by repeat (first | exact Below.refl _ _ | apply pw_below_drewN | apply below_drew1))); intro v5 w1 ho hb hg_ hnew_; have HO := Aside0.mk ho; have HB := Aside0.mk hb; clear hg_ hnew_ ho hb) | ((with_reducible refine gate_builtin (b := .append) (xs := #[.tmp 5, .tmp 6]) rfl ?_); at_builtin; refine Kd.R_append_rows k89 (w0 := w) w.heap.size rfl (.tmp 5) (.tmp 6) 22 89 (.agg #[(.int .i64 0), (.int .i64 0), (.int .i64 0)]) 24 rfl Tryd.underlying22 info89 rfl (by decide) (by omega) v5 ([] : List S89) l0 (some ad) _ _ (fun _ => True) (fun _ => False) rfl rfl ?aO ?aR (fun _ _ h => h) (fun _ h => h.elim) (fun _ _ => trivial) ?aB ?aS ?aL ?_; (case aO => exact HO.out); (case aR => exact Kd.C_below HR.out HB.out); (case aB => exact HB.out); (case aS => exact HB.out.size); (case aL => have := HL.out; simp only [List.length_nil]; omega); intro v7 w2 ho hb hg hat; have HO7 := Aside0.mk (show Kd.R k89 89 w2 w.heap.size (fun _ => True) v7 l0 from ho); have HB7 := Aside0.mk hb; clear ho hb hg hat))
  go_ret
  exact ⟨_, rfl, HO7.out, HB7.out⟩

def transit_twin.f (a0_0 : Int) (a0_1 : ByteArray) (a0_2 : Int) (a0_3 : Int) (l0_4 : List (S89)) : Option (Int × ByteArray × Int × Int × (List (S89))) := (api_Slice.f l0_4).bind fun t103 => (some (a0_0, a0_1, a0_2, a0_3, t103))
set_option maxHeartbeats 8000000 in
set_option maxRecDepth 100000 in
theorem transit_twin.calls (a0_0 : Int) (a0_1 : ByteArray) (a0_2 : Int) (a0_3 : Int) (A0_4 : Option Addr) (c0_4 : Nat) (l0_4 : List (S89)) (r1 : Int) (r2 : ByteArray) (r3 : Int) (r4 : Int) (r5 : List (S89)) (w : World) (hr0_4 : Kd.C k89 w A0_4 l0_4.length l0_4) (hc0_4 : l0_4.length ≤ c0_4) (h : transit_twin.f a0_0 a0_1 a0_2 a0_3 l0_4 = some (r1, r2, r3, r4, r5)) :
  Calls Tryd.prog 42 #[.agg #[.int .i64 a0_0, .string a0_1, .int .i64 a0_2, .int .i64 a0_3, .slice A0_4 l0_4.length c0_4]] w fun e w' => ∃ v4_ : Value, e = .returned (.agg #[.int .i64 r1, .string r2, .int .i64 r3, .int .i64 r4, v4_]) ∧ Kd.R k89 89 w' w.heap.size (fun _ => True) v4_ r5 ∧ Below w.heap.size w w' := by
 have hu24 := Tryd.underlying24
 have HR0_4 := Aside0.mk hr0_4
 have HC0_4 := Aside0.mk hc0_4
 clear hr0_4 hc0_4
 have HB := Aside0.mk (Below.refl w.heap.size w)
 have H : ((api_Slice.f l0_4).bind fun t103 => (some (a0_0, a0_1, a0_2, a0_3, t103))) = some (r1, r2, r3, r4, r5) := h
 clear h
 replace H := Option.bind_eq_some_iff.mp H
 obtain ⟨t103, A20, H⟩ := H
 replace H : (some (a0_0, a0_1, a0_2, a0_3, t103)) = some (r1, r2, r3, r4, r5) := H
 have A2 := Aside0.mk A20
 clear A20
 simp only [Option.some.injEq, Prod.mk.injEq] at H
 obtain ⟨rfl, rfl, rfl, rfl, rfl⟩ := H
 go_enter Tryd.func42, Tryd.ntmps42
 go_wp2_with (first | ((with_reducible refine gate_dst (N := 1) rfl ?_); refine box_event ?hg (N := 1) ?hd (cs := #[.int .i64 a0_0, .string a0_1, .int .i64 a0_2, .int .i64 a0_3, .slice A0_4 l0_4.length c0_4]) (t := 24) ?hr ?_; (case hd => rfl); (case hg => rfl); (case hr => first | (go_simp; done) | (go_simp; rfl)); intro gb101 hg w3 hbox hb; have n0_ := Aside0.mk (below_step (by repeat (first | (with_reducible first | exact HB.out | apply below_alloc | apply pw_below_drewN | apply below_drew1) | exact HB.out)) hb); have n1_ := Aside0.mk (hbox); have n2_ := Aside0.mk ((by rw [hg]; exact (below_size (by repeat (first | (with_reducible first | exact HB.out | apply below_alloc | apply pw_below_drewN | apply below_drew1) | exact HB.out))) : w.heap.size ≤ gb101)); have n3_ := Aside0.mk ((by rw [hg]; exact (below_size (by repeat (first | (with_reducible first | exact HB.out | apply below_alloc | apply pw_below_drewN | apply below_drew1) | exact HB.out))) : w.heap.size ≤ gb101)); clear HB; have HB := n0_; have BK101 := n1_; have GW101 := n2_; have GE101 := n3_; clear n0_ n1_ n2_ n3_; clear hb hbox hg) | ((with_reducible refine gate_dst (N := 2) rfl ?_); refine box_event ?hg (N := 2) ?hd (cs := #[.int .i64 0, .string (⟨#[]⟩ : ByteArray), .int .i64 0, .int .i64 0, .slice none 0 0]) (t := 24) ?hr ?_; (case hd => rfl); (case hg => rfl); (case hr => first | (go_simp; done) | (go_simp; rfl)); intro gb102 hg w4 hbox hb; have n0_ := Aside0.mk (blk_below (g := gb101) (o := .cells #[.int .i64 a0_0, .string a0_1, .int .i64 a0_2, .int .i64 a0_3, .slice A0_4 l0_4.length c0_4] 24 (0, 0)) (by (with_reducible repeat (first | refine blk_drewN ?_ _ | refine blk_drew ?_ | refine blk_alloc ?_ _)); exact BK101.out) hb); have n1_ := Aside0.mk (below_step (by repeat (first | (with_reducible first | exact HB.out | apply below_alloc | apply pw_below_drewN | apply below_drew1 | refine below_set ?_ GE101.out) | exact HB.out)) hb); have n2_ := Aside0.mk (hbox); have n3_ := Aside0.mk ((by rw [hg]; exact (below_size (by repeat (first | (with_reducible first | exact HB.out | apply below_alloc | apply pw_below_drewN | apply below_drew1 | refine below_set ?_ GE101.out) | exact HB.out))) : w.heap.size ≤ gb102)); have n4_ := Aside0.mk ((by rw [hg]; exact (below_size (by repeat (first | (with_reducible first | exact HB.out | apply below_alloc | apply pw_below_drewN | apply below_drew1 | refine below_set ?_ GE101.out) | exact HB.out))) : w.heap.size ≤ gb102)); have n5_ := Aside0.mk ((by rw [hg]; exact Nat.ne_of_lt (blk_lt (g := gb101) (o := .cells #[.int .i64 a0_0, .string a0_1, .int .i64 a0_2, .int .i64 a0_3, .slice A0_4 l0_4.length c0_4] 24 (0, 0)) (by (with_reducible repeat (first | refine blk_drewN ?_ _ | refine blk_drew ?_ | refine blk_alloc ?_ _)); exact BK101.out)) : gb101 ≠ gb102)); have n6_ := Aside0.mk ((by rw [hg]; exact Nat.ne_of_gt (blk_lt (g := gb101) (o := .cells #[.int .i64 a0_0, .string a0_1, .int .i64 a0_2, .int .i64 a0_3, .slice A0_4 l0_4.length c0_4] 24 (0, 0)) (by (with_reducible repeat (first | refine blk_drewN ?_ _ | refine blk_drew ?_ | refine blk_alloc ?_ _)); exact BK101.out)) : gb102 ≠ gb101)); clear BK101; clear HB; have BK101 := n0_; have HB := n1_; have BK102 := n2_; have GW102 := n3_; have GE102 := n4_; have NB101_102 := n5_; have NB102_101 := n6_; clear n0_ n1_ n2_ n3_ n4_ n5_ n6_; clear hb hbox hg; have hnb5 := NB101_102.out; have hnc5 := NB102_101.out; have hcz6_0 : w4.cell? ⟨gb101, 0, none⟩ = some (.int .i64 a0_0) := (blk_cell BK101.out 0).trans rfl; have hcz6_1 : w4.cell? ⟨gb101, 1, none⟩ = some (.string a0_1) := (blk_cell BK101.out 1).trans rfl; have hcz6_2 : w4.cell? ⟨gb101, 2, none⟩ = some (.int .i64 a0_2) := (blk_cell BK101.out 2).trans rfl; have hcz6_3 : w4.cell? ⟨gb101, 3, none⟩ = some (.int .i64 a0_3) := (blk_cell BK101.out 3).trans rfl; have hcz6_4 : w4.cell? ⟨gb101, 4, none⟩ = some (.slice A0_4 l0_4.length c0_4) := (blk_cell BK101.out 4).trans rfl; have hfz6_0 := blk_frozen BK101.out 0; have hfz6_1 := blk_frozen BK101.out 1; have hfz6_2 := blk_frozen BK101.out 2; have hfz6_3 := blk_frozen BK101.out 3; have hfz6_4 := blk_frozen BK101.out 4; (try (have hpz6_1 : ∀ v0_ v1_ : Value, ((w4.setCell ⟨gb101, 0, none⟩ v0_).setCell ⟨gb101, 1, none⟩ v1_).cell? ⟨gb101, 1, none⟩ = some v1_ := by (intros; go_simp))); (try (have hpz6_2 : ∀ v0_ v1_ v2_ : Value, (((w4.setCell ⟨gb101, 0, none⟩ v0_).setCell ⟨gb101, 1, none⟩ v1_).setCell ⟨gb101, 2, none⟩ v2_).cell? ⟨gb101, 2, none⟩ = some v2_ := by (intros; go_simp))); (try (have hpz6_3 : ∀ v0_ v1_ v2_ v3_ : Value, ((((w4.setCell ⟨gb101, 0, none⟩ v0_).setCell ⟨gb101, 1, none⟩ v1_).setCell ⟨gb101, 2, none⟩ v2_).setCell ⟨gb101, 3, none⟩ v3_).cell? ⟨gb101, 3, none⟩ = some v3_ := by (intros; go_simp))); (try (have hpz6_4 : ∀ v0_ v1_ v2_ v3_ v4_ : Value, (((((w4.setCell ⟨gb101, 0, none⟩ v0_).setCell ⟨gb101, 1, none⟩ v1_).setCell ⟨gb101, 2, none⟩ v2_).setCell ⟨gb101, 3, none⟩ v3_).setCell ⟨gb101, 4, none⟩ v4_).cell? ⟨gb101, 4, none⟩ = some v4_ := by (intros; go_simp)))) | ((with_reducible refine gate_callee (f := 63) rfl ?_); refine goesL_ (some 5) rfl rfl Tryd.func63 (by kernel_rfl) rfl #[.slice A0_4 l0_4.length c0_4] rfl (by (try simp only [List.map_toArray, List.map_cons, List.map_nil]); first | done | rfl | (simp only [List.length_drop, List.length_take]; rfl)) ?_; (with_reducible refine (api_Slice.calls _ _ l0_4 t103 _ ?side1 ?side2 A2.out).mono ?_); (case side1 => repeat (first | exact (Kd.C_below HR0_4.out HB.out) | (with_reducible refine Kd.C_alloc ?_ _) | (with_reducible refine Kd.C_drewN ?_ _) | (with_reducible refine Kd.C_drew ?_))); (case side2 => exact HC0_4.out); rintro e w7 ⟨v104, rfl, ho0, hb⟩; refine ⟨_, rfl, ?_⟩; have n0_ := Aside0.mk (Kd.R_lower ho0 (below_size (by repeat (first | (with_reducible first | exact HB.out | apply below_alloc | apply pw_below_drewN | apply below_drew1 | refine below_set ?_ GE101.out | refine below_set ?_ GE102.out) | exact HB.out)))); have n1_ := Aside0.mk (blk_below (g := gb101) (o := .cells #[.int .i64 a0_0, .string a0_1, .int .i64 a0_2, .int .i64 a0_3, .slice A0_4 l0_4.length c0_4] 24 (0, 0)) (by (with_reducible repeat (first | refine blk_drewN ?_ _ | refine blk_drew ?_ | refine blk_alloc ?_ _)); exact BK101.out) hb); have n2_ := Aside0.mk (blk_below (g := gb102) (o := .cells #[.int .i64 0, .string (⟨#[]⟩ : ByteArray), .int .i64 0, .int .i64 0, .slice none 0 0] 24 (0, 0)) (by (with_reducible repeat (first | refine blk_drewN ?_ _ | refine blk_drew ?_ | refine blk_alloc ?_ _)); exact BK102.out) hb); have n3_ := Aside0.mk (below_step (by repeat (first | (with_reducible first | exact HB.out | apply below_alloc | apply pw_below_drewN | apply below_drew1 | refine below_set ?_ GE101.out | refine below_set ?_ GE102.out) | exact HB.out)) hb); clear BK101; clear BK102; clear HB; have HO105 := n0_; have BK101 := n1_; have BK102 := n2_; have HB := n3_; clear n0_ n1_ n2_ n3_; (try clear hb); (try clear hb2); (try clear hk); (try clear hi); (try clear ho0); obtain ⟨Ao8, co8, eo8⟩ := Kd.R_slice HO105.out; subst eo8; have hcz9_0 : w7.cell? ⟨gb101, 0, none⟩ = some (.int .i64 a0_0) := (blk_cell BK101.out 0).trans rfl; have hcz9_1 : w7.cell? ⟨gb101, 1, none⟩ = some (.string a0_1) := (blk_cell BK101.out 1).trans rfl; have hcz9_2 : w7.cell? ⟨gb101, 2, none⟩ = some (.int .i64 a0_2) := (blk_cell BK101.out 2).trans rfl; have hcz9_3 : w7.cell? ⟨gb101, 3, none⟩ = some (.int .i64 a0_3) := (blk_cell BK101.out 3).trans rfl; have hcz9_4 : w7.cell? ⟨gb101, 4, none⟩ = some (.slice A0_4 l0_4.length c0_4) := (blk_cell BK101.out 4).trans rfl; have hfz9_0 := blk_frozen BK101.out 0; have hfz9_1 := blk_frozen BK101.out 1; have hfz9_2 := blk_frozen BK101.out 2; have hfz9_3 := blk_frozen BK101.out 3; have hfz9_4 := blk_frozen BK101.out 4; (try (have hpz9_1 : ∀ v0_ v1_ : Value, ((w7.setCell ⟨gb101, 0, none⟩ v0_).setCell ⟨gb101, 1, none⟩ v1_).cell? ⟨gb101, 1, none⟩ = some v1_ := by (intros; go_simp))); (try (have hpz9_2 : ∀ v0_ v1_ v2_ : Value, (((w7.setCell ⟨gb101, 0, none⟩ v0_).setCell ⟨gb101, 1, none⟩ v1_).setCell ⟨gb101, 2, none⟩ v2_).cell? ⟨gb101, 2, none⟩ = some v2_ := by (intros; go_simp))); (try (have hpz9_3 : ∀ v0_ v1_ v2_ v3_ : Value, ((((w7.setCell ⟨gb101, 0, none⟩ v0_).setCell ⟨gb101, 1, none⟩ v1_).setCell ⟨gb101, 2, none⟩ v2_).setCell ⟨gb101, 3, none⟩ v3_).cell? ⟨gb101, 3, none⟩ = some v3_ := by (intros; go_simp))); (try (have hpz9_4 : ∀ v0_ v1_ v2_ v3_ v4_ : Value, (((((w7.setCell ⟨gb101, 0, none⟩ v0_).setCell ⟨gb101, 1, none⟩ v1_).setCell ⟨gb101, 2, none⟩ v2_).setCell ⟨gb101, 3, none⟩ v3_).setCell ⟨gb101, 4, none⟩ v4_).cell? ⟨gb101, 4, none⟩ = some v4_ := by (intros; go_simp))); have hcz10_0 : w7.cell? ⟨gb102, 0, none⟩ = some (.int .i64 0) := (blk_cell BK102.out 0).trans rfl; have hcz10_1 : w7.cell? ⟨gb102, 1, none⟩ = some (.string (⟨#[]⟩ : ByteArray)) := (blk_cell BK102.out 1).trans rfl; have hcz10_2 : w7.cell? ⟨gb102, 2, none⟩ = some (.int .i64 0) := (blk_cell BK102.out 2).trans rfl; have hcz10_3 : w7.cell? ⟨gb102, 3, none⟩ = some (.int .i64 0) := (blk_cell BK102.out 3).trans rfl; have hcz10_4 : w7.cell? ⟨gb102, 4, none⟩ = some (.slice none 0 0) := (blk_cell BK102.out 4).trans rfl; have hfz10_0 := blk_frozen BK102.out 0; have hfz10_1 := blk_frozen BK102.out 1; have hfz10_2 := blk_frozen BK102.out 2; have hfz10_3 := blk_frozen BK102.out 3; have hfz10_4 := blk_frozen BK102.out 4; (try (have hpz10_1 : ∀ v0_ v1_ : Value, ((w7.setCell ⟨gb102, 0, none⟩ v0_).setCell ⟨gb102, 1, none⟩ v1_).cell? ⟨gb102, 1, none⟩ = some v1_ := by (intros; go_simp))); (try (have hpz10_2 : ∀ v0_ v1_ v2_ : Value, (((w7.setCell ⟨gb102, 0, none⟩ v0_).setCell ⟨gb102, 1, none⟩ v1_).setCell ⟨gb102, 2, none⟩ v2_).cell? ⟨gb102, 2, none⟩ = some v2_ := by (intros; go_simp))); (try (have hpz10_3 : ∀ v0_ v1_ v2_ v3_ : Value, ((((w7.setCell ⟨gb102, 0, none⟩ v0_).setCell ⟨gb102, 1, none⟩ v1_).setCell ⟨gb102, 2, none⟩ v2_).setCell ⟨gb102, 3, none⟩ v3_).cell? ⟨gb102, 3, none⟩ = some v3_ := by (intros; go_simp))); (try (have hpz10_4 : ∀ v0_ v1_ v2_ v3_ v4_ : Value, (((((w7.setCell ⟨gb102, 0, none⟩ v0_).setCell ⟨gb102, 1, none⟩ v1_).setCell ⟨gb102, 2, none⟩ v2_).setCell ⟨gb102, 3, none⟩ v3_).setCell ⟨gb102, 4, none⟩ v4_).cell? ⟨gb102, 4, none⟩ = some v4_ := by (intros; go_simp)))))
 refine bodyPost_ret (results_cell_row rfl _ _ gb102 24 #[.int .i64 a0_0, .string a0_1, .int .i64 a0_2, .int .i64 a0_3, .slice Ao8 t103.length co8] (0, 0) _ rfl (by (with_reducible repeat (first | refine blk_drewN ?_ _ | refine blk_drew ?_ | refine blk_alloc ?_ _)); refine blk_put (cs := #[.int .i64 a0_0, .string a0_1, .int .i64 a0_2, .int .i64 a0_3, .slice none 0 0]) ?_ 4 _ rfl; (with_reducible repeat (first | refine blk_drewN ?_ _ | refine blk_drew ?_ | refine blk_alloc ?_ _)); refine blk_put (cs := #[.int .i64 a0_0, .string a0_1, .int .i64 a0_2, .int .i64 0, .slice none 0 0]) ?_ 3 _ rfl; (with_reducible repeat (first | refine blk_drewN ?_ _ | refine blk_drew ?_ | refine blk_alloc ?_ _)); refine blk_put (cs := #[.int .i64 a0_0, .string a0_1, .int .i64 0, .int .i64 0, .slice none 0 0]) ?_ 2 _ rfl; (with_reducible repeat (first | refine blk_drewN ?_ _ | refine blk_drew ?_ | refine blk_alloc ?_ _)); refine blk_put (cs := #[.int .i64 a0_0, .string (⟨#[]⟩ : ByteArray), .int .i64 0, .int .i64 0, .slice none 0 0]) ?_ 1 _ rfl; (with_reducible repeat (first | refine blk_drewN ?_ _ | refine blk_drew ?_ | refine blk_alloc ?_ _)); refine blk_put (cs := #[.int .i64 0, .string (⟨#[]⟩ : ByteArray), .int .i64 0, .int .i64 0, .slice none 0 0]) ?_ 0 _ rfl; (with_reducible repeat (first | refine blk_drewN ?_ _ | refine blk_drew ?_ | refine blk_alloc ?_ _)); refine blk_far ?_ NB102_101.out _; (with_reducible repeat (first | refine blk_drewN ?_ _ | refine blk_drew ?_ | refine blk_alloc ?_ _)); exact BK102.out) Tryd.underlying24 rfl (by kernel_rfl)) rfl ?_
 exact ⟨_, by first | rfl | (simp [errW_none, errW_some] <;> rfl) | (simp [*, errW_none, errW_some] <;> rfl), by (with_reducible repeat (first | apply Kd.R_alloc | apply Kd.R_drewN | apply Kd.R_drew)); exact Kd.R_mono (Kd.R_far (p := ⟨gb102, 4, none⟩) (Kd.R_far (p := ⟨gb102, 3, none⟩) (Kd.R_far (p := ⟨gb102, 2, none⟩) (Kd.R_far (p := ⟨gb102, 1, none⟩) (Kd.R_far (p := ⟨gb102, 0, none⟩) (Kd.R_far (p := ⟨gb101, 4, none⟩) (Kd.R_types (Kd.R_types HO105.out BK101.out (by decide)) BK102.out (by decide)) (fun _ hk => hk.1.2) (.slice Ao8 t103.length co8)) (fun _ hk => hk.2) (.int .i64 a0_0)) (fun _ hk => hk.2) (.string a0_1)) (fun _ hk => hk.2) (.int .i64 a0_2)) (fun _ hk => hk.2) (.int .i64 a0_3)) (fun _ hk => hk.2) (.slice Ao8 t103.length co8)) (fun _ hk => trivial), by repeat (first | (with_reducible first | exact HB.out | apply below_alloc | apply pw_below_drewN | apply below_drew1 | refine below_set ?_ GE101.out | refine below_set ?_ GE102.out) | exact HB.out)⟩

def slices_Clone_int_int.f (l0 : List Int) : Option (List Int) := if l0.length < 17592186044417 then some l0 else none
set_option maxHeartbeats 8000000 in
set_option maxRecDepth 100000 in
theorem slices_Clone_int_int.calls (A0 : Option Addr) (c0 : Nat) (l0 : List Int) (r : List Int) (w : World) (hr0 : Kd.C (Kd.int .i64) w A0 l0.length l0) (hc0 : l0.length ≤ c0) (h : slices_Clone_int_int.f l0 = some r) :
  Calls Tryd.prog 43 #[.slice A0 l0.length c0] w fun e w' => ∃ v0_ : Value, e = .returned (v0_) ∧ Kd.R (Kd.int .i64) 3 w' w.heap.size (fun _ => True) v0_ r ∧ Below w.heap.size w w' := by
 obtain ⟨hl, rfl⟩ : l0.length < 17592186044417 ∧ l0 = r := by
  unfold slices_Clone_int_int.f at h
  by_cases c : l0.length < 17592186044417
  ·
   rw [if_pos c] at h
   exact ⟨c, Option.some.inj h⟩
  ·
   rw [if_neg c] at h
   cases h
 clear h
 rcases A0 with _ | ad
 ·
  have h0 : l0 = [] := by
   rcases Nat.eq_zero_or_pos l0.length with q | q
   ·
    exact List.eq_nil_of_length_eq_zero q
   ·
    obtain ⟨ad, e, _⟩ := hr0.2.2 q
    cases e
  subst h0
  clear hr0 hc0 hl
  have hq : ∀ W : World, (binOp .eql 25 (.slice none 0 c0) (.slice none 0 0)).run Tryd.prog W = .ok (.bool true) W := fun W => by
   simp only [binOp]
   simp [run_equal_slice_nil W 25 3 none 0 c0 Tryd.underlying25]
  go_enter Tryd.func43, Tryd.ntmps43
  go_wp2
  go_ret
  exact ⟨_, rfl, Kd.R_nil _ _ _ _ _, by repeat (first | exact Below.refl _ _ | apply pw_below_drewN | apply below_drew1)⟩
 ·
  have HR := Aside0.mk hr0
  have HL := Aside0.mk hl
  clear hr0 hc0 hl
  have hq : ∀ W : World, (binOp .eql 25 (.slice (some ad) l0.length c0) (.slice none 0 0)).run Tryd.prog W = .ok (.bool false) W := fun W => by
   simp only [binOp]
   simp [run_equal_slice_nil W 25 3 (some ad) l0.length c0 Tryd.underlying25]
  go_enter Tryd.func43, Tryd.ntmps43
  go_wp2_with (first | ((with_reducible refine gate_dst (N := 5) rfl ?_); refine Kd.R_lit (Kd.int .i64) (w0 := w) w.heap.size 3 ?hg (N := 5) ?hd (xs := ([] : List Int)) (inner := []) (ok := fun _ => True) (okp := fun _ => True) ?hr ?hp (fun _ hk => hk) trivial ?hb ?hs (by simp) ?_; (case hd => rfl); (case hg => rfl); (case hr => first | (go_simp; done) | (go_simp; rfl)); (case hp => exact (Reps.none _ _)); (case hb => repeat (first | exact Below.refl _ _ | apply pw_below_drewN | apply below_drew1)); (case hs => exact below_size (by repeat (first | exact Below.refl _ _ | apply pw_below_drewN | apply below_drew1))); intro v5 w1 ho hb hg_ hnew_; have HO := Aside0.mk ho; have HB := Aside0.mk hb; clear hg_ hnew_ ho hb) | ((with_reducible refine gate_builtin (b := .append) (xs := #[.tmp 5, .tmp 6]) rfl ?_); at_builtin; refine Kd.R_append_rows (Kd.int .i64) (w0 := w) w.heap.size rfl (.tmp 5) (.tmp 6) 25 3 (.int .i64 0) 8 rfl Tryd.underlying25 info3 rfl (by decide) (by omega) v5 ([] : List Int) l0 (some ad) _ _ (fun _ => True) (fun _ => False) rfl rfl ?aO ?aR (fun _ _ h => h) (fun _ h => h.elim) (fun _ _ => trivial) ?aB ?aS ?aL ?_; (case aO => exact HO.out); (case aR => exact Kd.C_below HR.out HB.out); (case aB => exact HB.out); (case aS => exact HB.out.size); (case aL => have := HL.out; simp only [List.length_nil]; omega); intro v7 w2 ho hb hg hat; have HO7 := Aside0.mk (show Kd.R (Kd.int .i64) 3 w2 w.heap.size (fun _ => True) v7 l0 from ho); have HB7 := Aside0.mk hb; clear ho hb hg hat))
  go_ret
  exact ⟨_, rfl, HO7.out, HB7.out⟩

def transit_arrived.f (a0_0 : Int) (a0_1 : Int) (a0_2 : Int) (a0_3 : Int) (a0_4 : Int) (a0_5 : ByteArray) (a0_6 : Int) (a0_7 : Int) (l0_8 : List (S89)) (l0_9 : List Int) (l0_10 : List Int) : Option (Int × Int × Int × Int × Int × ByteArray × Int × Int × (List (S89)) × List Int × List Int) := (transit_twin.f a0_4 a0_5 a0_6 a0_7 l0_8).bind fun bt108 => ((slices_Clone_int_int.f l0_9).bind fun t115 => ((slices_Clone_int_int.f l0_10).bind fun t118 => (some (a0_0, a0_1, a0_2, a0_3, bt108.1, bt108.2.1, bt108.2.2.1, bt108.2.2.2.1, bt108.2.2.2.2, t115, t118))))
def transit_arrived.T1 : Bool × List (List Nat × List Nat) := (true, [([], []), ([0], [0]), ([1], [1]), ([], []), ([3], [3]), ([4, 2], [4]), ([], []), ([6], [6]), ([7, 5], [7]), ([0, 1, 2, 3, 4, 6, 7], []), ([9, 2, 8, 0, 1, 2, 3, 4, 6, 7], [2, 9]), ([0, 1, 2, 3, 4, 5, 6, 7, 9, 10], []), ([11, 5, 10, 0, 1, 2, 3, 4, 5, 6, 7, 9, 10], [5, 11]), ([0, 1, 2, 3, 4, 5, 6, 7, 8, 9, 10, 11, 12], []), ([13, 8, 12, 0, 1, 2, 3, 4, 5, 6, 7, 8, 9, 10, 11, 12], [8, 13])])
def transit_arrived.B1 : List Nat := [0, 1, 3, 0, 8, 31, 0, 64, 255, 223, 1023, 2047, 4095, 8191, 16383]
theorem transit_arrived.tab1 : rtab .any (opsOf Tryd.f40 1) = transit_arrived.T1 := by kernel_rfl
theorem transit_arrived.bits1 : waitsOk transit_arrived.T1.2 transit_arrived.B1 = true := by kernel_rfl
set_option maxHeartbeats 8000000 in
set_option maxRecDepth 100000 in
theorem transit_arrived.calls (a0_0 : Int) (a0_1 : Int) (a0_2 : Int) (a0_3 : Int) (a0_4 : Int) (a0_5 : ByteArray) (a0_6 : Int) (a0_7 : Int) (A0_8 : Option Addr) (c0_8 : Nat) (l0_8 : List (S89)) (A0_9 : Option Addr) (c0_9 : Nat) (l0_9 : List Int) (A0_10 : Option Addr) (c0_10 : Nat) (l0_10 : List Int) (r1 : Int) (r2 : Int) (r3 : Int) (r4 : Int) (r5 : Int) (r6 : ByteArray) (r7 : Int) (r8 : Int) (r9 : List (S89)) (r10 : List Int) (r11 : List Int) (w : World) (hr0_8 : Kd.C k89 w A0_8 l0_8.length l0_8) (hc0_8 : l0_8.length ≤ c0_8) (hr0_9 : Kd.C (Kd.int .i64) w A0_9 l0_9.length l0_9) (hc0_9 : l0_9.length ≤ c0_9) (hr0_10 : Kd.C (Kd.int .i64) w A0_10 l0_10.length l0_10) (hc0_10 : l0_10.length ≤ c0_10) (h : transit_arrived.f a0_0 a0_1 a0_2 a0_3 a0_4 a0_5 a0_6 a0_7 l0_8 l0_9 l0_10 = some (r1, r2, r3, r4, r5, r6, r7, r8, r9, r10, r11)) :
  Calls Tryd.prog 40 #[.agg #[.int .i64 a0_0, .int .i64 a0_1, .int .i64 a0_2, .int .i64 a0_3, .int .i64 a0_4, .string a0_5, .int .i64 a0_6, .int .i64 a0_7, .slice A0_8 l0_8.length c0_8, .slice A0_9 l0_9.length c0_9, .slice A0_10 l0_10.length c0_10]] w fun e w' => ∃ v8_ v9_ v10_ : Value, e = .returned (.agg #[.int .i64 r1, .int .i64 r2, .int .i64 r3, .int .i64 r4, .int .i64 r5, .string r6, .int .i64 r7, .int .i64 r8, v8_, v9_, v10_]) ∧ Kd.R k89 89 w' w.heap.size (fun _ => True) v8_ r9 ∧ Kd.R (Kd.int .i64) 3 w' w.heap.size (fun k_ => some k_ ≠ (v10_ : Value).ownBlock) v9_ r10 ∧ Kd.R (Kd.int .i64) 3 w' w.heap.size (fun k_ => some k_ ≠ (v9_ : Value).ownBlock) v10_ r11 ∧ Below w.heap.size w w' := by
 have hu27 := Tryd.underlying27
 have hu24 := Tryd.underlying24
 have HR0_8 := Aside0.mk hr0_8
 have HC0_8 := Aside0.mk hc0_8
 clear hr0_8 hc0_8
 have HR0_9 := Aside0.mk hr0_9
 have HC0_9 := Aside0.mk hc0_9
 clear hr0_9 hc0_9
 have HR0_10 := Aside0.mk hr0_10
 have HC0_10 := Aside0.mk hc0_10
 clear hr0_10 hc0_10
 have HB := Aside0.mk (Below.refl w.heap.size w)
 have H : ((transit_twin.f a0_4 a0_5 a0_6 a0_7 l0_8).bind fun bt108 => ((slices_Clone_int_int.f l0_9).bind fun t115 => ((slices_Clone_int_int.f l0_10).bind fun t118 => (some (a0_0, a0_1, a0_2, a0_3, bt108.1, bt108.2.1, bt108.2.2.1, bt108.2.2.2.1, bt108.2.2.2.2, t115, t118))))) = some (r1, r2, r3, r4, r5, r6, r7, r8, r9, r10, r11) := h
 clear h
 replace H := Option.bind_eq_some_iff.mp H
 obtain ⟨⟨t108, t109, t110, t111, t112⟩, A20, H⟩ := H
 replace H : ((slices_Clone_int_int.f l0_9).bind fun t115 => ((slices_Clone_int_int.f l0_10).bind fun t118 => (some (a0_0, a0_1, a0_2, a0_3, t108, t109, t110, t111, t112, t115, t118)))) = some (r1, r2, r3, r4, r5, r6, r7, r8, r9, r10, r11) := H
 have A2 := Aside0.mk A20
 clear A20
 replace H := Option.bind_eq_some_iff.mp H
 obtain ⟨t115, A30, H⟩ := H
 replace H : ((slices_Clone_int_int.f l0_10).bind fun t118 => (some (a0_0, a0_1, a0_2, a0_3, t108, t109, t110, t111, t112, t115, t118))) = some (r1, r2, r3, r4, r5, r6, r7, r8, r9, r10, r11) := H
 have A3 := Aside0.mk A30
 clear A30
 replace H := Option.bind_eq_some_iff.mp H
 obtain ⟨t118, A40, H⟩ := H
 replace H : (some (a0_0, a0_1, a0_2, a0_3, t108, t109, t110, t111, t112, t115, t118)) = some (r1, r2, r3, r4, r5, r6, r7, r8, r9, r10, r11) := H
 have A4 := Aside0.mk A40
 clear A40
 simp only [Option.some.injEq, Prod.mk.injEq] at H
 obtain ⟨rfl, rfl, rfl, rfl, rfl, rfl, rfl, rfl, rfl, rfl, rfl⟩ := H
 go_enter Tryd.func40, Tryd.ntmps40
 try go_wp2_with (first | ((with_reducible refine gate_dst (N := 1) rfl ?_); refine box_event ?hg (N := 1) ?hd (cs := #[.int .i64 a0_0, .int .i64 a0_1, .int .i64 a0_2, .int .i64 a0_3, .int .i64 a0_4, .string a0_5, .int .i64 a0_6, .int .i64 a0_7, .slice A0_8 l0_8.length c0_8, .slice A0_9 l0_9.length c0_9, .slice A0_10 l0_10.length c0_10]) (t := 27) ?hr ?_; (case hd => rfl); (case hg => rfl); (case hr => first | (go_simp; done) | (go_simp; rfl)); intro gb106 hg w5 hbox hb; have n0_ := Aside0.mk (below_step (by repeat (first | (with_reducible first | exact HB.out | apply below_alloc | apply pw_below_drewN | apply below_drew1) | exact HB.out)) hb); have n1_ := Aside0.mk (hbox); have n2_ := Aside0.mk ((by rw [hg]; exact (below_size (by repeat (first | (with_reducible first | exact HB.out | apply below_alloc | apply pw_below_drewN | apply below_drew1) | exact HB.out))) : w.heap.size ≤ gb106)); have n3_ := Aside0.mk ((by rw [hg]; exact (below_size (by repeat (first | (with_reducible first | exact HB.out | apply below_alloc | apply pw_below_drewN | apply below_drew1) | exact HB.out))) : w.heap.size ≤ gb106)); clear HB; have HB := n0_; have BK106 := n1_; have GW106 := n2_; have GE106 := n3_; clear n0_ n1_ n2_ n3_; clear hb hbox hg) | ((with_reducible refine gate_dst (N := 2) rfl ?_); refine box_event ?hg (N := 2) ?hd (cs := #[.int .i64 0, .int .i64 0, .int .i64 0, .int .i64 0, .int .i64 0, .string (⟨#[]⟩ : ByteArray), .int .i64 0, .int .i64 0, .slice none 0 0, .slice none 0 0, .slice none 0 0]) (t := 27) ?hr ?_; (case hd => rfl); (case hg => rfl); (case hr => first | (go_simp; done) | (go_simp; rfl)); intro gb107 hg w6 hbox hb; have n0_ := Aside0.mk (blk_below (g := gb106) (o := .cells #[.int .i64 a0_0, .int .i64 a0_1, .int .i64 a0_2, .int .i64 a0_3, .int .i64 a0_4, .string a0_5, .int .i64 a0_6, .int .i64 a0_7, .slice A0_8 l0_8.length c0_8, .slice A0_9 l0_9.length c0_9, .slice A0_10 l0_10.length c0_10] 27 (0, 0)) (by (with_reducible repeat (first | refine blk_drewN ?_ _ | refine blk_drew ?_ | refine blk_alloc ?_ _)); exact BK106.out) hb); have n1_ := Aside0.mk (below_step (by repeat (first | (with_reducible first | exact HB.out | apply below_alloc | apply pw_below_drewN | apply below_drew1 | refine below_set ?_ GE106.out) | exact HB.out)) hb); have n2_ := Aside0.mk (hbox); have n3_ := Aside0.mk ((by rw [hg]; exact (below_size (by repeat (first | (with_reducible first | exact HB.out | apply below_alloc | apply pw_below_drewN | apply below_drew1 | refine below_set ?_ GE106.out) | exact HB.out))) : w.heap.size ≤ gb107)); have n4_ := Aside0.mk ((by rw [hg]; exact (below_size (by repeat (first | (with_reducible first | exact HB.out | apply below_alloc | apply pw_below_drewN | apply below_drew1 | refine below_set ?_ GE106.out) | exact HB.out))) : w.heap.size ≤ gb107)); have n5_ := Aside0.mk ((by rw [hg]; exact Nat.ne_of_lt (blk_lt (g := gb106) (o := .cells #[.int .i64 a0_0, .int .i64 a0_1, .int .i64 a0_2, .int .i64 a0_3, .int .i64 a0_4, .string a0_5, .int .i64 a0_6, .int .i64 a0_7, .slice A0_8 l0_8.length c0_8, .slice A0_9 l0_9.length c0_9, .slice A0_10 l0_10.length c0_10] 27 (0, 0)) (by (with_reducible repeat (first | refine blk_drewN ?_ _ | refine blk_drew ?_ | refine blk_alloc ?_ _)); exact BK106.out)) : gb106 ≠ gb107)); have n6_ := Aside0.mk ((by rw [hg]; exact Nat.ne_of_gt (blk_lt (g := gb106) (o := .cells #[.int .i64 a0_0, .int .i64 a0_1, .int .i64 a0_2, .int .i64 a0_3, .int .i64 a0_4, .string a0_5, .int .i64 a0_6, .int .i64 a0_7, .slice A0_8 l0_8.length c0_8, .slice A0_9 l0_9.length c0_9, .slice A0_10 l0_10.length c0_10] 27 (0, 0)) (by (with_reducible repeat (first | refine blk_drewN ?_ _ | refine blk_drew ?_ | refine blk_alloc ?_ _)); exact BK106.out)) : gb107 ≠ gb106)); clear BK106; clear HB; have BK106 := n0_; have HB := n1_; have BK107 := n2_; have GW107 := n3_; have GE107 := n4_; have NB106_107 := n5_; have NB107_106 := n6_; clear n0_ n1_ n2_ n3_ n4_ n5_ n6_; clear hb hbox hg))
 have n0_ := Aside0.mk (blk_drew BK106.out)
 have n1_ := Aside0.mk (blk_drew BK107.out)
 have n2_ := Aside0.mk (below_drew1 HB.out)
 clear BK106
 clear BK107
 clear HB
 have BK106 := n0_
 have BK107 := n1_
 have HB := n2_
 clear n0_ n1_ n2_
 refine start_ (n := 15) (S := fun w' => w'.cell? ⟨gb106, 0, none⟩ = some (.int .i64 a0_0) ∧ w'.cell? ⟨gb106, 1, none⟩ = some (.int .i64 a0_1) ∧ w'.cell? ⟨gb106, 2, none⟩ = some (.int .i64 a0_2) ∧ w'.cell? ⟨gb106, 3, none⟩ = some (.int .i64 a0_3) ∧ w'.cell? ⟨gb106, 4, none⟩ = some (.int .i64 a0_4) ∧ w'.cell? ⟨gb106, 5, none⟩ = some (.string a0_5) ∧ w'.cell? ⟨gb106, 6, none⟩ = some (.int .i64 a0_6) ∧ w'.cell? ⟨gb106, 7, none⟩ = some (.int .i64 a0_7) ∧ w'.cell? ⟨gb106, 8, none⟩ = some (.slice A0_8 l0_8.length c0_8) ∧ w'.cell? ⟨gb106, 9, none⟩ = some (.slice A0_9 l0_9.length c0_9) ∧ w'.cell? ⟨gb106, 10, none⟩ = some (.slice A0_10 l0_10.length c0_10)) (ds := [10, 12, 14]) #[false, false, false, false, false, false, false, false, false, false, false, false, false, false, false] (by kernel_rfl) rfl rfl ⟨(blk_cell BK106.out 0).trans rfl, (blk_cell BK106.out 1).trans rfl, (blk_cell BK106.out 2).trans rfl, (blk_cell BK106.out 3).trans rfl, (blk_cell BK106.out 4).trans rfl, (blk_cell BK106.out 5).trans rfl, (blk_cell BK106.out 6).trans rfl, (blk_cell BK106.out 7).trans rfl, (blk_cell BK106.out 8).trans rfl, (blk_cell BK106.out 9).trans rfl, (blk_cell BK106.out 10).trans rfl⟩ (fun hHeld => ?_); refine with_tabW transit_arrived.tab1 transit_arrived.bits1 (fun HT_ HW_ => ?_)
 generalize w6.drew = w7 at BK106 BK107 HB hHeld ⊢
 refine pure_ (i := 0) (N := some 3) (v := ?_) (a' := ?_) #[true, false, false, false, false, false, false, false, false, false, false, false, false, false, false] rfl rfl (any_of HT_.out (by kernel_rfl)) (fun _ _ _ h => h) (Or.inl ⟨by rfl, ?_⟩) ?_ ?_
 rotate_left
 ·
  intro w'
  go_simp
  with_reducible rfl
 rotate_left
 ·
  simp only [Act.put, List.setIfInBounds_toArray, List.set_cons_zero, List.set_cons_succ, i64_w, i32_w]
  rfl
 refine pure_ (i := 3) (N := some 6) (v := ?_) (a' := ?_) #[true, false, false, true, false, false, false, false, false, false, false, false, false, false, false] rfl rfl (any_of HT_.out (by kernel_rfl)) (fun _ _ _ h => h) (Or.inl ⟨by rfl, ?_⟩) ?_ ?_
 rotate_left
 ·
  intro w'
  go_simp
  with_reducible rfl
 rotate_left
 ·
  simp only [Act.put, List.setIfInBounds_toArray, List.set_cons_zero, List.set_cons_succ, i64_w, i32_w]
  rfl
 refine pure_ (i := 6) (N := some 9) (v := ?_) (a' := ?_) #[true, false, false, true, false, false, true, false, false, false, false, false, false, false, false] rfl rfl (any_of HT_.out (by kernel_rfl)) (fun _ _ _ h => h) (Or.inl ⟨by rfl, ?_⟩) ?_ ?_
 rotate_left
 ·
  intro w'
  go_simp
  with_reducible rfl
 rotate_left
 ·
  simp only [Act.put, List.setIfInBounds_toArray, List.set_cons_zero, List.set_cons_succ, i64_w, i32_w]
  rfl
 refine take_ (i := 1) (N := some 4) (v := ?_) (a' := ?_) #[true, true, false, true, false, false, true, false, false, false, false, false, false, false, false] rfl rfl (take_ofW HT_.out HW_.out (by kernel_rfl)) (fun _ _ _ h => h) (Or.inl ⟨by rfl, ?_⟩) hHeld ?_ ?_
 rotate_left
 ·
  rintro w' ⟨s0, s1, s2, s3, s4, s5, s6, s7, s8, s9, s10⟩
  go_simp
  with_reducible rfl
 rotate_left
 ·
  simp only [Act.put, List.setIfInBounds_toArray, List.set_cons_zero, List.set_cons_succ, i64_w, i32_w]
  rfl
 refine take_ (i := 4) (N := some 7) (v := ?_) (a' := ?_) #[true, true, false, true, true, false, true, false, false, false, false, false, false, false, false] rfl rfl (take_ofW HT_.out HW_.out (by kernel_rfl)) (fun _ _ _ h => h) (Or.inl ⟨by rfl, ?_⟩) hHeld ?_ ?_
 rotate_left
 ·
  rintro w' ⟨s0, s1, s2, s3, s4, s5, s6, s7, s8, s9, s10⟩
  go_simp
  with_reducible rfl
 rotate_left
 ·
  simp only [Act.put, List.setIfInBounds_toArray, List.set_cons_zero, List.set_cons_succ, i64_w, i32_w]
  rfl
 refine take_ (i := 7) (N := some 10) (v := ?_) (a' := ?_) #[true, true, false, true, true, false, true, true, false, false, false, false, false, false, false] rfl rfl (take_ofW HT_.out HW_.out (by kernel_rfl)) (fun _ _ _ h => h) (Or.inl ⟨by rfl, ?_⟩) hHeld ?_ ?_
 rotate_left
 ·
  rintro w' ⟨s0, s1, s2, s3, s4, s5, s6, s7, s8, s9, s10⟩
  go_simp
  with_reducible rfl
 rotate_left
 ·
  simp only [Act.put, List.setIfInBounds_toArray, List.set_cons_zero, List.set_cons_succ, i64_w, i32_w]
  rfl
 refine one_ (i := 2) (N := some 5) #[true, true, true, true, true, false, true, true, false, false, false, false, false, false, false] rfl rfl (one_of HT_.out (by kernel_rfl)) (by decide) (fun K hK => ?_)
 refine goes_ Tryd.func42 (by kernel_rfl) rfl #[.agg #[.int .i64 a0_4, .string a0_5, .int .i64 a0_6, .int .i64 a0_7, .slice A0_8 l0_8.length c0_8]] (by rfl) rfl rfl (by (try simp only [List.map_toArray, List.map_cons, List.map_nil]); first | done | rfl | (simp only [List.length_drop, List.length_take]; rfl)) ?_
 with_reducible refine (transit_twin.calls a0_4 a0_5 a0_6 a0_7 _ _ l0_8 t108 t109 t110 t111 t112 _ ?side1 ?side2 A2.out).mono ?_
 (case side1 => repeat (first | exact (Kd.C_below HR0_8.out HB.out) | (with_reducible refine Kd.C_alloc ?_ _) | (with_reducible refine Kd.C_drewN ?_ _) | (with_reducible refine Kd.C_drew ?_)))
 (case side2 => exact HC0_8.out)
 rintro e w8 ⟨v113, rfl, ho0, hb⟩
 refine ⟨_, rfl, ?_⟩
 have n0_ := Aside0.mk (Kd.R_lower ho0 (below_size (by repeat (first | (with_reducible first | exact HB.out | apply below_alloc | apply pw_below_drewN | apply below_drew1 | refine below_set ?_ GE106.out | refine below_set ?_ GE107.out) | exact HB.out))))
 have n1_ := Aside0.mk (blk_below (g := gb106) (o := .cells #[.int .i64 a0_0, .int .i64 a0_1, .int .i64 a0_2, .int .i64 a0_3, .int .i64 a0_4, .string a0_5, .int .i64 a0_6, .int .i64 a0_7, .slice A0_8 l0_8.length c0_8, .slice A0_9 l0_9.length c0_9, .slice A0_10 l0_10.length c0_10] 27 (0, 0)) (by (with_reducible repeat (first | refine blk_drewN ?_ _ | refine blk_drew ?_ | refine blk_alloc ?_ _)); exact BK106.out) hb)
 have n2_ := Aside0.mk (blk_below (g := gb107) (o := .cells #[.int .i64 0, .int .i64 0, .int .i64 0, .int .i64 0, .int .i64 0, .string (⟨#[]⟩ : ByteArray), .int .i64 0, .int .i64 0, .slice none 0 0, .slice none 0 0, .slice none 0 0] 27 (0, 0)) (by (with_reducible repeat (first | refine blk_drewN ?_ _ | refine blk_drew ?_ | refine blk_alloc ?_ _)); exact BK107.out) hb)
 have n3_ := Aside0.mk (below_step (by repeat (first | (with_reducible first | exact HB.out | apply below_alloc | apply pw_below_drewN | apply below_drew1 | refine below_set ?_ GE106.out | refine below_set ?_ GE107.out) | exact HB.out)) hb)
 clear BK106
 clear BK107
 clear HB
 have HO114 := n0_
 have BK106 := n1_
 have BK107 := n2_
 have HB := n3_
 clear n0_ n1_ n2_ n3_
 (try clear hb)
 (try clear hb2)
 (try clear hk)
 (try clear hi)
 (try clear ho0)
 refine hK.out _ _ ⟨(blk_cell BK106.out 0).trans rfl, (blk_cell BK106.out 1).trans rfl, (blk_cell BK106.out 2).trans rfl, (blk_cell BK106.out 3).trans rfl, (blk_cell BK106.out 4).trans rfl, (blk_cell BK106.out 5).trans rfl, (blk_cell BK106.out 6).trans rfl, (blk_cell BK106.out 7).trans rfl, (blk_cell BK106.out 8).trans rfl, (blk_cell BK106.out 9).trans rfl, (blk_cell BK106.out 10).trans rfl⟩ (fun hHeld => ?_)
 clear hK K
 refine norm_ (a' := ?_) ?_ ?_
 rotate_left
 ·
  show Act.put _ (some 5) _ = _
  simp only [Act.put, List.setIfInBounds_toArray, List.set_cons_zero, List.set_cons_succ, i64_w, i32_w]
  rfl
 refine pure_ (i := 9) (N := some 12) (v := ?_) (a' := ?_) #[true, true, true, true, true, false, true, true, false, true, false, false, false, false, false] rfl rfl (any_of HT_.out (by kernel_rfl)) (fun _ _ _ h => h) (Or.inl ⟨by rfl, ?_⟩) ?_ ?_
 rotate_left
 ·
  intro w'
  go_simp
  with_reducible rfl
 rotate_left
 ·
  simp only [Act.put, List.setIfInBounds_toArray, List.set_cons_zero, List.set_cons_succ, i64_w, i32_w]
  rfl
 refine one_ (i := 5) (N := some 8) #[true, true, true, true, true, true, true, true, false, true, false, false, false, false, false] rfl rfl (one_of HT_.out (by kernel_rfl)) (by decide) (fun K hK => ?_)
 refine goes_ Tryd.func43 (by kernel_rfl) rfl #[.slice A0_9 l0_9.length c0_9] (by rfl) rfl rfl (by (try simp only [List.map_toArray, List.map_cons, List.map_nil]); first | done | rfl | (simp only [List.length_drop, List.length_take]; rfl)) ?_
 with_reducible refine (slices_Clone_int_int.calls _ _ l0_9 t115 _ ?side1 ?side2 A3.out).mono ?_
 (case side1 => repeat (first | exact (Kd.C_below HR0_9.out HB.out) | (with_reducible refine Kd.C_alloc ?_ _) | (with_reducible refine Kd.C_drewN ?_ _) | (with_reducible refine Kd.C_drew ?_)))
 (case side2 => exact HC0_9.out)
 rintro e w9 ⟨v116, rfl, ho0, hb⟩
 refine ⟨_, rfl, ?_⟩
 have n0_ := Aside0.mk (Kd.R_below (by (with_reducible repeat (first | apply Kd.R_alloc | apply Kd.R_drewN | apply Kd.R_drew)); exact HO114.out) hb)
 have n1_ := Aside0.mk (Kd.R_lower ho0 (below_size (by repeat (first | (with_reducible first | exact HB.out | apply below_alloc | apply pw_below_drewN | apply below_drew1 | refine below_set ?_ GE106.out | refine below_set ?_ GE107.out) | exact HB.out))))
 have n2_ := Aside0.mk (blk_below (g := gb106) (o := .cells #[.int .i64 a0_0, .int .i64 a0_1, .int .i64 a0_2, .int .i64 a0_3, .int .i64 a0_4, .string a0_5, .int .i64 a0_6, .int .i64 a0_7, .slice A0_8 l0_8.length c0_8, .slice A0_9 l0_9.length c0_9, .slice A0_10 l0_10.length c0_10] 27 (0, 0)) (by (with_reducible repeat (first | refine blk_drewN ?_ _ | refine blk_drew ?_ | refine blk_alloc ?_ _)); exact BK106.out) hb)
 have n3_ := Aside0.mk (blk_below (g := gb107) (o := .cells #[.int .i64 0, .int .i64 0, .int .i64 0, .int .i64 0, .int .i64 0, .string (⟨#[]⟩ : ByteArray), .int .i64 0, .int .i64 0, .slice none 0 0, .slice none 0 0, .slice none 0 0] 27 (0, 0)) (by (with_reducible repeat (first | refine blk_drewN ?_ _ | refine blk_drew ?_ | refine blk_alloc ?_ _)); exact BK107.out) hb)
 have n4_ := Aside0.mk (below_step (by repeat (first | (with_reducible first | exact HB.out | apply below_alloc | apply pw_below_drewN | apply below_drew1 | refine below_set ?_ GE106.out | refine below_set ?_ GE107.out) | exact HB.out)) hb)
 clear HO114
 clear BK106
 clear BK107
 clear HB
 have HO114 := n0_
 have HO117 := n1_
 have BK106 := n2_
 have BK107 := n3_
 have HB := n4_
 clear n0_ n1_ n2_ n3_ n4_
 (try clear hb)
 (try clear hb2)
 (try clear hk)
 (try clear hi)
 (try clear ho0)
 refine hK.out _ _ ⟨(blk_cell BK106.out 0).trans rfl, (blk_cell BK106.out 1).trans rfl, (blk_cell BK106.out 2).trans rfl, (blk_cell BK106.out 3).trans rfl, (blk_cell BK106.out 4).trans rfl, (blk_cell BK106.out 5).trans rfl, (blk_cell BK106.out 6).trans rfl, (blk_cell BK106.out 7).trans rfl, (blk_cell BK106.out 8).trans rfl, (blk_cell BK106.out 9).trans rfl, (blk_cell BK106.out 10).trans rfl⟩ (fun hHeld => ?_)
 clear hK K
 refine norm_ (a' := ?_) ?_ ?_
 rotate_left
 ·
  show Act.put _ (some 8) _ = _
  simp only [Act.put, List.setIfInBounds_toArray, List.set_cons_zero, List.set_cons_succ, i64_w, i32_w]
  rfl
 refine one_ (i := 8) (N := some 11) #[true, true, true, true, true, true, true, true, true, true, false, false, false, false, false] rfl rfl (one_of HT_.out (by kernel_rfl)) (by decide) (fun K hK => ?_)
 refine goes_ Tryd.func43 (by kernel_rfl) rfl #[.slice A0_10 l0_10.length c0_10] (by rfl) rfl rfl (by (try simp only [List.map_toArray, List.map_cons, List.map_nil]); first | done | rfl | (simp only [List.length_drop, List.length_take]; rfl)) ?_
 with_reducible refine (slices_Clone_int_int.calls _ _ l0_10 t118 _ ?side1 ?side2 A4.out).mono ?_
 (case side1 => repeat (first | exact (Kd.C_below HR0_10.out HB.out) | (with_reducible refine Kd.C_alloc ?_ _) | (with_reducible refine Kd.C_drewN ?_ _) | (with_reducible refine Kd.C_drew ?_)))
 (case side2 => exact HC0_10.out)
 rintro e w10 ⟨v119, rfl, ho0, hb⟩
 refine ⟨_, rfl, ?_⟩
 have n0_ := Aside0.mk (Kd.R_below (by (with_reducible repeat (first | apply Kd.R_alloc | apply Kd.R_drewN | apply Kd.R_drew)); exact HO114.out) hb)
 have n1_ := Aside0.mk (Kd.R_elder' (by (with_reducible repeat (first | apply Kd.R_alloc | apply Kd.R_drewN | apply Kd.R_drew)); exact HO117.out) (Kd.R_base ho0) hb)
 have n2_ := Aside0.mk (Kd.R_lower (Kd.R_new' ho0 (Kd.R_lt (by (with_reducible repeat (first | apply Kd.R_alloc | apply Kd.R_drewN | apply Kd.R_drew)); exact HO117.out))) (below_size (by repeat (first | (with_reducible first | exact HB.out | apply below_alloc | apply pw_below_drewN | apply below_drew1 | refine below_set ?_ GE106.out | refine below_set ?_ GE107.out) | exact HB.out))))
 have n3_ := Aside0.mk (blk_below (g := gb106) (o := .cells #[.int .i64 a0_0, .int .i64 a0_1, .int .i64 a0_2, .int .i64 a0_3, .int .i64 a0_4, .string a0_5, .int .i64 a0_6, .int .i64 a0_7, .slice A0_8 l0_8.length c0_8, .slice A0_9 l0_9.length c0_9, .slice A0_10 l0_10.length c0_10] 27 (0, 0)) (by (with_reducible repeat (first | refine blk_drewN ?_ _ | refine blk_drew ?_ | refine blk_alloc ?_ _)); exact BK106.out) hb)
 have n4_ := Aside0.mk (blk_below (g := gb107) (o := .cells #[.int .i64 0, .int .i64 0, .int .i64 0, .int .i64 0, .int .i64 0, .string (⟨#[]⟩ : ByteArray), .int .i64 0, .int .i64 0, .slice none 0 0, .slice none 0 0, .slice none 0 0] 27 (0, 0)) (by (with_reducible repeat (first | refine blk_drewN ?_ _ | refine blk_drew ?_ | refine blk_alloc ?_ _)); exact BK107.out) hb)
 have n5_ := Aside0.mk (below_step (by repeat (first | (with_reducible first | exact HB.out | apply below_alloc | apply pw_below_drewN | apply below_drew1 | refine below_set ?_ GE106.out | refine below_set ?_ GE107.out) | exact HB.out)) hb)
 clear HO114
 clear HO117
 clear BK106
 clear BK107
 clear HB
 have HO114 := n0_
 have HO117 := n1_
 have HO120 := n2_
 have BK106 := n3_
 have BK107 := n4_
 have HB := n5_
 clear n0_ n1_ n2_ n3_ n4_ n5_
 (try clear hb)
 (try clear hb2)
 (try clear hk)
 (try clear hi)
 (try clear ho0)
 obtain ⟨Ao15, co15, eo15⟩ := Kd.R_slice HO114.out
 (first | subst eo15 | (injection eo15 with f1_ f2_ f3_; have f4_ := f1_.symm; have f5_ := f3_.symm; clear f1_ f2_ f3_; subst f4_; subst f5_))
 obtain ⟨Ao17, co17, eo17⟩ := Kd.R_slice HO117.out
 (first | subst eo17 | (injection eo17 with f1_ f2_ f3_; have f4_ := f1_.symm; have f5_ := f3_.symm; clear f1_ f2_ f3_; subst f4_; subst f5_))
 obtain ⟨Ao19, co19, eo19⟩ := Kd.R_slice HO120.out
 (first | subst eo19 | (injection eo19 with f1_ f2_ f3_; have f4_ := f1_.symm; have f5_ := f3_.symm; clear f1_ f2_ f3_; subst f4_; subst f5_))
 refine hK.out _ _ ⟨(blk_cell BK106.out 0).trans rfl, (blk_cell BK106.out 1).trans rfl, (blk_cell BK106.out 2).trans rfl, (blk_cell BK106.out 3).trans rfl, (blk_cell BK106.out 4).trans rfl, (blk_cell BK106.out 5).trans rfl, (blk_cell BK106.out 6).trans rfl, (blk_cell BK106.out 7).trans rfl, (blk_cell BK106.out 8).trans rfl, (blk_cell BK106.out 9).trans rfl, (blk_cell BK106.out 10).trans rfl⟩ (fun hHeld => ?_)
 clear hK K
 refine norm_ (a' := ?_) ?_ ?_
 rotate_left
 ·
  show Act.put _ (some 11) _ = _
  simp only [Act.put, List.setIfInBounds_toArray, List.set_cons_zero, List.set_cons_succ, i64_w, i32_w]
  rfl
 refine last_ (i := 10) (N := none) #[true, true, true, true, true, true, true, true, true, true, true, false, false, false, false] rfl rfl (one_of HT_.out (by kernel_rfl)) (by decide) (fun K hK => ?_)
 have hs11 : w10.cell? ⟨gb106, 4, none⟩ = some (.int .i64 a0_4) := (blk_cell BK106.out 4).trans rfl
 have hfs11 := blk_frozen BK106.out 4
 have hns11_1 := NB107_106.out
 have hms11_1 := NB106_107.out
 have hs12 : w10.cell? ⟨gb106, 5, none⟩ = some (.string a0_5) := (blk_cell BK106.out 5).trans rfl
 have hfs12 := blk_frozen BK106.out 5
 have hns12_1 := NB107_106.out
 have hms12_1 := NB106_107.out
 have hs13 : w10.cell? ⟨gb106, 6, none⟩ = some (.int .i64 a0_6) := (blk_cell BK106.out 6).trans rfl
 have hfs13 := blk_frozen BK106.out 6
 have hns13_1 := NB107_106.out
 have hms13_1 := NB106_107.out
 have hs14 : w10.cell? ⟨gb106, 7, none⟩ = some (.int .i64 a0_7) := (blk_cell BK106.out 7).trans rfl
 have hfs14 := blk_frozen BK106.out 7
 have hns14_1 := NB107_106.out
 have hms14_1 := NB106_107.out
 have hs16 : w10.cell? ⟨gb106, 8, none⟩ = some (.slice A0_8 l0_8.length c0_8) := (blk_cell BK106.out 8).trans rfl
 have hfs16 := blk_frozen BK106.out 8
 have hns16_1 := NB107_106.out
 have hms16_1 := NB106_107.out
 refine skip_ (w1 := ?_) (by rfl) rfl ?_ ?_
 rotate_left
 ·
  go_simp
  rfl
 refine hK.out _ _ ?_
 clear hK K
 refine pure_ (i := 11) (N := some 13) (v := ?_) (a' := ?_) #[true, true, true, true, true, true, true, true, true, true, true, true, false, false, false] rfl rfl (any_of HT_.out (by kernel_rfl)) (fun _ _ _ h => h) (Or.inl ⟨by rfl, ?_⟩) ?_ ?_
 rotate_left
 ·
  intro w'
  go_simp
  with_reducible rfl
 rotate_left
 ·
  simp only [Act.put, List.setIfInBounds_toArray, List.set_cons_zero, List.set_cons_succ, i64_w, i32_w]
  rfl
 refine last_ (i := 12) (N := none) #[true, true, true, true, true, true, true, true, true, true, true, true, true, false, false] rfl rfl (one_of HT_.out (by kernel_rfl)) (by decide) (fun K hK => ?_)
 have hs18 : w10.cell? ⟨gb106, 9, none⟩ = some (.slice A0_9 l0_9.length c0_9) := (blk_cell BK106.out 9).trans rfl
 have hfs18 := blk_frozen BK106.out 9
 have hns18_1 := NB107_106.out
 have hms18_1 := NB106_107.out
 refine skip_ (w1 := ?_) (by rfl) rfl ?_ ?_
 rotate_left
 ·
  go_simp
  rfl
 refine hK.out _ _ ?_
 clear hK K
 refine pure_ (i := 13) (N := some 14) (v := ?_) (a' := ?_) #[true, true, true, true, true, true, true, true, true, true, true, true, true, true, false] rfl rfl (any_of HT_.out (by kernel_rfl)) (fun _ _ _ h => h) (Or.inl ⟨by rfl, ?_⟩) ?_ ?_
 rotate_left
 ·
  intro w'
  go_simp
  with_reducible rfl
 rotate_left
 ·
  simp only [Act.put, List.setIfInBounds_toArray, List.set_cons_zero, List.set_cons_succ, i64_w, i32_w]
  rfl
 refine last_ (i := 14) (N := none) #[true, true, true, true, true, true, true, true, true, true, true, true, true, true, true] rfl rfl (one_of HT_.out (by kernel_rfl)) (by decide) (fun K hK => ?_)
 have hs20 : w10.cell? ⟨gb106, 10, none⟩ = some (.slice A0_10 l0_10.length c0_10) := (blk_cell BK106.out 10).trans rfl
 have hfs20 := blk_frozen BK106.out 10
 have hns20_1 := NB107_106.out
 have hms20_1 := NB106_107.out
 refine skip_ (w1 := ?_) (by rfl) rfl ?_ ?_
 rotate_left
 ·
  go_simp
  rfl
 refine hK.out _ _ ?_
 clear hK K
 refine done_ (done_of HT_.out (by kernel_rfl)) ?_
 have hnb21 := NB106_107.out
 have hnc21 := NB107_106.out
 have hcz22_0 : w10.cell? ⟨gb106, 0, none⟩ = some (.int .i64 a0_0) := (blk_cell BK106.out 0).trans rfl
 have hcz22_1 : w10.cell? ⟨gb106, 1, none⟩ = some (.int .i64 a0_1) := (blk_cell BK106.out 1).trans rfl
 have hcz22_2 : w10.cell? ⟨gb106, 2, none⟩ = some (.int .i64 a0_2) := (blk_cell BK106.out 2).trans rfl
 have hcz22_3 : w10.cell? ⟨gb106, 3, none⟩ = some (.int .i64 a0_3) := (blk_cell BK106.out 3).trans rfl
 have hcz22_4 : w10.cell? ⟨gb106, 4, none⟩ = some (.int .i64 a0_4) := (blk_cell BK106.out 4).trans rfl
 have hcz22_5 : w10.cell? ⟨gb106, 5, none⟩ = some (.string a0_5) := (blk_cell BK106.out 5).trans rfl
 have hcz22_6 : w10.cell? ⟨gb106, 6, none⟩ = some (.int .i64 a0_6) := (blk_cell BK106.out 6).trans rfl
 have hcz22_7 : w10.cell? ⟨gb106, 7, none⟩ = some (.int .i64 a0_7) := (blk_cell BK106.out 7).trans rfl
 have hcz22_8 : w10.cell? ⟨gb106, 8, none⟩ = some (.slice A0_8 l0_8.length c0_8) := (blk_cell BK106.out 8).trans rfl
 have hcz22_9 : w10.cell? ⟨gb106, 9, none⟩ = some (.slice A0_9 l0_9.length c0_9) := (blk_cell BK106.out 9).trans rfl
 have hcz22_10 : w10.cell? ⟨gb106, 10, none⟩ = some (.slice A0_10 l0_10.length c0_10) := (blk_cell BK106.out 10).trans rfl
 have hfz22_0 := blk_frozen BK106.out 0
 have hfz22_1 := blk_frozen BK106.out 1
 have hfz22_2 := blk_frozen BK106.out 2
 have hfz22_3 := blk_frozen BK106.out 3
 have hfz22_4 := blk_frozen BK106.out 4
 have hfz22_5 := blk_frozen BK106.out 5
 have hfz22_6 := blk_frozen BK106.out 6
 have hfz22_7 := blk_frozen BK106.out 7
 have hfz22_8 := blk_frozen BK106.out 8
 have hfz22_9 := blk_frozen BK106.out 9
 have hfz22_10 := blk_frozen BK106.out 10
 have hcz23_0 : w10.cell? ⟨gb107, 0, none⟩ = some (.int .i64 0) := (blk_cell BK107.out 0).trans rfl
 have hcz23_1 : w10.cell? ⟨gb107, 1, none⟩ = some (.int .i64 0) := (blk_cell BK107.out 1).trans rfl
 have hcz23_2 : w10.cell? ⟨gb107, 2, none⟩ = some (.int .i64 0) := (blk_cell BK107.out 2).trans rfl
 have hcz23_3 : w10.cell? ⟨gb107, 3, none⟩ = some (.int .i64 0) := (blk_cell BK107.out 3).trans rfl
 have hcz23_4 : w10.cell? ⟨gb107, 4, none⟩ = some (.int .i64 0) := (blk_cell BK107.out 4).trans rfl
 have hcz23_5 : w10.cell? ⟨gb107, 5, none⟩ = some (.string (⟨#[]⟩ : ByteArray)) := (blk_cell BK107.out 5).trans rfl
 have hcz23_6 : w10.cell? ⟨gb107, 6, none⟩ = some (.int .i64 0) := (blk_cell BK107.out 6).trans rfl
 have hcz23_7 : w10.cell? ⟨gb107, 7, none⟩ = some (.int .i64 0) := (blk_cell BK107.out 7).trans rfl
 have hcz23_8 : w10.cell? ⟨gb107, 8, none⟩ = some (.slice none 0 0) := (blk_cell BK107.out 8).trans rfl
 have hcz23_9 : w10.cell? ⟨gb107, 9, none⟩ = some (.slice none 0 0) := (blk_cell BK107.out 9).trans rfl
 have hcz23_10 : w10.cell? ⟨gb107, 10, none⟩ = some (.slice none 0 0) := (blk_cell BK107.out 10).trans rfl
 have hfz23_0 := blk_frozen BK107.out 0
 have hfz23_1 := blk_frozen BK107.out 1
 have hfz23_2 := blk_frozen BK107.out 2
 have hfz23_3 := blk_frozen BK107.out 3
 have hfz23_4 := blk_frozen BK107.out 4
 have hfz23_5 := blk_frozen BK107.out 5
 have hfz23_6 := blk_frozen BK107.out 6
 have hfz23_7 := blk_frozen BK107.out 7
 have hfz23_8 := blk_frozen BK107.out 8
 have hfz23_9 := blk_frozen BK107.out 9
 have hfz23_10 := blk_frozen BK107.out 10
 try go_wp2
 refine bodyPost_ret (results_cell_row rfl _ _ gb107 27 #[.int .i64 a0_0, .int .i64 a0_1, .int .i64 a0_2, .int .i64 a0_3, .int .i64 t108, .string t109, .int .i64 t110, .int .i64 t111, .slice Ao15 t112.length co15, .slice Ao17 t115.length co17, .slice Ao19 t118.length co19] (0, 0) _ rfl (by (with_reducible repeat (first | refine blk_drewN ?_ _ | refine blk_drew ?_ | refine blk_alloc ?_ _)); refine blk_put (cs := #[.int .i64 a0_0, .int .i64 a0_1, .int .i64 a0_2, .int .i64 a0_3, .int .i64 t108, .string t109, .int .i64 t110, .int .i64 t111, .slice Ao15 t112.length co15, .slice Ao17 t115.length co17, .slice none 0 0]) ?_ 10 _ rfl; (with_reducible repeat (first | refine blk_drewN ?_ _ | refine blk_drew ?_ | refine blk_alloc ?_ _)); refine blk_put (cs := #[.int .i64 a0_0, .int .i64 a0_1, .int .i64 a0_2, .int .i64 a0_3, .int .i64 t108, .string t109, .int .i64 t110, .int .i64 t111, .slice Ao15 t112.length co15, .slice none 0 0, .slice none 0 0]) ?_ 9 _ rfl; (with_reducible repeat (first | refine blk_drewN ?_ _ | refine blk_drew ?_ | refine blk_alloc ?_ _)); refine blk_put (cs := #[.int .i64 a0_0, .int .i64 a0_1, .int .i64 a0_2, .int .i64 a0_3, .int .i64 t108, .string t109, .int .i64 t110, .int .i64 t111, .slice none 0 0, .slice none 0 0, .slice none 0 0]) ?_ 8 _ rfl; (with_reducible repeat (first | refine blk_drewN ?_ _ | refine blk_drew ?_ | refine blk_alloc ?_ _)); refine blk_put (cs := #[.int .i64 a0_0, .int .i64 a0_1, .int .i64 a0_2, .int .i64 a0_3, .int .i64 t108, .string t109, .int .i64 t110, .int .i64 0, .slice none 0 0, .slice none 0 0, .slice none 0 0]) ?_ 7 _ rfl; (with_reducible repeat (first | refine blk_drewN ?_ _ | refine blk_drew ?_ | refine blk_alloc ?_ _)); refine blk_put (cs := #[.int .i64 a0_0, .int .i64 a0_1, .int .i64 a0_2, .int .i64 a0_3, .int .i64 t108, .string t109, .int .i64 0, .int .i64 0, .slice none 0 0, .slice none 0 0, .slice none 0 0]) ?_ 6 _ rfl; (with_reducible repeat (first | refine blk_drewN ?_ _ | refine blk_drew ?_ | refine blk_alloc ?_ _)); refine blk_put (cs := #[.int .i64 a0_0, .int .i64 a0_1, .int .i64 a0_2, .int .i64 a0_3, .int .i64 t108, .string (⟨#[]⟩ : ByteArray), .int .i64 0, .int .i64 0, .slice none 0 0, .slice none 0 0, .slice none 0 0]) ?_ 5 _ rfl; (with_reducible repeat (first | refine blk_drewN ?_ _ | refine blk_drew ?_ | refine blk_alloc ?_ _)); refine blk_put (cs := #[.int .i64 a0_0, .int .i64 a0_1, .int .i64 a0_2, .int .i64 a0_3, .int .i64 0, .string (⟨#[]⟩ : ByteArray), .int .i64 0, .int .i64 0, .slice none 0 0, .slice none 0 0, .slice none 0 0]) ?_ 4 _ rfl; (with_reducible repeat (first | refine blk_drewN ?_ _ | refine blk_drew ?_ | refine blk_alloc ?_ _)); refine blk_put (cs := #[.int .i64 a0_0, .int .i64 a0_1, .int .i64 a0_2, .int .i64 0, .int .i64 0, .string (⟨#[]⟩ : ByteArray), .int .i64 0, .int .i64 0, .slice none 0 0, .slice none 0 0, .slice none 0 0]) ?_ 3 _ rfl; (with_reducible repeat (first | refine blk_drewN ?_ _ | refine blk_drew ?_ | refine blk_alloc ?_ _)); refine blk_put (cs := #[.int .i64 a0_0, .int .i64 a0_1, .int .i64 0, .int .i64 0, .int .i64 0, .string (⟨#[]⟩ : ByteArray), .int .i64 0, .int .i64 0, .slice none 0 0, .slice none 0 0, .slice none 0 0]) ?_ 2 _ rfl; (with_reducible repeat (first | refine blk_drewN ?_ _ | refine blk_drew ?_ | refine blk_alloc ?_ _)); refine blk_put (cs := #[.int .i64 a0_0, .int .i64 0, .int .i64 0, .int .i64 0, .int .i64 0, .string (⟨#[]⟩ : ByteArray), .int .i64 0, .int .i64 0, .slice none 0 0, .slice none 0 0, .slice none 0 0]) ?_ 1 _ rfl; (with_reducible repeat (first | refine blk_drewN ?_ _ | refine blk_drew ?_ | refine blk_alloc ?_ _)); refine blk_put (cs := #[.int .i64 0, .int .i64 0, .int .i64 0, .int .i64 0, .int .i64 0, .string (⟨#[]⟩ : ByteArray), .int .i64 0, .int .i64 0, .slice none 0 0, .slice none 0 0, .slice none 0 0]) ?_ 0 _ rfl; (with_reducible repeat (first | refine blk_drewN ?_ _ | refine blk_drew ?_ | refine blk_alloc ?_ _)); refine blk_far ?_ NB107_106.out _; (with_reducible repeat (first | refine blk_drewN ?_ _ | refine blk_drew ?_ | refine blk_alloc ?_ _)); refine blk_far ?_ NB107_106.out _; (with_reducible repeat (first | refine blk_drewN ?_ _ | refine blk_drew ?_ | refine blk_alloc ?_ _)); refine blk_far ?_ NB107_106.out _; (with_reducible repeat (first | refine blk_drewN ?_ _ | refine blk_drew ?_ | refine blk_alloc ?_ _)); refine blk_far ?_ NB107_106.out _; (with_reducible repeat (first | refine blk_drewN ?_ _ | refine blk_drew ?_ | refine blk_alloc ?_ _)); refine blk_far ?_ NB107_106.out _; (with_reducible repeat (first | refine blk_drewN ?_ _ | refine blk_drew ?_ | refine blk_alloc ?_ _)); refine blk_far ?_ NB107_106.out _; (with_reducible repeat (first | refine blk_drewN ?_ _ | refine blk_drew ?_ | refine blk_alloc ?_ _)); refine blk_far ?_ NB107_106.out _; (with_reducible repeat (first | refine blk_drewN ?_ _ | refine blk_drew ?_ | refine blk_alloc ?_ _)); exact BK107.out) Tryd.underlying27 rfl (by kernel_rfl)) rfl ?_
 exact ⟨_, _, _, by first | rfl | (simp [errW_none, errW_some] <;> rfl) | (simp [*, errW_none, errW_some] <;> rfl), by (with_reducible repeat (first | apply Kd.R_alloc | apply Kd.R_drewN | apply Kd.R_drew)); exact Kd.R_mono (Kd.R_far (p := ⟨gb107, 10, none⟩) (Kd.R_far (p := ⟨gb107, 9, none⟩) (Kd.R_far (p := ⟨gb107, 8, none⟩) (Kd.R_far (p := ⟨gb107, 7, none⟩) (Kd.R_far (p := ⟨gb107, 6, none⟩) (Kd.R_far (p := ⟨gb107, 5, none⟩) (Kd.R_far (p := ⟨gb107, 4, none⟩) (Kd.R_far (p := ⟨gb107, 3, none⟩) (Kd.R_far (p := ⟨gb107, 2, none⟩) (Kd.R_far (p := ⟨gb107, 1, none⟩) (Kd.R_far (p := ⟨gb107, 0, none⟩) (Kd.R_far (p := ⟨gb106, 10, none⟩) (Kd.R_far (p := ⟨gb106, 9, none⟩) (Kd.R_far (p := ⟨gb106, 8, none⟩) (Kd.R_far (p := ⟨gb106, 7, none⟩) (Kd.R_far (p := ⟨gb106, 6, none⟩) (Kd.R_far (p := ⟨gb106, 5, none⟩) (Kd.R_far (p := ⟨gb106, 4, none⟩) (Kd.R_types (Kd.R_types HO114.out BK106.out (by decide)) BK107.out (by decide)) (fun _ hk => hk.1.2) (.int .i64 t108)) (fun _ hk => hk.1.2) (.string t109)) (fun _ hk => hk.1.2) (.int .i64 t110)) (fun _ hk => hk.1.2) (.int .i64 t111)) (fun _ hk => hk.1.2) (.slice Ao15 t112.length co15)) (fun _ hk => hk.1.2) (.slice Ao17 t115.length co17)) (fun _ hk => hk.1.2) (.slice Ao19 t118.length co19)) (fun _ hk => hk.2) (.int .i64 a0_0)) (fun _ hk => hk.2) (.int .i64 a0_1)) (fun _ hk => hk.2) (.int .i64 a0_2)) (fun _ hk => hk.2) (.int .i64 a0_3)) (fun _ hk => hk.2) (.int .i64 t108)) (fun _ hk => hk.2) (.string t109)) (fun _ hk => hk.2) (.int .i64 t110)) (fun _ hk => hk.2) (.int .i64 t111)) (fun _ hk => hk.2) (.slice Ao15 t112.length co15)) (fun _ hk => hk.2) (.slice Ao17 t115.length co17)) (fun _ hk => hk.2) (.slice Ao19 t118.length co19)) (fun _ hk => trivial), by (with_reducible repeat (first | apply Kd.R_alloc | apply Kd.R_drewN | apply Kd.R_drew)); exact Kd.R_mono (Kd.R_far (p := ⟨gb107, 10, none⟩) (Kd.R_far (p := ⟨gb107, 9, none⟩) (Kd.R_far (p := ⟨gb107, 8, none⟩) (Kd.R_far (p := ⟨gb107, 7, none⟩) (Kd.R_far (p := ⟨gb107, 6, none⟩) (Kd.R_far (p := ⟨gb107, 5, none⟩) (Kd.R_far (p := ⟨gb107, 4, none⟩) (Kd.R_far (p := ⟨gb107, 3, none⟩) (Kd.R_far (p := ⟨gb107, 2, none⟩) (Kd.R_far (p := ⟨gb107, 1, none⟩) (Kd.R_far (p := ⟨gb107, 0, none⟩) (Kd.R_far (p := ⟨gb106, 10, none⟩) (Kd.R_far (p := ⟨gb106, 9, none⟩) (Kd.R_far (p := ⟨gb106, 8, none⟩) (Kd.R_far (p := ⟨gb106, 7, none⟩) (Kd.R_far (p := ⟨gb106, 6, none⟩) (Kd.R_far (p := ⟨gb106, 5, none⟩) (Kd.R_far (p := ⟨gb106, 4, none⟩) (Kd.R_types (Kd.R_types HO117.out BK106.out (by decide)) BK107.out (by decide)) (fun _ hk => hk.1.2) (.int .i64 t108)) (fun _ hk => hk.1.2) (.string t109)) (fun _ hk => hk.1.2) (.int .i64 t110)) (fun _ hk => hk.1.2) (.int .i64 t111)) (fun _ hk => hk.1.2) (.slice Ao15 t112.length co15)) (fun _ hk => hk.1.2) (.slice Ao17 t115.length co17)) (fun _ hk => hk.1.2) (.slice Ao19 t118.length co19)) (fun _ hk => hk.2) (.int .i64 a0_0)) (fun _ hk => hk.2) (.int .i64 a0_1)) (fun _ hk => hk.2) (.int .i64 a0_2)) (fun _ hk => hk.2) (.int .i64 a0_3)) (fun _ hk => hk.2) (.int .i64 t108)) (fun _ hk => hk.2) (.string t109)) (fun _ hk => hk.2) (.int .i64 t110)) (fun _ hk => hk.2) (.int .i64 t111)) (fun _ hk => hk.2) (.slice Ao15 t112.length co15)) (fun _ hk => hk.2) (.slice Ao17 t115.length co17)) (fun _ hk => hk.2) (.slice Ao19 t118.length co19)) (fun _ hk => hk.1.1.2), by (with_reducible repeat (first | apply Kd.R_alloc | apply Kd.R_drewN | apply Kd.R_drew)); exact Kd.R_mono (Kd.R_far (p := ⟨gb107, 10, none⟩) (Kd.R_far (p := ⟨gb107, 9, none⟩) (Kd.R_far (p := ⟨gb107, 8, none⟩) (Kd.R_far (p := ⟨gb107, 7, none⟩) (Kd.R_far (p := ⟨gb107, 6, none⟩) (Kd.R_far (p := ⟨gb107, 5, none⟩) (Kd.R_far (p := ⟨gb107, 4, none⟩) (Kd.R_far (p := ⟨gb107, 3, none⟩) (Kd.R_far (p := ⟨gb107, 2, none⟩) (Kd.R_far (p := ⟨gb107, 1, none⟩) (Kd.R_far (p := ⟨gb107, 0, none⟩) (Kd.R_far (p := ⟨gb106, 10, none⟩) (Kd.R_far (p := ⟨gb106, 9, none⟩) (Kd.R_far (p := ⟨gb106, 8, none⟩) (Kd.R_far (p := ⟨gb106, 7, none⟩) (Kd.R_far (p := ⟨gb106, 6, none⟩) (Kd.R_far (p := ⟨gb106, 5, none⟩) (Kd.R_far (p := ⟨gb106, 4, none⟩) (Kd.R_types (Kd.R_types HO120.out BK106.out (by decide)) BK107.out (by decide)) (fun _ hk => hk.1.2) (.int .i64 t108)) (fun _ hk => hk.1.2) (.string t109)) (fun _ hk => hk.1.2) (.int .i64 t110)) (fun _ hk => hk.1.2) (.int .i64 t111)) (fun _ hk => hk.1.2) (.slice Ao15 t112.length co15)) (fun _ hk => hk.1.2) (.slice Ao17 t115.length co17)) (fun _ hk => hk.1.2) (.slice Ao19 t118.length co19)) (fun _ hk => hk.2) (.int .i64 a0_0)) (fun _ hk => hk.2) (.int .i64 a0_1)) (fun _ hk => hk.2) (.int .i64 a0_2)) (fun _ hk => hk.2) (.int .i64 a0_3)) (fun _ hk => hk.2) (.int .i64 t108)) (fun _ hk => hk.2) (.string t109)) (fun _ hk => hk.2) (.int .i64 t110)) (fun _ hk => hk.2) (.int .i64 t111)) (fun _ hk => hk.2) (.slice Ao15 t112.length co15)) (fun _ hk => hk.2) (.slice Ao17 t115.length co17)) (fun _ hk => hk.2) (.slice Ao19 t118.length co19)) (fun _ hk => hk.1.1.2), by repeat (first | (with_reducible first | exact HB.out | apply below_alloc | apply pw_below_drewN | apply below_drew1 | refine below_set ?_ GE106.out | refine below_set ?_ GE107.out) | exact HB.out)⟩

/-- The table of changes: state, event, new state. -/
def chanL : List (Int × Int × Int) := [(0, 1, 2), (1, 1, 3), (0, 2, 1), (2, 2, 3), (2, 3, 4)]
def changeIn : List (Int × Int × Int) → Int → Int → Int × Bool
 | [], p, _ => (p, false)
 | x :: xs, p, event => if x.1 = p ∧ x.2.1 = event then (x.2.2, true) else changeIn xs p event
def transit_next.f (a0 : Int) (a1 : Int) : Option (Int × Bool) := some (changeIn chanL a0 a1)
theorem changeIn_drop (i : Nat) (hi : i < 5) (p event : Int) : changeIn (chanL.drop i) p event = if (chanL.getD i (0, 0, 0)).1 = p ∧ (chanL.getD i (0, 0, 0)).2.1 = event then ((chanL.getD i (0, 0, 0)).2.2, true) else changeIn (chanL.drop (i + 1)) p event := by
 have hl : chanL.length = 5 := rfl
 have hlt : i < chanL.length := by omega
 rw [List.drop_eq_getElem_cons hlt]
 have e : chanL.getD i (0, 0, 0) = chanL[i] := by simp [List.getD_eq_getElem?_getD, List.getElem?_eq_getElem hlt]
 rw [e]
 rfl
theorem chan_at (W : World) (i : Nat) (hi : i < 5) : (Instr.index 86 (.agg cells_changes) (.int .i64 i)).run Tryd.prog W = .ok (.agg #[.int .i64 (chanL.getD i (0, 0, 0)).1, .int .i64 (chanL.getD i (0, 0, 0)).2.1, .int .i64 (chanL.getD i (0, 0, 0)).2.2]) W := by
 rcases (by omega : i = 0 ∨ i = 1 ∨ i = 2 ∨ i = 3 ∨ i = 4) with rfl | rfl | rfl | rfl | rfl
 all_goals kernel_rfl
theorem pair_eq (a b c d : Int) (W : World) : (Op.equalIn 10000 83 (.agg #[.int .i64 a, .int .i64 b]) (.agg #[.int .i64 c, .int .i64 d])).run Tryd.prog W = .ok (a == c && b == d) W := by
 obtain ⟨i3, hi3, hz3, hsz3, _⟩ := info_parts info3
 rw [show (10000 : Nat) = 9998 + 1 + 1 from rfl, Op.equalIn]
 simp only [Sem.run_bind, run_underlying Tryd.underlying83, Result.andThen_ok]
 have hs : (sizeOf 3).run Tryd.prog W = .ok 1 W := by simp [sizeOf, typeInfo, hi3, hsz3]
 have hag : (isAgg 3).run Tryd.prog W = .ok false W := by simp [isAgg, run_underlying Tryd.underlying3]
 have hq : ∀ x y : Int, (Op.equalIn 9999 3 (.int .i64 x) (.int .i64 y)).run Tryd.prog W = .ok (x == y) W := fun x y => run_equalIn_int W 9998 3 .i64 .i64 x y Tryd.underlying3
 have hp0 : ∀ x y : Int, (part 3 #[.int .i64 x, .int .i64 y] 0).run Tryd.prog W = .ok (.int .i64 x) W := fun x y => by simp [part, Sem.run_bind, hag]
 have hp1 : ∀ x y : Int, (part 3 #[.int .i64 x, .int .i64 y] 1).run Tryd.prog W = .ok (.int .i64 y) W := fun x y => by simp [part, Sem.run_bind, hag]
 by_cases h1 : a = c <;> by_cases h2 : b = d <;> simp [List.range', Sem.run_bind, hs, hp0, hp1, hq, h1, h2]
set_option maxHeartbeats 8000000 in
set_option maxRecDepth 100000 in
theorem transit_next.calls (a0 : Int) (a1 : Int) (r1 : Int) (r2 : Bool) (w : World) (hG_changes : GL_changes w) (h : transit_next.f a0 a1 = some (r1, r2)) :
  Calls Tryd.prog 41 #[.int .i64 a0, .int .i64 a1] w fun e w' => e = .returned (.tuple #[.int .i64 r1, .bool r2]) ∧ Below w.heap.size w w' := by
 have hR := (Option.some.inj h).symm
 clear h
 have hu85 := Tryd.underlying85
 obtain ⟨tt, fr, hg⟩ := hG_changes
 have HG := Aside0.mk hg
 clear hg
 have HB := Aside0.mk (Below.refl w.heap.size w)
 have HR := Aside0.mk hR
 clear hR
 go_enter Tryd.func41, Tryd.ntmps41
 go_wp2_with (first | (refine wpList_load_row rfl _ _ rfl _ rfl _ _ _ _ HG.out Tryd.underlying86 rfl (by kernel_rfl) ?_))
 go_loopw [9] (fun v wr => ∃ i : Nat, i ≤ 5 ∧ v = .int .i64 i ∧ Aside0 (changeIn (chanL.drop i) a0 a1 = (r1, r2)) ∧ Aside0 (Below w.heap.size w wr)) (fun v _ => 5 - (intOf v).toNat)
 case atStart => exact ⟨0, by omega, rfl, ⟨HR.out.symm⟩, HB⟩
 case round =>
  obtain ⟨i, hi, rfl, HA, HBr⟩ := hrel
  by_cases hlt : i < 5
  ·
   have hx := fun W => chan_at W i hlt
   have hs := changeIn_drop i hlt a0 a1
   obtain ⟨⟨a, f, t⟩, he⟩ : ∃ x, x = chanL.getD i (0, 0, 0) := ⟨_, rfl⟩
   rw [← he] at hs hx
   dsimp only at hs hx
   clear he
   rw [HA.out] at hs
   have HS := Aside0.mk hs
   clear hs HA
   have hlt' : decide ((i : Int) < 5) = true := decide_eq_true (by omega)
   have hpe := fun W => pair_eq a f a0 a1 W
   by_cases ca : a = a0
   ·
    by_cases cf : f = a1
    ·
     have H1 := HS.out
     rw [if_pos ⟨ca, cf⟩] at H1
     cases H1
     have cab : (a == a0) = true := beq_iff_eq.mpr ca
     have cfb : (f == a1) = true := beq_iff_eq.mpr cf
     clear HS HR
     rw [cab, cfb] at hpe
     clear cab cfb ca cf
     go_wp2
     go_ret2
     exact ⟨rfl, by repeat (first | exact HBr.out | apply below_alloc | refine below_set ?_ HBr.out.size | apply pw_below_drewN)⟩
    ·
     have H1 := Aside0.mk (HS.out.trans (if_neg (fun h => cf h.2)))
     have cab : (a == a0) = true := beq_iff_eq.mpr ca
     have cfb : (f == a1) = false := beq_eq_false_iff_ne.mpr cf
     rw [cab, cfb] at hpe
     clear HS HR cab cfb ca cf
     go_wp2
     go_roundw
     case rel => exact ⟨i + 1, by omega, by go_num, ⟨H1.out.symm⟩, ⟨by repeat (first | exact HBr.out | apply below_alloc | refine below_set ?_ HBr.out.size | apply pw_below_drewN)⟩⟩
     case measure => simp [intOf]; omega
   ·
    have H1 := Aside0.mk (HS.out.trans (if_neg (fun h => ca h.1)))
    have cab : (a == a0) = false := beq_eq_false_iff_ne.mpr ca
    rw [cab, Bool.false_and] at hpe
    clear HS HR cab ca
    go_wp2
    go_roundw
    case rel => exact ⟨i + 1, by omega, by go_num, ⟨H1.out.symm⟩, ⟨by repeat (first | exact HBr.out | apply below_alloc | refine below_set ?_ HBr.out.size | apply pw_below_drewN)⟩⟩
    case measure => simp [intOf]; omega
  ·
   obtain rfl : i = 5 := by omega
   have e : (a0, false) = (r1, r2) := HA.out
   cases e
   clear HA HR
   have hlt' : decide (((5 : Nat) : Int) < 5) = false := rfl
   go_wp2
   go_ret2
   exact ⟨rfl, by repeat (first | exact HBr.out | apply below_alloc | refine below_set ?_ HBr.out.size | apply pw_below_drewN)⟩

def transit_Announce.f (a0_0 : Int) (a0_1 : Int) (a0_2 : Int) (a0_3 : Int) (a0_4 : Int) (a0_5 : ByteArray) (a0_6 : Int) (a0_7 : Int) (l0_8 : List (S89)) (l0_9 : List Int) (l0_10 : List Int) (a1_0 : Int) (a1_1 : ByteArray) (a1_2 : Int) (a1_3 : Int) (l1_4 : List (S89)) (a2 : Int) (a3 : Int) (l4 : List Int) : Option (Int × Int × Int × Int × Int × ByteArray × Int × Int × (List (S89)) × List Int × List Int × Bool) := (transit_arrived.f a0_0 a0_1 a0_2 a0_3 a0_4 a0_5 a0_6 a0_7 l0_8 l0_9 l0_10).bind fun bt124 => ((transit_next.f bt124.2.2.2.1 1).bind fun bt141 => (if bt141.2 = true then ((transit_twin.f a1_0 a1_1 a1_2 a1_3 l1_4).bind fun bt143 => ((slices_Clone_int_int.f l4).bind fun t150 => (some (a1_0, a2, a3, bt141.1, bt143.1, bt143.2.1, bt143.2.2.1, bt143.2.2.2.1, bt143.2.2.2.2, t150, bt124.2.2.2.2.2.2.2.2.2.2, bt141.2)))) else (some (bt124.1, bt124.2.1, bt124.2.2.1, bt124.2.2.2.1, bt124.2.2.2.2.1, bt124.2.2.2.2.2.1, bt124.2.2.2.2.2.2.1, bt124.2.2.2.2.2.2.2.1, bt124.2.2.2.2.2.2.2.2.1, bt124.2.2.2.2.2.2.2.2.2.1, bt124.2.2.2.2.2.2.2.2.2.2, bt141.2))))
def transit_Announce.T4 : Bool × List (List Nat × List Nat) := (true, [([], []), ([], []), ([1], [1]), ([], []), ([3], [3]), ([], []), ([], []), ([], []), ([7, 4], [7]), ([0], []), ([9, 0, 8, 0], [0, 9]), ([0, 1, 2, 9, 10], []), ([11, 2, 10, 0, 1, 2, 9, 10], [2, 11]), ([0, 1, 2, 3, 4, 9, 10, 11, 12], []), ([13, 4, 12, 0, 1, 2, 3, 4, 9, 10, 11, 12], [4, 13]), ([0, 1, 2, 3, 4, 5, 9, 10, 11, 12, 13, 14], []), ([15, 5, 14, 0, 1, 2, 3, 4, 5, 9, 10, 11, 12, 13, 14], [5, 15]), ([0, 1, 2, 3, 4, 5, 6, 9, 10, 11, 12, 13, 14, 15, 16], []), ([17, 6, 16, 0, 1, 2, 3, 4, 5, 6, 9, 10, 11, 12, 13, 14, 15, 16], [6, 17]), ([0, 1, 2, 3, 4, 5, 6, 7, 8, 9, 10, 11, 12, 13, 14, 15, 16, 17, 18], []), ([19, 8, 18, 0, 1, 2, 3, 4, 5, 6, 7, 8, 9, 10, 11, 12, 13, 14, 15, 16, 17, 18], [8, 19])])
def transit_Announce.B4 : List Nat := [0, 0, 2, 0, 8, 0, 0, 0, 152, 1, 921, 1951, 3999, 8095, 16287, 32703, 65471, 131071, 262143, 524287, 1048575]
theorem transit_Announce.tab4 : rtab .any (opsOf Tryd.f9 4) = transit_Announce.T4 := by kernel_rfl
theorem transit_Announce.bits4 : waitsOk transit_Announce.T4.2 transit_Announce.B4 = true := by kernel_rfl
set_option maxHeartbeats 8000000 in
set_option maxRecDepth 100000 in
theorem transit_Announce.calls (a0_0 : Int) (a0_1 : Int) (a0_2 : Int) (a0_3 : Int) (a0_4 : Int) (a0_5 : ByteArray) (a0_6 : Int) (a0_7 : Int) (A0_8 : Option Addr) (c0_8 : Nat) (l0_8 : List (S89)) (A0_9 : Option Addr) (c0_9 : Nat) (l0_9 : List Int) (A0_10 : Option Addr) (c0_10 : Nat) (l0_10 : List Int) (a1_0 : Int) (a1_1 : ByteArray) (a1_2 : Int) (a1_3 : Int) (A1_4 : Option Addr) (c1_4 : Nat) (l1_4 : List (S89)) (a2 : Int) (a3 : Int) (A4 : Option Addr) (c4 : Nat) (l4 : List Int) (r1 : Int) (r2 : Int) (r3 : Int) (r4 : Int) (r5 : Int) (r6 : ByteArray) (r7 : Int) (r8 : Int) (r9 : List (S89)) (r10 : List Int) (r11 : List Int) (r12 : Bool) (w : World) (hr0_8 : Kd.C k89 w A0_8 l0_8.length l0_8) (hc0_8 : l0_8.length ≤ c0_8) (hr0_9 : Kd.C (Kd.int .i64) w A0_9 l0_9.length l0_9) (hc0_9 : l0_9.length ≤ c0_9) (hr0_10 : Kd.C (Kd.int .i64) w A0_10 l0_10.length l0_10) (hc0_10 : l0_10.length ≤ c0_10) (hr1_4 : Kd.C k89 w A1_4 l1_4.length l1_4) (hc1_4 : l1_4.length ≤ c1_4) (hr4 : Kd.C (Kd.int .i64) w A4 l4.length l4) (hc4 : l4.length ≤ c4) (hG_changes : GL_changes w) (h : transit_Announce.f a0_0 a0_1 a0_2 a0_3 a0_4 a0_5 a0_6 a0_7 l0_8 l0_9 l0_10 a1_0 a1_1 a1_2 a1_3 l1_4 a2 a3 l4 = some (r1, r2, r3, r4, r5, r6, r7, r8, r9, r10, r11, r12)) :
  Calls Tryd.prog 9 #[.agg #[.int .i64 a0_0, .int .i64 a0_1, .int .i64 a0_2, .int .i64 a0_3, .int .i64 a0_4, .string a0_5, .int .i64 a0_6, .int .i64 a0_7, .slice A0_8 l0_8.length c0_8, .slice A0_9 l0_9.length c0_9, .slice A0_10 l0_10.length c0_10], .agg #[.int .i64 a1_0, .string a1_1, .int .i64 a1_2, .int .i64 a1_3, .slice A1_4 l1_4.length c1_4], .int .i64 a2, .int .i64 a3, .slice A4 l4.length c4] w fun e w' => ∃ v8_ v9_ v10_ : Value, e = .returned (.tuple #[.agg #[.int .i64 r1, .int .i64 r2, .int .i64 r3, .int .i64 r4, .int .i64 r5, .string r6, .int .i64 r7, .int .i64 r8, v8_, v9_, v10_], .bool r12]) ∧ Kd.R k89 89 w' w.heap.size (fun _ => True) v8_ r9 ∧ Kd.R (Kd.int .i64) 3 w' w.heap.size (fun k_ => some k_ ≠ (v10_ : Value).ownBlock) v9_ r10 ∧ Kd.R (Kd.int .i64) 3 w' w.heap.size (fun k_ => some k_ ≠ (v9_ : Value).ownBlock) v10_ r11 ∧ Below w.heap.size w w' := by
 have HR8 := Aside0.mk hr0_8
 have HC8 := Aside0.mk hc0_8
 have HR9 := Aside0.mk hr0_9
 have HC9 := Aside0.mk hc0_9
 have HR10 := Aside0.mk hr0_10
 have HC10 := Aside0.mk hc0_10
 have HR14 := Aside0.mk hr1_4
 have HC14 := Aside0.mk hc1_4
 have HR4 := Aside0.mk hr4
 have HC4 := Aside0.mk hc4
 have HG := Aside0.mk hG_changes
 clear hr0_8 hc0_8 hr0_9 hc0_9 hr0_10 hc0_10 hr1_4 hc1_4 hr4 hc4 hG_changes
 have hu27 := Tryd.underlying27
 have hu24 := Tryd.underlying24
 unfold transit_Announce.f at h
 obtain ⟨⟨t0, t1, t2, t3, t4, t5, t6, t7, m8, m9, m10⟩, A0, H⟩ := Option.bind_eq_some_iff.mp h
 have E1 := Aside0.mk A0
 clear h A0
 obtain ⟨⟨st, pb⟩, A0, H⟩ := Option.bind_eq_some_iff.mp H
 have E2 := Aside0.mk (show transit_next.f t3 1 = some (st, pb) from A0)
 clear A0
 cases pb with
 | false =>
  simp only [Bool.false_eq_true, if_false, Option.some.injEq, Prod.mk.injEq] at H
  obtain ⟨rfl, rfl, rfl, rfl, rfl, rfl, rfl, rfl, rfl, rfl, rfl, rfl⟩ := H
  go_enter Tryd.func9, Tryd.ntmps9
  go_wp2_with (first
   | ((with_reducible refine gate_dst (N := 5) rfl ?_); refine box_event rfl (N := 5) rfl (cs := #[.int .i64 a0_0, .int .i64 a0_1, .int .i64 a0_2, .int .i64 a0_3, .int .i64 a0_4, .string a0_5, .int .i64 a0_6, .int .i64 a0_7, .slice A0_8 l0_8.length c0_8, .slice A0_9 l0_9.length c0_9, .slice A0_10 l0_10.length c0_10]) (t := 27) ?hr ?_; (case hr => first | (go_simp; done) | (go_simp; rfl)); intro g hg w1 h1 b1; have G1 := Aside0.mk (And.intro hg (And.intro h1 b1)); clear hg h1 b1)
   | ((with_reducible refine gate_dst (N := 6) rfl ?_); refine box_event rfl (N := 6) rfl (cs := #[.int .i64 a1_0, .string a1_1, .int .i64 a1_2, .int .i64 a1_3, .slice A1_4 l1_4.length c1_4]) (t := 24) ?hr ?_; (case hr => first | (go_simp; done) | (go_simp; rfl)); intro g2 hg w2 h1 b1; have G2 := Aside0.mk (And.intro hg (And.intro h1 b1)); clear hg h1 b1)
   | ((with_reducible refine gate_dst (N := 10) rfl ?_); refine box_event rfl (N := 10) rfl (cs := #[.int .i64 0, .int .i64 0, .int .i64 0, .int .i64 0, .int .i64 0, .string (⟨#[]⟩ : ByteArray), .int .i64 0, .int .i64 0, .slice none 0 0, .slice none 0 0, .slice none 0 0]) (t := 27) ?hr ?_; (case hr => first | (go_simp; done) | (go_simp; rfl)); intro gr hg w3 h1 b1; have S3 := Aside0.mk (St.start G1.out G2.out ⟨hg, h1, b1⟩ rfl); clear hg h1 b1 G1 G2)
   | ((with_reducible refine gate_dst (N := 14) rfl ?_); refine ev_load rfl (N := 14) rfl rfl (q := .pointer (some ⟨g, 0, none⟩)) (v := .agg #[.int .i64 a0_0, .int .i64 a0_1, .int .i64 a0_2, .int .i64 a0_3, .int .i64 a0_4, .string a0_5, .int .i64 a0_6, .int .i64 a0_7, .slice A0_8 l0_8.length c0_8, .slice A0_9 l0_9.length c0_9, .slice A0_10 l0_10.length c0_10]) rfl (load_eleven Tryd.underlying27 rfl (by kernel_rfl) S3.out.lo.at1 rfl) ?_)
   | (go_at_call 40; refine (transit_arrived.calls a0_0 a0_1 a0_2 a0_3 a0_4 a0_5 a0_6 a0_7 _ _ l0_8 _ _ l0_9 _ _ l0_10 t0 t1 t2 t3 t4 t5 t6 t7 m8 m9 m10 _ (Kd.C_below HR8.out S3.out.below) HC8.out (Kd.C_below HR9.out S3.out.below) HC9.out (Kd.C_below HR10.out S3.out.below) HC10.out E1.out).mono ?_; rintro e w4 ⟨u8, u9, u10, rfl, o8, o9, o10, hb⟩; have R8 := Aside0.mk (Kd.R_lower o8 (below_size S3.out.below)); have R9 := Aside0.mk (Kd.R_lower o9 (below_size S3.out.below)); have R10 := Aside0.mk (Kd.R_lower o10 (below_size S3.out.below)); have S4 := Aside0.mk (S3.out.call hb); clear o8 o9 o10 hb S3)
   | ((with_reducible refine gate_store (t := 27) (p := 5) rfl ?_); refine ev_store rfl (ty := 27) (p := 5) rfl rfl (q := .pointer (some ⟨g, 0, none⟩)) (v := .agg #[.int .i64 t0, .int .i64 t1, .int .i64 t2, .int .i64 t3, .int .i64 t4, .string t5, .int .i64 t6, .int .i64 t7, u8, u9, u10]) rfl rfl (store_eleven (by kernel_rfl) S4.out.lo.at1 rfl (arr_elf _ _ _ _ _ _ _ _ (rone R8.out) (rone R9.out) (rone R10.out))) ?_; intro w5 hF; have S5 := Aside0.mk (S4.out.same hF.1 rfl hF.2); have R8' := Aside0.mk (R_past (by decide) R8.out S4.out.lo.at1 S4.out.lo.at2.choose_spec.2 S5.out.mv); have R9' := Aside0.mk (R_past (by decide) R9.out S4.out.lo.at1 S4.out.lo.at2.choose_spec.2 S5.out.mv); have R10' := Aside0.mk (R_past (by decide) R10.out S4.out.lo.at1 S4.out.lo.at2.choose_spec.2 S5.out.mv); have hc3 : w5.cell? ⟨g, 3, none⟩ = some (.int .i64 t3) := (cell_of_row w5 g 3 _ 27 (0, 0) S5.out.lo.at1).trans rfl; clear hF S4 R8 R9 R10)
   | (go_at_call 41; refine (transit_next.calls t3 1 st _ _ (HG.out.of_below S5.out.below) E2.out).mono ?_; rintro e w6 ⟨rfl, hb⟩; have S6 := Aside0.mk (S5.out.call hb); have R8 := Aside0.mk (Kd.R_below R8'.out hb); have R9 := Aside0.mk (Kd.R_below R9'.out hb); have R10 := Aside0.mk (Kd.R_below R10'.out hb); clear hb S5 R8' R9' R10' hc3)
   | ((with_reducible refine gate_dst (N := 38) rfl ?_); refine ev_load rfl (N := 38) rfl rfl (q := .pointer (some ⟨g, 0, none⟩)) (v := .agg #[.int .i64 t0, .int .i64 t1, .int .i64 t2, .int .i64 t3, .int .i64 t4, .string t5, .int .i64 t6, .int .i64 t7, u8, u9, u10]) rfl (load_eleven Tryd.underlying27 rfl (by kernel_rfl) S6.out.lo.at1 rfl) ?_)
   | ((with_reducible refine gate_store (t := 27) (p := 10) rfl ?_); obtain ⟨old, ho2, h2⟩ := S6.out.lo.at2; refine ev_store rfl (ty := 27) (p := 10) rfl rfl (q := .pointer (some ⟨gr, 0, none⟩)) (v := .agg #[.int .i64 t0, .int .i64 t1, .int .i64 t2, .int .i64 t3, .int .i64 t4, .string t5, .int .i64 t6, .int .i64 t7, u8, u9, u10]) rfl rfl (store_eleven (by kernel_rfl) h2 ho2 (arr_elf _ _ _ _ _ _ _ _ (rone R8.out) (rone R9.out) (rone R10.out))) ?_; intro w9 hF; have AF := Aside0.mk hF.1; have MF := Aside0.mk (S6.out.lo.done hF.2); have MG := Aside0.mk (S6.out.mv.then_ (Mv.same (fun k => k = g ∨ k = gr) (.inr rfl) hF.2) (fun _ hk => .inl hk)); clear hF ho2 h2))
  refine bodyPost_ret (results_ct rfl _ _ gr 27 #[.int .i64 t0, .int .i64 t1, .int .i64 t2, .int .i64 t3, .int .i64 t4, .string t5, .int .i64 t6, .int .i64 t7, u8, u9, u10] (0, 0) _ rfl AF.out Tryd.underlying27 rfl (by kernel_rfl)) rfl ?_
  exact ⟨u8, u9, u10, rfl, R_past (by decide) R8.out S6.out.lo.at1 S6.out.lo.at2.choose_spec.2 MG.out, R_past (by decide) R9.out S6.out.lo.at1 S6.out.lo.at2.choose_spec.2 MG.out, R_past (by decide) R10.out S6.out.lo.at1 S6.out.lo.at2.choose_spec.2 MG.out, MF.out.below (Nat.le_refl _) (fun _ hk => hk.elim)⟩
 | true =>
  obtain ⟨⟨q4, q5, q6, q7, m4⟩, A0, H⟩ := Option.bind_eq_some_iff.mp (show (transit_twin.f a1_0 a1_1 a1_2 a1_3 l1_4).bind _ = _ from H)
  have E3 := Aside0.mk A0
  clear A0
  obtain ⟨s9, A0, H⟩ := Option.bind_eq_some_iff.mp H
  have E4 := Aside0.mk A0
  clear A0
  simp only [Option.some.injEq, Prod.mk.injEq] at H
  obtain ⟨rfl, rfl, rfl, rfl, rfl, rfl, rfl, rfl, rfl, rfl, rfl, rfl⟩ := H
  go_enter Tryd.func9, Tryd.ntmps9
  try go_wp2_with (first
   | ((with_reducible refine gate_dst (N := 5) rfl ?_); refine box_event rfl (N := 5) rfl (cs := #[.int .i64 a0_0, .int .i64 a0_1, .int .i64 a0_2, .int .i64 a0_3, .int .i64 a0_4, .string a0_5, .int .i64 a0_6, .int .i64 a0_7, .slice A0_8 l0_8.length c0_8, .slice A0_9 l0_9.length c0_9, .slice A0_10 l0_10.length c0_10]) (t := 27) ?hr ?_; (case hr => first | (go_simp; done) | (go_simp; rfl)); intro g hg w1 h1 b1; have G1 := Aside0.mk (And.intro hg (And.intro h1 b1)); clear hg h1 b1)
   | ((with_reducible refine gate_dst (N := 6) rfl ?_); refine box_event rfl (N := 6) rfl (cs := #[.int .i64 a1_0, .string a1_1, .int .i64 a1_2, .int .i64 a1_3, .slice A1_4 l1_4.length c1_4]) (t := 24) ?hr ?_; (case hr => first | (go_simp; done) | (go_simp; rfl)); intro g2 hg w2 h1 b1; have G2 := Aside0.mk (And.intro hg (And.intro h1 b1)); clear hg h1 b1)
   | ((with_reducible refine gate_dst (N := 10) rfl ?_); refine box_event rfl (N := 10) rfl (cs := #[.int .i64 0, .int .i64 0, .int .i64 0, .int .i64 0, .int .i64 0, .string (⟨#[]⟩ : ByteArray), .int .i64 0, .int .i64 0, .slice none 0 0, .slice none 0 0, .slice none 0 0]) (t := 27) ?hr ?_; (case hr => first | (go_simp; done) | (go_simp; rfl)); intro gr hg w3 h1 b1; have S3 := Aside0.mk (St.start G1.out G2.out ⟨hg, h1, b1⟩ rfl); clear hg h1 b1 G1 G2)
   | ((with_reducible refine gate_dst (N := 14) rfl ?_); refine ev_load rfl (N := 14) rfl rfl (q := .pointer (some ⟨g, 0, none⟩)) (v := .agg #[.int .i64 a0_0, .int .i64 a0_1, .int .i64 a0_2, .int .i64 a0_3, .int .i64 a0_4, .string a0_5, .int .i64 a0_6, .int .i64 a0_7, .slice A0_8 l0_8.length c0_8, .slice A0_9 l0_9.length c0_9, .slice A0_10 l0_10.length c0_10]) rfl (load_eleven Tryd.underlying27 rfl (by kernel_rfl) S3.out.lo.at1 rfl) ?_)
   | (go_at_call 40; refine (transit_arrived.calls a0_0 a0_1 a0_2 a0_3 a0_4 a0_5 a0_6 a0_7 _ _ l0_8 _ _ l0_9 _ _ l0_10 t0 t1 t2 t3 t4 t5 t6 t7 m8 m9 m10 _ (Kd.C_below HR8.out S3.out.below) HC8.out (Kd.C_below HR9.out S3.out.below) HC9.out (Kd.C_below HR10.out S3.out.below) HC10.out E1.out).mono ?_; rintro e w4 ⟨u8, u9, u10, rfl, o8, o9, o10, hb⟩; have R8 := Aside0.mk (Kd.R_lower o8 (below_size S3.out.below)); have R9 := Aside0.mk (Kd.R_lower o9 (below_size S3.out.below)); have R10 := Aside0.mk (Kd.R_lower o10 (below_size S3.out.below)); have S4 := Aside0.mk (S3.out.call hb); clear o8 o9 o10 hb S3)
   | ((with_reducible refine gate_store (t := 27) (p := 5) rfl ?_); refine ev_store rfl (ty := 27) (p := 5) rfl rfl (q := .pointer (some ⟨g, 0, none⟩)) (v := .agg #[.int .i64 t0, .int .i64 t1, .int .i64 t2, .int .i64 t3, .int .i64 t4, .string t5, .int .i64 t6, .int .i64 t7, u8, u9, u10]) rfl rfl (store_eleven (by kernel_rfl) S4.out.lo.at1 rfl (arr_elf _ _ _ _ _ _ _ _ (rone R8.out) (rone R9.out) (rone R10.out))) ?_; intro w5 hF; have S5 := Aside0.mk (S4.out.same hF.1 rfl hF.2); have R8' := Aside0.mk (R_past (by decide) R8.out S4.out.lo.at1 S4.out.lo.at2.choose_spec.2 S5.out.mv); have R9' := Aside0.mk (R_past (by decide) R9.out S4.out.lo.at1 S4.out.lo.at2.choose_spec.2 S5.out.mv); have R10' := Aside0.mk (R_past (by decide) R10.out S4.out.lo.at1 S4.out.lo.at2.choose_spec.2 S5.out.mv); have hc3 : w5.cell? ⟨g, 3, none⟩ = some (.int .i64 t3) := (cell_of_row w5 g 3 _ 27 (0, 0) S5.out.lo.at1).trans rfl; clear hF S4 R8 R9 R10)
   | (go_at_call 41; refine (transit_next.calls t3 1 st _ _ (HG.out.of_below S5.out.below) E2.out).mono ?_; rintro e w6 ⟨rfl, hb⟩; have S6 := Aside0.mk (S5.out.call hb); have R8 := Aside0.mk (Kd.R_below R8'.out hb); have R9 := Aside0.mk (Kd.R_below R9'.out hb); have R10 := Aside0.mk (Kd.R_below R10'.out hb); clear hb S5 R8' R9' R10' hc3))
  have S7 := Aside0.mk S6.out.draw
  have R9' := Aside0.mk (Kd.R_below R9.out (Below.refl _ _).drew)
  have R10' := Aside0.mk (Kd.R_below R10.out (Below.refl _ _).drew)
  clear R8 R9 R10 S6
  refine start_ (n := 21) (S := fun w' => w'.heap[g2]? = some (.cells #[.int .i64 a1_0, .string a1_1, .int .i64 a1_2, .int .i64 a1_3, .slice A1_4 l1_4.length c1_4] 24 (0, 0))) (ds := []) (bmask 21 0) (by kernel_rfl) rfl (by kernel_rfl) S7.out.lot (fun hHeld => ?_); refine with_tabW transit_Announce.tab4 transit_Announce.bits4 (fun HT_ HW_ => ?_)
  generalize w6.drew = w7 at S7 R9' R10' hHeld ⊢
  refine pure_ (i := 0) (N := some 23) (v := ?_) (a' := ?_) (bmask 21 1) rfl rfl (any_of HT_.out (by kernel_rfl)) (fun _ _ _ h => h) (Or.inl ⟨by rfl, ?_⟩) ?_ ?_
  rotate_left
  ·
   intro w'
   go_simp
   with_reducible rfl
  rotate_left
  ·
   simp only [Act.put, List.setIfInBounds_toArray, List.set_cons_zero, List.set_cons_succ, i64_w, i32_w]
   rfl
  refine pure_ (i := 1) (N := some 24) (v := ?_) (a' := ?_) (bmask 21 3) rfl rfl (any_of HT_.out (by kernel_rfl)) (fun _ _ _ h => h) (Or.inl ⟨by rfl, ?_⟩) ?_ ?_
  rotate_left
  ·
   intro w'
   go_simp
   with_reducible rfl
  rotate_left
  ·
   simp only [Act.put, List.setIfInBounds_toArray, List.set_cons_zero, List.set_cons_succ, i64_w, i32_w]
   rfl
  refine pure_ (i := 5) (N := some 28) (v := ?_) (a' := ?_) (bmask 21 35) rfl rfl (any_of HT_.out (by kernel_rfl)) (fun _ _ _ h => h) (Or.inl ⟨by rfl, ?_⟩) ?_ ?_
  rotate_left
  ·
   intro w'
   go_simp
   with_reducible rfl
  rotate_left
  ·
   simp only [Act.put, List.setIfInBounds_toArray, List.set_cons_zero, List.set_cons_succ, i64_w, i32_w]
   rfl
  refine pure_ (i := 6) (N := some 29) (v := ?_) (a' := ?_) (bmask 21 99) rfl rfl (any_of HT_.out (by kernel_rfl)) (fun _ _ _ h => h) (Or.inl ⟨by rfl, ?_⟩) ?_ ?_
  rotate_left
  ·
   intro w'
   go_simp
   with_reducible rfl
  rotate_left
  ·
   simp only [Act.put, List.setIfInBounds_toArray, List.set_cons_zero, List.set_cons_succ, i64_w, i32_w]
   rfl
  refine pure_ (i := 7) (N := some 30) (v := ?_) (a' := ?_) (bmask 21 227) rfl rfl (any_of HT_.out (by kernel_rfl)) (fun _ _ _ h => h) (Or.inl ⟨by rfl, ?_⟩) ?_ ?_
  rotate_left
  ·
   intro w'
   go_simp
   with_reducible rfl
  rotate_left
  ·
   simp only [Act.put, List.setIfInBounds_toArray, List.set_cons_zero, List.set_cons_succ, i64_w, i32_w]
   rfl
  refine pure_ (i := 9) (N := some 32) (v := ?_) (a' := ?_) (bmask 21 739) rfl rfl (any_of HT_.out (by kernel_rfl)) (fun _ _ _ h => h) (Or.inl ⟨by rfl, ?_⟩) ?_ ?_
  rotate_left
  ·
   intro w'
   go_simp
   with_reducible rfl
  rotate_left
  ·
   simp only [Act.put, List.setIfInBounds_toArray, List.set_cons_zero, List.set_cons_succ, i64_w, i32_w]
   rfl
  refine take_ (i := 2) (N := some 25) (v := .int .i64 a1_0) (a' := ?_) (bmask 21 743) rfl rfl (take_ofW HT_.out HW_.out (by kernel_rfl)) (fun _ _ _ h => h) (Or.inl ⟨by rfl, fun w' hs => by
    have h0 : w'.cell? ⟨g2, 0, none⟩ = some (.int .i64 a1_0) := (cell_of_row w' g2 0 _ 24 (0, 0) hs).trans rfl
    go_simp⟩) hHeld ?_ ?_
  rotate_left
  ·
   simp only [Act.put, List.setIfInBounds_toArray, List.set_cons_zero, List.set_cons_succ, i64_w, i32_w]
   rfl
  refine take_ (i := 3) (N := some 26) (v := .agg #[.int .i64 a1_0, .string a1_1, .int .i64 a1_2, .int .i64 a1_3, .slice A1_4 l1_4.length c1_4]) (a' := ?_) (bmask 21 751) rfl rfl (take_ofW HT_.out HW_.out (by kernel_rfl)) (fun _ _ _ h => h) (Or.inl ⟨by rfl, fun w' hs => by
    exact exec_load rfl (q := .pointer (some ⟨g2, 0, none⟩)) rfl (load_lot hs rfl)⟩) hHeld ?_ ?_
  rotate_left
  ·
   simp only [Act.put, List.setIfInBounds_toArray, List.set_cons_zero, List.set_cons_succ, i64_w, i32_w]
   rfl
  refine one_ (i := 4) (N := some 27) (bmask 21 767) rfl rfl (one_of HT_.out (by kernel_rfl)) (by decide) (fun K hK => ?_)
  refine goes_ Tryd.func42 (by kernel_rfl) rfl #[.agg #[.int .i64 a1_0, .string a1_1, .int .i64 a1_2, .int .i64 a1_3, .slice A1_4 l1_4.length c1_4]] (by rfl) rfl rfl (by (try simp only [List.map_toArray, List.map_cons, List.map_nil]); first | done | rfl) ?_
  refine (transit_twin.calls a1_0 a1_1 a1_2 a1_3 _ _ l1_4 q4 q5 q6 q7 m4 _ (Kd.C_below HR14.out S7.out.below) HC14.out E3.out).mono ?_
  rintro e w8 ⟨x8, rfl, o8, hb⟩
  refine ⟨_, rfl, ?_⟩
  have S8 := Aside0.mk (S7.out.call hb)
  have X8 := Aside0.mk (Kd.R_lower o8 (below_size S7.out.below))
  have R10 := Aside0.mk (Kd.R_below R10'.out hb)
  clear o8 hb S7 R9' R10'
  refine hK.out _ _ (S8.out.lot) (fun hHeld => ?_)
  clear hK K
  refine norm_ (a' := ?_) ?_ ?_
  rotate_left
  ·
   show Act.put _ (some 27) _ = _
   simp only [Act.put, List.setIfInBounds_toArray, List.set_cons_zero, List.set_cons_succ, i64_w, i32_w]
   rfl
  refine one_ (i := 8) (N := some 31) (bmask 21 1023) rfl rfl (one_of HT_.out (by kernel_rfl)) (by decide) (fun K hK => ?_)
  refine goes_ Tryd.func43 (by kernel_rfl) rfl #[.slice A4 l4.length c4] (by rfl) rfl rfl (by (try simp only [List.map_toArray, List.map_cons, List.map_nil]); first | done | rfl) ?_
  refine (slices_Clone_int_int.calls _ _ l4 s9 _ (Kd.C_below HR4.out S8.out.below) HC4.out E4.out).mono ?_
  rintro e w9 ⟨x9, rfl, o9, hb⟩
  refine ⟨_, rfl, ?_⟩
  have S9 := Aside0.mk (S8.out.call hb)
  have Z8 := Aside0.mk (Kd.R_below X8.out hb)
  have Z10 := Aside0.mk (Kd.R_mono (Kd.R_elder' R10.out (Kd.R_base o9) hb) (fun k hk => hk.2))
  have Z9 := Aside0.mk (Kd.R_mono (Kd.R_lower (Kd.R_new' o9 (Kd.R_lt R10.out)) (below_size S8.out.below)) (fun k hk => hk.2))
  have Q1 := Aside0.mk S9.out.lo.at1
  have Q2 : Aside0 (∃ T : Array Value, w9.heap[gr]? = some (.cells T 27 (0, 0))) := ⟨S9.out.lo.at2.choose, S9.out.lo.at2.choose_spec.2⟩
  clear o9 hb S8 X8 R10
  refine hK.out _ _ (S9.out.lot) (fun hHeld => ?_)
  clear hK K
  refine norm_ (a' := ?_) ?_ ?_
  rotate_left
  ·
   show Act.put _ (some 31) _ = _
   simp only [Act.put, List.setIfInBounds_toArray, List.set_cons_zero, List.set_cons_succ, i64_w, i32_w]
   rfl
  refine one_ (i := 10) (N := none) (bmask 21 2047) rfl rfl (one_of HT_.out (by kernel_rfl)) (by decide) (fun K hK => ?_)
  obtain ⟨W10, hr, hF⟩ := store_one S9.out.lo.at1 3 (by show 3 < 11; omega) (.int .i64 st) rfl rfl 3 (by kernel_rfl)
  refine skip_ (w1 := W10) (by rfl) rfl (exec_store rfl (q := .pointer (some ⟨g, 3, none⟩)) (v := .int .i64 st) rfl rfl hr) ?_
  have S10 := Aside0.mk (S9.out.same hF.1 rfl hF.2)
  clear S9
  clear hr hF
  refine hK.out _ _ (S10.out.lot) (fun hHeld => ?_)
  clear hK K
  refine pure_ (i := 11) (N := some 33) (v := ?_) (a' := ?_) (bmask 21 4095) rfl rfl (any_of HT_.out (by kernel_rfl)) (fun _ _ _ h => h) (Or.inl ⟨by rfl, ?_⟩) ?_ ?_
  rotate_left
  ·
   intro w'
   go_simp
   with_reducible rfl
  rotate_left
  ·
   simp only [Act.put, List.setIfInBounds_toArray, List.set_cons_zero, List.set_cons_succ, i64_w, i32_w]
   rfl
  refine one_ (i := 12) (N := none) (bmask 21 8191) rfl rfl (one_of HT_.out (by kernel_rfl)) (by decide) (fun K hK => ?_)
  obtain ⟨W11, hr, hF⟩ := store_one S10.out.lo.at1 0 (by show 0 < 11; omega) (.int .i64 a1_0) rfl rfl 3 (by kernel_rfl)
  refine skip_ (w1 := W11) (by rfl) rfl (exec_store rfl (q := .pointer (some ⟨g, 0, none⟩)) (v := .int .i64 a1_0) rfl rfl hr) ?_
  have S11 := Aside0.mk (S10.out.same hF.1 rfl hF.2)
  clear S10
  clear hr hF
  refine hK.out _ _ (S11.out.lot) (fun hHeld => ?_)
  clear hK K
  refine pure_ (i := 13) (N := some 34) (v := ?_) (a' := ?_) (bmask 21 16383) rfl rfl (any_of HT_.out (by kernel_rfl)) (fun _ _ _ h => h) (Or.inl ⟨by rfl, ?_⟩) ?_ ?_
  rotate_left
  ·
   intro w'
   go_simp
   with_reducible rfl
  rotate_left
  ·
   simp only [Act.put, List.setIfInBounds_toArray, List.set_cons_zero, List.set_cons_succ, i64_w, i32_w]
   rfl
  refine one_ (i := 14) (N := none) (bmask 21 32767) rfl rfl (one_of HT_.out (by kernel_rfl)) (by decide) (fun K hK => ?_)
  obtain ⟨W12, hr, hF⟩ := store_lot a1_0 t1 t2 st t4 t5 t6 t7 u8 u9 u10 q4 q5 q6 q7 (rone Z8.out) S11.out.lo.at1
  refine skip_ (w1 := W12) (by rfl) rfl (exec_store rfl (q := .pointer (some ⟨g, 4, none⟩)) (v := .agg #[.int .i64 q4, .string q5, .int .i64 q6, .int .i64 q7, x8]) rfl rfl hr) ?_
  have S12 := Aside0.mk (S11.out.same hF.1 rfl hF.2)
  clear S11
  clear hr hF
  refine hK.out _ _ (S12.out.lot) (fun hHeld => ?_)
  clear hK K
  refine pure_ (i := 15) (N := some 35) (v := ?_) (a' := ?_) (bmask 21 65535) rfl rfl (any_of HT_.out (by kernel_rfl)) (fun _ _ _ h => h) (Or.inl ⟨by rfl, ?_⟩) ?_ ?_
  rotate_left
  ·
   intro w'
   go_simp
   with_reducible rfl
  rotate_left
  ·
   simp only [Act.put, List.setIfInBounds_toArray, List.set_cons_zero, List.set_cons_succ, i64_w, i32_w]
   rfl
  refine one_ (i := 16) (N := none) (bmask 21 131071) rfl rfl (one_of HT_.out (by kernel_rfl)) (by decide) (fun K hK => ?_)
  obtain ⟨W13, hr, hF⟩ := store_one S12.out.lo.at1 1 (by show 1 < 11; omega) (.int .i64 a2) rfl rfl 3 (by kernel_rfl)
  refine skip_ (w1 := W13) (by rfl) rfl (exec_store rfl (q := .pointer (some ⟨g, 1, none⟩)) (v := .int .i64 a2) rfl rfl hr) ?_
  have S13 := Aside0.mk (S12.out.same hF.1 rfl hF.2)
  clear S12
  clear hr hF
  refine hK.out _ _ (S13.out.lot) (fun hHeld => ?_)
  clear hK K
  refine pure_ (i := 17) (N := some 36) (v := ?_) (a' := ?_) (bmask 21 262143) rfl rfl (any_of HT_.out (by kernel_rfl)) (fun _ _ _ h => h) (Or.inl ⟨by rfl, ?_⟩) ?_ ?_
  rotate_left
  ·
   intro w'
   go_simp
   with_reducible rfl
  rotate_left
  ·
   simp only [Act.put, List.setIfInBounds_toArray, List.set_cons_zero, List.set_cons_succ, i64_w, i32_w]
   rfl
  refine one_ (i := 18) (N := none) (bmask 21 524287) rfl rfl (one_of HT_.out (by kernel_rfl)) (by decide) (fun K hK => ?_)
  obtain ⟨W14, hr, hF⟩ := store_one S13.out.lo.at1 2 (by show 2 < 11; omega) (.int .i64 a3) rfl rfl 3 (by kernel_rfl)
  refine skip_ (w1 := W14) (by rfl) rfl (exec_store rfl (q := .pointer (some ⟨g, 2, none⟩)) (v := .int .i64 a3) rfl rfl hr) ?_
  have S14 := Aside0.mk (S13.out.same hF.1 rfl hF.2)
  clear S13
  clear hr hF
  refine hK.out _ _ (S14.out.lot) (fun hHeld => ?_)
  clear hK K
  refine pure_ (i := 19) (N := some 37) (v := ?_) (a' := ?_) (bmask 21 1048575) rfl rfl (any_of HT_.out (by kernel_rfl)) (fun _ _ _ h => h) (Or.inl ⟨by rfl, ?_⟩) ?_ ?_
  rotate_left
  ·
   intro w'
   go_simp
   with_reducible rfl
  rotate_left
  ·
   simp only [Act.put, List.setIfInBounds_toArray, List.set_cons_zero, List.set_cons_succ, i64_w, i32_w]
   rfl
  refine one_ (i := 20) (N := none) (bmask 21 2097151) rfl rfl (one_of HT_.out (by kernel_rfl)) (by decide) (fun K hK => ?_)
  obtain ⟨W15, hr, hF⟩ := store_one S14.out.lo.at1 9 (by show 9 < 11; omega) (x9) (rone Z9.out) rfl 25 (by kernel_rfl)
  refine skip_ (w1 := W15) (by rfl) rfl (exec_store rfl (q := .pointer (some ⟨g, 9, none⟩)) (v := x9) rfl rfl hr) ?_
  have S15 := Aside0.mk (S14.out.same hF.1 rfl hF.2)
  clear S14
  clear hr hF
  refine hK.out _ _ (S15.out.lot) (fun hHeld => ?_)
  clear hK K
  refine done_ (done_of HT_.out (by kernel_rfl)) ?_
  go_wp2_with (first
   | ((with_reducible refine gate_dst (N := 38) rfl ?_); refine ev_load rfl (N := 38) rfl rfl (q := .pointer (some ⟨g, 0, none⟩)) (v := .agg #[.int .i64 a1_0, .int .i64 a2, .int .i64 a3, .int .i64 st, .int .i64 q4, .string q5, .int .i64 q6, .int .i64 q7, x8, x9, u10]) rfl (load_eleven Tryd.underlying27 rfl (by kernel_rfl) S15.out.lo.at1 rfl) ?_)
   | ((with_reducible refine gate_store (t := 27) (p := 10) rfl ?_); obtain ⟨old, ho2, h2⟩ := S15.out.lo.at2; refine ev_store rfl (ty := 27) (p := 10) rfl rfl (q := .pointer (some ⟨gr, 0, none⟩)) (v := .agg #[.int .i64 a1_0, .int .i64 a2, .int .i64 a3, .int .i64 st, .int .i64 q4, .string q5, .int .i64 q6, .int .i64 q7, x8, x9, u10]) rfl rfl (store_eleven (by kernel_rfl) h2 ho2 (arr_elf _ _ _ _ _ _ _ _ (rone Z8.out) (rone Z9.out) (rone Z10.out))) ?_; intro w9 hF; have AF := Aside0.mk hF.1; have MF := Aside0.mk (S15.out.lo.done hF.2); have MG := Aside0.mk (S15.out.mv.then_ (Mv.same (fun k => k = g ∨ k = gr) (.inr rfl) hF.2) (fun _ hk => .inl hk)); clear hF ho2 h2))
  refine bodyPost_ret (results_ct rfl _ _ gr 27 #[.int .i64 a1_0, .int .i64 a2, .int .i64 a3, .int .i64 st, .int .i64 q4, .string q5, .int .i64 q6, .int .i64 q7, x8, x9, u10] (0, 0) _ rfl AF.out Tryd.underlying27 rfl (by kernel_rfl)) rfl ?_
  exact ⟨x8, x9, u10, rfl, R_past (by decide) Z8.out Q1.out Q2.out.choose_spec MG.out, R_past (by decide) Z9.out Q1.out Q2.out.choose_spec MG.out, R_past (by decide) Z10.out Q1.out Q2.out.choose_spec MG.out, MF.out.below (Nat.le_refl _) (fun _ hk => hk.elim)⟩


def transit_departed.f (a0_0 : Int) (a0_1 : Int) (a0_2 : Int) (a0_3 : Int) (a0_4 : Int) (a0_5 : Int) (a0_6 : Int) (a0_7 : Int) (a0_8 : Int) (a0_9 : Int) (l0_10 : List Int) : Option (Int × Int × Int × Int × Int × Int × Int × Int × Int × Int × List Int) := (slices_Clone_int_int.f l0_10).bind fun t184 => (some (a0_0, a0_1, a0_2, a0_3, a0_4, a0_5, a0_6, a0_7, a0_8, a0_9, t184))
set_option maxHeartbeats 8000000 in
set_option maxRecDepth 100000 in
theorem transit_departed.calls (a0_0 : Int) (a0_1 : Int) (a0_2 : Int) (a0_3 : Int) (a0_4 : Int) (a0_5 : Int) (a0_6 : Int) (a0_7 : Int) (a0_8 : Int) (a0_9 : Int) (A0_10 : Option Addr) (c0_10 : Nat) (l0_10 : List Int) (r1 : Int) (r2 : Int) (r3 : Int) (r4 : Int) (r5 : Int) (r6 : Int) (r7 : Int) (r8 : Int) (r9 : Int) (r10 : Int) (r11 : List Int) (w : World) (hr0_10 : Kd.C (Kd.int .i64) w A0_10 l0_10.length l0_10) (hc0_10 : l0_10.length ≤ c0_10) (h : transit_departed.f a0_0 a0_1 a0_2 a0_3 a0_4 a0_5 a0_6 a0_7 a0_8 a0_9 l0_10 = some (r1, r2, r3, r4, r5, r6, r7, r8, r9, r10, r11)) :
  Calls Tryd.prog 45 #[.agg #[.int .i64 a0_0, .int .i64 a0_1, .int .i64 a0_2, .int .i64 a0_3, .int .i64 a0_4, .int .i64 a0_5, .int .i64 a0_6, .int .i64 a0_7, .int .i64 a0_8, .int .i64 a0_9, .slice A0_10 l0_10.length c0_10]] w fun e w' => ∃ v10_ : Value, e = .returned (.agg #[.int .i64 r1, .int .i64 r2, .int .i64 r3, .int .i64 r4, .int .i64 r5, .int .i64 r6, .int .i64 r7, .int .i64 r8, .int .i64 r9, .int .i64 r10, v10_]) ∧ Kd.R (Kd.int .i64) 3 w' w.heap.size (fun _ => True) v10_ r11 ∧ Below w.heap.size w w' := by
 have hu38 := Tryd.underlying38
 have HR0_10 := Aside0.mk hr0_10
 have HC0_10 := Aside0.mk hc0_10
 clear hr0_10 hc0_10
 have HB := Aside0.mk (Below.refl w.heap.size w)
 have H : ((slices_Clone_int_int.f l0_10).bind fun t184 => (some (a0_0, a0_1, a0_2, a0_3, a0_4, a0_5, a0_6, a0_7, a0_8, a0_9, t184))) = some (r1, r2, r3, r4, r5, r6, r7, r8, r9, r10, r11) := h
 clear h
 replace H := Option.bind_eq_some_iff.mp H
 obtain ⟨t184, A20, H⟩ := H
 replace H : (some (a0_0, a0_1, a0_2, a0_3, a0_4, a0_5, a0_6, a0_7, a0_8, a0_9, t184)) = some (r1, r2, r3, r4, r5, r6, r7, r8, r9, r10, r11) := H
 have A2 := Aside0.mk A20
 clear A20
 simp only [Option.some.injEq, Prod.mk.injEq] at H
 obtain ⟨rfl, rfl, rfl, rfl, rfl, rfl, rfl, rfl, rfl, rfl, rfl⟩ := H
 go_enter Tryd.func45, Tryd.ntmps45
 go_wp2_with (first | ((with_reducible refine gate_dst (N := 1) rfl ?_); refine box_event ?hg (N := 1) ?hd (cs := #[.int .i64 a0_0, .int .i64 a0_1, .int .i64 a0_2, .int .i64 a0_3, .int .i64 a0_4, .int .i64 a0_5, .int .i64 a0_6, .int .i64 a0_7, .int .i64 a0_8, .int .i64 a0_9, .slice A0_10 l0_10.length c0_10]) (t := 38) ?hr ?_; (case hd => rfl); (case hg => rfl); (case hr => first | (go_simp; done) | (go_simp; rfl)); intro gb182 hg w3 hbox hb; have n0_ := Aside0.mk (below_step (by repeat (first | (with_reducible first | exact HB.out | apply below_alloc | apply pw_below_drewN | apply below_drew1) | exact HB.out)) hb); have n1_ := Aside0.mk (hbox); have n2_ := Aside0.mk ((by rw [hg]; exact (below_size (by repeat (first | (with_reducible first | exact HB.out | apply below_alloc | apply pw_below_drewN | apply below_drew1) | exact HB.out))) : w.heap.size ≤ gb182)); have n3_ := Aside0.mk ((by rw [hg]; exact (below_size (by repeat (first | (with_reducible first | exact HB.out | apply below_alloc | apply pw_below_drewN | apply below_drew1) | exact HB.out))) : w.heap.size ≤ gb182)); clear HB; have HB := n0_; have BK182 := n1_; have GW182 := n2_; have GE182 := n3_; clear n0_ n1_ n2_ n3_; clear hb hbox hg) | ((with_reducible refine gate_dst (N := 2) rfl ?_); refine box_event ?hg (N := 2) ?hd (cs := #[.int .i64 0, .int .i64 0, .int .i64 0, .int .i64 0, .int .i64 0, .int .i64 0, .int .i64 0, .int .i64 0, .int .i64 0, .int .i64 0, .slice none 0 0]) (t := 38) ?hr ?_; (case hd => rfl); (case hg => rfl); (case hr => first | (go_simp; done) | (go_simp; rfl)); intro gb183 hg w4 hbox hb; have n0_ := Aside0.mk (blk_below (g := gb182) (o := .cells #[.int .i64 a0_0, .int .i64 a0_1, .int .i64 a0_2, .int .i64 a0_3, .int .i64 a0_4, .int .i64 a0_5, .int .i64 a0_6, .int .i64 a0_7, .int .i64 a0_8, .int .i64 a0_9, .slice A0_10 l0_10.length c0_10] 38 (0, 0)) (by (with_reducible repeat (first | refine blk_drewN ?_ _ | refine blk_drew ?_ | refine blk_alloc ?_ _)); exact BK182.out) hb); have n1_ := Aside0.mk (below_step (by repeat (first | (with_reducible first | exact HB.out | apply below_alloc | apply pw_below_drewN | apply below_drew1 | refine below_set ?_ GE182.out) | exact HB.out)) hb); have n2_ := Aside0.mk (hbox); have n3_ := Aside0.mk ((by rw [hg]; exact (below_size (by repeat (first | (with_reducible first | exact HB.out | apply below_alloc | apply pw_below_drewN | apply below_drew1 | refine below_set ?_ GE182.out) | exact HB.out))) : w.heap.size ≤ gb183)); have n4_ := Aside0.mk ((by rw [hg]; exact (below_size (by repeat (first | (with_reducible first | exact HB.out | apply below_alloc | apply pw_below_drewN | apply below_drew1 | refine below_set ?_ GE182.out) | exact HB.out))) : w.heap.size ≤ gb183)); have n5_ := Aside0.mk ((by rw [hg]; exact Nat.ne_of_lt (blk_lt (g := gb182) (o := .cells #[.int .i64 a0_0, .int .i64 a0_1, .int .i64 a0_2, .int .i64 a0_3, .int .i64 a0_4, .int .i64 a0_5, .int .i64 a0_6, .int .i64 a0_7, .int .i64 a0_8, .int .i64 a0_9, .slice A0_10 l0_10.length c0_10] 38 (0, 0)) (by (with_reducible repeat (first | refine blk_drewN ?_ _ | refine blk_drew ?_ | refine blk_alloc ?_ _)); exact BK182.out)) : gb182 ≠ gb183)); have n6_ := Aside0.mk ((by rw [hg]; exact Nat.ne_of_gt (blk_lt (g := gb182) (o := .cells #[.int .i64 a0_0, .int .i64 a0_1, .int .i64 a0_2, .int .i64 a0_3, .int .i64 a0_4, .int .i64 a0_5, .int .i64 a0_6, .int .i64 a0_7, .int .i64 a0_8, .int .i64 a0_9, .slice A0_10 l0_10.length c0_10] 38 (0, 0)) (by (with_reducible repeat (first | refine blk_drewN ?_ _ | refine blk_drew ?_ | refine blk_alloc ?_ _)); exact BK182.out)) : gb183 ≠ gb182)); clear BK182; clear HB; have BK182 := n0_; have HB := n1_; have BK183 := n2_; have GW183 := n3_; have GE183 := n4_; have NB182_183 := n5_; have NB183_182 := n6_; clear n0_ n1_ n2_ n3_ n4_ n5_ n6_; clear hb hbox hg; have hnb5 := NB182_183.out; have hnc5 := NB183_182.out; have hcz6_0 : w4.cell? ⟨gb182, 0, none⟩ = some (.int .i64 a0_0) := (blk_cell BK182.out 0).trans rfl; have hcz6_1 : w4.cell? ⟨gb182, 1, none⟩ = some (.int .i64 a0_1) := (blk_cell BK182.out 1).trans rfl; have hcz6_2 : w4.cell? ⟨gb182, 2, none⟩ = some (.int .i64 a0_2) := (blk_cell BK182.out 2).trans rfl; have hcz6_3 : w4.cell? ⟨gb182, 3, none⟩ = some (.int .i64 a0_3) := (blk_cell BK182.out 3).trans rfl; have hcz6_4 : w4.cell? ⟨gb182, 4, none⟩ = some (.int .i64 a0_4) := (blk_cell BK182.out 4).trans rfl; have hcz6_5 : w4.cell? ⟨gb182, 5, none⟩ = some (.int .i64 a0_5) := (blk_cell BK182.out 5).trans rfl; have hcz6_6 : w4.cell? ⟨gb182, 6, none⟩ = some (.int .i64 a0_6) := (blk_cell BK182.out 6).trans rfl; have hcz6_7 : w4.cell? ⟨gb182, 7, none⟩ = some (.int .i64 a0_7) := (blk_cell BK182.out 7).trans rfl; have hcz6_8 : w4.cell? ⟨gb182, 8, none⟩ = some (.int .i64 a0_8) := (blk_cell BK182.out 8).trans rfl; have hcz6_9 : w4.cell? ⟨gb182, 9, none⟩ = some (.int .i64 a0_9) := (blk_cell BK182.out 9).trans rfl; have hcz6_10 : w4.cell? ⟨gb182, 10, none⟩ = some (.slice A0_10 l0_10.length c0_10) := (blk_cell BK182.out 10).trans rfl; have hfz6_0 := blk_frozen BK182.out 0; have hfz6_1 := blk_frozen BK182.out 1; have hfz6_2 := blk_frozen BK182.out 2; have hfz6_3 := blk_frozen BK182.out 3; have hfz6_4 := blk_frozen BK182.out 4; have hfz6_5 := blk_frozen BK182.out 5; have hfz6_6 := blk_frozen BK182.out 6; have hfz6_7 := blk_frozen BK182.out 7; have hfz6_8 := blk_frozen BK182.out 8; have hfz6_9 := blk_frozen BK182.out 9; have hfz6_10 := blk_frozen BK182.out 10) | ((with_reducible refine gate_callee (f := 43) rfl ?_); refine goesL_ (some 5) rfl rfl Tryd.func43 (by kernel_rfl) rfl #[.slice A0_10 l0_10.length c0_10] rfl (by (try simp only [List.map_toArray, List.map_cons, List.map_nil]); first | done | rfl | (simp only [List.length_drop, List.length_take]; rfl)) ?_; (with_reducible refine (slices_Clone_int_int.calls _ _ l0_10 t184 _ ?side1 ?side2 A2.out).mono ?_); (case side1 => repeat (first | exact (Kd.C_below HR0_10.out HB.out) | (with_reducible refine Kd.C_alloc ?_ _) | (with_reducible refine Kd.C_drewN ?_ _) | (with_reducible refine Kd.C_drew ?_))); (case side2 => exact HC0_10.out); rintro e w7 ⟨v185, rfl, ho0, hb⟩; refine ⟨_, rfl, ?_⟩; have n0_ := Aside0.mk (Kd.R_lower ho0 (below_size (by repeat (first | (with_reducible first | exact HB.out | apply below_alloc | apply pw_below_drewN | apply below_drew1 | refine below_set ?_ GE182.out | refine below_set ?_ GE183.out) | exact HB.out)))); have n1_ := Aside0.mk (blk_below (g := gb182) (o := .cells #[.int .i64 a0_0, .int .i64 a0_1, .int .i64 a0_2, .int .i64 a0_3, .int .i64 a0_4, .int .i64 a0_5, .int .i64 a0_6, .int .i64 a0_7, .int .i64 a0_8, .int .i64 a0_9, .slice A0_10 l0_10.length c0_10] 38 (0, 0)) (by (with_reducible repeat (first | refine blk_drewN ?_ _ | refine blk_drew ?_ | refine blk_alloc ?_ _)); exact BK182.out) hb); have n2_ := Aside0.mk (blk_below (g := gb183) (o := .cells #[.int .i64 0, .int .i64 0, .int .i64 0, .int .i64 0, .int .i64 0, .int .i64 0, .int .i64 0, .int .i64 0, .int .i64 0, .int .i64 0, .slice none 0 0] 38 (0, 0)) (by (with_reducible repeat (first | refine blk_drewN ?_ _ | refine blk_drew ?_ | refine blk_alloc ?_ _)); exact BK183.out) hb); have n3_ := Aside0.mk (below_step (by repeat (first | (with_reducible first | exact HB.out | apply below_alloc | apply pw_below_drewN | apply below_drew1 | refine below_set ?_ GE182.out | refine below_set ?_ GE183.out) | exact HB.out)) hb); clear BK182; clear BK183; clear HB; have HO186 := n0_; have BK182 := n1_; have BK183 := n2_; have HB := n3_; clear n0_ n1_ n2_ n3_; (try clear hb); (try clear hb2); (try clear hk); (try clear hi); (try clear ho0); obtain ⟨Ao8, co8, eo8⟩ := Kd.R_slice HO186.out; subst eo8; have hcz9_0 : w7.cell? ⟨gb182, 0, none⟩ = some (.int .i64 a0_0) := (blk_cell BK182.out 0).trans rfl; have hcz9_1 : w7.cell? ⟨gb182, 1, none⟩ = some (.int .i64 a0_1) := (blk_cell BK182.out 1).trans rfl; have hcz9_2 : w7.cell? ⟨gb182, 2, none⟩ = some (.int .i64 a0_2) := (blk_cell BK182.out 2).trans rfl; have hcz9_3 : w7.cell? ⟨gb182, 3, none⟩ = some (.int .i64 a0_3) := (blk_cell BK182.out 3).trans rfl; have hcz9_4 : w7.cell? ⟨gb182, 4, none⟩ = some (.int .i64 a0_4) := (blk_cell BK182.out 4).trans rfl; have hcz9_5 : w7.cell? ⟨gb182, 5, none⟩ = some (.int .i64 a0_5) := (blk_cell BK182.out 5).trans rfl; have hcz9_6 : w7.cell? ⟨gb182, 6, none⟩ = some (.int .i64 a0_6) := (blk_cell BK182.out 6).trans rfl; have hcz9_7 : w7.cell? ⟨gb182, 7, none⟩ = some (.int .i64 a0_7) := (blk_cell BK182.out 7).trans rfl; have hcz9_8 : w7.cell? ⟨gb182, 8, none⟩ = some (.int .i64 a0_8) := (blk_cell BK182.out 8).trans rfl; have hcz9_9 : w7.cell? ⟨gb182, 9, none⟩ = some (.int .i64 a0_9) := (blk_cell BK182.out 9).trans rfl; have hcz9_10 : w7.cell? ⟨gb182, 10, none⟩ = some (.slice A0_10 l0_10.length c0_10) := (blk_cell BK182.out 10).trans rfl; have hfz9_0 := blk_frozen BK182.out 0; have hfz9_1 := blk_frozen BK182.out 1; have hfz9_2 := blk_frozen BK182.out 2; have hfz9_3 := blk_frozen BK182.out 3; have hfz9_4 := blk_frozen BK182.out 4; have hfz9_5 := blk_frozen BK182.out 5; have hfz9_6 := blk_frozen BK182.out 6; have hfz9_7 := blk_frozen BK182.out 7; have hfz9_8 := blk_frozen BK182.out 8; have hfz9_9 := blk_frozen BK182.out 9; have hfz9_10 := blk_frozen BK182.out 10; have hcz10_0 : w7.cell? ⟨gb183, 0, none⟩ = some (.int .i64 0) := (blk_cell BK183.out 0).trans rfl; have hcz10_1 : w7.cell? ⟨gb183, 1, none⟩ = some (.int .i64 0) := (blk_cell BK183.out 1).trans rfl; have hcz10_2 : w7.cell? ⟨gb183, 2, none⟩ = some (.int .i64 0) := (blk_cell BK183.out 2).trans rfl; have hcz10_3 : w7.cell? ⟨gb183, 3, none⟩ = some (.int .i64 0) := (blk_cell BK183.out 3).trans rfl; have hcz10_4 : w7.cell? ⟨gb183, 4, none⟩ = some (.int .i64 0) := (blk_cell BK183.out 4).trans rfl; have hcz10_5 : w7.cell? ⟨gb183, 5, none⟩ = some (.int .i64 0) := (blk_cell BK183.out 5).trans rfl; have hcz10_6 : w7.cell? ⟨gb183, 6, none⟩ = some (.int .i64 0) := (blk_cell BK183.out 6).trans rfl; have hcz10_7 : w7.cell? ⟨gb183, 7, none⟩ = some (.int .i64 0) := (blk_cell BK183.out 7).trans rfl; have hcz10_8 : w7.cell? ⟨gb183, 8, none⟩ = some (.int .i64 0) := (blk_cell BK183.out 8).trans rfl; have hcz10_9 : w7.cell? ⟨gb183, 9, none⟩ = some (.int .i64 0) := (blk_cell BK183.out 9).trans rfl; have hcz10_10 : w7.cell? ⟨gb183, 10, none⟩ = some (.slice none 0 0) := (blk_cell BK183.out 10).trans rfl; have hfz10_0 := blk_frozen BK183.out 0; have hfz10_1 := blk_frozen BK183.out 1; have hfz10_2 := blk_frozen BK183.out 2; have hfz10_3 := blk_frozen BK183.out 3; have hfz10_4 := blk_frozen BK183.out 4; have hfz10_5 := blk_frozen BK183.out 5; have hfz10_6 := blk_frozen BK183.out 6; have hfz10_7 := blk_frozen BK183.out 7; have hfz10_8 := blk_frozen BK183.out 8; have hfz10_9 := blk_frozen BK183.out 9; have hfz10_10 := blk_frozen BK183.out 10))
 refine bodyPost_ret (results_cell_row rfl _ _ gb183 38 #[.int .i64 a0_0, .int .i64 a0_1, .int .i64 a0_2, .int .i64 a0_3, .int .i64 a0_4, .int .i64 a0_5, .int .i64 a0_6, .int .i64 a0_7, .int .i64 a0_8, .int .i64 a0_9, .slice Ao8 t184.length co8] (0, 0) _ rfl (by (with_reducible repeat (first | refine blk_drewN ?_ _ | refine blk_drew ?_ | refine blk_alloc ?_ _)); refine blk_put (cs := #[.int .i64 a0_0, .int .i64 a0_1, .int .i64 a0_2, .int .i64 a0_3, .int .i64 a0_4, .int .i64 a0_5, .int .i64 a0_6, .int .i64 a0_7, .int .i64 a0_8, .int .i64 a0_9, .slice none 0 0]) ?_ 10 _ rfl; (with_reducible repeat (first | refine blk_drewN ?_ _ | refine blk_drew ?_ | refine blk_alloc ?_ _)); refine blk_put (cs := #[.int .i64 a0_0, .int .i64 a0_1, .int .i64 a0_2, .int .i64 a0_3, .int .i64 a0_4, .int .i64 a0_5, .int .i64 a0_6, .int .i64 a0_7, .int .i64 a0_8, .int .i64 0, .slice none 0 0]) ?_ 9 _ rfl; (with_reducible repeat (first | refine blk_drewN ?_ _ | refine blk_drew ?_ | refine blk_alloc ?_ _)); refine blk_put (cs := #[.int .i64 a0_0, .int .i64 a0_1, .int .i64 a0_2, .int .i64 a0_3, .int .i64 a0_4, .int .i64 a0_5, .int .i64 a0_6, .int .i64 a0_7, .int .i64 0, .int .i64 0, .slice none 0 0]) ?_ 8 _ rfl; (with_reducible repeat (first | refine blk_drewN ?_ _ | refine blk_drew ?_ | refine blk_alloc ?_ _)); refine blk_put (cs := #[.int .i64 a0_0, .int .i64 a0_1, .int .i64 a0_2, .int .i64 a0_3, .int .i64 a0_4, .int .i64 a0_5, .int .i64 a0_6, .int .i64 0, .int .i64 0, .int .i64 0, .slice none 0 0]) ?_ 7 _ rfl; (with_reducible repeat (first | refine blk_drewN ?_ _ | refine blk_drew ?_ | refine blk_alloc ?_ _)); refine blk_put (cs := #[.int .i64 a0_0, .int .i64 a0_1, .int .i64 a0_2, .int .i64 a0_3, .int .i64 a0_4, .int .i64 a0_5, .int .i64 0, .int .i64 0, .int .i64 0, .int .i64 0, .slice none 0 0]) ?_ 6 _ rfl; (with_reducible repeat (first | refine blk_drewN ?_ _ | refine blk_drew ?_ | refine blk_alloc ?_ _)); refine blk_put (cs := #[.int .i64 a0_0, .int .i64 a0_1, .int .i64 a0_2, .int .i64 a0_3, .int .i64 a0_4, .int .i64 0, .int .i64 0, .int .i64 0, .int .i64 0, .int .i64 0, .slice none 0 0]) ?_ 5 _ rfl; (with_reducible repeat (first | refine blk_drewN ?_ _ | refine blk_drew ?_ | refine blk_alloc ?_ _)); refine blk_put (cs := #[.int .i64 a0_0, .int .i64 a0_1, .int .i64 a0_2, .int .i64 a0_3, .int .i64 0, .int .i64 0, .int .i64 0, .int .i64 0, .int .i64 0, .int .i64 0, .slice none 0 0]) ?_ 4 _ rfl; (with_reducible repeat (first | refine blk_drewN ?_ _ | refine blk_drew ?_ | refine blk_alloc ?_ _)); refine blk_put (cs := #[.int .i64 a0_0, .int .i64 a0_1, .int .i64 a0_2, .int .i64 0, .int .i64 0, .int .i64 0, .int .i64 0, .int .i64 0, .int .i64 0, .int .i64 0, .slice none 0 0]) ?_ 3 _ rfl; (with_reducible repeat (first | refine blk_drewN ?_ _ | refine blk_drew ?_ | refine blk_alloc ?_ _)); refine blk_put (cs := #[.int .i64 a0_0, .int .i64 a0_1, .int .i64 0, .int .i64 0, .int .i64 0, .int .i64 0, .int .i64 0, .int .i64 0, .int .i64 0, .int .i64 0, .slice none 0 0]) ?_ 2 _ rfl; (with_reducible repeat (first | refine blk_drewN ?_ _ | refine blk_drew ?_ | refine blk_alloc ?_ _)); refine blk_put (cs := #[.int .i64 a0_0, .int .i64 0, .int .i64 0, .int .i64 0, .int .i64 0, .int .i64 0, .int .i64 0, .int .i64 0, .int .i64 0, .int .i64 0, .slice none 0 0]) ?_ 1 _ rfl; (with_reducible repeat (first | refine blk_drewN ?_ _ | refine blk_drew ?_ | refine blk_alloc ?_ _)); refine blk_put (cs := #[.int .i64 0, .int .i64 0, .int .i64 0, .int .i64 0, .int .i64 0, .int .i64 0, .int .i64 0, .int .i64 0, .int .i64 0, .int .i64 0, .slice none 0 0]) ?_ 0 _ rfl; (with_reducible repeat (first | refine blk_drewN ?_ _ | refine blk_drew ?_ | refine blk_alloc ?_ _)); refine blk_far ?_ NB183_182.out _; (with_reducible repeat (first | refine blk_drewN ?_ _ | refine blk_drew ?_ | refine blk_alloc ?_ _)); exact BK183.out) Tryd.underlying38 rfl (by kernel_rfl)) rfl ?_
 exact ⟨_, by first | rfl | (simp [errW_none, errW_some] <;> rfl) | (simp [*, errW_none, errW_some] <;> rfl), by (with_reducible repeat (first | apply Kd.R_alloc | apply Kd.R_drewN | apply Kd.R_drew)); exact Kd.R_mono (Kd.R_far (p := ⟨gb183, 10, none⟩) (Kd.R_far (p := ⟨gb183, 9, none⟩) (Kd.R_far (p := ⟨gb183, 8, none⟩) (Kd.R_far (p := ⟨gb183, 7, none⟩) (Kd.R_far (p := ⟨gb183, 6, none⟩) (Kd.R_far (p := ⟨gb183, 5, none⟩) (Kd.R_far (p := ⟨gb183, 4, none⟩) (Kd.R_far (p := ⟨gb183, 3, none⟩) (Kd.R_far (p := ⟨gb183, 2, none⟩) (Kd.R_far (p := ⟨gb183, 1, none⟩) (Kd.R_far (p := ⟨gb183, 0, none⟩) (Kd.R_far (p := ⟨gb182, 10, none⟩) (Kd.R_types (Kd.R_types HO186.out BK182.out (by decide)) BK183.out (by decide)) (fun _ hk => hk.1.2) (.slice Ao8 t184.length co8)) (fun _ hk => hk.2) (.int .i64 a0_0)) (fun _ hk => hk.2) (.int .i64 a0_1)) (fun _ hk => hk.2) (.int .i64 a0_2)) (fun _ hk => hk.2) (.int .i64 a0_3)) (fun _ hk => hk.2) (.int .i64 a0_4)) (fun _ hk => hk.2) (.int .i64 a0_5)) (fun _ hk => hk.2) (.int .i64 a0_6)) (fun _ hk => hk.2) (.int .i64 a0_7)) (fun _ hk => hk.2) (.int .i64 a0_8)) (fun _ hk => hk.2) (.int .i64 a0_9)) (fun _ hk => hk.2) (.slice Ao8 t184.length co8)) (fun _ hk => trivial), by repeat (first | (with_reducible first | exact HB.out | apply below_alloc | apply pw_below_drewN | apply below_drew1 | refine below_set ?_ GE182.out | refine below_set ?_ GE183.out) | exact HB.out)⟩

def transit_ended.f (a0_0 : Int) (a0_1 : Int) (a0_2 : Int) (a0_3 : Int) (a0_4 : Int) (a0_5 : Int) (a0_6 : Int) (a0_7 : Int) (a0_8 : Int) (a0_9 : Int) (l0_10 : List Int) (a1 : Int) : Option (Int × Int × Int × Int × Int × Int × Int × Int × Int × Int × List Int × Bool) := (transit_departed.f a0_0 a0_1 a0_2 a0_3 a0_4 a0_5 a0_6 a0_7 a0_8 a0_9 l0_10).bind fun bt348 => (if bt348.2.2.2.2.2.1 = 3 then (some (bt348.1, bt348.2.1, bt348.2.2.1, bt348.2.2.2.1, bt348.2.2.2.2.1, a1, bt348.2.2.2.2.2.2.1, bt348.2.2.2.2.2.2.2.1, 0, bt348.2.2.2.2.2.2.2.2.2.1, bt348.2.2.2.2.2.2.2.2.2.2, true)) else (some (bt348.1, bt348.2.1, bt348.2.2.1, bt348.2.2.2.1, bt348.2.2.2.2.1, bt348.2.2.2.2.2.1, bt348.2.2.2.2.2.2.1, bt348.2.2.2.2.2.2.2.1, bt348.2.2.2.2.2.2.2.2.1, bt348.2.2.2.2.2.2.2.2.2.1, bt348.2.2.2.2.2.2.2.2.2.2, false)))
set_option maxHeartbeats 8000000 in
set_option maxRecDepth 100000 in
theorem transit_ended.calls (a0_0 : Int) (a0_1 : Int) (a0_2 : Int) (a0_3 : Int) (a0_4 : Int) (a0_5 : Int) (a0_6 : Int) (a0_7 : Int) (a0_8 : Int) (a0_9 : Int) (A0_10 : Option Addr) (c0_10 : Nat) (l0_10 : List Int) (a1 : Int) (r1 : Int) (r2 : Int) (r3 : Int) (r4 : Int) (r5 : Int) (r6 : Int) (r7 : Int) (r8 : Int) (r9 : Int) (r10 : Int) (r11 : List Int) (r12 : Bool) (w : World) (hr0_10 : Kd.C (Kd.int .i64) w A0_10 l0_10.length l0_10) (hc0_10 : l0_10.length ≤ c0_10) (h : transit_ended.f a0_0 a0_1 a0_2 a0_3 a0_4 a0_5 a0_6 a0_7 a0_8 a0_9 l0_10 a1 = some (r1, r2, r3, r4, r5, r6, r7, r8, r9, r10, r11, r12)) :
  Calls Tryd.prog 60 #[.agg #[.int .i64 a0_0, .int .i64 a0_1, .int .i64 a0_2, .int .i64 a0_3, .int .i64 a0_4, .int .i64 a0_5, .int .i64 a0_6, .int .i64 a0_7, .int .i64 a0_8, .int .i64 a0_9, .slice A0_10 l0_10.length c0_10], .int .i64 a1] w fun e w' => ∃ v10_ : Value, e = .returned (.tuple #[.agg #[.int .i64 r1, .int .i64 r2, .int .i64 r3, .int .i64 r4, .int .i64 r5, .int .i64 r6, .int .i64 r7, .int .i64 r8, .int .i64 r9, .int .i64 r10, v10_], .bool r12]) ∧ Kd.R (Kd.int .i64) 3 w' w.heap.size (fun _ => True) v10_ r11 ∧ Below w.heap.size w w' := by
 have HR := Aside0.mk hr0_10
 have HC := Aside0.mk hc0_10
 clear hr0_10 hc0_10
 have hu38 := Tryd.underlying38
 unfold transit_ended.f at h
 obtain ⟨⟨d0, d1, d2, d3, d4, d5, d6, d7, d8, d9, ds⟩, A0, H⟩ := Option.bind_eq_some_iff.mp h
 have A3 := Aside0.mk A0
 clear h A0
 by_cases c : d5 = 3
 ·
  subst c
  simp only [if_pos] at H
  simp only [Option.some.injEq, Prod.mk.injEq] at H
  obtain ⟨rfl, rfl, rfl, rfl, rfl, rfl, rfl, rfl, rfl, rfl, rfl, rfl⟩ := H
  go_enter Tryd.func60, Tryd.ntmps60
  go_wp2_with (first
   | ((with_reducible refine gate_dst (N := 2) rfl ?_); refine box_event rfl (N := 2) rfl (cs := #[.int .i64 a0_0, .int .i64 a0_1, .int .i64 a0_2, .int .i64 a0_3, .int .i64 a0_4, .int .i64 a0_5, .int .i64 a0_6, .int .i64 a0_7, .int .i64 a0_8, .int .i64 a0_9, .slice A0_10 l0_10.length c0_10]) (t := 38) ?hr ?_; (case hr => first | (go_simp; done) | (go_simp; rfl)); intro g hg w1 h1 b1; have G1 := Aside0.mk (And.intro hg (And.intro h1 b1)); clear hg h1 b1)
   | ((with_reducible refine gate_dst (N := 4) rfl ?_); refine box_event rfl (N := 4) rfl (cs := #[.int .i64 0, .int .i64 0, .int .i64 0, .int .i64 0, .int .i64 0, .int .i64 0, .int .i64 0, .int .i64 0, .int .i64 0, .int .i64 0, .slice none 0 0]) (t := 38) ?hr ?_; (case hr => first | (go_simp; done) | (go_simp; rfl)); intro gr hg w2 h1 b1; have L := Aside0.mk (Lo.start G1.out.1 G1.out.2.1 G1.out.2.2 hg h1 rfl b1 (fun _ => False)); clear hg h1 b1 G1)
   | ((with_reducible refine gate_dst (N := 6) rfl ?_); refine ev_load rfl (N := 6) rfl rfl (q := .pointer (some ⟨g, 0, none⟩)) rfl (load_eleven Tryd.underlying38 rfl (by kernel_rfl) L.out.at1 rfl) ?_)
   | (go_at_call 45; refine (transit_departed.calls a0_0 a0_1 a0_2 a0_3 a0_4 a0_5 a0_6 a0_7 a0_8 a0_9 _ _ l0_10 d0 d1 d2 d3 d4 3 d6 d7 d8 d9 ds _ (Kd.C_below HR.out (L.out.mv0.below (Nat.le_refl _) (fun _ hk => hk.elim))) HC.out A3.out).mono ?_; rintro e w3 ⟨v, rfl, ho, hb⟩; have O3 := Aside0.mk (Kd.R_lower ho L.out.kept.1); have L3 := Aside0.mk (L.out.below hb); clear ho hb L)
   | ((with_reducible refine gate_store (t := 38) (p := 2) rfl ?_); refine ev_store rfl (ty := 38) (p := 2) rfl rfl (q := .pointer (some ⟨g, 0, none⟩)) (v := .agg #[.int .i64 d0, .int .i64 d1, .int .i64 d2, .int .i64 d3, .int .i64 d4, .int .i64 3, .int .i64 d6, .int .i64 d7, .int .i64 d8, .int .i64 d9, v]) rfl rfl (store_eleven (by kernel_rfl) L3.out.at1 rfl (dep_elf _ _ _ _ _ _ _ _ _ _ (R_one O3.out))) ?_; intro w4 hF; have L4 := Aside0.mk (L3.out.same hF.1 rfl hF.2); have O4 := Aside0.mk (R_same O3.out L3.out.at1 (by decide) hF.2); have hc5 : w4.cell? ⟨g, 5, none⟩ = some (.int .i64 3) := (cell_of_row w4 g 5 _ 38 (0, 0) L4.out.at1).trans rfl; clear hF L3 O3)
   | ((with_reducible refine gate_store (t := 3) (p := 13) rfl ?_); refine ev_store rfl (ty := 3) (p := 13) rfl rfl (q := .pointer (some ⟨g, 5, none⟩)) (v := .int .i64 a1) rfl rfl (store_one L4.out.at1 5 (by show 5 < 11; omega) _ rfl rfl 3 (by kernel_rfl)) ?_; intro w5 hF; have L5 := Aside0.mk (L4.out.same hF.1 rfl hF.2); have O5 := Aside0.mk (R_same O4.out L4.out.at1 (by decide) hF.2); clear hF L4 O4 hc5)
   | ((with_reducible refine gate_store (t := 3) (p := 14) rfl ?_); refine ev_store rfl (ty := 3) (p := 14) rfl rfl (q := .pointer (some ⟨g, 8, none⟩)) (v := .int .i64 0) rfl rfl (store_one L5.out.at1 8 (by show 8 < 11; omega) _ rfl rfl 3 (by kernel_rfl)) ?_; intro w6 hF; have L6 := Aside0.mk (L5.out.same hF.1 rfl hF.2); have O6 := Aside0.mk (R_same O5.out L5.out.at1 (by decide) hF.2); clear hF L5 O5)
   | ((with_reducible refine gate_dst (N := 15) rfl ?_); refine ev_load rfl (N := 15) rfl rfl (q := .pointer (some ⟨g, 0, none⟩)) (v := .agg #[.int .i64 d0, .int .i64 d1, .int .i64 d2, .int .i64 d3, .int .i64 d4, .int .i64 a1, .int .i64 d6, .int .i64 d7, .int .i64 0, .int .i64 d9, v]) rfl (load_eleven Tryd.underlying38 rfl (by kernel_rfl) L6.out.at1 rfl) ?_)
   | ((with_reducible refine gate_store (t := 38) (p := 4) rfl ?_); obtain ⟨old, ho2, h2⟩ := L6.out.at2; refine ev_store rfl (ty := 38) (p := 4) rfl rfl (q := .pointer (some ⟨gr, 0, none⟩)) (v := .agg #[.int .i64 d0, .int .i64 d1, .int .i64 d2, .int .i64 d3, .int .i64 d4, .int .i64 a1, .int .i64 d6, .int .i64 d7, .int .i64 0, .int .i64 d9, v]) rfl rfl (store_eleven (by kernel_rfl) h2 ho2 (dep_elf _ _ _ _ _ _ _ _ _ _ (R_one O6.out))) ?_; intro w7 hF; have A7 := Aside0.mk hF.1; have M7 := Aside0.mk (L6.out.done hF.2); have O7 := Aside0.mk (R_same O6.out h2 (by decide) hF.2); clear hF L6 O6 ho2 h2))
  refine bodyPost_ret (results_ct rfl _ _ gr 38 #[.int .i64 d0, .int .i64 d1, .int .i64 d2, .int .i64 d3, .int .i64 d4, .int .i64 a1, .int .i64 d6, .int .i64 d7, .int .i64 0, .int .i64 d9, v] (0, 0) _ rfl A7.out Tryd.underlying38 rfl (by kernel_rfl)) rfl ?_
  exact ⟨v, rfl, O7.out, M7.out.below (Nat.le_refl _) (fun _ hk => hk.elim)⟩
 ·
  have H1 := H
  clear H
  have H := (show (if d5 = 3 then _ else _) = _ from H1)
  rw [if_neg c] at H
  simp only [Option.some.injEq, Prod.mk.injEq] at H
  obtain ⟨rfl, rfl, rfl, rfl, rfl, rfl, rfl, rfl, rfl, rfl, rfl, rfl⟩ := H
  clear H1
  have c0 : (d5 != 3) = true := bne_iff_ne.mpr c
  clear c
  go_enter Tryd.func60, Tryd.ntmps60
  go_wp2_with (first
   | ((with_reducible refine gate_dst (N := 2) rfl ?_); refine box_event rfl (N := 2) rfl (cs := #[.int .i64 a0_0, .int .i64 a0_1, .int .i64 a0_2, .int .i64 a0_3, .int .i64 a0_4, .int .i64 a0_5, .int .i64 a0_6, .int .i64 a0_7, .int .i64 a0_8, .int .i64 a0_9, .slice A0_10 l0_10.length c0_10]) (t := 38) ?hr ?_; (case hr => first | (go_simp; done) | (go_simp; rfl)); intro g hg w1 h1 b1; have G1 := Aside0.mk (And.intro hg (And.intro h1 b1)); clear hg h1 b1)
   | ((with_reducible refine gate_dst (N := 4) rfl ?_); refine box_event rfl (N := 4) rfl (cs := #[.int .i64 0, .int .i64 0, .int .i64 0, .int .i64 0, .int .i64 0, .int .i64 0, .int .i64 0, .int .i64 0, .int .i64 0, .int .i64 0, .slice none 0 0]) (t := 38) ?hr ?_; (case hr => first | (go_simp; done) | (go_simp; rfl)); intro gr hg w2 h1 b1; have L := Aside0.mk (Lo.start G1.out.1 G1.out.2.1 G1.out.2.2 hg h1 rfl b1 (fun _ => False)); clear hg h1 b1 G1)
   | ((with_reducible refine gate_dst (N := 6) rfl ?_); refine ev_load rfl (N := 6) rfl rfl (q := .pointer (some ⟨g, 0, none⟩)) rfl (load_eleven Tryd.underlying38 rfl (by kernel_rfl) L.out.at1 rfl) ?_)
   | (go_at_call 45; refine (transit_departed.calls a0_0 a0_1 a0_2 a0_3 a0_4 a0_5 a0_6 a0_7 a0_8 a0_9 _ _ l0_10 d0 d1 d2 d3 d4 d5 d6 d7 d8 d9 ds _ (Kd.C_below HR.out (L.out.mv0.below (Nat.le_refl _) (fun _ hk => hk.elim))) HC.out A3.out).mono ?_; rintro e w3 ⟨v, rfl, ho, hb⟩; have O3 := Aside0.mk (Kd.R_lower ho L.out.kept.1); have L3 := Aside0.mk (L.out.below hb); clear ho hb L)
   | ((with_reducible refine gate_store (t := 38) (p := 2) rfl ?_); refine ev_store rfl (ty := 38) (p := 2) rfl rfl (q := .pointer (some ⟨g, 0, none⟩)) (v := .agg #[.int .i64 d0, .int .i64 d1, .int .i64 d2, .int .i64 d3, .int .i64 d4, .int .i64 d5, .int .i64 d6, .int .i64 d7, .int .i64 d8, .int .i64 d9, v]) rfl rfl (store_eleven (by kernel_rfl) L3.out.at1 rfl (dep_elf _ _ _ _ _ _ _ _ _ _ (R_one O3.out))) ?_; intro w4 hF; have L4 := Aside0.mk (L3.out.same hF.1 rfl hF.2); have O4 := Aside0.mk (R_same O3.out L3.out.at1 (by decide) hF.2); have hc5 : w4.cell? ⟨g, 5, none⟩ = some (.int .i64 d5) := (cell_of_row w4 g 5 _ 38 (0, 0) L4.out.at1).trans rfl; clear hF L3 O3)
   | ((with_reducible refine gate_dst (N := 11) rfl ?_); refine ev_load rfl (N := 11) rfl rfl (q := .pointer (some ⟨g, 0, none⟩)) (v := .agg #[.int .i64 d0, .int .i64 d1, .int .i64 d2, .int .i64 d3, .int .i64 d4, .int .i64 d5, .int .i64 d6, .int .i64 d7, .int .i64 d8, .int .i64 d9, v]) rfl (load_eleven Tryd.underlying38 rfl (by kernel_rfl) L4.out.at1 rfl) ?_)
   | ((with_reducible refine gate_store (t := 38) (p := 4) rfl ?_); obtain ⟨old, ho2, h2⟩ := L4.out.at2; refine ev_store rfl (ty := 38) (p := 4) rfl rfl (q := .pointer (some ⟨gr, 0, none⟩)) (v := .agg #[.int .i64 d0, .int .i64 d1, .int .i64 d2, .int .i64 d3, .int .i64 d4, .int .i64 d5, .int .i64 d6, .int .i64 d7, .int .i64 d8, .int .i64 d9, v]) rfl rfl (store_eleven (by kernel_rfl) h2 ho2 (dep_elf _ _ _ _ _ _ _ _ _ _ (R_one O4.out))) ?_; intro w7 hF; have A7 := Aside0.mk hF.1; have M7 := Aside0.mk (L4.out.done hF.2); have O7 := Aside0.mk (R_same O4.out h2 (by decide) hF.2); clear hF L4 O4 ho2 h2 hc5))
  refine bodyPost_ret (results_ct rfl _ _ gr 38 #[.int .i64 d0, .int .i64 d1, .int .i64 d2, .int .i64 d3, .int .i64 d4, .int .i64 d5, .int .i64 d6, .int .i64 d7, .int .i64 d8, .int .i64 d9, v] (0, 0) _ rfl A7.out Tryd.underlying38 rfl (by kernel_rfl)) rfl ?_
  exact ⟨v, rfl, O7.out, M7.out.below (Nat.le_refl _) (fun _ hk => hk.elim)⟩

def transit_Missing.f (a0_0 : Int) (a0_1 : Int) (a0_2 : Int) (a0_3 : Int) (a0_4 : Int) (a0_5 : Int) (a0_6 : Int) (a0_7 : Int) (a0_8 : Int) (a0_9 : Int) (l0_10 : List Int) : Option (Int × Int × Int × Int × Int × Int × Int × Int × Int × Int × List Int × Bool) := (transit_ended.f a0_0 a0_1 a0_2 a0_3 a0_4 a0_5 a0_6 a0_7 a0_8 a0_9 l0_10 5).bind fun bt313 => (some (bt313.1, bt313.2.1, bt313.2.2.1, bt313.2.2.2.1, bt313.2.2.2.2.1, bt313.2.2.2.2.2.1, bt313.2.2.2.2.2.2.1, bt313.2.2.2.2.2.2.2.1, bt313.2.2.2.2.2.2.2.2.1, bt313.2.2.2.2.2.2.2.2.2.1, bt313.2.2.2.2.2.2.2.2.2.2.1, bt313.2.2.2.2.2.2.2.2.2.2.2))
set_option maxHeartbeats 8000000 in
set_option maxRecDepth 100000 in
theorem transit_Missing.calls (a0_0 : Int) (a0_1 : Int) (a0_2 : Int) (a0_3 : Int) (a0_4 : Int) (a0_5 : Int) (a0_6 : Int) (a0_7 : Int) (a0_8 : Int) (a0_9 : Int) (A0_10 : Option Addr) (c0_10 : Nat) (l0_10 : List Int) (r1 : Int) (r2 : Int) (r3 : Int) (r4 : Int) (r5 : Int) (r6 : Int) (r7 : Int) (r8 : Int) (r9 : Int) (r10 : Int) (r11 : List Int) (r12 : Bool) (w : World) (hr0_10 : Kd.C (Kd.int .i64) w A0_10 l0_10.length l0_10) (hc0_10 : l0_10.length ≤ c0_10) (h : transit_Missing.f a0_0 a0_1 a0_2 a0_3 a0_4 a0_5 a0_6 a0_7 a0_8 a0_9 l0_10 = some (r1, r2, r3, r4, r5, r6, r7, r8, r9, r10, r11, r12)) :
  Calls Tryd.prog 31 #[.agg #[.int .i64 a0_0, .int .i64 a0_1, .int .i64 a0_2, .int .i64 a0_3, .int .i64 a0_4, .int .i64 a0_5, .int .i64 a0_6, .int .i64 a0_7, .int .i64 a0_8, .int .i64 a0_9, .slice A0_10 l0_10.length c0_10]] w fun e w' => ∃ v10_ : Value, e = .returned (.tuple #[.agg #[.int .i64 r1, .int .i64 r2, .int .i64 r3, .int .i64 r4, .int .i64 r5, .int .i64 r6, .int .i64 r7, .int .i64 r8, .int .i64 r9, .int .i64 r10, v10_], .bool r12]) ∧ Kd.R (Kd.int .i64) 3 w' w.heap.size (fun _ => True) v10_ r11 ∧ Below w.heap.size w w' := by
 have hu38 := Tryd.underlying38
 have HR0_10 := Aside0.mk hr0_10
 have HC0_10 := Aside0.mk hc0_10
 clear hr0_10 hc0_10
 have HB := Aside0.mk (Below.refl w.heap.size w)
 have H : ((transit_ended.f a0_0 a0_1 a0_2 a0_3 a0_4 a0_5 a0_6 a0_7 a0_8 a0_9 l0_10 5).bind fun bt313 => (some (bt313.1, bt313.2.1, bt313.2.2.1, bt313.2.2.2.1, bt313.2.2.2.2.1, bt313.2.2.2.2.2.1, bt313.2.2.2.2.2.2.1, bt313.2.2.2.2.2.2.2.1, bt313.2.2.2.2.2.2.2.2.1, bt313.2.2.2.2.2.2.2.2.2.1, bt313.2.2.2.2.2.2.2.2.2.2.1, bt313.2.2.2.2.2.2.2.2.2.2.2))) = some (r1, r2, r3, r4, r5, r6, r7, r8, r9, r10, r11, r12) := h
 clear h
 replace H := Option.bind_eq_some_iff.mp H
 obtain ⟨⟨t313, t314, t315, t316, t317, t318, t319, t320, t321, t322, t323, t326⟩, A20, H⟩ := H
 replace H : (some (t313, t314, t315, t316, t317, t318, t319, t320, t321, t322, t323, t326)) = some (r1, r2, r3, r4, r5, r6, r7, r8, r9, r10, r11, r12) := H
 have A2 := Aside0.mk A20
 clear A20
 simp only [Option.some.injEq, Prod.mk.injEq] at H
 obtain ⟨rfl, rfl, rfl, rfl, rfl, rfl, rfl, rfl, rfl, rfl, rfl, rfl⟩ := H
 go_enter Tryd.func31, Tryd.ntmps31
 go_wp2_with (first | ((with_reducible refine gate_dst (N := 1) rfl ?_); refine box_event ?hg (N := 1) ?hd (cs := #[.int .i64 a0_0, .int .i64 a0_1, .int .i64 a0_2, .int .i64 a0_3, .int .i64 a0_4, .int .i64 a0_5, .int .i64 a0_6, .int .i64 a0_7, .int .i64 a0_8, .int .i64 a0_9, .slice A0_10 l0_10.length c0_10]) (t := 38) ?hr ?_; (case hd => rfl); (case hg => rfl); (case hr => first | (go_simp; done) | (go_simp; rfl)); intro gb311 hg w3 hbox hb; have n0_ := Aside0.mk (below_step (by repeat (first | (with_reducible first | exact HB.out | apply below_alloc | apply pw_below_drewN | apply below_drew1) | exact HB.out)) hb); have n1_ := Aside0.mk (hbox); have n2_ := Aside0.mk ((by rw [hg]; exact (below_size (by repeat (first | (with_reducible first | exact HB.out | apply below_alloc | apply pw_below_drewN | apply below_drew1) | exact HB.out))) : w.heap.size ≤ gb311)); have n3_ := Aside0.mk ((by rw [hg]; exact (below_size (by repeat (first | (with_reducible first | exact HB.out | apply below_alloc | apply pw_below_drewN | apply below_drew1) | exact HB.out))) : w.heap.size ≤ gb311)); clear HB; have HB := n0_; have BK311 := n1_; have GW311 := n2_; have GE311 := n3_; clear n0_ n1_ n2_ n3_; clear hb hbox hg) | ((with_reducible refine gate_dst (N := 2) rfl ?_); refine box_event ?hg (N := 2) ?hd (cs := #[.int .i64 0, .int .i64 0, .int .i64 0, .int .i64 0, .int .i64 0, .int .i64 0, .int .i64 0, .int .i64 0, .int .i64 0, .int .i64 0, .slice none 0 0]) (t := 38) ?hr ?_; (case hd => rfl); (case hg => rfl); (case hr => first | (go_simp; done) | (go_simp; rfl)); intro gb312 hg w4 hbox hb; have n0_ := Aside0.mk (blk_below (g := gb311) (o := .cells #[.int .i64 a0_0, .int .i64 a0_1, .int .i64 a0_2, .int .i64 a0_3, .int .i64 a0_4, .int .i64 a0_5, .int .i64 a0_6, .int .i64 a0_7, .int .i64 a0_8, .int .i64 a0_9, .slice A0_10 l0_10.length c0_10] 38 (0, 0)) (by (with_reducible repeat (first | refine blk_drewN ?_ _ | refine blk_drew ?_ | refine blk_alloc ?_ _)); exact BK311.out) hb); have n1_ := Aside0.mk (below_step (by repeat (first | (with_reducible first | exact HB.out | apply below_alloc | apply pw_below_drewN | apply below_drew1 | refine below_set ?_ GE311.out) | exact HB.out)) hb); have n2_ := Aside0.mk (hbox); have n3_ := Aside0.mk ((by rw [hg]; exact (below_size (by repeat (first | (with_reducible first | exact HB.out | apply below_alloc | apply pw_below_drewN | apply below_drew1 | refine below_set ?_ GE311.out) | exact HB.out))) : w.heap.size ≤ gb312)); have n4_ := Aside0.mk ((by rw [hg]; exact (below_size (by repeat (first | (with_reducible first | exact HB.out | apply below_alloc | apply pw_below_drewN | apply below_drew1 | refine below_set ?_ GE311.out) | exact HB.out))) : w.heap.size ≤ gb312)); have n5_ := Aside0.mk ((by rw [hg]; exact Nat.ne_of_lt (blk_lt (g := gb311) (o := .cells #[.int .i64 a0_0, .int .i64 a0_1, .int .i64 a0_2, .int .i64 a0_3, .int .i64 a0_4, .int .i64 a0_5, .int .i64 a0_6, .int .i64 a0_7, .int .i64 a0_8, .int .i64 a0_9, .slice A0_10 l0_10.length c0_10] 38 (0, 0)) (by (with_reducible repeat (first | refine blk_drewN ?_ _ | refine blk_drew ?_ | refine blk_alloc ?_ _)); exact BK311.out)) : gb311 ≠ gb312)); have n6_ := Aside0.mk ((by rw [hg]; exact Nat.ne_of_gt (blk_lt (g := gb311) (o := .cells #[.int .i64 a0_0, .int .i64 a0_1, .int .i64 a0_2, .int .i64 a0_3, .int .i64 a0_4, .int .i64 a0_5, .int .i64 a0_6, .int .i64 a0_7, .int .i64 a0_8, .int .i64 a0_9, .slice A0_10 l0_10.length c0_10] 38 (0, 0)) (by (with_reducible repeat (first | refine blk_drewN ?_ _ | refine blk_drew ?_ | refine blk_alloc ?_ _)); exact BK311.out)) : gb312 ≠ gb311)); clear BK311; clear HB; have BK311 := n0_; have HB := n1_; have BK312 := n2_; have GW312 := n3_; have GE312 := n4_; have NB311_312 := n5_; have NB312_311 := n6_; clear n0_ n1_ n2_ n3_ n4_ n5_ n6_; clear hb hbox hg; have hnb5 := NB311_312.out; have hnc5 := NB312_311.out; have hcz6_0 : w4.cell? ⟨gb311, 0, none⟩ = some (.int .i64 a0_0) := (blk_cell BK311.out 0).trans rfl; have hcz6_1 : w4.cell? ⟨gb311, 1, none⟩ = some (.int .i64 a0_1) := (blk_cell BK311.out 1).trans rfl; have hcz6_2 : w4.cell? ⟨gb311, 2, none⟩ = some (.int .i64 a0_2) := (blk_cell BK311.out 2).trans rfl; have hcz6_3 : w4.cell? ⟨gb311, 3, none⟩ = some (.int .i64 a0_3) := (blk_cell BK311.out 3).trans rfl; have hcz6_4 : w4.cell? ⟨gb311, 4, none⟩ = some (.int .i64 a0_4) := (blk_cell BK311.out 4).trans rfl; have hcz6_5 : w4.cell? ⟨gb311, 5, none⟩ = some (.int .i64 a0_5) := (blk_cell BK311.out 5).trans rfl; have hcz6_6 : w4.cell? ⟨gb311, 6, none⟩ = some (.int .i64 a0_6) := (blk_cell BK311.out 6).trans rfl; have hcz6_7 : w4.cell? ⟨gb311, 7, none⟩ = some (.int .i64 a0_7) := (blk_cell BK311.out 7).trans rfl; have hcz6_8 : w4.cell? ⟨gb311, 8, none⟩ = some (.int .i64 a0_8) := (blk_cell BK311.out 8).trans rfl; have hcz6_9 : w4.cell? ⟨gb311, 9, none⟩ = some (.int .i64 a0_9) := (blk_cell BK311.out 9).trans rfl; have hcz6_10 : w4.cell? ⟨gb311, 10, none⟩ = some (.slice A0_10 l0_10.length c0_10) := (blk_cell BK311.out 10).trans rfl; have hfz6_0 := blk_frozen BK311.out 0; have hfz6_1 := blk_frozen BK311.out 1; have hfz6_2 := blk_frozen BK311.out 2; have hfz6_3 := blk_frozen BK311.out 3; have hfz6_4 := blk_frozen BK311.out 4; have hfz6_5 := blk_frozen BK311.out 5; have hfz6_6 := blk_frozen BK311.out 6; have hfz6_7 := blk_frozen BK311.out 7; have hfz6_8 := blk_frozen BK311.out 8; have hfz6_9 := blk_frozen BK311.out 9; have hfz6_10 := blk_frozen BK311.out 10) | ((with_reducible refine gate_callee (f := 60) rfl ?_); refine goesL_ (some 5) rfl rfl Tryd.func60 (by kernel_rfl) rfl #[.agg #[.int .i64 a0_0, .int .i64 a0_1, .int .i64 a0_2, .int .i64 a0_3, .int .i64 a0_4, .int .i64 a0_5, .int .i64 a0_6, .int .i64 a0_7, .int .i64 a0_8, .int .i64 a0_9, .slice A0_10 l0_10.length c0_10], .int .i64 5] rfl (by (try simp only [List.map_toArray, List.map_cons, List.map_nil]); first | done | rfl | (simp only [List.length_drop, List.length_take]; rfl)) ?_; (with_reducible refine (transit_ended.calls a0_0 a0_1 a0_2 a0_3 a0_4 a0_5 a0_6 a0_7 a0_8 a0_9 _ _ l0_10 5 t313 t314 t315 t316 t317 t318 t319 t320 t321 t322 t323 t326 _ ?side1 ?side2 A2.out).mono ?_); (case side1 => repeat (first | exact (Kd.C_below HR0_10.out HB.out) | (with_reducible refine Kd.C_alloc ?_ _) | (with_reducible refine Kd.C_drewN ?_ _) | (with_reducible refine Kd.C_drew ?_))); (case side2 => exact HC0_10.out); rintro e w7 ⟨v324, rfl, ho0, hb⟩; refine ⟨_, rfl, ?_⟩; have n0_ := Aside0.mk (Kd.R_lower ho0 (below_size (by repeat (first | (with_reducible first | exact HB.out | apply below_alloc | apply pw_below_drewN | apply below_drew1 | refine below_set ?_ GE311.out | refine below_set ?_ GE312.out) | exact HB.out)))); have n1_ := Aside0.mk (blk_below (g := gb311) (o := .cells #[.int .i64 a0_0, .int .i64 a0_1, .int .i64 a0_2, .int .i64 a0_3, .int .i64 a0_4, .int .i64 a0_5, .int .i64 a0_6, .int .i64 a0_7, .int .i64 a0_8, .int .i64 a0_9, .slice A0_10 l0_10.length c0_10] 38 (0, 0)) (by (with_reducible repeat (first | refine blk_drewN ?_ _ | refine blk_drew ?_ | refine blk_alloc ?_ _)); exact BK311.out) hb); have n2_ := Aside0.mk (blk_below (g := gb312) (o := .cells #[.int .i64 0, .int .i64 0, .int .i64 0, .int .i64 0, .int .i64 0, .int .i64 0, .int .i64 0, .int .i64 0, .int .i64 0, .int .i64 0, .slice none 0 0] 38 (0, 0)) (by (with_reducible repeat (first | refine blk_drewN ?_ _ | refine blk_drew ?_ | refine blk_alloc ?_ _)); exact BK312.out) hb); have n3_ := Aside0.mk (below_step (by repeat (first | (with_reducible first | exact HB.out | apply below_alloc | apply pw_below_drewN | apply below_drew1 | refine below_set ?_ GE311.out | refine below_set ?_ GE312.out) | exact HB.out)) hb); clear BK311; clear BK312; clear HB; have HO325 := n0_; have BK311 := n1_; have BK312 := n2_; have HB := n3_; clear n0_ n1_ n2_ n3_; (try clear hb); (try clear hb2); (try clear hk); (try clear hi); (try clear ho0); have hcz8_0 : w7.cell? ⟨gb312, 0, none⟩ = some (.int .i64 0) := (blk_cell BK312.out 0).trans rfl; have hcz8_1 : w7.cell? ⟨gb312, 1, none⟩ = some (.int .i64 0) := (blk_cell BK312.out 1).trans rfl; have hcz8_2 : w7.cell? ⟨gb312, 2, none⟩ = some (.int .i64 0) := (blk_cell BK312.out 2).trans rfl; have hcz8_3 : w7.cell? ⟨gb312, 3, none⟩ = some (.int .i64 0) := (blk_cell BK312.out 3).trans rfl; have hcz8_4 : w7.cell? ⟨gb312, 4, none⟩ = some (.int .i64 0) := (blk_cell BK312.out 4).trans rfl; have hcz8_5 : w7.cell? ⟨gb312, 5, none⟩ = some (.int .i64 0) := (blk_cell BK312.out 5).trans rfl; have hcz8_6 : w7.cell? ⟨gb312, 6, none⟩ = some (.int .i64 0) := (blk_cell BK312.out 6).trans rfl; have hcz8_7 : w7.cell? ⟨gb312, 7, none⟩ = some (.int .i64 0) := (blk_cell BK312.out 7).trans rfl; have hcz8_8 : w7.cell? ⟨gb312, 8, none⟩ = some (.int .i64 0) := (blk_cell BK312.out 8).trans rfl; have hcz8_9 : w7.cell? ⟨gb312, 9, none⟩ = some (.int .i64 0) := (blk_cell BK312.out 9).trans rfl; have hcz8_10 : w7.cell? ⟨gb312, 10, none⟩ = some (.slice none 0 0) := (blk_cell BK312.out 10).trans rfl; have hfz8_0 := blk_frozen BK312.out 0; have hfz8_1 := blk_frozen BK312.out 1; have hfz8_2 := blk_frozen BK312.out 2; have hfz8_3 := blk_frozen BK312.out 3; have hfz8_4 := blk_frozen BK312.out 4; have hfz8_5 := blk_frozen BK312.out 5; have hfz8_6 := blk_frozen BK312.out 6; have hfz8_7 := blk_frozen BK312.out 7; have hfz8_8 := blk_frozen BK312.out 8; have hfz8_9 := blk_frozen BK312.out 9; have hfz8_10 := blk_frozen BK312.out 10; obtain ⟨Ao9, co9, eo9⟩ := Kd.R_slice HO325.out; subst eo9))
 refine bodyPost_ret (results_ct rfl _ _ gb312 38 #[.int .i64 t313, .int .i64 t314, .int .i64 t315, .int .i64 t316, .int .i64 t317, .int .i64 t318, .int .i64 t319, .int .i64 t320, .int .i64 t321, .int .i64 t322, .slice Ao9 t323.length co9] (0, 0) _ rfl (by (with_reducible repeat (first | refine blk_drewN ?_ _ | refine blk_drew ?_ | refine blk_alloc ?_ _)); refine blk_put (cs := #[.int .i64 t313, .int .i64 t314, .int .i64 t315, .int .i64 t316, .int .i64 t317, .int .i64 t318, .int .i64 t319, .int .i64 t320, .int .i64 t321, .int .i64 t322, .slice none 0 0]) ?_ 10 _ rfl; (with_reducible repeat (first | refine blk_drewN ?_ _ | refine blk_drew ?_ | refine blk_alloc ?_ _)); refine blk_put (cs := #[.int .i64 t313, .int .i64 t314, .int .i64 t315, .int .i64 t316, .int .i64 t317, .int .i64 t318, .int .i64 t319, .int .i64 t320, .int .i64 t321, .int .i64 0, .slice none 0 0]) ?_ 9 _ rfl; (with_reducible repeat (first | refine blk_drewN ?_ _ | refine blk_drew ?_ | refine blk_alloc ?_ _)); refine blk_put (cs := #[.int .i64 t313, .int .i64 t314, .int .i64 t315, .int .i64 t316, .int .i64 t317, .int .i64 t318, .int .i64 t319, .int .i64 t320, .int .i64 0, .int .i64 0, .slice none 0 0]) ?_ 8 _ rfl; (with_reducible repeat (first | refine blk_drewN ?_ _ | refine blk_drew ?_ | refine blk_alloc ?_ _)); refine blk_put (cs := #[.int .i64 t313, .int .i64 t314, .int .i64 t315, .int .i64 t316, .int .i64 t317, .int .i64 t318, .int .i64 t319, .int .i64 0, .int .i64 0, .int .i64 0, .slice none 0 0]) ?_ 7 _ rfl; (with_reducible repeat (first | refine blk_drewN ?_ _ | refine blk_drew ?_ | refine blk_alloc ?_ _)); refine blk_put (cs := #[.int .i64 t313, .int .i64 t314, .int .i64 t315, .int .i64 t316, .int .i64 t317, .int .i64 t318, .int .i64 0, .int .i64 0, .int .i64 0, .int .i64 0, .slice none 0 0]) ?_ 6 _ rfl; (with_reducible repeat (first | refine blk_drewN ?_ _ | refine blk_drew ?_ | refine blk_alloc ?_ _)); refine blk_put (cs := #[.int .i64 t313, .int .i64 t314, .int .i64 t315, .int .i64 t316, .int .i64 t317, .int .i64 0, .int .i64 0, .int .i64 0, .int .i64 0, .int .i64 0, .slice none 0 0]) ?_ 5 _ rfl; (with_reducible repeat (first | refine blk_drewN ?_ _ | refine blk_drew ?_ | refine blk_alloc ?_ _)); refine blk_put (cs := #[.int .i64 t313, .int .i64 t314, .int .i64 t315, .int .i64 t316, .int .i64 0, .int .i64 0, .int .i64 0, .int .i64 0, .int .i64 0, .int .i64 0, .slice none 0 0]) ?_ 4 _ rfl; (with_reducible repeat (first | refine blk_drewN ?_ _ | refine blk_drew ?_ | refine blk_alloc ?_ _)); refine blk_put (cs := #[.int .i64 t313, .int .i64 t314, .int .i64 t315, .int .i64 0, .int .i64 0, .int .i64 0, .int .i64 0, .int .i64 0, .int .i64 0, .int .i64 0, .slice none 0 0]) ?_ 3 _ rfl; (with_reducible repeat (first | refine blk_drewN ?_ _ | refine blk_drew ?_ | refine blk_alloc ?_ _)); refine blk_put (cs := #[.int .i64 t313, .int .i64 t314, .int .i64 0, .int .i64 0, .int .i64 0, .int .i64 0, .int .i64 0, .int .i64 0, .int .i64 0, .int .i64 0, .slice none 0 0]) ?_ 2 _ rfl; (with_reducible repeat (first | refine blk_drewN ?_ _ | refine blk_drew ?_ | refine blk_alloc ?_ _)); refine blk_put (cs := #[.int .i64 t313, .int .i64 0, .int .i64 0, .int .i64 0, .int .i64 0, .int .i64 0, .int .i64 0, .int .i64 0, .int .i64 0, .int .i64 0, .slice none 0 0]) ?_ 1 _ rfl; (with_reducible repeat (first | refine blk_drewN ?_ _ | refine blk_drew ?_ | refine blk_alloc ?_ _)); refine blk_put (cs := #[.int .i64 0, .int .i64 0, .int .i64 0, .int .i64 0, .int .i64 0, .int .i64 0, .int .i64 0, .int .i64 0, .int .i64 0, .int .i64 0, .slice none 0 0]) ?_ 0 _ rfl; (with_reducible repeat (first | refine blk_drewN ?_ _ | refine blk_drew ?_ | refine blk_alloc ?_ _)); exact BK312.out) Tryd.underlying38 rfl (by kernel_rfl)) rfl ?_
 exact ⟨_, by first | rfl | (simp [errW_none, errW_some] <;> rfl) | (simp [*, errW_none, errW_some] <;> rfl), by (with_reducible repeat (first | apply Kd.R_alloc | apply Kd.R_drewN | apply Kd.R_drew)); exact Kd.R_mono (Kd.R_far (p := ⟨gb312, 10, none⟩) (Kd.R_far (p := ⟨gb312, 9, none⟩) (Kd.R_far (p := ⟨gb312, 8, none⟩) (Kd.R_far (p := ⟨gb312, 7, none⟩) (Kd.R_far (p := ⟨gb312, 6, none⟩) (Kd.R_far (p := ⟨gb312, 5, none⟩) (Kd.R_far (p := ⟨gb312, 4, none⟩) (Kd.R_far (p := ⟨gb312, 3, none⟩) (Kd.R_far (p := ⟨gb312, 2, none⟩) (Kd.R_far (p := ⟨gb312, 1, none⟩) (Kd.R_far (p := ⟨gb312, 0, none⟩) (Kd.R_types HO325.out BK312.out (by decide)) (fun _ hk => hk.2) (.int .i64 t313)) (fun _ hk => hk.2) (.int .i64 t314)) (fun _ hk => hk.2) (.int .i64 t315)) (fun _ hk => hk.2) (.int .i64 t316)) (fun _ hk => hk.2) (.int .i64 t317)) (fun _ hk => hk.2) (.int .i64 t318)) (fun _ hk => hk.2) (.int .i64 t319)) (fun _ hk => hk.2) (.int .i64 t320)) (fun _ hk => hk.2) (.int .i64 t321)) (fun _ hk => hk.2) (.int .i64 t322)) (fun _ hk => hk.2) (.slice Ao9 t323.length co9)) (fun _ hk => trivial), by repeat (first | (with_reducible first | exact HB.out | apply below_alloc | apply pw_below_drewN | apply below_drew1 | refine below_set ?_ GE311.out | refine below_set ?_ GE312.out) | exact HB.out)⟩

def transit_Result.f (a0_0 : Int) (a0_1 : Int) (a0_2 : Int) (a0_3 : Int) (a0_4 : Int) (a0_5 : Int) (a0_6 : Int) (a0_7 : Int) (a0_8 : Int) (a0_9 : Int) (l0_10 : List Int) (a1 : Int) : Option (Int × Int × Int × Int × Int × Int × Int × Int × Int × Int × List Int × Bool) := (transit_ended.f a0_0 a0_1 a0_2 a0_3 a0_4 a0_5 a0_6 a0_7 a0_8 a0_9 l0_10 4).bind fun bt363 => (if bt363.2.2.2.2.2.2.2.2.2.2.2 = true then (some (bt363.1, bt363.2.1, bt363.2.2.1, bt363.2.2.2.1, bt363.2.2.2.2.1, bt363.2.2.2.2.2.1, bt363.2.2.2.2.2.2.1, bt363.2.2.2.2.2.2.2.1, bt363.2.2.2.2.2.2.2.2.1, a1, bt363.2.2.2.2.2.2.2.2.2.2.1, bt363.2.2.2.2.2.2.2.2.2.2.2)) else (some (bt363.1, bt363.2.1, bt363.2.2.1, bt363.2.2.2.1, bt363.2.2.2.2.1, bt363.2.2.2.2.2.1, bt363.2.2.2.2.2.2.1, bt363.2.2.2.2.2.2.2.1, bt363.2.2.2.2.2.2.2.2.1, bt363.2.2.2.2.2.2.2.2.2.1, bt363.2.2.2.2.2.2.2.2.2.2.1, bt363.2.2.2.2.2.2.2.2.2.2.2)))
set_option maxHeartbeats 8000000 in
set_option maxRecDepth 100000 in
theorem transit_Result.calls (a0_0 : Int) (a0_1 : Int) (a0_2 : Int) (a0_3 : Int) (a0_4 : Int) (a0_5 : Int) (a0_6 : Int) (a0_7 : Int) (a0_8 : Int) (a0_9 : Int) (A0_10 : Option Addr) (c0_10 : Nat) (l0_10 : List Int) (a1 : Int) (r1 : Int) (r2 : Int) (r3 : Int) (r4 : Int) (r5 : Int) (r6 : Int) (r7 : Int) (r8 : Int) (r9 : Int) (r10 : Int) (r11 : List Int) (r12 : Bool) (w : World) (hr0_10 : Kd.C (Kd.int .i64) w A0_10 l0_10.length l0_10) (hc0_10 : l0_10.length ≤ c0_10) (h : transit_Result.f a0_0 a0_1 a0_2 a0_3 a0_4 a0_5 a0_6 a0_7 a0_8 a0_9 l0_10 a1 = some (r1, r2, r3, r4, r5, r6, r7, r8, r9, r10, r11, r12)) :
  Calls Tryd.prog 29 #[.agg #[.int .i64 a0_0, .int .i64 a0_1, .int .i64 a0_2, .int .i64 a0_3, .int .i64 a0_4, .int .i64 a0_5, .int .i64 a0_6, .int .i64 a0_7, .int .i64 a0_8, .int .i64 a0_9, .slice A0_10 l0_10.length c0_10], .int .i64 a1] w fun e w' => ∃ v10_ : Value, e = .returned (.tuple #[.agg #[.int .i64 r1, .int .i64 r2, .int .i64 r3, .int .i64 r4, .int .i64 r5, .int .i64 r6, .int .i64 r7, .int .i64 r8, .int .i64 r9, .int .i64 r10, v10_], .bool r12]) ∧ Kd.R (Kd.int .i64) 3 w' w.heap.size (fun _ => True) v10_ r11 ∧ Below w.heap.size w w' := by
 have HR := Aside0.mk hr0_10
 have HC := Aside0.mk hc0_10
 clear hr0_10 hc0_10
 have hu38 := Tryd.underlying38
 unfold transit_Result.f at h
 obtain ⟨⟨d0, d1, d2, d3, d4, d5, d6, d7, d8, d9, ds, p⟩, A0, H⟩ := Option.bind_eq_some_iff.mp h
 have A3 := Aside0.mk A0
 clear h A0
 cases p with
 | false =>
  replace H : some (d0, d1, d2, d3, d4, d5, d6, d7, d8, d9, ds, false) = _ := H
  simp only [Option.some.injEq, Prod.mk.injEq] at H
  obtain ⟨rfl, rfl, rfl, rfl, rfl, rfl, rfl, rfl, rfl, rfl, rfl, rfl⟩ := H
  go_enter Tryd.func29, Tryd.ntmps29
  go_wp2_with (first
   | ((with_reducible refine gate_dst (N := 2) rfl ?_); refine box_event rfl (N := 2) rfl (cs := #[.int .i64 a0_0, .int .i64 a0_1, .int .i64 a0_2, .int .i64 a0_3, .int .i64 a0_4, .int .i64 a0_5, .int .i64 a0_6, .int .i64 a0_7, .int .i64 a0_8, .int .i64 a0_9, .slice A0_10 l0_10.length c0_10]) (t := 38) ?hr ?_; (case hr => first | (go_simp; done) | (go_simp; rfl)); intro g hg w1 h1 b1; have G1 := Aside0.mk (And.intro hg (And.intro h1 b1)); clear hg h1 b1)
   | ((with_reducible refine gate_dst (N := 4) rfl ?_); refine box_event rfl (N := 4) rfl (cs := #[.int .i64 0, .int .i64 0, .int .i64 0, .int .i64 0, .int .i64 0, .int .i64 0, .int .i64 0, .int .i64 0, .int .i64 0, .int .i64 0, .slice none 0 0]) (t := 38) ?hr ?_; (case hr => first | (go_simp; done) | (go_simp; rfl)); intro gr hg w2 h1 b1; have L := Aside0.mk (Lo.start G1.out.1 G1.out.2.1 G1.out.2.2 hg h1 rfl b1 (fun _ => False)); clear hg h1 b1 G1)
   | ((with_reducible refine gate_dst (N := 9) rfl ?_); refine ev_load rfl (N := 9) rfl rfl (q := .pointer (some ⟨g, 0, none⟩)) (v := .agg #[.int .i64 a0_0, .int .i64 a0_1, .int .i64 a0_2, .int .i64 a0_3, .int .i64 a0_4, .int .i64 a0_5, .int .i64 a0_6, .int .i64 a0_7, .int .i64 a0_8, .int .i64 a0_9, .slice A0_10 l0_10.length c0_10]) rfl (load_eleven Tryd.underlying38 rfl (by kernel_rfl) L.out.at1 rfl) ?_)
   | (go_at_call 60; refine (transit_ended.calls a0_0 a0_1 a0_2 a0_3 a0_4 a0_5 a0_6 a0_7 a0_8 a0_9 _ _ l0_10 4 d0 d1 d2 d3 d4 d5 d6 d7 d8 d9 ds _ _ (Kd.C_below HR.out (L.out.mv0.below (Nat.le_refl _) (fun _ hk => hk.elim))) HC.out A3.out).mono ?_; rintro e w3 ⟨v, rfl, ho, hb⟩; have O3 := Aside0.mk (Kd.R_lower ho L.out.kept.1); have L3 := Aside0.mk (L.out.below hb); clear ho hb L)
   | ((with_reducible refine gate_dst (N := 6) rfl ?_); refine box_event rfl (N := 6) rfl (cs := #[.int .i64 0, .int .i64 0, .int .i64 0, .int .i64 0, .int .i64 0, .int .i64 0, .int .i64 0, .int .i64 0, .int .i64 0, .int .i64 0, .slice none 0 0]) (t := 38) ?hr ?_; (case hr => first | (go_simp; done) | (go_simp; rfl)); intro g3 hg w4 h1 b1; have L4 := Aside0.mk (L3.out.shift hg h1 rfl b1); have O4 := Aside0.mk (Kd.R_below O3.out b1); clear hg h1 b1 L3 O3)
   | ((with_reducible refine gate_store (t := 38) (p := 6) rfl ?_); refine ev_store rfl (ty := 38) (p := 6) rfl rfl (q := .pointer (some ⟨g3, 0, none⟩)) (v := .agg #[.int .i64 d0, .int .i64 d1, .int .i64 d2, .int .i64 d3, .int .i64 d4, .int .i64 d5, .int .i64 d6, .int .i64 d7, .int .i64 d8, .int .i64 d9, v]) rfl rfl (store_eleven (by kernel_rfl) L4.out.at1 rfl (dep_elf _ _ _ _ _ _ _ _ _ _ (rone O4.out))) ?_; intro w5 hF; have L5 := Aside0.mk (L4.out.same hF.1 rfl hF.2); have O5 := Aside0.mk (R_same O4.out L4.out.at1 (by decide) hF.2); clear hF L4 O4)
   | ((with_reducible refine gate_dst (N := 16) rfl ?_); refine ev_load rfl (N := 16) rfl rfl (q := .pointer (some ⟨g3, 0, none⟩)) (v := .agg #[.int .i64 d0, .int .i64 d1, .int .i64 d2, .int .i64 d3, .int .i64 d4, .int .i64 d5, .int .i64 d6, .int .i64 d7, .int .i64 d8, .int .i64 d9, v]) rfl (load_eleven Tryd.underlying38 rfl (by kernel_rfl) L5.out.at1 rfl) ?_)
   | ((with_reducible refine gate_store (t := 38) (p := 4) rfl ?_); obtain ⟨old, ho2, h2⟩ := L5.out.at2; refine ev_store rfl (ty := 38) (p := 4) rfl rfl (q := .pointer (some ⟨gr, 0, none⟩)) (v := .agg #[.int .i64 d0, .int .i64 d1, .int .i64 d2, .int .i64 d3, .int .i64 d4, .int .i64 d5, .int .i64 d6, .int .i64 d7, .int .i64 d8, .int .i64 d9, v]) rfl rfl (store_eleven (by kernel_rfl) h2 ho2 (dep_elf _ _ _ _ _ _ _ _ _ _ (rone O5.out))) ?_; intro w9 hF; have A7 := Aside0.mk hF.1; have M7 := Aside0.mk (L5.out.done hF.2); have O9 := Aside0.mk (R_same O5.out h2 (by decide) hF.2); clear hF ho2 h2))
  refine bodyPost_ret (results_ct rfl _ _ gr 38 #[.int .i64 d0, .int .i64 d1, .int .i64 d2, .int .i64 d3, .int .i64 d4, .int .i64 d5, .int .i64 d6, .int .i64 d7, .int .i64 d8, .int .i64 d9, v] (0, 0) _ rfl A7.out Tryd.underlying38 rfl (by kernel_rfl)) rfl ?_
  exact ⟨v, rfl, O9.out, M7.out.below (Nat.le_refl _) (fun _ hk => hk.elim)⟩
 | true =>
  replace H : some (d0, d1, d2, d3, d4, d5, d6, d7, d8, a1, ds, true) = _ := H
  simp only [Option.some.injEq, Prod.mk.injEq] at H
  obtain ⟨rfl, rfl, rfl, rfl, rfl, rfl, rfl, rfl, rfl, rfl, rfl, rfl⟩ := H
  go_enter Tryd.func29, Tryd.ntmps29
  go_wp2_with (first
   | ((with_reducible refine gate_dst (N := 2) rfl ?_); refine box_event rfl (N := 2) rfl (cs := #[.int .i64 a0_0, .int .i64 a0_1, .int .i64 a0_2, .int .i64 a0_3, .int .i64 a0_4, .int .i64 a0_5, .int .i64 a0_6, .int .i64 a0_7, .int .i64 a0_8, .int .i64 a0_9, .slice A0_10 l0_10.length c0_10]) (t := 38) ?hr ?_; (case hr => first | (go_simp; done) | (go_simp; rfl)); intro g hg w1 h1 b1; have G1 := Aside0.mk (And.intro hg (And.intro h1 b1)); clear hg h1 b1)
   | ((with_reducible refine gate_dst (N := 4) rfl ?_); refine box_event rfl (N := 4) rfl (cs := #[.int .i64 0, .int .i64 0, .int .i64 0, .int .i64 0, .int .i64 0, .int .i64 0, .int .i64 0, .int .i64 0, .int .i64 0, .int .i64 0, .slice none 0 0]) (t := 38) ?hr ?_; (case hr => first | (go_simp; done) | (go_simp; rfl)); intro gr hg w2 h1 b1; have L := Aside0.mk (Lo.start G1.out.1 G1.out.2.1 G1.out.2.2 hg h1 rfl b1 (fun _ => False)); clear hg h1 b1 G1)
   | ((with_reducible refine gate_dst (N := 9) rfl ?_); refine ev_load rfl (N := 9) rfl rfl (q := .pointer (some ⟨g, 0, none⟩)) (v := .agg #[.int .i64 a0_0, .int .i64 a0_1, .int .i64 a0_2, .int .i64 a0_3, .int .i64 a0_4, .int .i64 a0_5, .int .i64 a0_6, .int .i64 a0_7, .int .i64 a0_8, .int .i64 a0_9, .slice A0_10 l0_10.length c0_10]) rfl (load_eleven Tryd.underlying38 rfl (by kernel_rfl) L.out.at1 rfl) ?_)
   | (go_at_call 60; refine (transit_ended.calls a0_0 a0_1 a0_2 a0_3 a0_4 a0_5 a0_6 a0_7 a0_8 a0_9 _ _ l0_10 4 d0 d1 d2 d3 d4 d5 d6 d7 d8 d9 ds _ _ (Kd.C_below HR.out (L.out.mv0.below (Nat.le_refl _) (fun _ hk => hk.elim))) HC.out A3.out).mono ?_; rintro e w3 ⟨v, rfl, ho, hb⟩; have O3 := Aside0.mk (Kd.R_lower ho L.out.kept.1); have L3 := Aside0.mk (L.out.below hb); clear ho hb L)
   | ((with_reducible refine gate_dst (N := 6) rfl ?_); refine box_event rfl (N := 6) rfl (cs := #[.int .i64 0, .int .i64 0, .int .i64 0, .int .i64 0, .int .i64 0, .int .i64 0, .int .i64 0, .int .i64 0, .int .i64 0, .int .i64 0, .slice none 0 0]) (t := 38) ?hr ?_; (case hr => first | (go_simp; done) | (go_simp; rfl)); intro g3 hg w4 h1 b1; have L4 := Aside0.mk (L3.out.shift hg h1 rfl b1); have O4 := Aside0.mk (Kd.R_below O3.out b1); clear hg h1 b1 L3 O3)
   | ((with_reducible refine gate_store (t := 38) (p := 6) rfl ?_); refine ev_store rfl (ty := 38) (p := 6) rfl rfl (q := .pointer (some ⟨g3, 0, none⟩)) (v := .agg #[.int .i64 d0, .int .i64 d1, .int .i64 d2, .int .i64 d3, .int .i64 d4, .int .i64 d5, .int .i64 d6, .int .i64 d7, .int .i64 d8, .int .i64 d9, v]) rfl rfl (store_eleven (by kernel_rfl) L4.out.at1 rfl (dep_elf _ _ _ _ _ _ _ _ _ _ (rone O4.out))) ?_; intro w5 hF; have L5 := Aside0.mk (L4.out.same hF.1 rfl hF.2); have O5 := Aside0.mk (R_same O4.out L4.out.at1 (by decide) hF.2); clear hF L4 O4)
   | ((with_reducible refine gate_store (t := 3) (p := 15) rfl ?_); refine ev_store rfl (ty := 3) (p := 15) rfl rfl (q := .pointer (some ⟨g3, 9, none⟩)) (v := .int .i64 a1) rfl rfl (store_one L5.out.at1 9 (by show 9 < 11; omega) (.int .i64 a1) rfl rfl 3 (by kernel_rfl)) ?_; intro w6 hF; have L6 := Aside0.mk (L5.out.same hF.1 rfl hF.2); have O6 := Aside0.mk (R_same O5.out L5.out.at1 (by decide) hF.2); clear hF L5 O5)
   | ((with_reducible refine gate_dst (N := 16) rfl ?_); refine ev_load rfl (N := 16) rfl rfl (q := .pointer (some ⟨g3, 0, none⟩)) (v := .agg #[.int .i64 d0, .int .i64 d1, .int .i64 d2, .int .i64 d3, .int .i64 d4, .int .i64 d5, .int .i64 d6, .int .i64 d7, .int .i64 d8, .int .i64 a1, v]) rfl (load_eleven Tryd.underlying38 rfl (by kernel_rfl) L6.out.at1 rfl) ?_)
   | ((with_reducible refine gate_store (t := 38) (p := 4) rfl ?_); obtain ⟨old, ho2, h2⟩ := L6.out.at2; refine ev_store rfl (ty := 38) (p := 4) rfl rfl (q := .pointer (some ⟨gr, 0, none⟩)) (v := .agg #[.int .i64 d0, .int .i64 d1, .int .i64 d2, .int .i64 d3, .int .i64 d4, .int .i64 d5, .int .i64 d6, .int .i64 d7, .int .i64 d8, .int .i64 a1, v]) rfl rfl (store_eleven (by kernel_rfl) h2 ho2 (dep_elf _ _ _ _ _ _ _ _ _ _ (rone O6.out))) ?_; intro w9 hF; have A7 := Aside0.mk hF.1; have M7 := Aside0.mk (L6.out.done hF.2); have O9 := Aside0.mk (R_same O6.out h2 (by decide) hF.2); clear hF ho2 h2))
  refine bodyPost_ret (results_ct rfl _ _ gr 38 #[.int .i64 d0, .int .i64 d1, .int .i64 d2, .int .i64 d3, .int .i64 d4, .int .i64 d5, .int .i64 d6, .int .i64 d7, .int .i64 d8, .int .i64 a1, v] (0, 0) _ rfl A7.out Tryd.underlying38 rfl (by kernel_rfl)) rfl ?_
  exact ⟨v, rfl, O9.out, M7.out.below (Nat.le_refl _) (fun _ hk => hk.elim)⟩


end Go.Proofs.YtbndoihcejieoaaDoor.G
namespace Go.Proofs.YtbndoihcejieoaaDoor.G
open Go.RowKit Go.Proofs.YtbndoihcejieoaaDoorW.PrintWords Go.Proofs.YtbndoihcejieoaaDoorW.PrintLast Go.Proofs.YtbndoihcejieoaaDoorW.PrintMore
set_option linter.unusedVariables false
set_option linter.unusedSimpArgs false

section
variable {α : Type} {d : Kd α} {w W : World} {v : Value} {l : List α} {P : Nat → Prop} {B e : Nat} {Q : Nat → Prop}
def Rd (d : Kd α) (w : World) (v : Value) (l : List α) : Prop := ∃ A c, v = .slice A l.length c ∧ l.length ≤ c ∧ d.C w A l.length l
theorem Rd.one (h : Rd d w v l) : v.oneCell' = true := by
 obtain ⟨A, c, rfl, _⟩ := h
 rfl
theorem Rd.of_R (h : d.R e w B Q v l) : Rd d w v l := Kd.R_reads h
theorem Rd.below (h : Rd d w v l) (hb : Below w.heap.size w W) : Rd d W v l := by
 obtain ⟨A, c, rfl, hc, hr⟩ := h
 exact ⟨A, c, rfl, hc, Kd.C_below hr hb⟩
def RdK (d : Kd α) (P : Nat → Prop) (w : World) (v : Value) (l : List α) : Prop := ∀ W, Mv P w W → Rd d W v l
theorem Mv.weaken {P2 : Nat → Prop} (h : Mv P w W) (hp : ∀ i, P i → P2 i) : Mv P2 w W := ⟨h.os, h.tape, h.output, h.kept.mono hp⟩
theorem RdK.now (h : RdK d P w v l) : Rd d w v l := h w (Mv.refl P w)
theorem RdK.mv {P2 : Nat → Prop} (h : RdK d P w v l) (k : Mv P2 w W) (hp : ∀ i, P2 i → P i) : RdK d P W v l := fun W2 k2 => h W2 (Mv.then_ ⟨k.os, k.tape, k.output, k.kept.mono hp⟩ k2 (fun _ h => .inl h))
theorem RdK.below (h : RdK d P w v l) (k : Below w.heap.size w W) : RdK d P W v l := h.mv (Mv.of_below k (fun _ => False)) (fun _ h => h.elim)
theorem RdK.of_R (h : d.R e w B Q v l) (hq : ∀ i, Q i → B ≤ i → i < w.heap.size → ¬ P i) : RdK d P w v l := fun W k =>
 Rd.of_R (Kd.R_step (Kd.R_bound h) (fun i hi hlt => k.kept.2 i hlt (hq i hi.1 hi.2.1 hi.2.2.1)))
theorem RdK.anti {P2 : Nat → Prop} (h : RdK d P w v l) (hp : ∀ i, P2 i → P i) : RdK d P2 w v l := fun W k => h W (Mv.weaken k hp)
theorem RdK.new {w0 : World} (h : d.R e w w0.heap.size Q v l) (hp : ∀ i, P i → i < w0.heap.size) : RdK d P w v l := RdK.of_R h (fun i _ hb _ hi => by have := hp i hi; omega)
end

structure Dep where
 (a0 a1 a2 a3 a4 a5 a6 a7 a8 a9 : Int)
 s : List Int
structure Arr where
 (b0 b1 b2 b3 b4 : Int)
 b5 : ByteArray
 (b6 b7 : Int)
 sl : List S89
 se : List Int
 fo : List Int
structure Tr where
 d : Dep
 a : Arr
 f : List Int
 b : List Int
def Dep.c (d : Dep) (v : Value) : Array Value := #[.int .i64 d.a0, .int .i64 d.a1, .int .i64 d.a2, .int .i64 d.a3, .int .i64 d.a4, .int .i64 d.a5, .int .i64 d.a6, .int .i64 d.a7, .int .i64 d.a8, .int .i64 d.a9, v]
def Arr.c (a : Arr) (v8 v9 v10 : Value) : Array Value := #[.int .i64 a.b0, .int .i64 a.b1, .int .i64 a.b2, .int .i64 a.b3, .int .i64 a.b4, .string a.b5, .int .i64 a.b6, .int .i64 a.b7, v8, v9, v10]
theorem Dep.elf (d : Dep) {v : Value} (h : v.oneCell' = true) : Elf (d.c v) := dep_elf _ _ _ _ _ _ _ _ _ _ h
theorem Arr.elf (a : Arr) {v8 v9 v10 : Value} (h8 : v8.oneCell' = true) (h9 : v9.oneCell' = true) (h10 : v10.oneCell' = true) : Elf (a.c v8 v9 v10) := arr_elf _ _ _ _ _ _ _ _ h8 h9 h10
/-- The lists are no longer than what a copy takes. -/
structure Arr.Fits (a : Arr) : Prop where
 sl : a.sl.length < 5000000000000
 se : a.se.length < 5000000000000
 fo : a.fo.length < 5000000000000
structure Tr.Fits (t : Tr) : Prop where
 s : t.d.s.length < 5000000000000
 a : t.a.Fits
 f : t.f.length < 5000000000000
 b : t.b.length < 5000000000000
def decD (d : Dep) (g : Bool) : Dep := if g = true then { d with a5 := 3, a8 := d.a7 } else { d with a5 := 2 }
def resD (d : Dep) : Dep := if d.a5 = 3 then { d with a5 := 4, a8 := 0, a9 := 1 } else d
def misD (d : Dep) : Dep := if d.a5 = 3 then { d with a5 := 5, a8 := 0 } else d
def annA (a : Arr) (id trip : Int) (seals : List Int) : Arr × Bool := if (changeIn chanL a.b3 1).2 = true then (⟨id, trip, 0, (changeIn chanL a.b3 1).1, id, ⟨#[]⟩, 0, 0, [], seals, a.fo⟩, true) else (a, false)
def arrA (a : Arr) (id : Int) (found : List Int) : Arr × Bool := if (changeIn chanL a.b3 2).2 = true then ({ a with b0 := id, b3 := (changeIn chanL a.b3 2).1, fo := found }, true) else (a, false)
def enqA (a : Arr) : Arr × Int := ({ a with b3 := (changeIn chanL a.b3 3).1 }, if (changeIn chanL a.b3 3).1 = 3 then 3 else if (changeIn chanL a.b3 3).1 = 4 then 4 else 0)
def decidedT (t : Tr) (g : Bool) : Tr := if t.d.a5 = 1 then { t with d := decD t.d g, f := if g = true then t.f ++ [1] else t.f } else t
def metT (t : Tr) (y : Arr) (p : Bool) : Tr := { t with a := y, b := if p = true ∧ y.b3 = 3 then t.b ++ [3] else t.b }
def forthT (t : Tr) (signal : Int) (rest : List Int) : Tr :=
 if signal = 1 then metT { t with f := rest } (annA t.a t.d.a0 t.d.a1 t.d.s).1 (annA t.a t.d.a0 t.d.a1 t.d.s).2
 else if signal = 2 then { t with f := rest, a := (enqA t.a).1, b := if (enqA t.a).2 = 0 then t.b else t.b ++ [(enqA t.a).2] }
 else { t with f := rest }
def backT (t : Tr) (signal : Int) (rest : List Int) : Tr := { t with b := rest, d := if signal = 3 then resD t.d else if signal = 4 then misD t.d else t.d }
def stepT (t : Tr) (action : Int) : Tr :=
 if action = 1 ∨ action = 2 then decidedT t (action == 1)
 else if action = 3 then metT t (arrA t.a t.d.a0 t.d.s).1 (arrA t.a t.d.a0 t.d.s).2
 else if action = 4 then (if t.d.a5 = 3 then { t with f := t.f ++ [2] } else t)
 else if action = 5 then (match t.f with | [] => t | x :: l => forthT t x l)
 else if action = 6 then (match t.b with | [] => t | x :: l => backT t x l)
 else t

section
variable {w : World} {v v8 v9 v10 : Value}
theorem clone_fits {l : List Int} (h : l.length < 5000000000000) : slices_Clone_int_int.f l = some l := if_pos (by omega)
theorem twin_fits (q4 : Int) (q5 : ByteArray) (q6 q7 : Int) {l : List S89} (h : l.length < 5000000000000) : transit_twin.f q4 q5 q6 q7 l = some (q4, q5, q6, q7, l) := by
 unfold transit_twin.f api_Slice.f
 rw [if_pos (by omega)]
 rfl
theorem departed_fits (d : Dep) (h : d.s.length < 5000000000000) : transit_departed.f d.a0 d.a1 d.a2 d.a3 d.a4 d.a5 d.a6 d.a7 d.a8 d.a9 d.s = some (d.a0, d.a1, d.a2, d.a3, d.a4, d.a5, d.a6, d.a7, d.a8, d.a9, d.s) := by
 unfold transit_departed.f
 rw [clone_fits h]
 rfl
theorem arrived_fits (a : Arr) (h : a.Fits) : transit_arrived.f a.b0 a.b1 a.b2 a.b3 a.b4 a.b5 a.b6 a.b7 a.sl a.se a.fo = some (a.b0, a.b1, a.b2, a.b3, a.b4, a.b5, a.b6, a.b7, a.sl, a.se, a.fo) := by
 unfold transit_arrived.f
 rw [twin_fits _ _ _ _ h.sl, clone_fits h.se, clone_fits h.fo]
 rfl
theorem departed_w (d : Dep) (h : Rd (Kd.int .i64) w v d.s) (hl : d.s.length < 5000000000000) :
  Calls Tryd.prog 45 #[.agg (d.c v)] w fun e w' => ∃ v', e = .returned (.agg (d.c v')) ∧ Kd.R (Kd.int .i64) 3 w' w.heap.size (fun _ => True) v' d.s ∧ Below w.heap.size w w' := by
 obtain ⟨A, c, rfl, hc, hr⟩ := h
 exact transit_departed.calls d.a0 d.a1 d.a2 d.a3 d.a4 d.a5 d.a6 d.a7 d.a8 d.a9 A c d.s _ _ _ _ _ _ _ _ _ _ _ w hr hc (departed_fits d hl)
theorem result_w (d : Dep) (h : Rd (Kd.int .i64) w v d.s) (hl : d.s.length < 5000000000000) :
  Calls Tryd.prog 29 #[.agg (d.c v), .int .i64 1] w fun e w' => ∃ v', (∃ p : Bool, e = .returned (.tuple #[.agg ((resD d).c v'), .bool p])) ∧ Kd.R (Kd.int .i64) 3 w' w.heap.size (fun _ => True) v' (resD d).s ∧ Below w.heap.size w w' := by
 obtain ⟨A, c, rfl, hc, hr⟩ := h
 by_cases c5 : d.a5 = 3
 ·
  refine (transit_Result.calls d.a0 d.a1 d.a2 d.a3 d.a4 d.a5 d.a6 d.a7 d.a8 d.a9 A c d.s 1 d.a0 d.a1 d.a2 d.a3 d.a4 4 d.a6 d.a7 0 1 d.s true w hr hc ?_).mono ?_
  ·
   simp only [transit_Result.f, transit_ended.f]
   rw [departed_fits d hl]
   simp [c5]
  ·
   rintro e w' ⟨v', rfl, ho, hb⟩
   exact ⟨v', ⟨_, by rw [resD, if_pos c5]; rfl⟩, by rw [resD, if_pos c5]; exact ho, hb⟩
 ·
  refine (transit_Result.calls d.a0 d.a1 d.a2 d.a3 d.a4 d.a5 d.a6 d.a7 d.a8 d.a9 A c d.s 1 d.a0 d.a1 d.a2 d.a3 d.a4 d.a5 d.a6 d.a7 d.a8 d.a9 d.s false w hr hc ?_).mono ?_
  ·
   simp only [transit_Result.f, transit_ended.f]
   rw [departed_fits d hl]
   simp [c5]
  ·
   rintro e w' ⟨v', rfl, ho, hb⟩
   exact ⟨v', ⟨_, by rw [resD, if_neg c5]; rfl⟩, by rw [resD, if_neg c5]; exact ho, hb⟩
theorem missing_w (d : Dep) (h : Rd (Kd.int .i64) w v d.s) (hl : d.s.length < 5000000000000) :
  Calls Tryd.prog 31 #[.agg (d.c v)] w fun e w' => ∃ v', (∃ p : Bool, e = .returned (.tuple #[.agg ((misD d).c v'), .bool p])) ∧ Kd.R (Kd.int .i64) 3 w' w.heap.size (fun _ => True) v' (misD d).s ∧ Below w.heap.size w w' := by
 obtain ⟨A, c, rfl, hc, hr⟩ := h
 by_cases c5 : d.a5 = 3
 ·
  refine (transit_Missing.calls d.a0 d.a1 d.a2 d.a3 d.a4 d.a5 d.a6 d.a7 d.a8 d.a9 A c d.s d.a0 d.a1 d.a2 d.a3 d.a4 5 d.a6 d.a7 0 d.a9 d.s true w hr hc ?_).mono ?_
  ·
   simp only [transit_Missing.f, transit_ended.f]
   rw [departed_fits d hl]
   simp [c5]
  ·
   rintro e w' ⟨v', rfl, ho, hb⟩
   exact ⟨v', ⟨_, by rw [misD, if_pos c5]; rfl⟩, by rw [misD, if_pos c5]; exact ho, hb⟩
 ·
  refine (transit_Missing.calls d.a0 d.a1 d.a2 d.a3 d.a4 d.a5 d.a6 d.a7 d.a8 d.a9 A c d.s d.a0 d.a1 d.a2 d.a3 d.a4 d.a5 d.a6 d.a7 d.a8 d.a9 d.s false w hr hc ?_).mono ?_
  ·
   simp only [transit_Missing.f, transit_ended.f]
   rw [departed_fits d hl]
   simp [c5]
  ·
   rintro e w' ⟨v', rfl, ho, hb⟩
   exact ⟨v', ⟨_, by rw [misD, if_neg c5]; rfl⟩, by rw [misD, if_neg c5]; exact ho, hb⟩
/-- An arrival's three rows, read. -/
structure Arr.Rd (a : Arr) (w : World) (v8 v9 v10 : Value) : Prop where
 r8 : G.Rd k89 w v8 a.sl
 r9 : G.Rd (Kd.int .i64) w v9 a.se
 r10 : G.Rd (Kd.int .i64) w v10 a.fo
theorem Arr.Rd.elf {a : Arr} (h : a.Rd w v8 v9 v10) : Elf (a.c v8 v9 v10) := a.elf h.r8.one h.r9.one h.r10.one
/-- .. made since w0. -/
structure Arr.New (a : Arr) (w0 w : World) (v8 v9 v10 : Value) : Prop where
 r8 : Kd.R k89 89 w w0.heap.size (fun _ => True) v8 a.sl
 r9 : Kd.R (Kd.int .i64) 3 w w0.heap.size (fun _ => True) v9 a.se
 r10 : Kd.R (Kd.int .i64) 3 w w0.heap.size (fun _ => True) v10 a.fo
structure Arr.RdK (a : Arr) (P : Nat → Prop) (w : World) (v8 v9 v10 : Value) : Prop where
 r8 : G.RdK k89 P w v8 a.sl
 r9 : G.RdK (Kd.int .i64) P w v9 a.se
 r10 : G.RdK (Kd.int .i64) P w v10 a.fo
theorem Arr.RdK.now {a : Arr} {P : Nat → Prop} (h : a.RdK P w v8 v9 v10) : a.Rd w v8 v9 v10 := ⟨h.r8.now, h.r9.now, h.r10.now⟩
theorem Arr.RdK.at {a : Arr} {P : Nat → Prop} {W : World} (h : a.RdK P w v8 v9 v10) (k : Mv P w W) : a.Rd W v8 v9 v10 := ⟨h.r8 W k, h.r9 W k, h.r10 W k⟩
theorem Arr.RdK.mv {a : Arr} {P P2 : Nat → Prop} {W : World} (h : a.RdK P w v8 v9 v10) (k : Mv P2 w W) (hp : ∀ i, P2 i → P i) : a.RdK P W v8 v9 v10 := ⟨h.r8.mv k hp, h.r9.mv k hp, h.r10.mv k hp⟩
theorem Arr.RdK.anti {a : Arr} {P P2 : Nat → Prop} (h : a.RdK P w v8 v9 v10) (hp : ∀ i, P2 i → P i) : a.RdK P2 w v8 v9 v10 := ⟨h.r8.anti hp, h.r9.anti hp, h.r10.anti hp⟩
theorem Arr.Rd.below {a : Arr} {W : World} (h : a.Rd w v8 v9 v10) (k : Below w.heap.size w W) : a.Rd W v8 v9 v10 := ⟨h.r8.below k, h.r9.below k, h.r10.below k⟩
theorem Arr.New.rdk {a : Arr} {P : Nat → Prop} {w0 : World} (h : a.New w0 w v8 v9 v10) (hP : ∀ i, P i → i < w0.heap.size ∨ w.heap.size ≤ i) : a.RdK P w v8 v9 v10 :=
 have q : ∀ i, True → w0.heap.size ≤ i → i < w.heap.size → ¬ P i := fun i _ h1 h2 hp => by have := hP i hp; omega
 ⟨RdK.of_R h.r8 q, RdK.of_R h.r9 q, RdK.of_R h.r10 q⟩
theorem arrived_w (a : Arr) (h : a.Rd w v8 v9 v10) (hl : a.Fits) :
  Calls Tryd.prog 40 #[.agg (a.c v8 v9 v10)] w fun e w' => ∃ u8 u9 u10, e = .returned (.agg (a.c u8 u9 u10)) ∧ a.New w w' u8 u9 u10 ∧ Below w.heap.size w w' := by
 obtain ⟨⟨A8, c8, rfl, hc8, hr8⟩, ⟨A9, c9, rfl, hc9, hr9⟩, ⟨A10, c10, rfl, hc10, hr10⟩⟩ := h
 refine (transit_arrived.calls a.b0 a.b1 a.b2 a.b3 a.b4 a.b5 a.b6 a.b7 A8 c8 a.sl A9 c9 a.se A10 c10 a.fo _ _ _ _ _ _ _ _ _ _ _ w hr8 hc8 hr9 hc9 hr10 hc10 (arrived_fits a hl)).mono ?_
 rintro e w' ⟨u8, u9, u10, rfl, o8, o9, o10, hb⟩
 exact ⟨u8, u9, u10, rfl, ⟨o8, Kd.R_mono o9 (fun _ _ => trivial), Kd.R_mono o10 (fun _ _ => trivial)⟩, hb⟩
theorem announce_w (a : Arr) (id trip : Int) (seals : List Int) (h : a.Rd w v8 v9 v10) (hl : a.Fits) (hv : Rd (Kd.int .i64) w v seals) (hf : seals.length < 5000000000000) (hG : GL_changes w) :
  Calls Tryd.prog 9 #[.agg (a.c v8 v9 v10), .agg #[.int .i64 id, .string ⟨#[]⟩, .int .i64 0, .int .i64 0, .slice none 0 0], .int .i64 trip, .int .i64 0, v] w fun e w' => ∃ u8 u9 u10, e = .returned (.tuple #[.agg ((annA a id trip seals).1.c u8 u9 u10), .bool (annA a id trip seals).2]) ∧ (annA a id trip seals).1.New w w' u8 u9 u10 ∧ Below w.heap.size w w' := by
 obtain ⟨⟨A8, c8, rfl, hc8, hr8⟩, ⟨A9, c9, rfl, hc9, hr9⟩, ⟨A10, c10, rfl, hc10, hr10⟩⟩ := h
 obtain ⟨A, c, rfl, hc, hr⟩ := hv
 have hF : transit_Announce.f a.b0 a.b1 a.b2 a.b3 a.b4 a.b5 a.b6 a.b7 a.sl a.se a.fo id ⟨#[]⟩ 0 0 [] trip 0 seals = some ((annA a id trip seals).1.b0, (annA a id trip seals).1.b1, (annA a id trip seals).1.b2, (annA a id trip seals).1.b3, (annA a id trip seals).1.b4, (annA a id trip seals).1.b5, (annA a id trip seals).1.b6, (annA a id trip seals).1.b7, (annA a id trip seals).1.sl, (annA a id trip seals).1.se, (annA a id trip seals).1.fo, (annA a id trip seals).2) := by
  unfold transit_Announce.f
  rw [arrived_fits a hl, clone_fits hf, twin_fits _ _ _ _ (by simp)]
  simp only [Option.bind_some, transit_next.f, annA]
  by_cases cc : (changeIn chanL a.b3 1).2 = true
  ·
   simp [cc]
  ·
   simp [cc]
 refine (transit_Announce.calls a.b0 a.b1 a.b2 a.b3 a.b4 a.b5 a.b6 a.b7 A8 c8 a.sl A9 c9 a.se A10 c10 a.fo id ⟨#[]⟩ 0 0 none 0 [] trip 0 A c seals _ _ _ _ _ _ _ _ _ _ _ _ w hr8 hc8 hr9 hc9 hr10 hc10 (Kd.C_nil _ _) (Nat.le_refl _) hr hc hG hF).mono ?_
 rintro e w' ⟨u8, u9, u10, rfl, o8, o9, o10, hb⟩
 exact ⟨u8, u9, u10, rfl, ⟨o8, Kd.R_mono o9 (fun _ _ => trivial), Kd.R_mono o10 (fun _ _ => trivial)⟩, hb⟩
end
end Go.Proofs.YtbndoihcejieoaaDoor.G
namespace Go.Proofs.YtbndoihcejieoaaDoor.G
open Go.RowKit Go.Proofs.YtbndoihcejieoaaDoorW.PrintWords Go.Proofs.YtbndoihcejieoaaDoorW.PrintLast Go.Proofs.YtbndoihcejieoaaDoorW.PrintMore
attribute [local go_sem] max2_int min2_int max_two min_two max_three min_three max_four min_four   -- for this text's walks alone
set_option linter.unusedVariables false
set_option linter.unusedSimpArgs false

theorem clone_bigE {l : List Int} (h : l.length ≤ 17592186043904) : slices_Clone_int_int.f l = some l := if_pos (by omega)
theorem departed_big (d : Dep) (h : d.s.length ≤ 17592186043904) : transit_departed.f d.a0 d.a1 d.a2 d.a3 d.a4 d.a5 d.a6 d.a7 d.a8 d.a9 d.s = some (d.a0, d.a1, d.a2, d.a3, d.a4, d.a5, d.a6, d.a7, d.a8, d.a9, d.s) := by
 unfold transit_departed.f
 rw [clone_bigE h]
 rfl
def decB (d : Dep) (ver cov : Int) (g : Bool) : Dep := if ver = d.a6 then (if d.a5 = 1 then (if g = true then { d with a5 := 3, a8 := cov } else { d with a5 := 2 }) else if d.a5 = 3 then { d with a8 := cov } else d) else d
def zeroE : Array Value := #[.int .i64 0, .int .i64 0, .int .i64 0, .int .i64 0, .int .i64 0, .int .i64 0, .int .i64 0, .int .i64 0, .int .i64 0, .int .i64 0, .slice none 0 0]
def zeroF : Array Value := #[.int .i64 0, .int .i64 0, .int .i64 0, .int .i64 0, .int .i64 0, .string (⟨#[]⟩ : ByteArray), .int .i64 0, .int .i64 0, .slice none 0 0, .slice none 0 0, .slice none 0 0]
/-- A body on a departure (block gx), beside its result (block gr). -/
structure Ed (tt : TypeId) (w W : World) (gx gr : Nat) (cs : Array Value) : Prop where
 b : Below w.heap.size w W
 g1 : w.heap.size ≤ gx
 g2 : w.heap.size ≤ gr
 ne : gx ≠ gr
 at1 : W.heap[gx]? = some (.cells cs tt (0, 0))
 at2 : ∃ old : Array Value, old.size = 11 ∧ W.heap[gr]? = some (.cells old tt (0, 0))
section
variable {w W W1 w1 w2 : World} {gx gr : Nat} {cs cs' z : Array Value} {tt : TypeId}
theorem Ed.start (h1 : gx = w.heap.size ∧ w1.heap[gx]? = some (.cells cs tt (0, 0)) ∧ Below w.heap.size w w1) (h2 : gr = w1.heap.size ∧ w2.heap[gr]? = some (.cells z tt (0, 0)) ∧ Below w1.heap.size w1 w2) (hz : z.size = 11) : Ed tt w w2 gx gr cs :=
 ⟨h1.2.2.trans (h2.2.2.mono h1.2.2.size), by omega, by have := h1.2.2.size; omega, by have := blk_lt h1.2.1; omega, blk_below h1.2.1 h2.2.2, z, hz, h2.2.1⟩
theorem Ed.l1 (h : Ed tt w W gx gr cs) : gx < W.heap.size := blk_lt h.at1
theorem Ed.l2 (h : Ed tt w W gx gr cs) : gr < W.heap.size := blk_lt h.at2.choose_spec.2
theorem Ed.below (h : Ed tt w W gx gr cs) (k : Below W.heap.size W W1) : Ed tt w W1 gx gr cs :=
 ⟨h.b.trans (k.mono h.b.size), h.g1, h.g2, h.ne, blk_below h.at1 k, h.at2.choose, h.at2.choose_spec.1, blk_below h.at2.choose_spec.2 k⟩
theorem Ed.put1 (h : Ed tt w W gx gr cs) (h1 : W1.heap[gx]? = some (.cells cs' tt (0, 0))) (k : Same gx W W1) : Ed tt w W1 gx gr cs' :=
 ⟨(Mv.of_below h.b (fun _ => False)).then_ (Mv.same (fun i => i = gx) rfl k) (fun i hi => .inr (by rw [hi]; exact h.g1)) |>.below (Nat.le_refl _) (fun _ hk => hk.elim), h.g1, h.g2, h.ne, h1, h.at2.choose, h.at2.choose_spec.1, (k.block gr (Ne.symm h.ne)).trans h.at2.choose_spec.2⟩
theorem Ed.done (h : Ed tt w W gx gr cs) (k : Same gr W W1) : Below w.heap.size w W1 :=
 (Mv.of_below h.b (fun _ => False)).then_ (Mv.same (fun i => i = gr) rfl k) (fun i hi => .inr (by rw [hi]; exact h.g2)) |>.below (Nat.le_refl _) (fun _ hk => hk.elim)
/-- A row of one's own, through stores into other blocks. -/
theorem Ed.row {α : Type} {k : Kd α} {e B : Nat} {u : Value} {l : List α} {g : Nat} {T : Array Value} (h : k.R e W B (fun _ => True) u l) (hb : W.heap[g]? = some (.cells T tt (0, 0))) (ht : ∀ q, q ∈ e :: k.E → q ≠ tt) (s : Same g W W1) : k.R e W1 B (fun _ => True) u l :=
 Kd.R_mono (Kd.R_step (Kd.R_types h hb ht) (fun i hi _ => s.block i hi.2)) (fun _ _ => trivial)
theorem load38e {d : Dep} {u : Value} {g : Nat} (h : W.heap[g]? = some (.cells (d.c u) 38 (0, 0))) : (Instr.loadAt 38 (.pointer (some ⟨g, 0, none⟩))).run Tryd.prog W = .ok (.agg (d.c u)) W := load_eleven Tryd.underlying38 rfl (by kernel_rfl) h rfl
end
section
variable {W : World}
theorem load27e {cs : Array Value} {g : Nat} (h : W.heap[g]? = some (.cells cs 27 (0, 0))) (hs : cs.size = 11) : (Instr.loadAt 27 (.pointer (some ⟨g, 0, none⟩))).run Tryd.prog W = .ok (.agg cs) W := load_eleven Tryd.underlying27 rfl (by kernel_rfl) h hs
end
section
variable {w : World} {v v8 v9 v10 : Value}
theorem departed_e (d : Dep) (h : Rd (Kd.int .i64) w v d.s) (hl : d.s.length ≤ 17592186043904) :
  Calls Tryd.prog 45 #[.agg (d.c v)] w fun e w' => ∃ u : Value, e = .returned (.agg (d.c u)) ∧ Kd.R (Kd.int .i64) 3 w' w.heap.size (fun _ => True) u d.s ∧ Below w.heap.size w w' := by
 obtain ⟨A, c1, rfl, hc, hr⟩ := h
 exact transit_departed.calls d.a0 d.a1 d.a2 d.a3 d.a4 d.a5 d.a6 d.a7 d.a8 d.a9 A c1 d.s _ _ _ _ _ _ _ _ _ _ _ w hr hc (departed_big d hl)
set_option maxHeartbeats 4000000 in
set_option maxRecDepth 100000 in
theorem tdec_e (d : Dep) (ver cov : Int) (g : Bool) (h : Rd (Kd.int .i64) w v d.s) (hl : d.s.length ≤ 17592186043904) :
  Calls Tryd.prog 34 #[.agg (d.c v), .int .i64 ver, .int .i64 cov, .bool g] w fun e w' => ∃ u : Value, e = .returned (.agg ((decB d ver cov g).c u)) ∧ Kd.R (Kd.int .i64) 3 w' w.heap.size (fun _ => True) u (decB d ver cov g).s ∧ Below w.heap.size w w' := by
 have HD := Aside0.mk h
 clear h
 have hu38 := Tryd.underlying38
 have HL := Aside0.mk hl
 clear hl
 by_cases c6 : ver = d.a6
 ·
  by_cases c1 : d.a5 = 1
  ·
   by_cases cg : g = true
   ·
    rw [show decB d ver cov g = { d with a5 := 3, a8 := cov } from by simp [decB, c6, c1, cg]]
    subst cg
    have c6b : (ver == d.a6) = true := beq_iff_eq.mpr c6
    have c6n : (ver != d.a6) = false := bne_eq_false_iff_eq.mpr c6
    have c1b : (d.a5 == 1) = true := beq_iff_eq.mpr c1
    have c1n : (d.a5 != 1) = false := bne_eq_false_iff_eq.mpr c1
    clear c6 c1
    go_enter Tryd.func34, Tryd.ntmps34
    go_wp2_with (first
     | ((with_reducible refine gate_dst (N := 4) rfl ?_); refine box_event rfl (N := 4) rfl (cs := d.c v) (t := 38) ?hr ?_; (case hr => first | (go_simp; done) | (go_simp; rfl)); intro gx hg w1 h1 b1; have P1 := Aside0.mk (And.intro hg (And.intro h1 b1)); clear hg h1 b1)
     | ((with_reducible refine gate_dst (N := 8) rfl ?_); refine box_event rfl (N := 8) rfl (cs := zeroE) (t := 38) ?hr ?_; (case hr => first | (go_simp; done) | (go_simp; rfl)); intro gr hg w2 h1 b1; have E := Aside0.mk (Ed.start P1.out ⟨hg, h1, b1⟩ rfl); clear hg h1 b1 P1)
     | ((with_reducible refine gate_dst (N := 9) rfl ?_); refine ev_load rfl (N := 9) rfl rfl (q := .pointer (some ⟨gx, 0, none⟩)) (v := .agg (d.c v)) rfl (load38e E.out.at1) ?_)
     | (go_at_call 45; refine (departed_e d (HD.out.below E.out.b) HL.out).mono ?_; rintro e w4 ⟨u, rfl, hr, hb⟩; have V4 := Aside0.mk (Kd.R_lower hr E.out.b.size); have E4 := Aside0.mk (E.out.below hb); clear hr hb E HD)
     | ((with_reducible refine gate_store (t := 38) (p := 4) rfl ?_); refine ev_store rfl (ty := 38) (p := 4) rfl rfl (q := .pointer (some ⟨gx, 0, none⟩)) (v := .agg (d.c u)) rfl rfl (store_eleven (tt := 38) (by kernel_rfl) E4.out.at1 rfl (d.elf (rone V4.out))) ?_; intro w5 hF; have E := Aside0.mk (E4.out.put1 hF.1 hF.2); have V := Aside0.mk (Ed.row V4.out E4.out.at1 (by decide) hF.2); have hc5 : w5.cell? ⟨gx, 5, none⟩ = some (.int .i64 d.a5) := (cell_of_row w5 gx 5 _ 38 (0, 0) E.out.at1).trans rfl; have hc6 : w5.cell? ⟨gx, 6, none⟩ = some (.int .i64 d.a6) := (cell_of_row w5 gx 6 _ 38 (0, 0) E.out.at1).trans rfl; have hc7 : w5.cell? ⟨gx, 7, none⟩ = some (.int .i64 d.a7) := (cell_of_row w5 gx 7 _ 38 (0, 0) E.out.at1).trans rfl; have hc8 : w5.cell? ⟨gx, 8, none⟩ = some (.int .i64 d.a8) := (cell_of_row w5 gx 8 _ 38 (0, 0) E.out.at1).trans rfl; clear hF E4 V4)
     | ((with_reducible refine gate_store (t := 3) (p := 30) rfl ?_); refine ev_store rfl (ty := 3) (p := 30) rfl rfl (q := .pointer (some ⟨gx, 5, none⟩)) (v := .int .i64 3) rfl rfl (store_one E.out.at1 5 (by show 5 < 11; omega) (.int .i64 3) rfl (T' := ({ d with a5 := 3 } : Dep).c u) rfl 3 (by kernel_rfl)) ?_; intro s0 hF; have E5 := Aside0.mk (E.out.put1 hF.1 hF.2); have V5 := Aside0.mk (Ed.row V.out E.out.at1 (by decide) hF.2); clear V; clear hF E hc5 hc6 hc7 hc8)
     | ((with_reducible refine gate_store (t := 3) (p := 31) rfl ?_); refine ev_store rfl (ty := 3) (p := 31) rfl rfl (q := .pointer (some ⟨gx, 8, none⟩)) (v := .int .i64 cov) rfl rfl (store_one E5.out.at1 8 (by show 8 < 11; omega) (.int .i64 cov) rfl (T' := ({ d with a5 := 3, a8 := cov } : Dep).c u) rfl 3 (by kernel_rfl)) ?_; intro s1 hF; have E6 := Aside0.mk (E5.out.put1 hF.1 hF.2); have V6 := Aside0.mk (Ed.row V5.out E5.out.at1 (by decide) hF.2); clear V5; clear hF E5)
     | ((with_reducible refine gate_dst (N := 38) rfl ?_); refine ev_load rfl (N := 38) rfl rfl (q := .pointer (some ⟨gx, 0, none⟩)) (v := .agg (({ d with a5 := 3, a8 := cov } : Dep).c u)) rfl (load38e E6.out.at1) ?_)
     | ((with_reducible refine gate_store (t := 38) (p := 8) rfl ?_); obtain ⟨old, ho2, h2⟩ := E6.out.at2; refine ev_store rfl (ty := 38) (p := 8) rfl rfl (q := .pointer (some ⟨gr, 0, none⟩)) (v := .agg (({ d with a5 := 3, a8 := cov } : Dep).c u)) rfl rfl (store_eleven (tt := 38) (by kernel_rfl) h2 ho2 (Dep.elf _ (rone V6.out))) ?_; intro w9 hF; have AF := Aside0.mk hF.1; have BF := Aside0.mk (E6.out.done hF.2); have VF := Aside0.mk (Ed.row V6.out h2 (by decide) hF.2); clear hF ho2 h2))
    refine bodyPost_ret (results_cell_row rfl _ _ gr 38 (({ d with a5 := 3, a8 := cov } : Dep).c u) (0, 0) _ rfl AF.out Tryd.underlying38 rfl (by kernel_rfl)) rfl ?_
    exact ⟨u, rfl, VF.out, BF.out⟩
   ·
    rw [show decB d ver cov g = { d with a5 := 2 } from by simp [decB, c6, c1, cg]]
    obtain rfl : g = false := by simpa using cg
    have c6b : (ver == d.a6) = true := beq_iff_eq.mpr c6
    have c6n : (ver != d.a6) = false := bne_eq_false_iff_eq.mpr c6
    have c1b : (d.a5 == 1) = true := beq_iff_eq.mpr c1
    have c1n : (d.a5 != 1) = false := bne_eq_false_iff_eq.mpr c1
    clear c6 c1 cg
    go_enter Tryd.func34, Tryd.ntmps34
    go_wp2_with (first
     | ((with_reducible refine gate_dst (N := 4) rfl ?_); refine box_event rfl (N := 4) rfl (cs := d.c v) (t := 38) ?hr ?_; (case hr => first | (go_simp; done) | (go_simp; rfl)); intro gx hg w1 h1 b1; have P1 := Aside0.mk (And.intro hg (And.intro h1 b1)); clear hg h1 b1)
     | ((with_reducible refine gate_dst (N := 8) rfl ?_); refine box_event rfl (N := 8) rfl (cs := zeroE) (t := 38) ?hr ?_; (case hr => first | (go_simp; done) | (go_simp; rfl)); intro gr hg w2 h1 b1; have E := Aside0.mk (Ed.start P1.out ⟨hg, h1, b1⟩ rfl); clear hg h1 b1 P1)
     | ((with_reducible refine gate_dst (N := 9) rfl ?_); refine ev_load rfl (N := 9) rfl rfl (q := .pointer (some ⟨gx, 0, none⟩)) (v := .agg (d.c v)) rfl (load38e E.out.at1) ?_)
     | (go_at_call 45; refine (departed_e d (HD.out.below E.out.b) HL.out).mono ?_; rintro e w4 ⟨u, rfl, hr, hb⟩; have V4 := Aside0.mk (Kd.R_lower hr E.out.b.size); have E4 := Aside0.mk (E.out.below hb); clear hr hb E HD)
     | ((with_reducible refine gate_store (t := 38) (p := 4) rfl ?_); refine ev_store rfl (ty := 38) (p := 4) rfl rfl (q := .pointer (some ⟨gx, 0, none⟩)) (v := .agg (d.c u)) rfl rfl (store_eleven (tt := 38) (by kernel_rfl) E4.out.at1 rfl (d.elf (rone V4.out))) ?_; intro w5 hF; have E := Aside0.mk (E4.out.put1 hF.1 hF.2); have V := Aside0.mk (Ed.row V4.out E4.out.at1 (by decide) hF.2); have hc5 : w5.cell? ⟨gx, 5, none⟩ = some (.int .i64 d.a5) := (cell_of_row w5 gx 5 _ 38 (0, 0) E.out.at1).trans rfl; have hc6 : w5.cell? ⟨gx, 6, none⟩ = some (.int .i64 d.a6) := (cell_of_row w5 gx 6 _ 38 (0, 0) E.out.at1).trans rfl; have hc7 : w5.cell? ⟨gx, 7, none⟩ = some (.int .i64 d.a7) := (cell_of_row w5 gx 7 _ 38 (0, 0) E.out.at1).trans rfl; have hc8 : w5.cell? ⟨gx, 8, none⟩ = some (.int .i64 d.a8) := (cell_of_row w5 gx 8 _ 38 (0, 0) E.out.at1).trans rfl; clear hF E4 V4)
     | ((with_reducible refine gate_store (t := 3) (p := 24) rfl ?_); refine ev_store rfl (ty := 3) (p := 24) rfl rfl (q := .pointer (some ⟨gx, 5, none⟩)) (v := .int .i64 2) rfl rfl (store_one E.out.at1 5 (by show 5 < 11; omega) (.int .i64 2) rfl (T' := ({ d with a5 := 2 } : Dep).c u) rfl 3 (by kernel_rfl)) ?_; intro s0 hF; have E5 := Aside0.mk (E.out.put1 hF.1 hF.2); have V5 := Aside0.mk (Ed.row V.out E.out.at1 (by decide) hF.2); clear V; clear hF E hc5 hc6 hc7 hc8)
     | ((with_reducible refine gate_dst (N := 38) rfl ?_); refine ev_load rfl (N := 38) rfl rfl (q := .pointer (some ⟨gx, 0, none⟩)) (v := .agg (({ d with a5 := 2 } : Dep).c u)) rfl (load38e E5.out.at1) ?_)
     | ((with_reducible refine gate_store (t := 38) (p := 8) rfl ?_); obtain ⟨old, ho2, h2⟩ := E5.out.at2; refine ev_store rfl (ty := 38) (p := 8) rfl rfl (q := .pointer (some ⟨gr, 0, none⟩)) (v := .agg (({ d with a5 := 2 } : Dep).c u)) rfl rfl (store_eleven (tt := 38) (by kernel_rfl) h2 ho2 (Dep.elf _ (rone V5.out))) ?_; intro w9 hF; have AF := Aside0.mk hF.1; have BF := Aside0.mk (E5.out.done hF.2); have VF := Aside0.mk (Ed.row V5.out h2 (by decide) hF.2); clear hF ho2 h2))
    refine bodyPost_ret (results_cell_row rfl _ _ gr 38 (({ d with a5 := 2 } : Dep).c u) (0, 0) _ rfl AF.out Tryd.underlying38 rfl (by kernel_rfl)) rfl ?_
    exact ⟨u, rfl, VF.out, BF.out⟩
  ·
   by_cases c5 : d.a5 = 3
   ·
    rw [show decB d ver cov g = { d with a8 := cov } from by simp [decB, c6, c5]]
    have c6b : (ver == d.a6) = true := beq_iff_eq.mpr c6
    have c6n : (ver != d.a6) = false := bne_eq_false_iff_eq.mpr c6
    have c1b : (d.a5 == 1) = false := beq_eq_false_iff_ne.mpr c1
    have c1n : (d.a5 != 1) = true := bne_iff_ne.mpr c1
    have c5b : (d.a5 == 3) = true := beq_iff_eq.mpr c5
    have c5n : (d.a5 != 3) = false := bne_eq_false_iff_eq.mpr c5
    clear c6 c1 c5
    go_enter Tryd.func34, Tryd.ntmps34
    go_wp2_with (first
     | ((with_reducible refine gate_dst (N := 4) rfl ?_); refine box_event rfl (N := 4) rfl (cs := d.c v) (t := 38) ?hr ?_; (case hr => first | (go_simp; done) | (go_simp; rfl)); intro gx hg w1 h1 b1; have P1 := Aside0.mk (And.intro hg (And.intro h1 b1)); clear hg h1 b1)
     | ((with_reducible refine gate_dst (N := 8) rfl ?_); refine box_event rfl (N := 8) rfl (cs := zeroE) (t := 38) ?hr ?_; (case hr => first | (go_simp; done) | (go_simp; rfl)); intro gr hg w2 h1 b1; have E := Aside0.mk (Ed.start P1.out ⟨hg, h1, b1⟩ rfl); clear hg h1 b1 P1)
     | ((with_reducible refine gate_dst (N := 9) rfl ?_); refine ev_load rfl (N := 9) rfl rfl (q := .pointer (some ⟨gx, 0, none⟩)) (v := .agg (d.c v)) rfl (load38e E.out.at1) ?_)
     | (go_at_call 45; refine (departed_e d (HD.out.below E.out.b) HL.out).mono ?_; rintro e w4 ⟨u, rfl, hr, hb⟩; have V4 := Aside0.mk (Kd.R_lower hr E.out.b.size); have E4 := Aside0.mk (E.out.below hb); clear hr hb E HD)
     | ((with_reducible refine gate_store (t := 38) (p := 4) rfl ?_); refine ev_store rfl (ty := 38) (p := 4) rfl rfl (q := .pointer (some ⟨gx, 0, none⟩)) (v := .agg (d.c u)) rfl rfl (store_eleven (tt := 38) (by kernel_rfl) E4.out.at1 rfl (d.elf (rone V4.out))) ?_; intro w5 hF; have E := Aside0.mk (E4.out.put1 hF.1 hF.2); have V := Aside0.mk (Ed.row V4.out E4.out.at1 (by decide) hF.2); have hc5 : w5.cell? ⟨gx, 5, none⟩ = some (.int .i64 d.a5) := (cell_of_row w5 gx 5 _ 38 (0, 0) E.out.at1).trans rfl; have hc6 : w5.cell? ⟨gx, 6, none⟩ = some (.int .i64 d.a6) := (cell_of_row w5 gx 6 _ 38 (0, 0) E.out.at1).trans rfl; have hc7 : w5.cell? ⟨gx, 7, none⟩ = some (.int .i64 d.a7) := (cell_of_row w5 gx 7 _ 38 (0, 0) E.out.at1).trans rfl; have hc8 : w5.cell? ⟨gx, 8, none⟩ = some (.int .i64 d.a8) := (cell_of_row w5 gx 8 _ 38 (0, 0) E.out.at1).trans rfl; clear hF E4 V4)
     | ((with_reducible refine gate_store (t := 3) (p := 37) rfl ?_); refine ev_store rfl (ty := 3) (p := 37) rfl rfl (q := .pointer (some ⟨gx, 8, none⟩)) (v := .int .i64 cov) rfl rfl (store_one E.out.at1 8 (by show 8 < 11; omega) (.int .i64 cov) rfl (T' := ({ d with a8 := cov } : Dep).c u) rfl 3 (by kernel_rfl)) ?_; intro s0 hF; have E5 := Aside0.mk (E.out.put1 hF.1 hF.2); have V5 := Aside0.mk (Ed.row V.out E.out.at1 (by decide) hF.2); clear V; clear hF E hc5 hc6 hc7 hc8)
     | ((with_reducible refine gate_dst (N := 38) rfl ?_); refine ev_load rfl (N := 38) rfl rfl (q := .pointer (some ⟨gx, 0, none⟩)) (v := .agg (({ d with a8 := cov } : Dep).c u)) rfl (load38e E5.out.at1) ?_)
     | ((with_reducible refine gate_store (t := 38) (p := 8) rfl ?_); obtain ⟨old, ho2, h2⟩ := E5.out.at2; refine ev_store rfl (ty := 38) (p := 8) rfl rfl (q := .pointer (some ⟨gr, 0, none⟩)) (v := .agg (({ d with a8 := cov } : Dep).c u)) rfl rfl (store_eleven (tt := 38) (by kernel_rfl) h2 ho2 (Dep.elf _ (rone V5.out))) ?_; intro w9 hF; have AF := Aside0.mk hF.1; have BF := Aside0.mk (E5.out.done hF.2); have VF := Aside0.mk (Ed.row V5.out h2 (by decide) hF.2); clear hF ho2 h2))
    refine bodyPost_ret (results_cell_row rfl _ _ gr 38 (({ d with a8 := cov } : Dep).c u) (0, 0) _ rfl AF.out Tryd.underlying38 rfl (by kernel_rfl)) rfl ?_
    exact ⟨u, rfl, VF.out, BF.out⟩
   ·
    rw [show decB d ver cov g = d from by simp [decB, c6, c1, c5]]
    have c6b : (ver == d.a6) = true := beq_iff_eq.mpr c6
    have c6n : (ver != d.a6) = false := bne_eq_false_iff_eq.mpr c6
    have c1b : (d.a5 == 1) = false := beq_eq_false_iff_ne.mpr c1
    have c1n : (d.a5 != 1) = true := bne_iff_ne.mpr c1
    have c5b : (d.a5 == 3) = false := beq_eq_false_iff_ne.mpr c5
    have c5n : (d.a5 != 3) = true := bne_iff_ne.mpr c5
    clear c6 c1 c5
    go_enter Tryd.func34, Tryd.ntmps34
    go_wp2_with (first
     | ((with_reducible refine gate_dst (N := 4) rfl ?_); refine box_event rfl (N := 4) rfl (cs := d.c v) (t := 38) ?hr ?_; (case hr => first | (go_simp; done) | (go_simp; rfl)); intro gx hg w1 h1 b1; have P1 := Aside0.mk (And.intro hg (And.intro h1 b1)); clear hg h1 b1)
     | ((with_reducible refine gate_dst (N := 8) rfl ?_); refine box_event rfl (N := 8) rfl (cs := zeroE) (t := 38) ?hr ?_; (case hr => first | (go_simp; done) | (go_simp; rfl)); intro gr hg w2 h1 b1; have E := Aside0.mk (Ed.start P1.out ⟨hg, h1, b1⟩ rfl); clear hg h1 b1 P1)
     | ((with_reducible refine gate_dst (N := 9) rfl ?_); refine ev_load rfl (N := 9) rfl rfl (q := .pointer (some ⟨gx, 0, none⟩)) (v := .agg (d.c v)) rfl (load38e E.out.at1) ?_)
     | (go_at_call 45; refine (departed_e d (HD.out.below E.out.b) HL.out).mono ?_; rintro e w4 ⟨u, rfl, hr, hb⟩; have V4 := Aside0.mk (Kd.R_lower hr E.out.b.size); have E4 := Aside0.mk (E.out.below hb); clear hr hb E HD)
     | ((with_reducible refine gate_store (t := 38) (p := 4) rfl ?_); refine ev_store rfl (ty := 38) (p := 4) rfl rfl (q := .pointer (some ⟨gx, 0, none⟩)) (v := .agg (d.c u)) rfl rfl (store_eleven (tt := 38) (by kernel_rfl) E4.out.at1 rfl (d.elf (rone V4.out))) ?_; intro w5 hF; have E := Aside0.mk (E4.out.put1 hF.1 hF.2); have V := Aside0.mk (Ed.row V4.out E4.out.at1 (by decide) hF.2); have hc5 : w5.cell? ⟨gx, 5, none⟩ = some (.int .i64 d.a5) := (cell_of_row w5 gx 5 _ 38 (0, 0) E.out.at1).trans rfl; have hc6 : w5.cell? ⟨gx, 6, none⟩ = some (.int .i64 d.a6) := (cell_of_row w5 gx 6 _ 38 (0, 0) E.out.at1).trans rfl; have hc7 : w5.cell? ⟨gx, 7, none⟩ = some (.int .i64 d.a7) := (cell_of_row w5 gx 7 _ 38 (0, 0) E.out.at1).trans rfl; have hc8 : w5.cell? ⟨gx, 8, none⟩ = some (.int .i64 d.a8) := (cell_of_row w5 gx 8 _ 38 (0, 0) E.out.at1).trans rfl; clear hF E4 V4)
     | ((with_reducible refine gate_dst (N := 38) rfl ?_); refine ev_load rfl (N := 38) rfl rfl (q := .pointer (some ⟨gx, 0, none⟩)) (v := .agg ((d : Dep).c u)) rfl (load38e E.out.at1) ?_)
     | ((with_reducible refine gate_store (t := 38) (p := 8) rfl ?_); obtain ⟨old, ho2, h2⟩ := E.out.at2; refine ev_store rfl (ty := 38) (p := 8) rfl rfl (q := .pointer (some ⟨gr, 0, none⟩)) (v := .agg ((d : Dep).c u)) rfl rfl (store_eleven (tt := 38) (by kernel_rfl) h2 ho2 (Dep.elf _ (rone V.out))) ?_; intro w9 hF; have AF := Aside0.mk hF.1; have BF := Aside0.mk (E.out.done hF.2); have VF := Aside0.mk (Ed.row V.out h2 (by decide) hF.2); clear hF ho2 h2))
    refine bodyPost_ret (results_cell_row rfl _ _ gr 38 ((d : Dep).c u) (0, 0) _ rfl AF.out Tryd.underlying38 rfl (by kernel_rfl)) rfl ?_
    exact ⟨u, rfl, VF.out, BF.out⟩
 ·
  rw [show decB d ver cov g = d from by simp [decB, c6]]
  have c6b : (ver == d.a6) = false := beq_eq_false_iff_ne.mpr c6
  have c6n : (ver != d.a6) = true := bne_iff_ne.mpr c6
  clear c6
  go_enter Tryd.func34, Tryd.ntmps34
  go_wp2_with (first
   | ((with_reducible refine gate_dst (N := 4) rfl ?_); refine box_event rfl (N := 4) rfl (cs := d.c v) (t := 38) ?hr ?_; (case hr => first | (go_simp; done) | (go_simp; rfl)); intro gx hg w1 h1 b1; have P1 := Aside0.mk (And.intro hg (And.intro h1 b1)); clear hg h1 b1)
   | ((with_reducible refine gate_dst (N := 8) rfl ?_); refine box_event rfl (N := 8) rfl (cs := zeroE) (t := 38) ?hr ?_; (case hr => first | (go_simp; done) | (go_simp; rfl)); intro gr hg w2 h1 b1; have E := Aside0.mk (Ed.start P1.out ⟨hg, h1, b1⟩ rfl); clear hg h1 b1 P1)
   | ((with_reducible refine gate_dst (N := 9) rfl ?_); refine ev_load rfl (N := 9) rfl rfl (q := .pointer (some ⟨gx, 0, none⟩)) (v := .agg (d.c v)) rfl (load38e E.out.at1) ?_)
   | (go_at_call 45; refine (departed_e d (HD.out.below E.out.b) HL.out).mono ?_; rintro e w4 ⟨u, rfl, hr, hb⟩; have V4 := Aside0.mk (Kd.R_lower hr E.out.b.size); have E4 := Aside0.mk (E.out.below hb); clear hr hb E HD)
   | ((with_reducible refine gate_store (t := 38) (p := 4) rfl ?_); refine ev_store rfl (ty := 38) (p := 4) rfl rfl (q := .pointer (some ⟨gx, 0, none⟩)) (v := .agg (d.c u)) rfl rfl (store_eleven (tt := 38) (by kernel_rfl) E4.out.at1 rfl (d.elf (rone V4.out))) ?_; intro w5 hF; have E := Aside0.mk (E4.out.put1 hF.1 hF.2); have V := Aside0.mk (Ed.row V4.out E4.out.at1 (by decide) hF.2); have hc5 : w5.cell? ⟨gx, 5, none⟩ = some (.int .i64 d.a5) := (cell_of_row w5 gx 5 _ 38 (0, 0) E.out.at1).trans rfl; have hc6 : w5.cell? ⟨gx, 6, none⟩ = some (.int .i64 d.a6) := (cell_of_row w5 gx 6 _ 38 (0, 0) E.out.at1).trans rfl; have hc7 : w5.cell? ⟨gx, 7, none⟩ = some (.int .i64 d.a7) := (cell_of_row w5 gx 7 _ 38 (0, 0) E.out.at1).trans rfl; have hc8 : w5.cell? ⟨gx, 8, none⟩ = some (.int .i64 d.a8) := (cell_of_row w5 gx 8 _ 38 (0, 0) E.out.at1).trans rfl; clear hF E4 V4)
   | ((with_reducible refine gate_dst (N := 38) rfl ?_); refine ev_load rfl (N := 38) rfl rfl (q := .pointer (some ⟨gx, 0, none⟩)) (v := .agg ((d : Dep).c u)) rfl (load38e E.out.at1) ?_)
   | ((with_reducible refine gate_store (t := 38) (p := 8) rfl ?_); obtain ⟨old, ho2, h2⟩ := E.out.at2; refine ev_store rfl (ty := 38) (p := 8) rfl rfl (q := .pointer (some ⟨gr, 0, none⟩)) (v := .agg ((d : Dep).c u)) rfl rfl (store_eleven (tt := 38) (by kernel_rfl) h2 ho2 (Dep.elf _ (rone V.out))) ?_; intro w9 hF; have AF := Aside0.mk hF.1; have BF := Aside0.mk (E.out.done hF.2); have VF := Aside0.mk (Ed.row V.out h2 (by decide) hF.2); clear hF ho2 h2))
  refine bodyPost_ret (results_cell_row rfl _ _ gr 38 ((d : Dep).c u) (0, 0) _ rfl AF.out Tryd.underlying38 rfl (by kernel_rfl)) rfl ?_
  exact ⟨u, rfl, VF.out, BF.out⟩
theorem decide_w (d : Dep) (g : Bool) (h : Rd (Kd.int .i64) w v d.s) (hl : d.s.length < 5000000000000) (h5 : d.a5 = 1) :
  Calls Tryd.prog 34 #[.agg (d.c v), .int .i64 d.a6, .int .i64 d.a7, .bool g] w fun e w' => ∃ v', e = .returned (.agg ((decD d g).c v')) ∧ Kd.R (Kd.int .i64) 3 w' w.heap.size (fun _ => True) v' (decD d g).s ∧ Below w.heap.size w w' := by
 have e : decB d d.a6 d.a7 g = decD d g := by unfold decB decD; rw [if_pos rfl, if_pos h5]
 rw [← e]
 exact tdec_e d d.a6 d.a7 g h (by omega)
set_option maxHeartbeats 4000000 in
set_option maxRecDepth 100000 in
theorem arrive_w (a : Arr) (id : Int) (found : List Int) (h : a.Rd w v8 v9 v10) (hl : a.Fits) (hv : Rd (Kd.int .i64) w v found) (hf : found.length < 5000000000000) (hG : GL_changes w) :
  Calls Tryd.prog 11 #[.agg (a.c v8 v9 v10), .int .i64 id, v] w fun e w' => ∃ u8 u9 u10, e = .returned (.tuple #[.agg ((arrA a id found).1.c u8 u9 u10), .bool (arrA a id found).2]) ∧ (arrA a id found).1.New w w' u8 u9 u10 ∧ Below w.heap.size w w' := by
 have HA := Aside0.mk h
 have HL := Aside0.mk hl
 have HG := Aside0.mk hG
 clear h hl hG
 have hu27 := Tryd.underlying27
 have HV := Aside0.mk hv
 have HF := Aside0.mk hf
 clear hv hf
 obtain ⟨⟨st, pb⟩, hn⟩ : ∃ r, changeIn chanL a.b3 2 = r := ⟨_, rfl⟩
 have HN := Aside0.mk (show transit_next.f a.b3 2 = some (st, pb) by unfold transit_next.f; rw [hn])
 cases pb with
 | false =>
  rw [show arrA a id found = (a, false) from by unfold arrA; rw [hn]; rfl]
  clear hn
  go_enter Tryd.func11, Tryd.ntmps11
  go_wp2_with (first
   | ((with_reducible refine gate_dst (N := 3) rfl ?_); refine box_event rfl (N := 3) rfl (cs := a.c v8 v9 v10) (t := 27) ?hr ?_; (case hr => first | (go_simp; done) | (go_simp; rfl)); intro gx hg w1 h1 b1; have P1 := Aside0.mk (And.intro hg (And.intro h1 b1)); clear hg h1 b1)
   | ((with_reducible refine gate_dst (N := 6) rfl ?_); refine box_event rfl (N := 6) rfl (cs := zeroF) (t := 27) ?hr ?_; (case hr => first | (go_simp; done) | (go_simp; rfl)); intro gr hg w2 h1 b1; have E := Aside0.mk (Ed.start P1.out ⟨hg, h1, b1⟩ rfl); clear hg h1 b1 P1)
   | ((with_reducible refine gate_dst (N := 10) rfl ?_); refine ev_load rfl (N := 10) rfl rfl (q := .pointer (some ⟨gx, 0, none⟩)) (v := .agg (a.c v8 v9 v10)) rfl (load27e E.out.at1 HA.out.elf.size) ?_)
   | (go_at_call 40; refine (arrived_w a (HA.out.below E.out.b) HL.out).mono ?_; rintro e w4 ⟨u8, u9, u10, rfl, hr, hb⟩; have N8 := Aside0.mk (Kd.R_lower hr.r8 E.out.b.size); have N9 := Aside0.mk (Kd.R_lower hr.r9 E.out.b.size); have N10 := Aside0.mk (Kd.R_lower hr.r10 E.out.b.size); have E4 := Aside0.mk (E.out.below hb); clear hr hb E HA)
   | ((with_reducible refine gate_store (t := 27) (p := 3) rfl ?_); refine ev_store rfl (ty := 27) (p := 3) rfl rfl (q := .pointer (some ⟨gx, 0, none⟩)) (v := .agg (a.c u8 u9 u10)) rfl rfl (store_eleven (tt := 27) (by kernel_rfl) E4.out.at1 (Arr.elf a rfl rfl rfl : Elf (a.c (.slice none 0 0) (.slice none 0 0) (.slice none 0 0))).size (a.elf (rone N8.out) (rone N9.out) (rone N10.out))) ?_; intro w5 hF; have E5 := Aside0.mk (E4.out.put1 hF.1 hF.2); have O8 := Aside0.mk (Ed.row N8.out E4.out.at1 (by decide) hF.2); have O9 := Aside0.mk (Ed.row N9.out E4.out.at1 (by decide) hF.2); have O10 := Aside0.mk (Ed.row N10.out E4.out.at1 (by decide) hF.2); have hc3 : w5.cell? ⟨gx, 3, none⟩ = some (.int .i64 a.b3) := (cell_of_row w5 gx 3 _ 27 (0, 0) hF.1).trans rfl; clear hF E4 N8 N9 N10)
   | (go_at_call 41; refine (transit_next.calls a.b3 2 st _ _ (HG.out.of_below E5.out.b) HN.out).mono ?_; rintro e w6 ⟨rfl, hb⟩; have E6 := Aside0.mk (E5.out.below hb); have Q8 := Aside0.mk (Kd.R_below O8.out hb); have Q9 := Aside0.mk (Kd.R_below O9.out hb); have Q10 := Aside0.mk (Kd.R_below O10.out hb); clear hb E5 O8 O9 O10 hc3)
   | ((with_reducible refine gate_dst (N := 26) rfl ?_); refine ev_load rfl (N := 26) rfl rfl (q := .pointer (some ⟨gx, 0, none⟩)) (v := .agg (a.c u8 u9 u10)) rfl (load27e E6.out.at1 rfl) ?_)
   | ((with_reducible refine gate_store (t := 27) (p := 6) rfl ?_); obtain ⟨old, ho2, h2⟩ := E6.out.at2; refine ev_store rfl (ty := 27) (p := 6) rfl rfl (q := .pointer (some ⟨gr, 0, none⟩)) (v := .agg (a.c u8 u9 u10)) rfl rfl (store_eleven (tt := 27) (by kernel_rfl) h2 ho2 (a.elf (rone Q8.out) (rone Q9.out) (rone Q10.out))) ?_; intro w9 hF; have AF := Aside0.mk hF.1; have BF := Aside0.mk (E6.out.done hF.2); have Z8 := Aside0.mk (Ed.row Q8.out h2 (by decide) hF.2); have Z9 := Aside0.mk (Ed.row Q9.out h2 (by decide) hF.2); have Z10 := Aside0.mk (Ed.row Q10.out h2 (by decide) hF.2); clear hF ho2 h2))
  refine bodyPost_ret (results_ct rfl _ _ gr 27 (a.c u8 u9 u10) (0, 0) _ rfl AF.out Tryd.underlying27 rfl (by kernel_rfl)) rfl ?_
  exact ⟨u8, u9, u10, rfl, ⟨Z8.out, Z9.out, Z10.out⟩, BF.out⟩
 | true =>
  rw [show arrA a id found = ({ a with b0 := id, b3 := st, fo := found }, true) from by unfold arrA; rw [hn]; rfl]
  clear hn
  go_enter Tryd.func11, Tryd.ntmps11
  go_wp2_with (first
   | ((with_reducible refine gate_dst (N := 3) rfl ?_); refine box_event rfl (N := 3) rfl (cs := a.c v8 v9 v10) (t := 27) ?hr ?_; (case hr => first | (go_simp; done) | (go_simp; rfl)); intro gx hg w1 h1 b1; have P1 := Aside0.mk (And.intro hg (And.intro h1 b1)); clear hg h1 b1)
   | ((with_reducible refine gate_dst (N := 6) rfl ?_); refine box_event rfl (N := 6) rfl (cs := zeroF) (t := 27) ?hr ?_; (case hr => first | (go_simp; done) | (go_simp; rfl)); intro gr hg w2 h1 b1; have E := Aside0.mk (Ed.start P1.out ⟨hg, h1, b1⟩ rfl); clear hg h1 b1 P1)
   | ((with_reducible refine gate_dst (N := 10) rfl ?_); refine ev_load rfl (N := 10) rfl rfl (q := .pointer (some ⟨gx, 0, none⟩)) (v := .agg (a.c v8 v9 v10)) rfl (load27e E.out.at1 HA.out.elf.size) ?_)
   | (go_at_call 40; refine (arrived_w a (HA.out.below E.out.b) HL.out).mono ?_; rintro e w4 ⟨u8, u9, u10, rfl, hr, hb⟩; have N8 := Aside0.mk (Kd.R_lower hr.r8 E.out.b.size); have N9 := Aside0.mk (Kd.R_lower hr.r9 E.out.b.size); have N10 := Aside0.mk (Kd.R_lower hr.r10 E.out.b.size); have E4 := Aside0.mk (E.out.below hb); clear hr hb E HA)
   | ((with_reducible refine gate_store (t := 27) (p := 3) rfl ?_); refine ev_store rfl (ty := 27) (p := 3) rfl rfl (q := .pointer (some ⟨gx, 0, none⟩)) (v := .agg (a.c u8 u9 u10)) rfl rfl (store_eleven (tt := 27) (by kernel_rfl) E4.out.at1 (Arr.elf a rfl rfl rfl : Elf (a.c (.slice none 0 0) (.slice none 0 0) (.slice none 0 0))).size (a.elf (rone N8.out) (rone N9.out) (rone N10.out))) ?_; intro w5 hF; have E5 := Aside0.mk (E4.out.put1 hF.1 hF.2); have O8 := Aside0.mk (Ed.row N8.out E4.out.at1 (by decide) hF.2); have O9 := Aside0.mk (Ed.row N9.out E4.out.at1 (by decide) hF.2); have O10 := Aside0.mk (Ed.row N10.out E4.out.at1 (by decide) hF.2); have hc3 : w5.cell? ⟨gx, 3, none⟩ = some (.int .i64 a.b3) := (cell_of_row w5 gx 3 _ 27 (0, 0) hF.1).trans rfl; clear hF E4 N8 N9 N10)
   | (go_at_call 41; refine (transit_next.calls a.b3 2 st _ _ (HG.out.of_below E5.out.b) HN.out).mono ?_; rintro e w6 ⟨rfl, hb⟩; have E6 := Aside0.mk (E5.out.below hb); have Q8 := Aside0.mk (Kd.R_below O8.out hb); have Q9 := Aside0.mk (Kd.R_below O9.out hb); have Q10 := Aside0.mk (Kd.R_below O10.out hb); clear hb E5 O8 O9 O10 hc3)
   | (go_at_call 43; obtain ⟨A, cc, rfl, hc, hr⟩ := HV.out; refine (slices_Clone_int_int.calls A cc found found _ (Kd.C_below hr E6.out.b) hc (clone_fits HF.out)).mono ?_; rintro e w7 ⟨x10, rfl, ho, hb⟩; have X := Aside0.mk (Kd.R_lower ho E6.out.b.size); have E7 := Aside0.mk (E6.out.below hb); have Q8 := Aside0.mk (Kd.R_below Q8.out hb); have Q9 := Aside0.mk (Kd.R_below Q9.out hb); clear ho hb E6 Q10)
   | ((with_reducible refine gate_store (t := 3) (p := 23) rfl ?_); refine ev_store rfl (ty := 3) (p := 23) rfl rfl (q := .pointer (some ⟨gx, 3, none⟩)) (v := .int .i64 st) rfl rfl (store_one E7.out.at1 3 (by show 3 < 11; omega) (.int .i64 st) rfl (T' := (({ a with b3 := st } : Arr).c u8 u9 u10)) rfl 3 (by kernel_rfl)) ?_; intro s23 hF; have E8 := Aside0.mk (E7.out.put1 hF.1 hF.2); have K8 := Aside0.mk (Ed.row Q8.out E7.out.at1 (by decide) hF.2); have K9 := Aside0.mk (Ed.row Q9.out E7.out.at1 (by decide) hF.2); have K10 := Aside0.mk (Ed.row X.out E7.out.at1 (by decide) hF.2); clear Q8 Q9 X; clear hF E7)
   | ((with_reducible refine gate_store (t := 3) (p := 24) rfl ?_); refine ev_store rfl (ty := 3) (p := 24) rfl rfl (q := .pointer (some ⟨gx, 0, none⟩)) (v := .int .i64 id) rfl rfl (store_one E8.out.at1 0 (by show 0 < 11; omega) (.int .i64 id) rfl (T' := (({ a with b0 := id, b3 := st } : Arr).c u8 u9 u10)) rfl 3 (by kernel_rfl)) ?_; intro s24 hF; have E9 := Aside0.mk (E8.out.put1 hF.1 hF.2); have M8 := Aside0.mk (Ed.row K8.out E8.out.at1 (by decide) hF.2); have M9 := Aside0.mk (Ed.row K9.out E8.out.at1 (by decide) hF.2); have M10 := Aside0.mk (Ed.row K10.out E8.out.at1 (by decide) hF.2); clear K8 K9 K10; clear hF E8)
   | ((with_reducible refine gate_store (t := 25) (p := 25) rfl ?_); refine ev_store rfl (ty := 25) (p := 25) rfl rfl (q := .pointer (some ⟨gx, 10, none⟩)) (v := x10) rfl rfl (store_one E9.out.at1 10 (by show 10 < 11; omega) (x10) (rone M10.out) (T' := (({ a with b0 := id, b3 := st, fo := found } : Arr).c u8 u9 x10)) rfl 25 (by kernel_rfl)) ?_; intro s25 hF; have E10 := Aside0.mk (E9.out.put1 hF.1 hF.2); have J8 := Aside0.mk (Ed.row M8.out E9.out.at1 (by decide) hF.2); have J9 := Aside0.mk (Ed.row M9.out E9.out.at1 (by decide) hF.2); have J10 := Aside0.mk (Ed.row M10.out E9.out.at1 (by decide) hF.2); clear M8 M9 M10; clear hF E9)
   | ((with_reducible refine gate_dst (N := 26) rfl ?_); refine ev_load rfl (N := 26) rfl rfl (q := .pointer (some ⟨gx, 0, none⟩)) (v := .agg (({ a with b0 := id, b3 := st, fo := found } : Arr).c u8 u9 x10)) rfl (load27e E10.out.at1 rfl) ?_)
   | ((with_reducible refine gate_store (t := 27) (p := 6) rfl ?_); obtain ⟨old, ho2, h2⟩ := E10.out.at2; refine ev_store rfl (ty := 27) (p := 6) rfl rfl (q := .pointer (some ⟨gr, 0, none⟩)) (v := .agg (({ a with b0 := id, b3 := st, fo := found } : Arr).c u8 u9 x10)) rfl rfl (store_eleven (tt := 27) (by kernel_rfl) h2 ho2 (Arr.elf _ (rone J8.out) (rone J9.out) (rone J10.out))) ?_; intro w9 hF; have AF := Aside0.mk hF.1; have BF := Aside0.mk (E10.out.done hF.2); have Z8 := Aside0.mk (Ed.row J8.out h2 (by decide) hF.2); have Z9 := Aside0.mk (Ed.row J9.out h2 (by decide) hF.2); have Z10 := Aside0.mk (Ed.row J10.out h2 (by decide) hF.2); clear hF ho2 h2))
  refine bodyPost_ret (results_ct rfl _ _ gr 27 (({ a with b0 := id, b3 := st, fo := found } : Arr).c u8 u9 x10) (0, 0) _ rfl AF.out Tryd.underlying27 rfl (by kernel_rfl)) rfl ?_
  exact ⟨u8, u9, x10, rfl, ⟨Z8.out, Z9.out, Z10.out⟩, BF.out⟩
set_option maxHeartbeats 4000000 in
set_option maxRecDepth 100000 in
theorem enquire_w (a : Arr) (h : a.Rd w v8 v9 v10) (hl : a.Fits) (hG : GL_changes w) :
  Calls Tryd.prog 13 #[.agg (a.c v8 v9 v10)] w fun e w' => ∃ u8 u9 u10, e = .returned (.tuple #[.agg ((enqA a).1.c u8 u9 u10), .int .i64 (enqA a).2]) ∧ (enqA a).1.New w w' u8 u9 u10 ∧ Below w.heap.size w w' := by
 have HA := Aside0.mk h
 have HL := Aside0.mk hl
 have HG := Aside0.mk hG
 clear h hl hG
 have hu27 := Tryd.underlying27
 obtain ⟨⟨st, pb⟩, hn⟩ : ∃ r, changeIn chanL a.b3 3 = r := ⟨_, rfl⟩
 have HN := Aside0.mk (show transit_next.f a.b3 3 = some (st, pb) by unfold transit_next.f; rw [hn])
 have hE : enqA a = ({ a with b3 := st }, if st = 3 then 3 else if st = 4 then 4 else 0) := by unfold enqA; rw [hn]
 rw [hE]
 clear hn hE
 by_cases c3 : st = 3
 ·
  rw [if_pos c3]
  have c3b : (st == 3) = true := beq_iff_eq.mpr c3
  clear c3
  go_enter Tryd.func13, Tryd.ntmps13
  go_wp2_with (first
   | ((with_reducible refine gate_dst (N := 1) rfl ?_); refine box_event rfl (N := 1) rfl (cs := a.c v8 v9 v10) (t := 27) ?hr ?_; (case hr => first | (go_simp; done) | (go_simp; rfl)); intro gx hg w1 h1 b1; have P1 := Aside0.mk (And.intro hg (And.intro h1 b1)); clear hg h1 b1)
   | ((with_reducible refine gate_dst (N := 2) rfl ?_); refine box_event rfl (N := 2) rfl (cs := zeroF) (t := 27) ?hr ?_; (case hr => first | (go_simp; done) | (go_simp; rfl)); intro gr hg w2 h1 b1; have E := Aside0.mk (Ed.start P1.out ⟨hg, h1, b1⟩ rfl); clear hg h1 b1 P1)
   | ((with_reducible refine gate_dst (N := 4) rfl ?_); refine ev_load rfl (N := 4) rfl rfl (q := .pointer (some ⟨gx, 0, none⟩)) (v := .agg (a.c v8 v9 v10)) rfl (load27e E.out.at1 HA.out.elf.size) ?_)
   | (go_at_call 40; refine (arrived_w a (HA.out.below E.out.b) HL.out).mono ?_; rintro e w4 ⟨u8, u9, u10, rfl, hr, hb⟩; have N8 := Aside0.mk (Kd.R_lower hr.r8 E.out.b.size); have N9 := Aside0.mk (Kd.R_lower hr.r9 E.out.b.size); have N10 := Aside0.mk (Kd.R_lower hr.r10 E.out.b.size); have E4 := Aside0.mk (E.out.below hb); clear hr hb E HA)
   | ((with_reducible refine gate_store (t := 27) (p := 1) rfl ?_); refine ev_store rfl (ty := 27) (p := 1) rfl rfl (q := .pointer (some ⟨gx, 0, none⟩)) (v := .agg (a.c u8 u9 u10)) rfl rfl (store_eleven (tt := 27) (by kernel_rfl) E4.out.at1 (Arr.elf a rfl rfl rfl : Elf (a.c (.slice none 0 0) (.slice none 0 0) (.slice none 0 0))).size (a.elf (rone N8.out) (rone N9.out) (rone N10.out))) ?_; intro w5 hF; have E5 := Aside0.mk (E4.out.put1 hF.1 hF.2); have O8 := Aside0.mk (Ed.row N8.out E4.out.at1 (by decide) hF.2); have O9 := Aside0.mk (Ed.row N9.out E4.out.at1 (by decide) hF.2); have O10 := Aside0.mk (Ed.row N10.out E4.out.at1 (by decide) hF.2); have hc3 : w5.cell? ⟨gx, 3, none⟩ = some (.int .i64 a.b3) := (cell_of_row w5 gx 3 _ 27 (0, 0) hF.1).trans rfl; clear hF E4 N8 N9 N10)
   | (go_at_call 41; refine (transit_next.calls a.b3 3 st _ _ (HG.out.of_below E5.out.b) HN.out).mono ?_; rintro e w6 ⟨rfl, hb⟩; have E6 := Aside0.mk (E5.out.below hb); have Q8 := Aside0.mk (Kd.R_below O8.out hb); have Q9 := Aside0.mk (Kd.R_below O9.out hb); have Q10 := Aside0.mk (Kd.R_below O10.out hb); clear hb E5 O8 O9 O10 hc3)
   | ((with_reducible refine gate_store (t := 3) (p := 12) rfl ?_); refine ev_store rfl (ty := 3) (p := 12) rfl rfl (q := .pointer (some ⟨gx, 3, none⟩)) (v := .int .i64 st) rfl rfl (store_one E6.out.at1 3 (by show 3 < 11; omega) (.int .i64 st) rfl (T' := (({ a with b3 := st } : Arr).c u8 u9 u10)) rfl 3 (by kernel_rfl)) ?_; intro s12 hF; have E7 := Aside0.mk (E6.out.put1 hF.1 hF.2); have K8 := Aside0.mk (Ed.row Q8.out E6.out.at1 (by decide) hF.2); have K9 := Aside0.mk (Ed.row Q9.out E6.out.at1 (by decide) hF.2); have K10 := Aside0.mk (Ed.row Q10.out E6.out.at1 (by decide) hF.2); have hc3 : s12.cell? ⟨gx, 3, none⟩ = some (.int .i64 st) := (cell_of_row s12 gx 3 _ 27 (0, 0) hF.1).trans rfl; clear Q8 Q9 Q10; clear hF E6)
   | ((with_reducible refine gate_dst (N := 17) rfl ?_); refine ev_load rfl (N := 17) rfl rfl (q := .pointer (some ⟨gx, 0, none⟩)) (v := .agg (({ a with b3 := st } : Arr).c u8 u9 u10)) rfl (load27e E7.out.at1 rfl) ?_)
   | ((with_reducible refine gate_store (t := 27) (p := 2) rfl ?_); obtain ⟨old, ho2, h2⟩ := E7.out.at2; refine ev_store rfl (ty := 27) (p := 2) rfl rfl (q := .pointer (some ⟨gr, 0, none⟩)) (v := .agg (({ a with b3 := st } : Arr).c u8 u9 u10)) rfl rfl (store_eleven (tt := 27) (by kernel_rfl) h2 ho2 (Arr.elf _ (rone K8.out) (rone K9.out) (rone K10.out))) ?_; intro w9 hF; have AF := Aside0.mk hF.1; have BF := Aside0.mk (E7.out.done hF.2); have Z8 := Aside0.mk (Ed.row K8.out h2 (by decide) hF.2); have Z9 := Aside0.mk (Ed.row K9.out h2 (by decide) hF.2); have Z10 := Aside0.mk (Ed.row K10.out h2 (by decide) hF.2); clear hF ho2 h2))
  refine bodyPost_ret (results_ct rfl _ _ gr 27 (({ a with b3 := st } : Arr).c u8 u9 u10) (0, 0) _ rfl AF.out Tryd.underlying27 rfl (by kernel_rfl)) rfl ?_
  exact ⟨u8, u9, u10, rfl, ⟨Z8.out, Z9.out, Z10.out⟩, BF.out⟩
 ·
  rw [if_neg c3]
  have c3b : (st == 3) = false := beq_eq_false_iff_ne.mpr c3
  clear c3
  by_cases c4 : st = 4
  ·
   rw [if_pos c4]
   have c4b : (st == 4) = true := beq_iff_eq.mpr c4
   clear c4
   go_enter Tryd.func13, Tryd.ntmps13
   go_wp2_with (first
    | ((with_reducible refine gate_dst (N := 1) rfl ?_); refine box_event rfl (N := 1) rfl (cs := a.c v8 v9 v10) (t := 27) ?hr ?_; (case hr => first | (go_simp; done) | (go_simp; rfl)); intro gx hg w1 h1 b1; have P1 := Aside0.mk (And.intro hg (And.intro h1 b1)); clear hg h1 b1)
    | ((with_reducible refine gate_dst (N := 2) rfl ?_); refine box_event rfl (N := 2) rfl (cs := zeroF) (t := 27) ?hr ?_; (case hr => first | (go_simp; done) | (go_simp; rfl)); intro gr hg w2 h1 b1; have E := Aside0.mk (Ed.start P1.out ⟨hg, h1, b1⟩ rfl); clear hg h1 b1 P1)
    | ((with_reducible refine gate_dst (N := 4) rfl ?_); refine ev_load rfl (N := 4) rfl rfl (q := .pointer (some ⟨gx, 0, none⟩)) (v := .agg (a.c v8 v9 v10)) rfl (load27e E.out.at1 HA.out.elf.size) ?_)
    | (go_at_call 40; refine (arrived_w a (HA.out.below E.out.b) HL.out).mono ?_; rintro e w4 ⟨u8, u9, u10, rfl, hr, hb⟩; have N8 := Aside0.mk (Kd.R_lower hr.r8 E.out.b.size); have N9 := Aside0.mk (Kd.R_lower hr.r9 E.out.b.size); have N10 := Aside0.mk (Kd.R_lower hr.r10 E.out.b.size); have E4 := Aside0.mk (E.out.below hb); clear hr hb E HA)
    | ((with_reducible refine gate_store (t := 27) (p := 1) rfl ?_); refine ev_store rfl (ty := 27) (p := 1) rfl rfl (q := .pointer (some ⟨gx, 0, none⟩)) (v := .agg (a.c u8 u9 u10)) rfl rfl (store_eleven (tt := 27) (by kernel_rfl) E4.out.at1 (Arr.elf a rfl rfl rfl : Elf (a.c (.slice none 0 0) (.slice none 0 0) (.slice none 0 0))).size (a.elf (rone N8.out) (rone N9.out) (rone N10.out))) ?_; intro w5 hF; have E5 := Aside0.mk (E4.out.put1 hF.1 hF.2); have O8 := Aside0.mk (Ed.row N8.out E4.out.at1 (by decide) hF.2); have O9 := Aside0.mk (Ed.row N9.out E4.out.at1 (by decide) hF.2); have O10 := Aside0.mk (Ed.row N10.out E4.out.at1 (by decide) hF.2); have hc3 : w5.cell? ⟨gx, 3, none⟩ = some (.int .i64 a.b3) := (cell_of_row w5 gx 3 _ 27 (0, 0) hF.1).trans rfl; clear hF E4 N8 N9 N10)
    | (go_at_call 41; refine (transit_next.calls a.b3 3 st _ _ (HG.out.of_below E5.out.b) HN.out).mono ?_; rintro e w6 ⟨rfl, hb⟩; have E6 := Aside0.mk (E5.out.below hb); have Q8 := Aside0.mk (Kd.R_below O8.out hb); have Q9 := Aside0.mk (Kd.R_below O9.out hb); have Q10 := Aside0.mk (Kd.R_below O10.out hb); clear hb E5 O8 O9 O10 hc3)
    | ((with_reducible refine gate_store (t := 3) (p := 12) rfl ?_); refine ev_store rfl (ty := 3) (p := 12) rfl rfl (q := .pointer (some ⟨gx, 3, none⟩)) (v := .int .i64 st) rfl rfl (store_one E6.out.at1 3 (by show 3 < 11; omega) (.int .i64 st) rfl (T' := (({ a with b3 := st } : Arr).c u8 u9 u10)) rfl 3 (by kernel_rfl)) ?_; intro s12 hF; have E7 := Aside0.mk (E6.out.put1 hF.1 hF.2); have K8 := Aside0.mk (Ed.row Q8.out E6.out.at1 (by decide) hF.2); have K9 := Aside0.mk (Ed.row Q9.out E6.out.at1 (by decide) hF.2); have K10 := Aside0.mk (Ed.row Q10.out E6.out.at1 (by decide) hF.2); have hc3 : s12.cell? ⟨gx, 3, none⟩ = some (.int .i64 st) := (cell_of_row s12 gx 3 _ 27 (0, 0) hF.1).trans rfl; clear Q8 Q9 Q10; clear hF E6)
    | ((with_reducible refine gate_dst (N := 20) rfl ?_); refine ev_load rfl (N := 20) rfl rfl (q := .pointer (some ⟨gx, 0, none⟩)) (v := .agg (({ a with b3 := st } : Arr).c u8 u9 u10)) rfl (load27e E7.out.at1 rfl) ?_)
    | ((with_reducible refine gate_store (t := 27) (p := 2) rfl ?_); obtain ⟨old, ho2, h2⟩ := E7.out.at2; refine ev_store rfl (ty := 27) (p := 2) rfl rfl (q := .pointer (some ⟨gr, 0, none⟩)) (v := .agg (({ a with b3 := st } : Arr).c u8 u9 u10)) rfl rfl (store_eleven (tt := 27) (by kernel_rfl) h2 ho2 (Arr.elf _ (rone K8.out) (rone K9.out) (rone K10.out))) ?_; intro w9 hF; have AF := Aside0.mk hF.1; have BF := Aside0.mk (E7.out.done hF.2); have Z8 := Aside0.mk (Ed.row K8.out h2 (by decide) hF.2); have Z9 := Aside0.mk (Ed.row K9.out h2 (by decide) hF.2); have Z10 := Aside0.mk (Ed.row K10.out h2 (by decide) hF.2); clear hF ho2 h2))
   refine bodyPost_ret (results_ct rfl _ _ gr 27 (({ a with b3 := st } : Arr).c u8 u9 u10) (0, 0) _ rfl AF.out Tryd.underlying27 rfl (by kernel_rfl)) rfl ?_
   exact ⟨u8, u9, u10, rfl, ⟨Z8.out, Z9.out, Z10.out⟩, BF.out⟩
  ·
   rw [if_neg c4]
   have c4b : (st == 4) = false := beq_eq_false_iff_ne.mpr c4
   clear c4
   go_enter Tryd.func13, Tryd.ntmps13
   go_wp2_with (first
    | ((with_reducible refine gate_dst (N := 1) rfl ?_); refine box_event rfl (N := 1) rfl (cs := a.c v8 v9 v10) (t := 27) ?hr ?_; (case hr => first | (go_simp; done) | (go_simp; rfl)); intro gx hg w1 h1 b1; have P1 := Aside0.mk (And.intro hg (And.intro h1 b1)); clear hg h1 b1)
    | ((with_reducible refine gate_dst (N := 2) rfl ?_); refine box_event rfl (N := 2) rfl (cs := zeroF) (t := 27) ?hr ?_; (case hr => first | (go_simp; done) | (go_simp; rfl)); intro gr hg w2 h1 b1; have E := Aside0.mk (Ed.start P1.out ⟨hg, h1, b1⟩ rfl); clear hg h1 b1 P1)
    | ((with_reducible refine gate_dst (N := 4) rfl ?_); refine ev_load rfl (N := 4) rfl rfl (q := .pointer (some ⟨gx, 0, none⟩)) (v := .agg (a.c v8 v9 v10)) rfl (load27e E.out.at1 HA.out.elf.size) ?_)
    | (go_at_call 40; refine (arrived_w a (HA.out.below E.out.b) HL.out).mono ?_; rintro e w4 ⟨u8, u9, u10, rfl, hr, hb⟩; have N8 := Aside0.mk (Kd.R_lower hr.r8 E.out.b.size); have N9 := Aside0.mk (Kd.R_lower hr.r9 E.out.b.size); have N10 := Aside0.mk (Kd.R_lower hr.r10 E.out.b.size); have E4 := Aside0.mk (E.out.below hb); clear hr hb E HA)
    | ((with_reducible refine gate_store (t := 27) (p := 1) rfl ?_); refine ev_store rfl (ty := 27) (p := 1) rfl rfl (q := .pointer (some ⟨gx, 0, none⟩)) (v := .agg (a.c u8 u9 u10)) rfl rfl (store_eleven (tt := 27) (by kernel_rfl) E4.out.at1 (Arr.elf a rfl rfl rfl : Elf (a.c (.slice none 0 0) (.slice none 0 0) (.slice none 0 0))).size (a.elf (rone N8.out) (rone N9.out) (rone N10.out))) ?_; intro w5 hF; have E5 := Aside0.mk (E4.out.put1 hF.1 hF.2); have O8 := Aside0.mk (Ed.row N8.out E4.out.at1 (by decide) hF.2); have O9 := Aside0.mk (Ed.row N9.out E4.out.at1 (by decide) hF.2); have O10 := Aside0.mk (Ed.row N10.out E4.out.at1 (by decide) hF.2); have hc3 : w5.cell? ⟨gx, 3, none⟩ = some (.int .i64 a.b3) := (cell_of_row w5 gx 3 _ 27 (0, 0) hF.1).trans rfl; clear hF E4 N8 N9 N10)
    | (go_at_call 41; refine (transit_next.calls a.b3 3 st _ _ (HG.out.of_below E5.out.b) HN.out).mono ?_; rintro e w6 ⟨rfl, hb⟩; have E6 := Aside0.mk (E5.out.below hb); have Q8 := Aside0.mk (Kd.R_below O8.out hb); have Q9 := Aside0.mk (Kd.R_below O9.out hb); have Q10 := Aside0.mk (Kd.R_below O10.out hb); clear hb E5 O8 O9 O10 hc3)
    | ((with_reducible refine gate_store (t := 3) (p := 12) rfl ?_); refine ev_store rfl (ty := 3) (p := 12) rfl rfl (q := .pointer (some ⟨gx, 3, none⟩)) (v := .int .i64 st) rfl rfl (store_one E6.out.at1 3 (by show 3 < 11; omega) (.int .i64 st) rfl (T' := (({ a with b3 := st } : Arr).c u8 u9 u10)) rfl 3 (by kernel_rfl)) ?_; intro s12 hF; have E7 := Aside0.mk (E6.out.put1 hF.1 hF.2); have K8 := Aside0.mk (Ed.row Q8.out E6.out.at1 (by decide) hF.2); have K9 := Aside0.mk (Ed.row Q9.out E6.out.at1 (by decide) hF.2); have K10 := Aside0.mk (Ed.row Q10.out E6.out.at1 (by decide) hF.2); have hc3 : s12.cell? ⟨gx, 3, none⟩ = some (.int .i64 st) := (cell_of_row s12 gx 3 _ 27 (0, 0) hF.1).trans rfl; clear Q8 Q9 Q10; clear hF E6)
    | ((with_reducible refine gate_dst (N := 21) rfl ?_); refine ev_load rfl (N := 21) rfl rfl (q := .pointer (some ⟨gx, 0, none⟩)) (v := .agg (({ a with b3 := st } : Arr).c u8 u9 u10)) rfl (load27e E7.out.at1 rfl) ?_)
    | ((with_reducible refine gate_store (t := 27) (p := 2) rfl ?_); obtain ⟨old, ho2, h2⟩ := E7.out.at2; refine ev_store rfl (ty := 27) (p := 2) rfl rfl (q := .pointer (some ⟨gr, 0, none⟩)) (v := .agg (({ a with b3 := st } : Arr).c u8 u9 u10)) rfl rfl (store_eleven (tt := 27) (by kernel_rfl) h2 ho2 (Arr.elf _ (rone K8.out) (rone K9.out) (rone K10.out))) ?_; intro w9 hF; have AF := Aside0.mk hF.1; have BF := Aside0.mk (E7.out.done hF.2); have Z8 := Aside0.mk (Ed.row K8.out h2 (by decide) hF.2); have Z9 := Aside0.mk (Ed.row K9.out h2 (by decide) hF.2); have Z10 := Aside0.mk (Ed.row K10.out h2 (by decide) hF.2); clear hF ho2 h2))
   refine bodyPost_ret (results_ct rfl _ _ gr 27 (({ a with b3 := st } : Arr).c u8 u9 u10) (0, 0) _ rfl AF.out Tryd.underlying27 rfl (by kernel_rfl)) rfl ?_
   exact ⟨u8, u9, u10, rfl, ⟨Z8.out, Z9.out, Z10.out⟩, BF.out⟩
end


theorem first_cell {w W : World} {ad : Addr} {x : Int} {l : List Int} (h : Kd.C (Kd.int .i64) w (some ad) (l.length + 1) (x :: l)) (hb : Below w.heap.size w W) : W.cell? ad = some (.int .i64 x) := by
 obtain ⟨ad', e, hc⟩ := Kd.at_int (Kd.C_below h hb) 0 (by omega) (by omega)
 obtain rfl := Option.some.inj e
 simpa [rd, Addr.add] using hc
/-- A list without its first element. -/
def cutV (ad : Addr) (c n : Nat) : Value := .slice (if c = 1 then some ad else some (ad.add 1)) n (c - 1)
theorem cut_at (W : World) (ad : Addr) (n c : Nat) : (Instr.sliceAt 25 (.slice (some ad) (n + 1) c) (some (.int .i64 1)) none none).run Tryd.prog W = .ok (cutV ad c n) W := by
 have he : Tryd.prog.elem 25 = 3 := by kernel_rfl
 have hu : Tryd.prog.underlying 25 = some (.slice (Tryd.prog.elem 25)) := by rw [he]; exact Tryd.underlying25
 rw [run_sliceAt_slice W 25 _ _ _ _ hu, run_slice_l W 25 _ _ _ hu .i64 1 (by omega) (by omega), he]
 have hs : (sizeOf 3).run Tryd.prog W = .ok 1 W := by
  have hq : (Tryd.prog.info? 3).map (·.size) = some 1 := by kernel_rfl
  cases hi : Tryd.prog.info? 3 with
  | none => simp [hi] at hq
  | some i => simp [hi] at hq; simp [sizeOf, typeInfo, hi, hq]
 rw [hs]
 by_cases c1 : c = 1
 ·
  subst c1
  simp [cutV, sliced]
 ·
  simp [cutV, sliced, c1]
theorem exec_cut {o : Oper} {a : Act} {W : World} {x : Operand} (ho : o.op = .slice 25 x (some (.const (.int .i64 1))) none none) {ad : Addr} {n c : Nat} {v : Value} (hx : a.eval x = .slice (some ad) (n + 1) c) (hv : v = cutV ad c n) : (execOp a.eval o).run Tryd.prog W = .ok (.value v) W := by
 subst hv
 unfold execOp
 have hc : a.eval (.const (.int .i64 1)) = .int .i64 1 := rfl
 simp only [ho, hx, hc, Option.map_some, Option.map_none, cut_at, Sem.run_bind, Sem.run_pure, Result.andThen_ok]
theorem cut_rd {w : World} {ad : Addr} {x : Int} {l : List Int} {c : Nat} (h : Kd.C (Kd.int .i64) w (some ad) (l.length + 1) (x :: l)) (hc : l.length + 1 ≤ c) : Rd (Kd.int .i64) w (cutV ad c l.length) l := by
 have h2 := Kd.C_drop (m := 1) (c := c) (xs := x :: l) (k := Kd.int .i64) h (by simp) (by simpa using hc)
 exact ⟨_, _, rfl, by omega, h2⟩
theorem cut_rdk {P : Nat → Prop} {w : World} {ad : Addr} {x : Int} {l : List Int} {c : Nat} (h : RdK (Kd.int .i64) P w (.slice (some ad) (l.length + 1) c) (x :: l)) : RdK (Kd.int .i64) P w (cutV ad c l.length) l := fun W k => by
 obtain ⟨A, c', e, hc, hr⟩ := h W k
 injection e with e1 e2 e3
 subst e1
 subst e3
 exact cut_rd hr hc
set_option maxHeartbeats 4000000 in
set_option maxRecDepth 100000 in
theorem back_calls (d : Dep) (ca : Array Value) (ha : Elf ca) (vd vf vb : Value) (x : Int) (l : List Int) (Q : Nat → Prop) (w : World) (hq : ∀ i, Q i → i < w.heap.size) (hd : RdK (Kd.int .i64) Q w vd d.s) (hs : d.s.length < 5000000000000) (hv : vf.oneCell' = true) (hb : RdK (Kd.int .i64) Q w vb (x :: l)) :
  Calls Tryd.prog 49 #[.agg (tf (d.c vd) ca vf vb)] w fun e w' => ∃ vd' vb' : Value, e = .returned (.agg (tf ((if x = 3 then resD d else if x = 4 then misD d else d).c vd') ca vf vb')) ∧ RdK (Kd.int .i64) Q w' vd' (if x = 3 then resD d else if x = 4 then misD d else d).s ∧ RdK (Kd.int .i64) Q w' vb' l ∧ Below w.heap.size w w' := by
 obtain ⟨A, c, rfl, hc, hr⟩ := hb.now
 have HQ := Aside0.mk hq
 obtain ⟨ad, rfl, _⟩ := Kd.at_int hr 0 (by omega) (by simp)
 have HD := Aside0.mk hd
 have HA := Aside0.mk ha
 have HS := Aside0.mk hs
 have HV := Aside0.mk hv
 have HC := Aside0.mk (show Kd.C (Kd.int .i64) w (some ad) (l.length + 1) (x :: l) from hr)
 have hle : l.length + 1 ≤ c := hc
 obtain ⟨vc, hvc⟩ : ∃ vc, vc = cutV ad c l.length := ⟨_, rfl⟩
 have HCR : Aside0 (RdK (Kd.int .i64) Q w vc l) := ⟨by rw [hvc]; exact cut_rdk hb⟩
 have HO := Aside0.mk HCR.out.now.one
 have HVC := Aside0.mk hvc
 clear hq hd ha hs hv hb hc hr hvc
 have hu40 := Tryd.underlying40
 have hu38 := Tryd.underlying38
 show Calls Tryd.prog 49 #[.agg (tf (d.c vd) ca vf (.slice (some ad) (l.length + 1) c))] w _
 by_cases c3 : x = 3
 ·
  subst c3
  simp only [if_true]
  go_enter Tryd.func49, Tryd.ntmps49
  go_wp2_with (first
   | ((with_reducible refine gate_dst (N := 1) rfl ?_); refine box_event rfl (N := 1) rfl (cs := tf (d.c vd) ca vf (.slice (some ad) (l.length + 1) c)) (t := 40) ?hr ?_; (case hr => first | (go_simp; done) | (go_simp; rfl)); intro g hg w1 h1 b1; have G1 := Aside0.mk (And.intro hg (And.intro h1 b1)); clear hg h1 b1)
   | ((with_reducible refine gate_dst (N := 2) rfl ?_); refine box_event rfl (N := 2) rfl (cs := zero24) (t := 40) ?hr ?_; (case hr => first | (go_simp; done) | (go_simp; rfl)); intro gr hg w2 h1 b1; have L := Aside0.mk (Lo.start G1.out.1 G1.out.2.1 G1.out.2.2 hg h1 (zero24_size.trans (tf_size (d.elf HD.out.now.one) HA.out).symm) b1 (fun _ => False)); have hc23 := cell_b L.out.at1 (d.elf HD.out.now.one) HA.out; have hc0 := first_cell HC.out (L.out.mv0.below (Nat.le_refl _) (fun _ hk => hk.elim)); clear hg h1 b1 G1)
   | ((with_reducible refine gate_dst (N := 10) rfl ?_); refine Kd.event_run rfl (v := vc) (w1 := w2) (exec_cut rfl rfl HVC.out) ?_)
   | ((with_reducible refine gate_store (t := 25) (p := 11) rfl ?_); refine ev_store rfl (ty := 25) (p := 11) rfl rfl (q := .pointer (some ⟨g, 23, none⟩)) (v := vc) rfl rfl (store_b L.out.at1 (d.elf HD.out.now.one) HA.out HO.out) ?_; intro w3 hF; have L3 := Aside0.mk (L.out.same hF.1 ((tf_size (d.elf HD.out.now.one) HA.out).trans (tf_size (d.elf HD.out.now.one) HA.out).symm) hF.2); clear hF L hc23 hc0)
   | ((with_reducible refine gate_dst (N := 17) rfl ?_); refine ev_load rfl (N := 17) rfl rfl (q := .pointer (some ⟨g, 0, none⟩)) (v := .agg (d.c vd)) rfl (load_dep L3.out.at1 (d.elf HD.out.now.one)) ?_)
   | (go_at_call 29; refine (result_w d (HD.out.now.below (L3.out.mv0.below (Nat.le_refl _) (fun _ hk => hk.elim))) HS.out).mono ?_; rintro _ w4 ⟨v', ⟨p, rfl⟩, ho, hb⟩; have O4 := Aside0.mk (Kd.R_lower ho L3.out.kept.1); have L4 := Aside0.mk (L3.out.below hb); clear ho hb L3)
   | ((with_reducible refine gate_store (t := 38) (p := 21) rfl ?_); refine ev_store rfl (ty := 38) (p := 21) rfl rfl (q := .pointer (some ⟨g, 0, none⟩)) (v := .agg ((resD d).c v')) rfl rfl (store_dep L4.out.at1 (d.elf HD.out.now.one) HA.out ((resD d).elf (rone O4.out))) ?_; intro w5 hF; have L5 := Aside0.mk (L4.out.same hF.1 ((tf_size ((resD d).elf (rone O4.out)) HA.out).trans (tf_size (d.elf HD.out.now.one) HA.out).symm) hF.2); have O5 := Aside0.mk (R_same O4.out L4.out.at1 (by decide) hF.2); clear hF L4 O4)
   | ((with_reducible refine gate_dst (N := 31) rfl ?_); refine ev_load rfl (N := 31) rfl rfl (q := .pointer (some ⟨g, 0, none⟩)) (v := .agg (tf ((resD d).c v') ca vf vc)) rfl (load_all L5.out.at1 ((resD d).elf (rone O5.out)) HA.out) ?_)
   | ((with_reducible refine gate_store (t := 40) (p := 2) rfl ?_); refine ev_store rfl (ty := 40) (p := 2) rfl rfl (q := .pointer (some ⟨gr, 0, none⟩)) (v := .agg (tf ((resD d).c v') ca vf vc)) rfl rfl (store_res L5.out ((resD d).elf (rone O5.out)) HA.out HV.out HO.out) ?_; intro w9 hF; have AF := Aside0.mk hF.1; have MF := Aside0.mk (L5.out.done hF.2); have SF := Aside0.mk hF.2; have QF := Aside0.mk L5.out.at2.choose_spec.2; clear hF))
  refine bodyPost_ret (results_cell_row rfl _ _ gr 40 (tf ((resD d).c v') ca vf vc) (0, 0) _ rfl AF.out Tryd.underlying40 rfl (by rw [tf_size ((resD d).elf (rone O5.out)) HA.out]; kernel_rfl)) rfl ?_
  have hb := MF.out.below (Nat.le_refl _) (fun _ hk => hk.elim)
  exact ⟨v', vc, rfl, RdK.of_R (R_same O5.out QF.out (by decide) SF.out) (fun i _ h1 _ hq => by have := HQ.out i hq; omega), HCR.out.mv MF.out (fun _ hk => hk.elim), hb⟩
 ·
  have e3 : (x == 3) = false := beq_eq_false_iff_ne.mpr c3
  rw [if_neg c3]
  clear c3
  by_cases c4 : x = 4
  ·
   subst c4
   clear e3
   simp only [if_true]
   go_enter Tryd.func49, Tryd.ntmps49
   go_wp2_with (first
    | ((with_reducible refine gate_dst (N := 1) rfl ?_); refine box_event rfl (N := 1) rfl (cs := tf (d.c vd) ca vf (.slice (some ad) (l.length + 1) c)) (t := 40) ?hr ?_; (case hr => first | (go_simp; done) | (go_simp; rfl)); intro g hg w1 h1 b1; have G1 := Aside0.mk (And.intro hg (And.intro h1 b1)); clear hg h1 b1)
    | ((with_reducible refine gate_dst (N := 2) rfl ?_); refine box_event rfl (N := 2) rfl (cs := zero24) (t := 40) ?hr ?_; (case hr => first | (go_simp; done) | (go_simp; rfl)); intro gr hg w2 h1 b1; have L := Aside0.mk (Lo.start G1.out.1 G1.out.2.1 G1.out.2.2 hg h1 (zero24_size.trans (tf_size (d.elf HD.out.now.one) HA.out).symm) b1 (fun _ => False)); have hc23 := cell_b L.out.at1 (d.elf HD.out.now.one) HA.out; have hc0 := first_cell HC.out (L.out.mv0.below (Nat.le_refl _) (fun _ hk => hk.elim)); clear hg h1 b1 G1)
    | ((with_reducible refine gate_dst (N := 10) rfl ?_); refine Kd.event_run rfl (v := vc) (w1 := w2) (exec_cut rfl rfl HVC.out) ?_)
    | ((with_reducible refine gate_store (t := 25) (p := 11) rfl ?_); refine ev_store rfl (ty := 25) (p := 11) rfl rfl (q := .pointer (some ⟨g, 23, none⟩)) (v := vc) rfl rfl (store_b L.out.at1 (d.elf HD.out.now.one) HA.out HO.out) ?_; intro w3 hF; have L3 := Aside0.mk (L.out.same hF.1 ((tf_size (d.elf HD.out.now.one) HA.out).trans (tf_size (d.elf HD.out.now.one) HA.out).symm) hF.2); clear hF L hc23 hc0)
    | ((with_reducible refine gate_dst (N := 26) rfl ?_); refine ev_load rfl (N := 26) rfl rfl (q := .pointer (some ⟨g, 0, none⟩)) (v := .agg (d.c vd)) rfl (load_dep L3.out.at1 (d.elf HD.out.now.one)) ?_)
    | (go_at_call 31; refine (missing_w d (HD.out.now.below (L3.out.mv0.below (Nat.le_refl _) (fun _ hk => hk.elim))) HS.out).mono ?_; rintro _ w4 ⟨v', ⟨p, rfl⟩, ho, hb⟩; have O4 := Aside0.mk (Kd.R_lower ho L3.out.kept.1); have L4 := Aside0.mk (L3.out.below hb); clear ho hb L3)
    | ((with_reducible refine gate_store (t := 38) (p := 30) rfl ?_); refine ev_store rfl (ty := 38) (p := 30) rfl rfl (q := .pointer (some ⟨g, 0, none⟩)) (v := .agg ((misD d).c v')) rfl rfl (store_dep L4.out.at1 (d.elf HD.out.now.one) HA.out ((misD d).elf (rone O4.out))) ?_; intro w5 hF; have L5 := Aside0.mk (L4.out.same hF.1 ((tf_size ((misD d).elf (rone O4.out)) HA.out).trans (tf_size (d.elf HD.out.now.one) HA.out).symm) hF.2); have O5 := Aside0.mk (R_same O4.out L4.out.at1 (by decide) hF.2); clear hF L4 O4)
    | ((with_reducible refine gate_dst (N := 31) rfl ?_); refine ev_load rfl (N := 31) rfl rfl (q := .pointer (some ⟨g, 0, none⟩)) (v := .agg (tf ((misD d).c v') ca vf vc)) rfl (load_all L5.out.at1 ((misD d).elf (rone O5.out)) HA.out) ?_)
    | ((with_reducible refine gate_store (t := 40) (p := 2) rfl ?_); refine ev_store rfl (ty := 40) (p := 2) rfl rfl (q := .pointer (some ⟨gr, 0, none⟩)) (v := .agg (tf ((misD d).c v') ca vf vc)) rfl rfl (store_res L5.out ((misD d).elf (rone O5.out)) HA.out HV.out HO.out) ?_; intro w9 hF; have AF := Aside0.mk hF.1; have MF := Aside0.mk (L5.out.done hF.2); have SF := Aside0.mk hF.2; have QF := Aside0.mk L5.out.at2.choose_spec.2; clear hF))
   refine bodyPost_ret (results_cell_row rfl _ _ gr 40 (tf ((misD d).c v') ca vf vc) (0, 0) _ rfl AF.out Tryd.underlying40 rfl (by rw [tf_size ((misD d).elf (rone O5.out)) HA.out]; kernel_rfl)) rfl ?_
   have hb := MF.out.below (Nat.le_refl _) (fun _ hk => hk.elim)
   exact ⟨v', vc, rfl, RdK.of_R (R_same O5.out QF.out (by decide) SF.out) (fun i _ h1 _ hq => by have := HQ.out i hq; omega), HCR.out.mv MF.out (fun _ hk => hk.elim), hb⟩
  ·
   have e4 : (x == 4) = false := beq_eq_false_iff_ne.mpr c4
   rw [if_neg c4]
   clear c4
   go_enter Tryd.func49, Tryd.ntmps49
   go_wp2_with (first
    | ((with_reducible refine gate_dst (N := 1) rfl ?_); refine box_event rfl (N := 1) rfl (cs := tf (d.c vd) ca vf (.slice (some ad) (l.length + 1) c)) (t := 40) ?hr ?_; (case hr => first | (go_simp; done) | (go_simp; rfl)); intro g hg w1 h1 b1; have G1 := Aside0.mk (And.intro hg (And.intro h1 b1)); clear hg h1 b1)
    | ((with_reducible refine gate_dst (N := 2) rfl ?_); refine box_event rfl (N := 2) rfl (cs := zero24) (t := 40) ?hr ?_; (case hr => first | (go_simp; done) | (go_simp; rfl)); intro gr hg w2 h1 b1; have L := Aside0.mk (Lo.start G1.out.1 G1.out.2.1 G1.out.2.2 hg h1 (zero24_size.trans (tf_size (d.elf HD.out.now.one) HA.out).symm) b1 (fun _ => False)); have hc23 := cell_b L.out.at1 (d.elf HD.out.now.one) HA.out; have hc0 := first_cell HC.out (L.out.mv0.below (Nat.le_refl _) (fun _ hk => hk.elim)); clear hg h1 b1 G1)
    | ((with_reducible refine gate_dst (N := 10) rfl ?_); refine Kd.event_run rfl (v := vc) (w1 := w2) (exec_cut rfl rfl HVC.out) ?_)
    | ((with_reducible refine gate_store (t := 25) (p := 11) rfl ?_); refine ev_store rfl (ty := 25) (p := 11) rfl rfl (q := .pointer (some ⟨g, 23, none⟩)) (v := vc) rfl rfl (store_b L.out.at1 (d.elf HD.out.now.one) HA.out HO.out) ?_; intro w3 hF; have L3 := Aside0.mk (L.out.same hF.1 ((tf_size (d.elf HD.out.now.one) HA.out).trans (tf_size (d.elf HD.out.now.one) HA.out).symm) hF.2); clear hF L hc23 hc0)
    | ((with_reducible refine gate_dst (N := 31) rfl ?_); refine ev_load rfl (N := 31) rfl rfl (q := .pointer (some ⟨g, 0, none⟩)) (v := .agg (tf (d.c vd) ca vf vc)) rfl (load_all L3.out.at1 (d.elf HD.out.now.one) HA.out) ?_)
    | ((with_reducible refine gate_store (t := 40) (p := 2) rfl ?_); refine ev_store rfl (ty := 40) (p := 2) rfl rfl (q := .pointer (some ⟨gr, 0, none⟩)) (v := .agg (tf (d.c vd) ca vf vc)) rfl rfl (store_res L3.out (d.elf HD.out.now.one) HA.out HV.out HO.out) ?_; intro w9 hF; have AF := Aside0.mk hF.1; have MF := Aside0.mk (L3.out.done hF.2); have SF := Aside0.mk hF.2; have QF := Aside0.mk L3.out.at2.choose_spec.2; clear hF))
   refine bodyPost_ret (results_cell_row rfl _ _ gr 40 (tf (d.c vd) ca vf vc) (0, 0) _ rfl AF.out Tryd.underlying40 rfl (by rw [tf_size (d.elf HD.out.now.one) HA.out]; kernel_rfl)) rfl ?_
   have hb := MF.out.below (Nat.le_refl _) (fun _ hk => hk.elim)
   exact ⟨vd, vc, rfl, HD.out.mv MF.out (fun _ hk => hk.elim), HCR.out.mv MF.out (fun _ hk => hk.elim), hb⟩


end Go.Proofs.YtbndoihcejieoaaDoor.G
