/-
  Functions of the program and of the references as plain Lean functions, each with a proof that the machine's call comes to what it answers. Conditions: what each contract states.
-/
import Derived.Test.YtbndoihcejieoaaDoorProg
import Derived.Below
import Derived.Deep.Draws
import Derived.Deep.AppendLies
import Derived.Maps.AppendAt
import Derived.OwnWalk
import Derived.Laws.BytesArg
import Derived.Laws.MakeOwn
import Derived.Laws.OwnMore
import Derived.Deep.OwnRows
import Derived.Tactics
import Derived.Lib.ConvBytes
import Derived.Laws.Slices
import Derived.WalkKit
import Derived.KernelRfl
import Derived.RowKit3
import Derived.Deep.LoopGhost
import Derived.Deep.QuietTactic
import Derived.BigQuiet
import Derived.WideLaws
import Derived.Deep.DeepCutAuto
import Derived.Deep.CutBlock
import Derived.Deep.RegionHeld3
import Derived.Laws.Rows
import Derived.Lib.AppendStr
import Derived.ArgAppend
import Derived.Laws.IdiomCopy
import Derived.OrdersHeld
import Derived.Laws.BitsLemmas
import Derived.RowKit
import Derived.Deep.MidRow
import Derived.Laws.Cover3
import Derived.Test.YtbndoihcejieoaaDoorQCorew1
import Derived.Test.YtbndoihcejieoaaDoorQCorev1
namespace Go.Proofs.YtbndoihcejieoaaDoor.G
open Go.RowKit Go.Proofs.YtbndoihcejieoaaDoorW.PrintWords Go.Proofs.YtbndoihcejieoaaDoorW.PrintLast Go.Proofs.YtbndoihcejieoaaDoorW.PrintMore
attribute [local go_sem] max2_int min2_int max_two min_two max_three min_three max_four min_four   -- for this text's walks alone
set_option linter.unusedVariables false
set_option linter.unusedSimpArgs false

def errW : Option Int → Value
 | none => .nilIface
 | some c => .iface 0 (.int .i64 c)
theorem errW_none : errW none = .nilIface := rfl
theorem errW_some (c : Int) : errW (some c) = .iface 0 (.int .i64 c) := rfl

/-- The package-level table customs/transit.changes, as it lies in memory. -/
def cells_changes : Array Value := #[.int .i64 0, .int .i64 1, .int .i64 2, .int .i64 1, .int .i64 1, .int .i64 3, .int .i64 0, .int .i64 2, .int .i64 1, .int .i64 2, .int .i64 2, .int .i64 3, .int .i64 2, .int .i64 3, .int .i64 4]
def GL_changes (w : World) : Prop := ∃ t fr, w.heap[0]? = some (.cells cells_changes t fr)
theorem GL_changes.drewN {w : World} {n : Nat} (h : GL_changes w) : GL_changes (w.drewN n) := h
theorem GL_changes.drew {w : World} (h : GL_changes w) : GL_changes w.drew := h
theorem GL_changes.lt {w : World} (h : GL_changes w) : 0 < w.heap.size := by
 obtain ⟨t, fr, h⟩ := h
 exact (Array.getElem?_eq_some_iff.1 h).1
theorem GL_changes.of_below {w w' : World} (hb : Below w.heap.size w w') (h : GL_changes w) : GL_changes w' := by
 have hl := h.lt
 obtain ⟨t, fr, h⟩ := h
 exact ⟨t, fr, (hb.block 0 hl).trans h⟩

/-- The package-level table customs/calendar.lengths, as it lies in memory. -/
def cells_lengths : Array Value := #[.int .i64 31, .int .i64 28, .int .i64 31, .int .i64 30, .int .i64 31, .int .i64 30, .int .i64 31, .int .i64 31, .int .i64 30, .int .i64 31, .int .i64 30, .int .i64 31]
def GL_lengths (w : World) : Prop := ∃ t fr, w.heap[1]? = some (.cells cells_lengths t fr)
theorem GL_lengths.drewN {w : World} {n : Nat} (h : GL_lengths w) : GL_lengths (w.drewN n) := h
theorem GL_lengths.drew {w : World} (h : GL_lengths w) : GL_lengths w.drew := h
theorem GL_lengths.lt {w : World} (h : GL_lengths w) : 1 < w.heap.size := by
 obtain ⟨t, fr, h⟩ := h
 exact (Array.getElem?_eq_some_iff.1 h).1
theorem GL_lengths.of_below {w w' : World} (hb : Below w.heap.size w w') (h : GL_lengths w) : GL_lengths w' := by
 have hl := h.lt
 obtain ⟨t, fr, h⟩ := h
 exact ⟨t, fr, (hb.block 1 hl).trans h⟩

theorem info3 : (Tryd.prog.info? 3).map (fun i => (i.zero, i.size, i.bytes)) = some (some (.int .i64 0), 1, 8) := by kernel_rfl
theorem info53 : (Tryd.prog.info? 53).map (fun i => (i.zero, i.size, i.bytes)) = some (some (.agg #[(.int .i64 0), (.int .i64 0), (.int .i64 0), (.int .i64 0), (.int .i64 0)]), 5, 40) := by kernel_rfl
theorem info89 : (Tryd.prog.info? 89).map (fun i => (i.zero, i.size, i.bytes)) = some (some (.agg #[(.int .i64 0), (.int .i64 0), (.int .i64 0)]), 3, 24) := by kernel_rfl
structure S89 where
 f0 : Int
 f1 : Int
 f2 : Int
def z89 : S89 := ⟨(0 : Int), (0 : Int), (0 : Int)⟩
def k89 : Kd S89 := Kd.iso (Kd.pair (Kd.int .i64) (Kd.pair (Kd.int .i64) (Kd.int .i64))) (fun x : S89 => (x.f0, x.f1, x.f2))
theorem k89_heap : Kd.Heap k89 := Kd.heap_iso _ (Kd.heap_pair (Kd.heap_int .i64) (Kd.heap_pair (Kd.heap_int .i64) (Kd.heap_int .i64)))
theorem k89_open {w : World} {x : S89} {cs : List Value} (h : k89.K w x cs) : cs = [.int .i64 x.f0, .int .i64 x.f1, .int .i64 x.f2] := by
 obtain ⟨_, _, rfl, rfl, ⟨_, _, rfl, rfl, rfl⟩⟩ := h
 exact rfl
theorem k89_mk (w : World) (x : S89)  : k89.K w x [.int .i64 x.f0, .int .i64 x.f1, .int .i64 x.f2] := ⟨[.int .i64 x.f0], [.int .i64 x.f1, .int .i64 x.f2], rfl, rfl, ⟨[.int .i64 x.f1], [.int .i64 x.f2], rfl, rfl, rfl⟩⟩
def rd_T89 (xs : List S89) (i : Int) : S89 := xs.getD i.toNat z89
theorem at_T89 {w : World} {A : Option Addr} {n : Nat} {xs : List S89} (h : Kd.C k89 w A n xs) (i : Int) (h0 : 0 ≤ i) (h1 : i < n) : ∃ ad , A = some ad ∧ w.cell? (ad.add (i.toNat * 3)) = some (.int .i64 (rd_T89 xs i).f0) ∧ w.cell? ⟨(ad.add (i.toNat * 3)).block, (ad.add (i.toNat * 3)).off + 1, none⟩ = some (.int .i64 (rd_T89 xs i).f1) ∧ w.cell? ⟨(ad.add (i.toNat * 3)).block, (ad.add (i.toNat * 3)).off + 2, none⟩ = some (.int .i64 (rd_T89 xs i).f2) := by
 obtain ⟨ad, c, e, _, hK, hc0⟩ := Kd.C_get h z89 i h0 h1
 have hc : ∀ j u, c[j]? = some u → w.cell? (ad.add (i.toNat * 3 + j)) = some u := hc0
 obtain rfl := k89_open hK
 exact ⟨ad, e, hc 0 _ rfl, by rw [← add_field _ _ 1 (by omega)]; exact hc 1 _ rfl, by rw [← add_field _ _ 2 (by omega)]; exact hc 2 _ rfl⟩

structure S53 where
 f0 : Int
 f1 : Int
 f2 : Int
 f3 : Int
 f4 : Int
def z53 : S53 := ⟨(0 : Int), (0 : Int), (0 : Int), (0 : Int), (0 : Int)⟩
def k53 : Kd S53 := Kd.iso (Kd.pair (Kd.int .i64) (Kd.pair (Kd.int .i64) (Kd.pair (Kd.int .i64) (Kd.pair (Kd.int .i64) (Kd.int .i64))))) (fun x : S53 => (x.f0, x.f1, x.f2, x.f3, x.f4))
theorem k53_open {w : World} {x : S53} {cs : List Value} (h : k53.K w x cs) : cs = [.int .i64 x.f0, .int .i64 x.f1, .int .i64 x.f2, .int .i64 x.f3, .int .i64 x.f4] := by
 obtain ⟨_, _, rfl, rfl, ⟨_, _, rfl, rfl, ⟨_, _, rfl, rfl, ⟨_, _, rfl, rfl, rfl⟩⟩⟩⟩ := h
 exact rfl
theorem k53_mk (w : World) (x : S53)  : k53.K w x [.int .i64 x.f0, .int .i64 x.f1, .int .i64 x.f2, .int .i64 x.f3, .int .i64 x.f4] := ⟨[.int .i64 x.f0], [.int .i64 x.f1, .int .i64 x.f2, .int .i64 x.f3, .int .i64 x.f4], rfl, rfl, ⟨[.int .i64 x.f1], [.int .i64 x.f2, .int .i64 x.f3, .int .i64 x.f4], rfl, rfl, ⟨[.int .i64 x.f2], [.int .i64 x.f3, .int .i64 x.f4], rfl, rfl, ⟨[.int .i64 x.f3], [.int .i64 x.f4], rfl, rfl, rfl⟩⟩⟩⟩
theorem k53_mkM (w : World) (base : Nat) (ok : Nat → Prop) (x : S53)  : k53.M w base ok x [.int .i64 x.f0, .int .i64 x.f1, .int .i64 x.f2, .int .i64 x.f3, .int .i64 x.f4] := ⟨[.int .i64 x.f0], [.int .i64 x.f1, .int .i64 x.f2, .int .i64 x.f3, .int .i64 x.f4], rfl, rfl, ⟨[.int .i64 x.f1], [.int .i64 x.f2, .int .i64 x.f3, .int .i64 x.f4], rfl, rfl, ⟨[.int .i64 x.f2], [.int .i64 x.f3, .int .i64 x.f4], rfl, rfl, ⟨[.int .i64 x.f3], [.int .i64 x.f4], rfl, rfl, rfl⟩⟩⟩⟩
def rd_T53 (xs : List S53) (i : Int) : S53 := xs.getD i.toNat z53
theorem at_T53 {w : World} {A : Option Addr} {n : Nat} {xs : List S53} (h : Kd.C k53 w A n xs) (i : Int) (h0 : 0 ≤ i) (h1 : i < n) : ∃ ad , A = some ad ∧ w.cell? (ad.add (i.toNat * 5)) = some (.int .i64 (rd_T53 xs i).f0) ∧ w.cell? ⟨(ad.add (i.toNat * 5)).block, (ad.add (i.toNat * 5)).off + 1, none⟩ = some (.int .i64 (rd_T53 xs i).f1) ∧ w.cell? ⟨(ad.add (i.toNat * 5)).block, (ad.add (i.toNat * 5)).off + 2, none⟩ = some (.int .i64 (rd_T53 xs i).f2) ∧ w.cell? ⟨(ad.add (i.toNat * 5)).block, (ad.add (i.toNat * 5)).off + 3, none⟩ = some (.int .i64 (rd_T53 xs i).f3) ∧ w.cell? ⟨(ad.add (i.toNat * 5)).block, (ad.add (i.toNat * 5)).off + 4, none⟩ = some (.int .i64 (rd_T53 xs i).f4) := by
 obtain ⟨ad, c, e, _, hK, hc0⟩ := Kd.C_get h z53 i h0 h1
 have hc : ∀ j u, c[j]? = some u → w.cell? (ad.add (i.toNat * 5 + j)) = some u := hc0
 obtain rfl := k53_open hK
 exact ⟨ad, e, hc 0 _ rfl, by rw [← add_field _ _ 1 (by omega)]; exact hc 1 _ rfl, by rw [← add_field _ _ 2 (by omega)]; exact hc 2 _ rfl, by rw [← add_field _ _ 3 (by omega)]; exact hc 3 _ rfl, by rw [← add_field _ _ 4 (by omega)]; exact hc 4 _ rfl⟩

end Go.Proofs.YtbndoihcejieoaaDoor.G
namespace Go.Proofs.YtbndoihcejieoaaDoor.G
open Go.RowKit Go.Proofs.YtbndoihcejieoaaDoorW.PrintWords Go.Proofs.YtbndoihcejieoaaDoorW.PrintLast Go.Proofs.YtbndoihcejieoaaDoorW.PrintMore
set_option linter.unusedVariables false
set_option linter.unusedSimpArgs false

/-- Eleven cells, each one cell. -/
structure Elf (xs : Array Value) : Prop where
 size : xs.size = 11
 one : xs.all (·.oneCell') = true
theorem dep_elf (a0 a1 a2 a3 a4 a5 a6 a7 a8 a9 : Int) {v : Value} (hv : v.oneCell' = true) : Elf #[.int .i64 a0, .int .i64 a1, .int .i64 a2, .int .i64 a3, .int .i64 a4, .int .i64 a5, .int .i64 a6, .int .i64 a7, .int .i64 a8, .int .i64 a9, v] :=
 ⟨rfl, by
  refine Array.all_eq_true_iff_forall_mem.2 (fun x hx => ?_)
  simp only [List.mem_toArray, List.mem_cons, List.not_mem_nil, or_false] at hx
  rcases hx with rfl | rfl | rfl | rfl | rfl | rfl | rfl | rfl | rfl | rfl | rfl <;> first | rfl | assumption⟩
theorem arr_elf (b0 b1 b2 b3 b4 : Int) (b5 : ByteArray) (b6 b7 : Int) {v8 v9 v10 : Value} (h8 : v8.oneCell' = true) (h9 : v9.oneCell' = true) (h10 : v10.oneCell' = true) : Elf #[.int .i64 b0, .int .i64 b1, .int .i64 b2, .int .i64 b3, .int .i64 b4, .string b5, .int .i64 b6, .int .i64 b7, v8, v9, v10] :=
 ⟨rfl, by
  refine Array.all_eq_true_iff_forall_mem.2 (fun x hx => ?_)
  simp only [List.mem_toArray, List.mem_cons, List.not_mem_nil, or_false] at hx
  rcases hx with rfl | rfl | rfl | rfl | rfl | rfl | rfl | rfl | rfl | rfl | rfl <;> first | rfl | assumption⟩
def tf (cd ca : Array Value) (vf vb : Value) : Array Value := cd ++ ca ++ #[vf, vb]
theorem tf_size {cd ca : Array Value} {vf vb : Value} (hd : Elf cd) (ha : Elf ca) : (tf cd ca vf vb).size = 24 := by
 simp [tf, hd.size, ha.size]
theorem tf_one {cd ca : Array Value} {vf vb : Value} (hd : Elf cd) (ha : Elf ca) (hf : vf.oneCell' = true) (hb : vb.oneCell' = true) : (tf cd ca vf vb).all (·.oneCell') = true := by
 have h1 := hd.one
 have h2 := ha.one
 simp only [tf, Array.all_append, h1, h2, Bool.true_and]
 simp [hf, hb]
theorem tf_d {cd ca : Array Value} {vf vb : Value} (hd : Elf cd) {j : Nat} (hj : j < 11) : (tf cd ca vf vb)[j]? = cd[j]? := by
 unfold tf
 rw [Array.getElem?_append_left (by simp [hd.size]; omega), Array.getElem?_append_left (by rw [hd.size]; exact hj)]
theorem tf_a {cd ca : Array Value} {vf vb : Value} (hd : Elf cd) (ha : Elf ca) {j : Nat} (hj : j < 11) : (tf cd ca vf vb)[11 + j]? = ca[j]? := by
 unfold tf
 rw [Array.getElem?_append_left (by simp [hd.size, ha.size]; omega), Array.getElem?_append_right (by rw [hd.size]; omega), hd.size]
 congr 1
 omega
theorem tf_f {cd ca : Array Value} {vf vb : Value} (hd : Elf cd) (ha : Elf ca) : (tf cd ca vf vb)[22]? = some vf := by
 unfold tf
 rw [Array.getElem?_append_right (by simp [hd.size, ha.size])]
 simp [hd.size, ha.size]
theorem tf_b {cd ca : Array Value} {vf vb : Value} (hd : Elf cd) (ha : Elf ca) : (tf cd ca vf vb)[23]? = some vb := by
 unfold tf
 rw [Array.getElem?_append_right (by simp [hd.size, ha.size])]
 simp [hd.size, ha.size]
theorem tf_list {cd ca : Array Value} {vf vb : Value} : (tf cd ca vf vb).toList = cd.toList ++ ca.toList ++ [vf, vb] := by simp [tf]

/-- All but block g is as it was. -/
structure Same (g : Nat) (W W1 : World) : Prop where
 os : W1.os = W.os
 tape : W1.tape = W.tape
 output : W1.output = W.output
 size : W1.heap.size = W.heap.size
 block : ∀ k, k ≠ g → W1.heap[k]? = W.heap[k]?
theorem Same.setRow (W : World) (g : Nat) (cs : Array Value) : Same g W (W.setRow g cs) := ⟨rfl, rfl, rfl, by simp, fun k hk => setRow_other W g k cs hk⟩

section
variable {W : World} {g : Nat} {cd ca : Array Value} {vf vb : Value}
theorem tf_cell {T : Array Value} (h : W.heap[g]? = some (.cells T 40 (0, 0))) (j : Nat) : W.cell? ⟨g, j, none⟩ = T[j]? := cell_of_row W g j T 40 (0, 0) h
/-- The whole transfer is read. -/
theorem load_all (h : W.heap[g]? = some (.cells (tf cd ca vf vb) 40 (0, 0))) (hd : Elf cd) (ha : Elf ca) : (Instr.loadAt 40 (.pointer (some ⟨g, 0, none⟩))).run Tryd.prog W = .ok (.agg (tf cd ca vf vb)) W := by
 have := run_loadAt_mid (P := Tryd.prog) W g 0 40 (tf cd ca vf vb).toList _ (fun j v hv => by rw [Nat.zero_add, tf_cell h]; simpa using hv) Tryd.underlying40 rfl (by rw [Array.length_toList, tf_size hd ha]; kernel_rfl)
 simpa using this
theorem load_dep (h : W.heap[g]? = some (.cells (tf cd ca vf vb) 40 (0, 0))) (hd : Elf cd) : (Instr.loadAt 38 (.pointer (some ⟨g, 0, none⟩))).run Tryd.prog W = .ok (.agg cd) W := by
 have := run_loadAt_mid (P := Tryd.prog) W g 0 38 cd.toList _ (fun j v hv => by
  have hj : j < 11 := by rw [← hd.size, ← Array.length_toList]; exact (List.getElem?_eq_some_iff.1 hv).1
  rw [Nat.zero_add, tf_cell h, tf_d hd hj]; simpa using hv) Tryd.underlying38 rfl (by rw [Array.length_toList, hd.size]; kernel_rfl)
 simpa using this
theorem load_arr (h : W.heap[g]? = some (.cells (tf cd ca vf vb) 40 (0, 0))) (hd : Elf cd) (ha : Elf ca) : (Instr.loadAt 27 (.pointer (some ⟨g, 11, none⟩))).run Tryd.prog W = .ok (.agg ca) W := by
 have := run_loadAt_mid (P := Tryd.prog) W g 11 27 ca.toList _ (fun j v hv => by
  have hj : j < 11 := by rw [← ha.size, ← Array.length_toList]; exact (List.getElem?_eq_some_iff.1 hv).1
  rw [tf_cell h, tf_a hd ha hj]; simpa using hv) Tryd.underlying27 rfl (by rw [Array.length_toList, ha.size]; kernel_rfl)
 simpa using this
/-- A single cell of the departure, or of the lists. -/
theorem cell_dep (h : W.heap[g]? = some (.cells (tf cd ca vf vb) 40 (0, 0))) (hd : Elf cd) {j : Nat} {v : Value} (hj : j < 11) (hv : cd[j]? = some v) : W.cell? ⟨g, j, none⟩ = some v := by rw [tf_cell h, tf_d hd hj, hv]
theorem cell_f (h : W.heap[g]? = some (.cells (tf cd ca vf vb) 40 (0, 0))) (hd : Elf cd) (ha : Elf ca) : W.cell? ⟨g, 22, none⟩ = some vf := by rw [tf_cell h, tf_f hd ha]
theorem cell_b (h : W.heap[g]? = some (.cells (tf cd ca vf vb) 40 (0, 0))) (hd : Elf cd) (ha : Elf ca) : W.cell? ⟨g, 23, none⟩ = some vb := by rw [tf_cell h, tf_b hd ha]

theorem load_whole {T : Array Value} (h : W.heap[g]? = some (.cells T 27 (0, 0))) (hT : Elf T) : (Instr.loadAt 27 (.pointer (some ⟨g, 0, none⟩))).run Tryd.prog W = .ok (.agg T) W := by
 have := run_loadAt_mid (P := Tryd.prog) W g 0 27 T.toList _ (fun j v hv => by rw [Nat.zero_add, cell_of_row W g j T 27 (0, 0) h]; simpa using hv) Tryd.underlying27 rfl (by rw [Array.length_toList, hT.size]; kernel_rfl)
 simpa using this
theorem store_gen {tt : TypeId} {T : Array Value} (h : W.heap[g]? = some (.cells T tt (0, 0))) (o : Nat) (ty : TypeId) (cs : Array Value) (hl : o + cs.size ≤ T.size) (hi : (Tryd.prog.info? ty).map (·.size) = some cs.size) (h1 : cs.all (·.oneCell') = true)
  (T' : Array Value) (hT' : T'.toList = T.toList.take o ++ cs.toList ++ T.toList.drop (o + cs.size)) :
  ∃ W1, (Instr.storeAt ty (.pointer (some ⟨g, o, none⟩)) (.agg cs)).run Tryd.prog W = .ok () W1 ∧ W1.heap[g]? = some (.cells T' tt (0, 0)) ∧ Same g W W1 := by
 have hs := run_storeCells_at Tryd.prog g o tt cs.toList 0 T W h (by simp; omega) (fun v hv => (Array.all_eq_true_iff_forall_mem.1 h1) v (by simpa using hv))
 simp only [Nat.add_zero, Array.length_toList] at hs
 rw [← hT', Array.toArray_toList] at hs
 refine ⟨W.setRow g T', ?_, setRow_heap W g T T' tt (0, 0) h, Same.setRow W g T'⟩
 cases hq : Tryd.prog.info? ty with
 | none => simp [hq] at hi
 | some i =>
  have hz : i.size = cs.size := by simpa [hq] using hi
  simp [Instr.storeAt, Instr.sureAddr, Sem.run_bind, storeVar, sizeOf, typeInfo, hq, Value.cells, hz, hs]
theorem store_all {T : Array Value} (h : W.heap[g]? = some (.cells T 40 (0, 0))) (hT : T.size = 24) (hd : Elf cd) (ha : Elf ca) (hf : vf.oneCell' = true) (hb : vb.oneCell' = true) :
  ∃ W1, (Instr.storeAt 40 (.pointer (some ⟨g, 0, none⟩)) (.agg (tf cd ca vf vb))).run Tryd.prog W = .ok () W1 ∧ W1.heap[g]? = some (.cells (tf cd ca vf vb) 40 (0, 0)) ∧ Same g W W1 :=
 store_gen h 0 40 _ (by rw [tf_size hd ha]; omega) (by rw [tf_size hd ha]; kernel_rfl) (tf_one hd ha hf hb) _ (by
  rw [List.drop_of_length_le (by rw [Array.length_toList, tf_size hd ha, hT]; omega)]; simp)
theorem store_dep {cd' : Array Value} (h : W.heap[g]? = some (.cells (tf cd ca vf vb) 40 (0, 0))) (hd : Elf cd) (ha : Elf ca) (hd' : Elf cd') :
  ∃ W1, (Instr.storeAt 38 (.pointer (some ⟨g, 0, none⟩)) (.agg cd')).run Tryd.prog W = .ok () W1 ∧ W1.heap[g]? = some (.cells (tf cd' ca vf vb) 40 (0, 0)) ∧ Same g W W1 :=
 store_gen h 0 38 _ (by rw [hd'.size, tf_size hd ha]; omega) (by rw [hd'.size]; kernel_rfl) hd'.one _ (by
  rw [tf_list, tf_list, hd'.size, Nat.zero_add, List.take_zero, List.nil_append, List.append_assoc, List.append_assoc, List.drop_left' (by rw [Array.length_toList, hd.size])])
theorem store_arr {ca' : Array Value} (h : W.heap[g]? = some (.cells (tf cd ca vf vb) 40 (0, 0))) (hd : Elf cd) (ha : Elf ca) (ha' : Elf ca') :
  ∃ W1, (Instr.storeAt 27 (.pointer (some ⟨g, 11, none⟩)) (.agg ca')).run Tryd.prog W = .ok () W1 ∧ W1.heap[g]? = some (.cells (tf cd ca' vf vb) 40 (0, 0)) ∧ Same g W W1 :=
 store_gen h 11 27 _ (by rw [ha'.size, tf_size hd ha]; omega) (by rw [ha'.size]; kernel_rfl) ha'.one _ (by
  rw [tf_list, tf_list, ha'.size, List.drop_left' (by rw [List.length_append, Array.length_toList, Array.length_toList, hd.size, ha.size]), List.append_assoc cd.toList ca.toList, List.take_left' (by rw [Array.length_toList, hd.size])])
theorem store_one {tt : TypeId} {T T' : Array Value} (h : W.heap[g]? = some (.cells T tt (0, 0))) (o : Nat) (ho : o < T.size) (v : Value) (h1 : v.oneCell' = true) (hT' : T.setIfInBounds o v = T') (ty : TypeId) (hq : (Tryd.prog.info? ty).map (·.size) = some 1) :
  ∃ W1, (Instr.storeAt ty (.pointer (some ⟨g, o, none⟩)) v).run Tryd.prog W = .ok () W1 ∧ W1.heap[g]? = some (.cells T' tt (0, 0)) ∧ Same g W W1 := by
 subst hT'
 have hs := run_storeCells_at Tryd.prog g o tt [v] 0 T W h (by simp; omega) (fun x hx => by rw [List.mem_singleton.1 hx]; exact h1)
 have e : (T.toList.take (o + 0) ++ [v] ++ T.toList.drop (o + 0 + [v].length)).toArray = T.setIfInBounds o v := by
  apply Array.ext'
  simp only [Nat.add_zero, List.length_singleton, Array.toList_setIfInBounds]
  rw [List.set_eq_take_append_cons_drop, if_pos (by simpa using ho)]
  simp
 rw [e] at hs
 refine ⟨_, ?_, setRow_heap W g T _ tt (0, 0) h, Same.setRow W g _⟩
 have hc : v.cells = #[v] := by cases v <;> simp_all [Value.oneCell', Value.cells]
 cases hi : Tryd.prog.info? ty with
 | none => simp [hi] at hq
 | some i =>
  have hz : i.size = 1 := by simpa [hi] using hq
  simp [Instr.storeAt, Instr.sureAddr, Sem.run_bind, storeVar, sizeOf, typeInfo, hi, hc, hz, hs]
theorem store_f {v : Value} (h : W.heap[g]? = some (.cells (tf cd ca vf vb) 40 (0, 0))) (hd : Elf cd) (ha : Elf ca) (h1 : v.oneCell' = true) :
  ∃ W1, (Instr.storeAt 25 (.pointer (some ⟨g, 22, none⟩)) v).run Tryd.prog W = .ok () W1 ∧ W1.heap[g]? = some (.cells (tf cd ca v vb) 40 (0, 0)) ∧ Same g W W1 :=
 store_one h 22 (by rw [tf_size hd ha]; omega) v h1 (by
  unfold tf
  rw [Array.setIfInBounds_append_right (by simp [hd.size, ha.size])]
  simp [hd.size, ha.size]) 25 (by kernel_rfl)
theorem store_b {v : Value} (h : W.heap[g]? = some (.cells (tf cd ca vf vb) 40 (0, 0))) (hd : Elf cd) (ha : Elf ca) (h1 : v.oneCell' = true) :
  ∃ W1, (Instr.storeAt 25 (.pointer (some ⟨g, 23, none⟩)) v).run Tryd.prog W = .ok () W1 ∧ W1.heap[g]? = some (.cells (tf cd ca vf v) 40 (0, 0)) ∧ Same g W W1 :=
 store_one h 23 (by rw [tf_size hd ha]; omega) v h1 (by
  unfold tf
  rw [Array.setIfInBounds_append_right (by simp [hd.size, ha.size])]
  simp [hd.size, ha.size]) 25 (by kernel_rfl)
end

section
variable {W : World} {g : Nat}
theorem load_eleven {tt : TypeId} {d : TypeDesc} (hu : Tryd.prog.underlying tt = some d) (hd : d.isRow = true) (hi : (Tryd.prog.info? tt).map (·.size) = some 11) {T : Array Value} (h : W.heap[g]? = some (.cells T tt (0, 0))) (hT : T.size = 11) : (Instr.loadAt tt (.pointer (some ⟨g, 0, none⟩))).run Tryd.prog W = .ok (.agg T) W := by
 have := run_loadAt_mid (P := Tryd.prog) W g 0 tt T.toList d (fun j v hv => by rw [Nat.zero_add, cell_of_row W g j T tt (0, 0) h]; simpa using hv) hu hd (by rw [Array.length_toList, hT]; exact hi)
 simpa using this
theorem store_eleven {tt : TypeId} (hi : (Tryd.prog.info? tt).map (·.size) = some 11) {T T' : Array Value} (h : W.heap[g]? = some (.cells T tt (0, 0))) (hT : T.size = 11) (hT' : Elf T') :
  ∃ W1, (Instr.storeAt tt (.pointer (some ⟨g, 0, none⟩)) (.agg T')).run Tryd.prog W = .ok () W1 ∧ W1.heap[g]? = some (.cells T' tt (0, 0)) ∧ Same g W W1 :=
 store_gen h 0 tt _ (by rw [hT'.size, hT]; omega) (by rw [hT'.size]; exact hi) hT'.one _ (by
  rw [List.drop_of_length_le (by rw [Array.length_toList, hT'.size, hT]; omega)]; simp)
end

section
variable {P : Program} {ops : Array Oper} {rest : List Oper} {o : Oper} {a : Act} {Q : Exit → Act → World → Prop}
theorem ev_load {W : World} (hgd : o.guard = none) {N : Tmp} (_hd : o.dst = some N) {ty : TypeId} {x : Operand} (ho : o.op = .load ty x) {q v : Value} (hx : a.eval x = q)
  (hrun : (Instr.loadAt ty q).run P W = .ok v W) (h : wpList P ops Q rest (a.put o.dst v) W) : wpList P ops Q (o :: rest) a W := by
 refine wpList_plain hgd fun K hK => ?_
 unfold Oper.wp execOp
 simp only [ho, hx, hrun, Sem.run_bind, Sem.run_pure, Result.andThen_ok]
 exact hK _ _ h
/-- A store, told by what it leaves. -/
theorem ev_store {W : World} {F : World → Prop} (hgd : o.guard = none) {ty : TypeId} {p : Tmp} {y : Operand} (ho : o.op = .store ty (.tmp p) y) (hd : o.dst = none) {q v : Value} (hx : a.eval (.tmp p) = q) (hy : a.eval y = v)
  (hrun : ∃ W1, (Instr.storeAt ty q v).run P W = .ok () W1 ∧ F W1) (h : ∀ W1, F W1 → wpList P ops Q rest a W1) : wpList P ops Q (o :: rest) a W := by
 obtain ⟨W1, hr, hf⟩ := hrun
 refine wpList_plain hgd fun K hK => ?_
 unfold Oper.wp execOp
 simp only [ho, hx, hy, hr, Sem.run_bind, Sem.run_pure, Result.andThen_ok]
 show K (a.put o.dst undef) W1
 rw [hd]
 exact hK _ _ (h W1 hf)
end

structure Lo (tt : TypeId) (w : World) (S : Nat → Prop) (W : World) (g gr : Nat) (cs : Array Value) : Prop where
 os : W.os = w.os
 tape : W.tape = w.tape
 output : W.output = w.output
 kept : Kept w W S
 hg : w.heap.size ≤ g
 hr : w.heap.size ≤ gr
 ne : g ≠ gr
 at1 : W.heap[g]? = some (.cells cs tt (0, 0))
 at2 : ∃ old : Array Value, old.size = cs.size ∧ W.heap[gr]? = some (.cells old tt (0, 0))
/-- What a call that writes no block but those of S leaves. -/
structure Mv (S : Nat → Prop) (w w' : World) : Prop where
 os : w'.os = w.os
 tape : w'.tape = w.tape
 output : w'.output = w.output
 kept : Kept w w' S
theorem Mv.of_below {w w' : World} (h : Below w.heap.size w w') (S : Nat → Prop) : Mv S w w' := ⟨h.os, h.tape, h.output, Kept.of_below h S⟩
theorem Mv.below {S : Nat → Prop} {w w' : World} (h : Mv S w w') {B : Nat} (hB : B ≤ w.heap.size) (hS : ∀ k, S k → B ≤ k) : Below B w w' :=
 ⟨h.os, h.tape, h.output, h.kept.1, fun k hk => h.kept.2 k (by omega) (fun hs => by have := hS k hs; omega)⟩
theorem Mv.then_ {S S2 : Nat → Prop} {w w1 w2 : World} (h : Mv S w w1) (k : Mv S2 w1 w2) (hs : ∀ k, S2 k → S k ∨ w.heap.size ≤ k) : Mv S w w2 :=
 ⟨k.os.trans h.os, k.tape.trans h.tape, k.output.trans h.output, h.kept.then_ k.kept hs⟩
section
variable {w W W1 : World} {S S2 : Nat → Prop} {g gr : Nat} {cs : Array Value} {tt : TypeId}
theorem Lo.start {w1 w2 : World} {z : Array Value} (hg : g = w.heap.size) (h1 : w1.heap[g]? = some (.cells cs tt (0, 0))) (b1 : Below w.heap.size w w1) (hr : gr = w1.heap.size) (h2 : w2.heap[gr]? = some (.cells z tt (0, 0))) (hz : z.size = cs.size) (b2 : Below w1.heap.size w1 w2) (S : Nat → Prop) : Lo tt w S w2 g gr cs :=
 have b := b1.trans (b2.mono b1.size)
 ⟨b.os, b.tape, b.output, Kept.of_below b S, by omega, by have := b1.size; omega, by have := blk_lt h1; omega, blk_below h1 b2, z, hz, h2⟩
theorem Lo.start3 {w1 w2 w3 : World} {z cy : Array Value} {g2 : Nat} (h1 : g = w.heap.size ∧ w1.heap[g]? = some (.cells cs tt (0, 0)) ∧ Below w.heap.size w w1) (h2 : g2 = w1.heap.size ∧ w2.heap[g2]? = some (.cells cy 27 (0, 0)) ∧ Below w1.heap.size w1 w2) (h3 : gr = w2.heap.size ∧ w3.heap[gr]? = some (.cells z tt (0, 0)) ∧ Below w2.heap.size w2 w3) (hz : z.size = cs.size) (S : Nat → Prop) :
  Lo tt w S w3 g gr cs ∧ w3.heap[g2]? = some (.cells cy 27 (0, 0)) ∧ g2 ≠ g :=
 ⟨Lo.start (w1 := w2) h1.1 (blk_below h1.2.1 h2.2.2) (h1.2.2.trans (h2.2.2.mono h1.2.2.size)) h3.1 h3.2.1 hz h3.2.2 S, blk_below h2.2.1 h3.2.2, by have := blk_lt h1.2.1; omega⟩
theorem Lo.mv (h : Lo tt w S W g gr cs) (k : Mv S2 W W1) (hs : ∀ k, S2 k → (S k ∨ w.heap.size ≤ k) ∧ k ≠ g ∧ k ≠ gr) : Lo tt w S W1 g gr cs := by
 obtain ⟨old, ho, h2⟩ := h.at2
 exact ⟨k.os.trans h.os, k.tape.trans h.tape, k.output.trans h.output, h.kept.then_ k.kept (fun i hi => (hs i hi).1), h.hg, h.hr, h.ne, blk_kept h.at1 k.kept (fun hk => (hs _ hk).2.1 rfl), old, ho, blk_kept h2 k.kept (fun hk => (hs _ hk).2.2 rfl)⟩
theorem Lo.below (h : Lo tt w S W g gr cs) (k : Below W.heap.size W W1) : Lo tt w S W1 g gr cs := h.mv (Mv.of_below k (fun _ => False)) (fun _ hk => hk.elim)
theorem Mv.of_grown {row : Option Nat} (hg : W.grownBy W1 row) : Mv (fun k => row = some k) W W1 := ⟨hg.os, hg.tape, hg.output, hg.size, fun i hi hn => hg.block i hi (fun he => hn he.symm)⟩
theorem Lo.same {cs' : Array Value} (h : Lo tt w S W g gr cs) (hW : W1.heap[g]? = some (.cells cs' tt (0, 0))) (hs : cs'.size = cs.size) (k : Same g W W1) : Lo tt w S W1 g gr cs' := by
 obtain ⟨old, ho, h2⟩ := h.at2
 exact ⟨k.os.trans h.os, k.tape.trans h.tape, k.output.trans h.output, h.kept.then_ (S2 := fun i => i = g) ⟨by rw [k.size]; exact Nat.le_refl _, fun i _ hn => k.block i hn⟩ (fun i hi => .inr (by rw [hi]; exact h.hg)), h.hg, h.hr, h.ne, hW, old, ho.trans hs.symm, (k.block gr (Ne.symm h.ne)).trans h2⟩
/-- The result is written: what the call leaves. -/
theorem Lo.done (h : Lo tt w S W g gr cs) (k : Same gr W W1) : Mv S w W1 :=
 ⟨k.os.trans h.os, k.tape.trans h.tape, k.output.trans h.output, h.kept.then_ (S2 := fun i => i = gr) ⟨by rw [k.size]; exact Nat.le_refl _, fun i _ hn => k.block i hn⟩ (fun i hi => .inr (by rw [hi]; exact h.hr))⟩
/-- Another block, new, in place of g. -/
theorem Lo.shift {g3 : Nat} {z : Array Value} (h : Lo tt w S W g gr cs) (hg : g3 = W.heap.size) (h3 : W1.heap[g3]? = some (.cells z tt (0, 0))) (hz : z.size = cs.size) (b : Below W.heap.size W W1) : Lo tt w S W1 g3 gr z := by
 obtain ⟨old, ho, h2⟩ := h.at2
 exact ⟨b.os.trans h.os, b.tape.trans h.tape, b.output.trans h.output, h.kept.below b, by have := h.kept.1; omega, h.hr, by have := blk_lt h2; omega, h3, old, ho.trans hz.symm, blk_below h2 b⟩
theorem Lo.mv0 (h : Lo tt w S W g gr cs) : Mv S w W := ⟨h.os, h.tape, h.output, h.kept⟩
end
theorem Lo.weaken {tt : TypeId} {w W : World} {S S' : Nat → Prop} {g gr : Nat} {cs : Array Value} (h : Lo tt w S W g gr cs) (hs : ∀ k, S k → S' k) : Lo tt w S' W g gr cs := ⟨h.os, h.tape, h.output, h.kept.mono hs, h.hg, h.hr, h.ne, h.at1, h.at2⟩
section
variable {w W W1 : World} {S P : Nat → Prop} {g gr B : Nat} {cs : Array Value} {v : Value} {l : List Int} {tt : TypeId}
/-- A row of an elder world is appended to. -/
theorem Lo.app (h : Lo tt w S W g gr cs) (hS : ∀ k, S k → P k) (hR : Kd.R (Kd.int .i64) 3 w B P v l) (hg : W.grownBy W1 v.ownBlock) : Lo tt w P W1 g gr cs :=
 (h.weaken hS).mv (Mv.of_grown hg) (fun k hk => by
  have h1 := (Kd.R_bound hR).1 k hk
  exact ⟨.inl h1.1, by have := h.hg; have := h1.2.2.1; omega, by have := h.hr; have := h1.2.2.1; omega⟩)
theorem R_same {T : Array Value} (h : Kd.R (Kd.int .i64) 3 W B P v l) (hb : W.heap[g]? = some (.cells T tt (0, 0))) (ht : 3 ≠ tt) (k : Same g W W1) : Kd.R (Kd.int .i64) 3 W1 B P v l :=
 Kd.R_mono (Kd.R_step (Kd.R_types h hb (fun q hq => by
  rcases List.mem_cons.1 hq with rfl | hq
  ·
   exact ht
  ·
   exact absurd hq (by simp [Kd.int, Kd.scalar]))) (fun i hi _ => k.block i hi.2)) (fun _ hi => hi.1)
theorem R_old {w W : World} {S P : Nat → Prop} {B : Nat} {v : Value} {l : List Int} (h : Kd.R (Kd.int .i64) 3 w B P v l) (k : Mv S w W) (hS : ∀ i, P i → ¬ S i) : Kd.R (Kd.int .i64) 3 W B (fun i => P i ∨ w.heap.size ≤ i) v l :=
 Kd.R_mono (Kd.R_step h (fun i hi hlt => k.kept.2 i hlt (hS i hi))) (fun _ hi => .inl hi)
theorem R_one (h : Kd.R (Kd.int .i64) 3 w B P v l) : v.oneCell' = true := by
 obtain ⟨A, c, rfl, _⟩ := Kd.R_reads h
 rfl
/-- The result is stored. -/
theorem store_res {cd ca : Array Value} {vf vb : Value} (h : Lo 40 w S W g gr (tf cd ca vf vb)) (hd : Elf cd) (ha : Elf ca) (hf : vf.oneCell' = true) (hb : vb.oneCell' = true) :
  ∃ W1, (Instr.storeAt 40 (.pointer (some ⟨gr, 0, none⟩)) (.agg (tf cd ca vf vb))).run Tryd.prog W = .ok () W1 ∧ W1.heap[gr]? = some (.cells (tf cd ca vf vb) 40 (0, 0)) ∧ Same gr W W1 := by
 obtain ⟨old, ho, h2⟩ := h.at2
 exact store_all h2 (ho.trans (tf_size hd ha)) hd ha hf hb
end
theorem rone {α : Type} {d : Kd α} {e B : Nat} {w : World} {P : Nat → Prop} {v : Value} {l : List α} (h : d.R e w B P v l) : v.oneCell' = true := by
 obtain ⟨A, c, rfl, _⟩ := Kd.R_reads h
 rfl
def zero24 : Array Value := #[.int .i64 0, .int .i64 0, .int .i64 0, .int .i64 0, .int .i64 0, .int .i64 0, .int .i64 0, .int .i64 0, .int .i64 0, .int .i64 0, .slice none 0 0, .int .i64 0, .int .i64 0, .int .i64 0, .int .i64 0, .int .i64 0, .string (⟨#[]⟩ : ByteArray), .int .i64 0, .int .i64 0, .slice none 0 0, .slice none 0 0, .slice none 0 0, .slice none 0 0, .slice none 0 0]
theorem zero24_size : zero24.size = 24 := rfl
end Go.Proofs.YtbndoihcejieoaaDoor.G
namespace Go.Proofs.YtbndoihcejieoaaDoor.G
open Go.RowKit Go.Proofs.YtbndoihcejieoaaDoorW.PrintWords Go.Proofs.YtbndoihcejieoaaDoorW.PrintLast Go.Proofs.YtbndoihcejieoaaDoorW.PrintMore
attribute [local go_sem] max2_int min2_int max_two min_two max_three min_three max_four min_four   -- for this text's walks alone
set_option linter.unusedVariables false
set_option linter.unusedSimpArgs false

set_option maxHeartbeats 4000000 in
set_option maxRecDepth 100000 in
theorem met_calls (cd ca cy : Array Value) (hd : Elf cd) (ha : Elf ca) (hy : Elf cy) (vf vb : Value) (hf : vf.oneCell' = true) (s : Int) (hs : cy[3]? = some (.int .i64 s)) (p : Bool) (B : Nat) (P : Nat → Prop) (l : List Int) (w : World)
  (hR : Kd.R (Kd.int .i64) 3 w B P vb l) (hl : l.length < 17592186044416) (hB : B ≤ w.heap.size) :
  Calls Tryd.prog 47 #[.agg (tf cd ca vf vb), .agg cy, .bool p] w fun e w' => ∃ v : Value, e = .returned (.agg (tf cd cy vf v)) ∧ Kd.R (Kd.int .i64) 3 w' B (fun k => P k ∨ w.heap.size ≤ k) v (if p = true ∧ s = 3 then l ++ [3] else l) ∧ Mv P w w' := by
 have HD := Aside0.mk hd
 have HA := Aside0.mk ha
 have HY := Aside0.mk hy
 have HF := Aside0.mk hf
 have HR := Aside0.mk hR
 have HL := Aside0.mk hl
 have HBB := Aside0.mk hB
 have HS := Aside0.mk hs
 clear hd ha hy hf hR hl hB hs
 have hu40 := Tryd.underlying40
 have hu27 := Tryd.underlying27
 by_cases hc : p = true ∧ s = 3
 ·
  obtain ⟨rfl, rfl⟩ := hc
  go_enter Tryd.func47, Tryd.ntmps47
  go_wp2_with (first
   | ((with_reducible refine gate_dst (N := 3) rfl ?_); refine box_event rfl (N := 3) rfl (cs := tf cd ca vf vb) (t := 40) ?hr ?_; (case hr => first | (go_simp; done) | (go_simp; rfl)); intro g hg w1 h1 b1; have G1 := Aside0.mk (And.intro hg (And.intro h1 b1)); clear hg h1 b1)
   | ((with_reducible refine gate_dst (N := 4) rfl ?_); refine box_event rfl (N := 4) rfl (cs := cy) (t := 27) ?hr ?_; (case hr => first | (go_simp; done) | (go_simp; rfl)); intro g2 hg w2 h1 b1; have G2 := Aside0.mk (And.intro hg (And.intro h1 b1)); clear hg h1 b1)
   | ((with_reducible refine gate_dst (N := 6) rfl ?_); refine box_event rfl (N := 6) rfl (cs := zero24) (t := 40) ?hr ?_; (case hr => first | (go_simp; done) | (go_simp; rfl)); intro gr hg w3 h1 b1; obtain ⟨lo, at2, ne2⟩ := Lo.start3 G1.out G2.out ⟨hg, h1, b1⟩ (zero24_size.trans (tf_size HD.out HA.out).symm) (fun _ => False); have L := Aside0.mk lo; have A2 := Aside0.mk at2; have N2 := Aside0.mk ne2; clear hg h1 b1 lo at2 ne2 G1 G2)
   | ((with_reducible refine gate_dst (N := 7) rfl ?_); refine ev_load rfl (N := 7) rfl rfl (q := .pointer (some ⟨g2, 0, none⟩)) rfl (load_whole A2.out HY.out) ?_)
   | ((with_reducible refine gate_store (t := 27) (p := 8) rfl ?_); refine ev_store rfl (ty := 27) (p := 8) rfl rfl (q := .pointer (some ⟨g, 11, none⟩)) (v := .agg cy) rfl rfl (store_arr L.out.at1 HD.out HA.out HY.out) ?_; intro w4 hF; have L4 := Aside0.mk (L.out.same hF.1 ((tf_size HD.out HY.out).trans (tf_size HD.out HA.out).symm) hF.2); have A4 := Aside0.mk ((hF.2.block _ N2.out).trans A2.out); have hc3 : w4.cell? ⟨g2, 3, none⟩ = some (.int .i64 3) := (cell_of_row w4 g2 3 cy 27 (0, 0) A4.out).trans HS.out; have hc23 := cell_b L4.out.at1 HD.out HY.out; clear hF L A2)
   | ((with_reducible refine gate_builtin (b := .append) (xs := #[.tmp 16, .tmp 17]) rfl ?_); at_builtin; refine Kd.R_append (Kd.int .i64) (w0 := w) B rfl (.tmp 16) (.tmp 17) 25 3 (.int .i64 0) 8 rfl Tryd.underlying25 info3 rfl (by decide) (by omega) vb l 3 [.int .i64 3] (fun k => P k ∨ w.heap.size ≤ k) (fun _ => False) rfl ?hx rfl (fun _ hk => hk.elim) ?aF (R_old HR.out L4.out.mv0 (fun _ _ hk => hk)) (L4.out.mv0.below HBB.out (fun _ hk => hk.elim)) (Nat.le_trans HBB.out L4.out.kept.1) ?aL ?_; (case hx => first | (go_simp; done) | (go_simp; rfl)); (case aF => exact fun k hk => .inr (Nat.le_trans L4.out.kept.1 hk)); (case aL => have := HL.out; omega); intro v1 w5 ho hb hg hat; have L5 := Aside0.mk (L4.out.app (fun _ hk => hk.elim) HR.out hg); have O5 := Aside0.mk ho; clear ho hb hg hat L4 hc23 hc3)
   | ((with_reducible refine gate_store (t := 25) (p := 19) rfl ?_); refine ev_store rfl (ty := 25) (p := 19) rfl rfl (q := .pointer (some ⟨g, 23, none⟩)) (v := v1) rfl rfl (store_b L5.out.at1 HD.out HY.out (R_one O5.out)) ?_; intro w6 hF; have L6 := Aside0.mk (L5.out.same hF.1 ((tf_size HD.out HY.out).trans (tf_size HD.out HY.out).symm) hF.2); have O6 := Aside0.mk (R_same O5.out L5.out.at1 (by decide) hF.2); clear hF L5 O5)
   | ((with_reducible refine gate_dst (N := 20) rfl ?_); refine ev_load rfl (N := 20) rfl rfl (q := .pointer (some ⟨g, 0, none⟩)) rfl (load_all L6.out.at1 HD.out HY.out) ?_)
   | ((with_reducible refine gate_store (t := 40) (p := 6) rfl ?_); refine ev_store rfl (ty := 40) (p := 6) rfl rfl (q := .pointer (some ⟨gr, 0, none⟩)) (v := .agg (tf cd cy vf v1)) rfl rfl (store_res L6.out HD.out HY.out HF.out (R_one O6.out)) ?_; intro w7 hF; have A7 := Aside0.mk hF.1; have M7 := Aside0.mk (L6.out.done hF.2); have O7 := Aside0.mk (R_same O6.out (L6.out.at2.choose_spec.2) (by decide) hF.2); clear hF L6 O6))
  refine bodyPost_ret (results_cell_row rfl _ _ gr 40 (tf cd cy vf v1) (0, 0) _ rfl A7.out Tryd.underlying40 rfl (by rw [tf_size HD.out HY.out]; kernel_rfl)) rfl ?_
  exact ⟨v1, rfl, O7.out, M7.out⟩
 ·
  rw [if_neg hc]
  cases p with
  | true =>
   have hs3 : (s == 3) = false := beq_eq_false_iff_ne.mpr (fun e => hc ⟨rfl, e⟩)
   clear hc
   go_enter Tryd.func47, Tryd.ntmps47
   go_wp2_with (first
    | ((with_reducible refine gate_dst (N := 3) rfl ?_); refine box_event rfl (N := 3) rfl (cs := tf cd ca vf vb) (t := 40) ?hr ?_; (case hr => first | (go_simp; done) | (go_simp; rfl)); intro g hg w1 h1 b1; have G1 := Aside0.mk (And.intro hg (And.intro h1 b1)); clear hg h1 b1)
    | ((with_reducible refine gate_dst (N := 4) rfl ?_); refine box_event rfl (N := 4) rfl (cs := cy) (t := 27) ?hr ?_; (case hr => first | (go_simp; done) | (go_simp; rfl)); intro g2 hg w2 h1 b1; have G2 := Aside0.mk (And.intro hg (And.intro h1 b1)); clear hg h1 b1)
    | ((with_reducible refine gate_dst (N := 6) rfl ?_); refine box_event rfl (N := 6) rfl (cs := zero24) (t := 40) ?hr ?_; (case hr => first | (go_simp; done) | (go_simp; rfl)); intro gr hg w3 h1 b1; obtain ⟨lo, at2, ne2⟩ := Lo.start3 G1.out G2.out ⟨hg, h1, b1⟩ (zero24_size.trans (tf_size HD.out HA.out).symm) (fun _ => False); have L := Aside0.mk lo; have A2 := Aside0.mk at2; have N2 := Aside0.mk ne2; clear hg h1 b1 lo at2 ne2 G1 G2)
    | ((with_reducible refine gate_dst (N := 7) rfl ?_); refine ev_load rfl (N := 7) rfl rfl (q := .pointer (some ⟨g2, 0, none⟩)) rfl (load_whole A2.out HY.out) ?_)
    | ((with_reducible refine gate_store (t := 27) (p := 8) rfl ?_); refine ev_store rfl (ty := 27) (p := 8) rfl rfl (q := .pointer (some ⟨g, 11, none⟩)) (v := .agg cy) rfl rfl (store_arr L.out.at1 HD.out HA.out HY.out) ?_; intro w4 hF; have L4 := Aside0.mk (L.out.same hF.1 ((tf_size HD.out HY.out).trans (tf_size HD.out HA.out).symm) hF.2); have A4 := Aside0.mk ((hF.2.block _ N2.out).trans A2.out); have hc3 : w4.cell? ⟨g2, 3, none⟩ = some (.int .i64 s) := (cell_of_row w4 g2 3 cy 27 (0, 0) A4.out).trans HS.out; clear hF L A2)
    | ((with_reducible refine gate_dst (N := 20) rfl ?_); refine ev_load rfl (N := 20) rfl rfl (q := .pointer (some ⟨g, 0, none⟩)) rfl (load_all L4.out.at1 HD.out HY.out) ?_)
    | ((with_reducible refine gate_store (t := 40) (p := 6) rfl ?_); refine ev_store rfl (ty := 40) (p := 6) rfl rfl (q := .pointer (some ⟨gr, 0, none⟩)) (v := .agg (tf cd cy vf vb)) rfl rfl (store_res L4.out HD.out HY.out HF.out (R_one HR.out)) ?_; intro w7 hF; have A7 := Aside0.mk hF.1; have M7 := Aside0.mk (L4.out.done hF.2); clear hF L4 hc3))
   refine bodyPost_ret (results_cell_row rfl _ _ gr 40 (tf cd cy vf vb) (0, 0) _ rfl A7.out Tryd.underlying40 rfl (by rw [tf_size HD.out HY.out]; kernel_rfl)) rfl ?_
   exact ⟨vb, rfl, R_old HR.out M7.out (fun _ _ hk => hk), ⟨M7.out.os, M7.out.tape, M7.out.output, M7.out.kept.mono (fun _ hk => hk.elim)⟩⟩
  | false =>
   clear hc
   go_enter Tryd.func47, Tryd.ntmps47
   go_wp2_with (first
    | ((with_reducible refine gate_dst (N := 3) rfl ?_); refine box_event rfl (N := 3) rfl (cs := tf cd ca vf vb) (t := 40) ?hr ?_; (case hr => first | (go_simp; done) | (go_simp; rfl)); intro g hg w1 h1 b1; have G1 := Aside0.mk (And.intro hg (And.intro h1 b1)); clear hg h1 b1)
    | ((with_reducible refine gate_dst (N := 4) rfl ?_); refine box_event rfl (N := 4) rfl (cs := cy) (t := 27) ?hr ?_; (case hr => first | (go_simp; done) | (go_simp; rfl)); intro g2 hg w2 h1 b1; have G2 := Aside0.mk (And.intro hg (And.intro h1 b1)); clear hg h1 b1)
    | ((with_reducible refine gate_dst (N := 6) rfl ?_); refine box_event rfl (N := 6) rfl (cs := zero24) (t := 40) ?hr ?_; (case hr => first | (go_simp; done) | (go_simp; rfl)); intro gr hg w3 h1 b1; obtain ⟨lo, at2, ne2⟩ := Lo.start3 G1.out G2.out ⟨hg, h1, b1⟩ (zero24_size.trans (tf_size HD.out HA.out).symm) (fun _ => False); have L := Aside0.mk lo; have A2 := Aside0.mk at2; have N2 := Aside0.mk ne2; clear hg h1 b1 lo at2 ne2 G1 G2)
    | ((with_reducible refine gate_dst (N := 7) rfl ?_); refine ev_load rfl (N := 7) rfl rfl (q := .pointer (some ⟨g2, 0, none⟩)) rfl (load_whole A2.out HY.out) ?_)
    | ((with_reducible refine gate_store (t := 27) (p := 8) rfl ?_); refine ev_store rfl (ty := 27) (p := 8) rfl rfl (q := .pointer (some ⟨g, 11, none⟩)) (v := .agg cy) rfl rfl (store_arr L.out.at1 HD.out HA.out HY.out) ?_; intro w4 hF; have L4 := Aside0.mk (L.out.same hF.1 ((tf_size HD.out HY.out).trans (tf_size HD.out HA.out).symm) hF.2); have A4 := Aside0.mk ((hF.2.block _ N2.out).trans A2.out); have hc3 : w4.cell? ⟨g2, 3, none⟩ = some (.int .i64 s) := (cell_of_row w4 g2 3 cy 27 (0, 0) A4.out).trans HS.out; clear hF L A2)
    | ((with_reducible refine gate_dst (N := 20) rfl ?_); refine ev_load rfl (N := 20) rfl rfl (q := .pointer (some ⟨g, 0, none⟩)) rfl (load_all L4.out.at1 HD.out HY.out) ?_)
    | ((with_reducible refine gate_store (t := 40) (p := 6) rfl ?_); refine ev_store rfl (ty := 40) (p := 6) rfl rfl (q := .pointer (some ⟨gr, 0, none⟩)) (v := .agg (tf cd cy vf vb)) rfl rfl (store_res L4.out HD.out HY.out HF.out (R_one HR.out)) ?_; intro w7 hF; have A7 := Aside0.mk hF.1; have M7 := Aside0.mk (L4.out.done hF.2); clear hF L4 hc3))
   refine bodyPost_ret (results_cell_row rfl _ _ gr 40 (tf cd cy vf vb) (0, 0) _ rfl A7.out Tryd.underlying40 rfl (by rw [tf_size HD.out HY.out]; kernel_rfl)) rfl ?_
   exact ⟨vb, rfl, R_old HR.out M7.out (fun _ _ hk => hk), ⟨M7.out.os, M7.out.tape, M7.out.output, M7.out.kept.mono (fun _ hk => hk.elim)⟩⟩
end Go.Proofs.YtbndoihcejieoaaDoor.G
namespace Go.Proofs.YtbndoihcejieoaaDoor.G
open Go.RowKit Go.Proofs.YtbndoihcejieoaaDoorW.PrintWords Go.Proofs.YtbndoihcejieoaaDoorW.PrintLast Go.Proofs.YtbndoihcejieoaaDoorW.PrintMore
set_option linter.unusedVariables false
set_option linter.unusedSimpArgs false

theorem exec_load {P : Program} {o : Oper} {a : Act} {W : World} {ty : TypeId} {x : Operand} (ho : o.op = .load ty x) {q v : Value} (hx : a.eval x = q) (hr : (Instr.loadAt ty q).run P W = .ok v W) : (execOp a.eval o).run P W = .ok (.value v) W := by
 unfold execOp
 simp only [ho, hx, hr, Sem.run_bind, Sem.run_pure, Result.andThen_ok]
theorem exec_store {P : Program} {o : Oper} {a : Act} {W W1 : World} {ty : TypeId} {x y : Operand} (ho : o.op = .store ty x y) {q v : Value} (hx : a.eval x = q) (hy : a.eval y = v) (hr : (Instr.storeAt ty q v).run P W = .ok () W1) : (execOp a.eval o).run P W = .ok .skip W1 := by
 unfold execOp
 simp only [ho, hx, hy, hr, Sem.run_bind, Sem.run_pure, Result.andThen_ok]
theorem load_lot {W : World} {g : Nat} {T : Array Value} (h : W.heap[g]? = some (.cells T 24 (0, 0))) (hT : T.size = 5) : (Instr.loadAt 24 (.pointer (some ⟨g, 0, none⟩))).run Tryd.prog W = .ok (.agg T) W := by
 have := run_loadAt_mid (P := Tryd.prog) W g 0 24 T.toList _ (fun j v hv => by rw [Nat.zero_add, cell_of_row W g j T 24 (0, 0) h]; simpa using hv) Tryd.underlying24 rfl (by rw [Array.length_toList, hT]; kernel_rfl)
 simpa using this
/-- A lot into an arrival. -/
theorem store_lot {W : World} {g : Nat} (b0 b1 b2 b3 b4 : Int) (b5 : ByteArray) (b6 b7 : Int) (v8 v9 v10 : Value) (c4 : Int) (c5 : ByteArray) (c6 c7 : Int) {c8 : Value} (h8 : c8.oneCell' = true)
  (h : W.heap[g]? = some (.cells #[.int .i64 b0, .int .i64 b1, .int .i64 b2, .int .i64 b3, .int .i64 b4, .string b5, .int .i64 b6, .int .i64 b7, v8, v9, v10] 27 (0, 0))) :
  ∃ W1, (Instr.storeAt 24 (.pointer (some ⟨g, 4, none⟩)) (.agg #[.int .i64 c4, .string c5, .int .i64 c6, .int .i64 c7, c8])).run Tryd.prog W = .ok () W1 ∧ W1.heap[g]? = some (.cells #[.int .i64 b0, .int .i64 b1, .int .i64 b2, .int .i64 b3, .int .i64 c4, .string c5, .int .i64 c6, .int .i64 c7, c8, v9, v10] 27 (0, 0)) ∧ Same g W W1 :=
 store_gen h 4 24 _ (by show 4 + 5 ≤ 11; omega) (by kernel_rfl) (by
  refine Array.all_eq_true_iff_forall_mem.2 (fun x hx => ?_)
  simp only [List.mem_toArray, List.mem_cons, List.not_mem_nil, or_false] at hx
  rcases hx with rfl | rfl | rfl | rfl | rfl <;> first | rfl | assumption) _ rfl

section
variable {P : Program} {ops : Array Oper} {Q : Exit → Act → World → Prop} {S : World → Prop} {ds : List Nat} {md : Region.Mode}
/-- The last store of a region that draws, in one step. -/
theorem last_store {i : Nat} {oi : Oper} {fuel : Nat} {l : Array Bool} {a : Act} {w w1 : World} (l' : Array Bool) (hi : ops[i]? = some oi) (hN : oi.dst = none) (hc : readyB md ops l l' i = true) (hd : i ∈ ds)
  (hw : Region.wanted oi (yielded ops a.tmps) = true) (hrun : (execOp a.eval oi).run P w = .ok .skip w1) (h : wpAnyLast P md ops Q S ds fuel l' a w1) : wpAnyLast P md ops Q S ds (fuel + 1) l a w :=
 last_ l' hi hN hc hd (fun K hK => skip_ hw hN hrun (hK.out _ _ h))
end
/-- A body on an arrival (block g), beside a lot (block g2), its result (block gr); w3: the last call. -/
structure St (w w3 W : World) (g gr g2 : Nat) (T LOT : Array Value) : Prop where
 lo : Lo 27 w (fun _ => False) W g gr T
 lot : W.heap[g2]? = some (.cells LOT 24 (0, 0))
 n1 : g2 ≠ g
 n2 : g2 ≠ gr
 mv : Mv (fun k => k = g ∨ k = gr) w3 W
section
variable {w w3 W W1 : World} {g gr g2 : Nat} {T T' LOT : Array Value}
theorem Mv.refl (P : Nat → Prop) (w : World) : Mv P w w := ⟨rfl, rfl, rfl, Kept.refl _ _⟩
theorem Mv.same (S : Nat → Prop) (hS : S g) (k : Same g W W1) : Mv S W W1 := ⟨k.os, k.tape, k.output, by rw [k.size]; exact Nat.le_refl _, fun i _ hn => k.block i (fun e => hn (e ▸ hS))⟩
theorem St.start {w1 w2 : World} {z : Array Value} (h1 : g = w.heap.size ∧ w1.heap[g]? = some (.cells T 27 (0, 0)) ∧ Below w.heap.size w w1) (h2 : g2 = w1.heap.size ∧ w2.heap[g2]? = some (.cells LOT 24 (0, 0)) ∧ Below w1.heap.size w1 w2) (h3 : gr = w2.heap.size ∧ W.heap[gr]? = some (.cells z 27 (0, 0)) ∧ Below w2.heap.size w2 W) (hz : z.size = T.size) : St w W W g gr g2 T LOT :=
 ⟨Lo.start (w1 := w2) h1.1 (blk_below h1.2.1 h2.2.2) (h1.2.2.trans (h2.2.2.mono h1.2.2.size)) h3.1 h3.2.1 hz h3.2.2 _, blk_below h2.2.1 h3.2.2, by have := blk_lt h1.2.1; omega, by have := blk_lt h2.2.1; omega, Mv.refl _ _⟩
theorem St.same (h : St w w3 W g gr g2 T LOT) (hW : W1.heap[g]? = some (.cells T' 27 (0, 0))) (hs : T'.size = T.size) (k : Same g W W1) : St w w3 W1 g gr g2 T' LOT :=
 ⟨h.lo.same hW hs k, (k.block _ h.n1).trans h.lot, h.n1, h.n2, h.mv.then_ (Mv.same _ (.inl rfl) k) (fun _ hk => .inl hk)⟩
theorem St.call (h : St w w3 W g gr g2 T LOT) (k : Below W.heap.size W W1) : St w W1 W1 g gr g2 T LOT := ⟨h.lo.below k, blk_below h.lot k, h.n1, h.n2, Mv.refl _ _⟩
theorem St.draw (h : St w w3 W g gr g2 T LOT) : St w w3 W.drew g gr g2 T LOT :=
 have b : Below W.heap.size W W.drew := (Below.refl _ _).drew
 ⟨h.lo.below b, blk_below h.lot b, h.n1, h.n2, h.mv.then_ (Mv.of_below b _) (fun _ hk => .inl hk)⟩
theorem St.below (h : St w w3 W g gr g2 T LOT) : Below w.heap.size w W := h.lo.mv0.below (Nat.le_refl _) (fun _ hk => hk.elim)
/-- A row made by a call at a time when both blocks lay. -/
theorem R_past {α : Type} {d : Kd α} {e B : Nat} {Q : Nat → Prop} {v : Value} {l : List α} {Tg Tr : Array Value} (ht : ∀ q, q ∈ e :: d.E → q ≠ 27) (h : d.R e w3 B Q v l) (h1 : w3.heap[g]? = some (.cells Tg 27 (0, 0))) (h2 : w3.heap[gr]? = some (.cells Tr 27 (0, 0))) (k : Mv (fun k => k = g ∨ k = gr) w3 W) : d.R e W B Q v l :=
 Kd.R_mono (Kd.R_step (Kd.R_types (Kd.R_types h h1 ht) h2 ht) (fun i hi hlt => k.kept.2 i hlt (fun e => e.elim hi.1.2 hi.2))) (fun _ hk => hk.1.1)
end
end Go.Proofs.YtbndoihcejieoaaDoor.G
namespace Go.Proofs.YtbndoihcejieoaaDoor.G
open Go.RowKit Go.Proofs.YtbndoihcejieoaaDoorW.PrintWords Go.Proofs.YtbndoihcejieoaaDoorW.PrintLast Go.Proofs.YtbndoihcejieoaaDoorW.PrintMore
attribute [local go_sem] max2_int min2_int max_two min_two max_three min_three max_four min_four   -- for this text's walks alone
set_option linter.unusedVariables false
set_option linter.unusedSimpArgs false

def api_Slice.f (l0 : List S89) : Option (List S89) := if l0.length < 5864062014806 then some l0 else none
set_option maxHeartbeats 8000000 in
set_option maxRecDepth 100000 in
theorem api_Slice.calls (A0 : Option Addr) (c0 : Nat) (l0 : List S89) (r : List S89) (w : World) (hr0 : Kd.C k89 w A0 l0.length l0) (hc0 : l0.length ≤ c0) (h : api_Slice.f l0 = some r) :
  Calls Tryd.prog 63 #[.slice A0 l0.length c0] w fun e w' => ∃ v0_ : Value, e = .returned (v0_) ∧ Kd.R k89 89 w' w.heap.size (fun _ => True) v0_ r ∧ Below w.heap.size w w' := by
 obtain ⟨hl, rfl⟩ : l0.length < 5864062014806 ∧ l0 = r := by
  unfold api_Slice.f at h
  by_cases c : l0.length < 5864062014806
  ·
   rw [if_pos c] at h
   exact ⟨c, Option.some.inj h⟩
  ·
   rw [if_neg c] at h
   cases h
 clear h
 rcases A0 with _ | ad
 ·
  have h0 : l0 = [] := by
   rcases Nat.eq_zero_or_pos l0.length with q | q
   ·
    exact List.eq_nil_of_length_eq_zero q
   ·
    obtain ⟨ad, e, _⟩ := hr0.2.2 q
    cases e
  subst h0
  clear hr0 hc0 hl
  have hq : ∀ W : World, (binOp .eql 22 (.slice none 0 c0) (.slice none 0 0)).run Tryd.prog W = .ok (.bool true) W := fun W => by
   simp only [binOp]
   simp [run_equal_slice_nil W 22 89 none 0 c0 Tryd.underlying22]
  go_enter Tryd.func63, Tryd.ntmps63
  go_wp2
  go_ret
  exact ⟨_, rfl, Kd.R_nil _ _ _ _ _, by repeat (first | exact Below.refl _ _ | apply pw_below_drewN | apply below_drew1)⟩
 ·
  have HR := Aside0.mk hr0
  have HL := Aside0.mk hl
  clear hr0 hc0 hl
  have hq : ∀ W : World, (binOp .eql 22 (.slice (some ad) l0.length c0) (.slice none 0 0)).run Tryd.prog W = .ok (.bool false) W := fun W => by
   simp only [binOp]
   simp [run_equal_slice_nil W 22 89 (some ad) l0.length c0 Tryd.underlying22]
  go_enter Tryd.func63, Tryd.ntmps63
  go_wp2_with (first | ((with_reducible refine gate_dst (N := 5) rfl ?_); refine Kd.R_lit k89 (w0 := w) w.heap.size 89 ?hg (N := 5) ?hd (xs := ([] : List S89)) (inner := []) (ok := fun _ => True) (okp := fun _ => True) ?hr ?hp (fun _ hk => hk) trivial ?hb ?hs (by simp) ?_; (case hd => rfl); (case hg => rfl); (case hr => first | (go_simp; done) | (go_simp; rfl)); (case hp => exact (Reps.none _ _)); (case hb => repeat (first | exact Below.refl _ _ | apply pw_below_drewN | apply below_drew1)); (case hs => exact below_size (by repeat (first | exact Below.refl _ _ | apply pw_below_drewN | apply below_drew1))); intro v5 w1 ho hb hg_ hnew_; have HO := Aside0.mk ho; have HB := Aside0.mk hb; clear hg_ hnew_ ho hb) | ((with_reducible refine gate_builtin (b := .append) (xs := #[.tmp 5, .tmp 6]) rfl ?_); at_builtin; refine Kd.R_append_rows k89 (w0 := w) w.heap.size rfl (.tmp 5) (.tmp 6) 22 89 (.agg #[(.int .i64 0), (.int .i64 0), (.int .i64 0)]) 24 rfl Tryd.underlying22 info89 rfl (by decide) (by omega) v5 ([] : List S89) l0 (some ad) _ _ (fun _ => True) (fun _ => False) rfl rfl ?aO ?aR (fun _ _ h => h) (fun _ h => h.elim) (fun _ _ => trivial) ?aB ?aS ?aL ?_; (case aO => exact HO.out); (case aR => exact Kd.C_below HR.out HB.out); (case aB => exact HB.out); (case aS => exact HB.out.size); (case aL => have := HL.out; simp only [List.length_nil]; omega); intro v7 w2 ho hb hg hat; have HO7 := Aside0.mk (show Kd.R k89 89 w2 w.heap.size (fun _ => True) v7 l0 from ho); have HB7 := Aside0.mk hb; clear ho hb hg hat))
  go_ret
  exact ⟨_, rfl, HO7.out, HB7.out⟩

def transit_twin.f (a0_0 : Int) (a0_1 : ByteArray) (a0_2 : Int) (a0_3 : Int) (l0_4 : List (S89)) : Option (Int × ByteArray × Int × Int × (List (S89))) := (api_Slice.f l0_4).bind fun t103 => (some (a0_0, a0_1, a0_2, a0_3, t103))
set_option maxHeartbeats 8000000 in
set_option maxRecDepth 100000 in
theorem transit_twin.calls (a0_0 : Int) (a0_1 : ByteArray) (a0_2 : Int) (a0_3 : Int) (A0_4 : Option Addr) (c0_4 : Nat) (l0_4 : List (S89)) (r1 : Int) (r2 : ByteArray) (r3 : Int) (r4 : Int) (r5 : List (S89)) (w : World) (hr0_4 : Kd.C k89 w A0_4 l0_4.length l0_4) (hc0_4 : l0_4.length ≤ c0_4) (h : transit_twin.f a0_0 a0_1 a0_2 a0_3 l0_4 = some (r1, r2, r3, r4, r5)) :
  Calls Tryd.prog 42 #[.agg #[.int .i64 a0_0, .string a0_1, .int .i64 a0_2, .int .i64 a0_3, .slice A0_4 l0_4.length c0_4]] w fun e w' => ∃ v4_ : Value, e = .returned (.agg #[.int .i64 r1, .string r2, .int .i64 r3, .int .i64 r4, v4_]) ∧ Kd.R k89 89 w' w.heap.size (fun _ => True) v4_ r5 ∧ Below w.heap.size w w' := by
 have hu24 := Tryd.underlying24
 have HR0_4 := Aside0.mk hr0_4
 have HC0_4 := Aside0.mk hc0_4
 clear hr0_4 hc0_4
 have HB := Aside0.mk (Below.refl w.heap.size w)
 have H : ((api_Slice.f l0_4).bind fun t103 => (some (a0_0, a0_1, a0_2, a0_3, t103))) = some (r1, r2, r3, r4, r5) := h
 clear h
 replace H := Option.bind_eq_some_iff.mp H
 obtain ⟨t103, A20, H⟩ := H
 replace H : (some (a0_0, a0_1, a0_2, a0_3, t103)) = some (r1, r2, r3, r4, r5) := H
 have A2 := Aside0.mk A20
 clear A20
 simp only [Option.some.injEq, Prod.mk.injEq] at H
 obtain ⟨rfl, rfl, rfl, rfl, rfl⟩ := H
 go_enter Tryd.func42, Tryd.ntmps42
 go_wp2_with (first | ((with_reducible refine gate_dst (N := 1) rfl ?_); refine box_event ?hg (N := 1) ?hd (cs := #[.int .i64 a0_0, .string a0_1, .int .i64 a0_2, .int .i64 a0_3, .slice A0_4 l0_4.length c0_4]) (t := 24) ?hr ?_; (case hd => rfl); (case hg => rfl); (case hr => first | (go_simp; done) | (go_simp; rfl)); intro gb101 hg w3 hbox hb; have n0_ := Aside0.mk (below_step (by repeat (first | (with_reducible first | exact HB.out | apply below_alloc | apply pw_below_drewN | apply below_drew1) | exact HB.out)) hb); have n1_ := Aside0.mk (hbox); have n2_ := Aside0.mk ((by rw [hg]; exact (below_size (by repeat (first | (with_reducible first | exact HB.out | apply below_alloc | apply pw_below_drewN | apply below_drew1) | exact HB.out))) : w.heap.size ≤ gb101)); have n3_ := Aside0.mk ((by rw [hg]; exact (below_size (by repeat (first | (with_reducible first | exact HB.out | apply below_alloc | apply pw_below_drewN | apply below_drew1) | exact HB.out))) : w.heap.size ≤ gb101)); clear HB; have HB := n0_; have BK101 := n1_; have GW101 := n2_; have GE101 := n3_; clear n0_ n1_ n2_ n3_; clear hb hbox hg) | ((with_reducible refine gate_dst (N := 2) rfl ?_); refine box_event ?hg (N := 2) ?hd (cs := #[.int .i64 0, .string (⟨#[]⟩ : ByteArray), .int .i64 0, .int .i64 0, .slice none 0 0]) (t := 24) ?hr ?_; (case hd => rfl); (case hg => rfl); (case hr => first | (go_simp; done) | (go_simp; rfl)); intro gb102 hg w4 hbox hb; have n0_ := Aside0.mk (blk_below (g := gb101) (o := .cells #[.int .i64 a0_0, .string a0_1, .int .i64 a0_2, .int .i64 a0_3, .slice A0_4 l0_4.length c0_4] 24 (0, 0)) (by (with_reducible repeat (first | refine blk_drewN ?_ _ | refine blk_drew ?_ | refine blk_alloc ?_ _)); exact BK101.out) hb); have n1_ := Aside0.mk (below_step (by repeat (first | (with_reducible first | exact HB.out | apply below_alloc | apply pw_below_drewN | apply below_drew1 | refine below_set ?_ GE101.out) | exact HB.out)) hb); have n2_ := Aside0.mk (hbox); have n3_ := Aside0.mk ((by rw [hg]; exact (below_size (by repeat (first | (with_reducible first | exact HB.out | apply below_alloc | apply pw_below_drewN | apply below_drew1 | refine below_set ?_ GE101.out) | exact HB.out))) : w.heap.size ≤ gb102)); have n4_ := Aside0.mk ((by rw [hg]; exact (below_size (by repeat (first | (with_reducible first | exact HB.out | apply below_alloc | apply pw_below_drewN | apply below_drew1 | refine below_set ?_ GE101.out) | exact HB.out))) : w.heap.size ≤ gb102)); have n5_ := Aside0.mk ((by rw [hg]; exact Nat.ne_of_lt (blk_lt (g := gb101) (o := .cells #[.int .i64 a0_0, .string a0_1, .int .i64 a0_2, .int .i64 a0_3, .slice A0_4 l0_4.length c0_4] 24 (0, 0)) (by (with_reducible repeat (first | refine blk_drewN ?_ _ | refine blk_drew ?_ | refine blk_alloc ?_ _)); exact BK101.out)) : gb101 ≠ gb102)); have n6_ := Aside0.mk ((by rw [hg]; exact Nat.ne_of_gt (blk_lt (g := gb101) (o := .cells #[.int .i64 a0_0, .string a0_1, .int .i64 a0_2, .int .i64 a0_3, .slice A0_4 l0_4.length c0_4] 24 (0, 0)) (by (with_reducible repeat (first | refine blk_drewN ?_ _ | refine blk_drew ?_ | refine blk_alloc ?_ _)); exact BK101.out)) : gb102 ≠ gb101)); clear BK101; clear HB; have BK101 := n0_; have HB := n1_; have BK102 := n2_; have GW102 := n3_; have GE102 := n4_; have NB101_102 := n5_; have NB102_101 := n6_; clear n0_ n1_ n2_ n3_ n4_ n5_ n6_; clear hb hbox hg; have hnb5 := NB101_102.out; have hnc5 := NB102_101.out; have hcz6_0 : w4.cell? ⟨gb101, 0, none⟩ = some (.int .i64 a0_0) := (blk_cell BK101.out 0).trans rfl; have hcz6_1 : w4.cell? ⟨gb101, 1, none⟩ = some (.string a0_1) := (blk_cell BK101.out 1).trans rfl; have hcz6_2 : w4.cell? ⟨gb101, 2, none⟩ = some (.int .i64 a0_2) := (blk_cell BK101.out 2).trans rfl; have hcz6_3 : w4.cell? ⟨gb101, 3, none⟩ = some (.int .i64 a0_3) := (blk_cell BK101.out 3).trans rfl; have hcz6_4 : w4.cell? ⟨gb101, 4, none⟩ = some (.slice A0_4 l0_4.length c0_4) := (blk_cell BK101.out 4).trans rfl; have hfz6_0 := blk_frozen BK101.out 0; have hfz6_1 := blk_frozen BK101.out 1; have hfz6_2 := blk_frozen BK101.out 2; have hfz6_3 := blk_frozen BK101.out 3; have hfz6_4 := blk_frozen BK101.out 4; (try (have hpz6_1 : ∀ v0_ v1_ : Value, ((w4.setCell ⟨gb101, 0, none⟩ v0_).setCell ⟨gb101, 1, none⟩ v1_).cell? ⟨gb101, 1, none⟩ = some v1_ := by (intros; go_simp))); (try (have hpz6_2 : ∀ v0_ v1_ v2_ : Value, (((w4.setCell ⟨gb101, 0, none⟩ v0_).setCell ⟨gb101, 1, none⟩ v1_).setCell ⟨gb101, 2, none⟩ v2_).cell? ⟨gb101, 2, none⟩ = some v2_ := by (intros; go_simp))); (try (have hpz6_3 : ∀ v0_ v1_ v2_ v3_ : Value, ((((w4.setCell ⟨gb101, 0, none⟩ v0_).setCell ⟨gb101, 1, none⟩ v1_).setCell ⟨gb101, 2, none⟩ v2_).setCell ⟨gb101, 3, none⟩ v3_).cell? ⟨gb101, 3, none⟩ = some v3_ := by (intros; go_simp))); (try (have hpz6_4 : ∀ v0_ v1_ v2_ v3_ v4_ : Value, (((((w4.setCell ⟨gb101, 0, none⟩ v0_).setCell ⟨gb101, 1, none⟩ v1_).setCell ⟨gb101, 2, none⟩ v2_).setCell ⟨gb101, 3, none⟩ v3_).setCell ⟨gb101, 4, none⟩ v4_).cell? ⟨gb101, 4, none⟩ = some v4_ := by (intros; go_simp)))) | ((with_reducible refine gate_callee (f := 63) rfl ?_); refine goesL_ (some 5) rfl rfl Tryd.func63 (by kernel_rfl) rfl #[.slice A0_4 l0_4.length c0_4] rfl (by (try simp only [List.map_toArray, List.map_cons, List.map_nil]); first | done | rfl | (simp only [List.length_drop, List.length_take]; rfl)) ?_; (with_reducible refine (api_Slice.calls _ _ l0_4 t103 _ ?side1 ?side2 A2.out).mono ?_); (case side1 => repeat (first | exact (Kd.C_below HR0_4.out HB.out) | (with_reducible refine Kd.C_alloc ?_ _) | (with_reducible refine Kd.C_drewN ?_ _) | (with_reducible refine Kd.C_drew ?_))); (case side2 => exact HC0_4.out); rintro e w7 ⟨v104, rfl, ho0, hb⟩; refine ⟨_, rfl, ?_⟩; have n0_ := Aside0.mk (Kd.R_lower ho0 (below_size (by repeat (first | (with_reducible first | exact HB.out | apply below_alloc | apply pw_below_drewN | apply below_drew1 | refine below_set ?_ GE101.out | refine below_set ?_ GE102.out) | exact HB.out)))); have n1_ := Aside0.mk (blk_below (g := gb101) (o := .cells #[.int .i64 a0_0, .string a0_1, .int .i64 a0_2, .int .i64 a0_3, .slice A0_4 l0_4.length c0_4] 24 (0, 0)) (by (with_reducible repeat (first | refine blk_drewN ?_ _ | refine blk_drew ?_ | refine blk_alloc ?_ _)); exact BK101.out) hb); have n2_ := Aside0.mk (blk_below (g := gb102) (o := .cells #[.int .i64 0, .string (⟨#[]⟩ : ByteArray), .int .i64 0, .int .i64 0, .slice none 0 0] 24 (0, 0)) (by (with_reducible repeat (first | refine blk_drewN ?_ _ | refine blk_drew ?_ | refine blk_alloc ?_ _)); exact BK102.out) hb); have n3_ := Aside0.mk (below_step (by repeat (first | (with_reducible first | exact HB.out | apply below_alloc | apply pw_below_drewN | apply below_drew1 | refine below_set ?_ GE101.out | refine below_set ?_ GE102.out) | exact HB.out)) hb); clear BK101; clear BK102; clear HB; have HO105 := n0_; have BK101 := n1_; have BK102 := n2_; have HB := n3_; clear n0_ n1_ n2_ n3_; (try clear hb); (try clear hb2); (try clear hk); (try clear hi); (try clear ho0); obtain ⟨Ao8, co8, eo8⟩ := Kd.R_slice HO105.out; subst eo8; have hcz9_0 : w7.cell? ⟨gb101, 0, none⟩ = some (.int .i64 a0_0) := (blk_cell BK101.out 0).trans rfl; have hcz9_1 : w7.cell? ⟨gb101, 1, none⟩ = some (.string a0_1) := (blk_cell BK101.out 1).trans rfl; have hcz9_2 : w7.cell? ⟨gb101, 2, none⟩ = some (.int .i64 a0_2) := (blk_cell BK101.out 2).trans rfl; have hcz9_3 : w7.cell? ⟨gb101, 3, none⟩ = some (.int .i64 a0_3) := (blk_cell BK101.out 3).trans rfl; have hcz9_4 : w7.cell? ⟨gb101, 4, none⟩ = some (.slice A0_4 l0_4.length c0_4) := (blk_cell BK101.out 4).trans rfl; have hfz9_0 := blk_frozen BK101.out 0; have hfz9_1 := blk_frozen BK101.out 1; have hfz9_2 := blk_frozen BK101.out 2; have hfz9_3 := blk_frozen BK101.out 3; have hfz9_4 := blk_frozen BK101.out 4; (try (have hpz9_1 : ∀ v0_ v1_ : Value, ((w7.setCell ⟨gb101, 0, none⟩ v0_).setCell ⟨gb101, 1, none⟩ v1_).cell? ⟨gb101, 1, none⟩ = some v1_ := by (intros; go_simp))); (try (have hpz9_2 : ∀ v0_ v1_ v2_ : Value, (((w7.setCell ⟨gb101, 0, none⟩ v0_).setCell ⟨gb101, 1, none⟩ v1_).setCell ⟨gb101, 2, none⟩ v2_).cell? ⟨gb101, 2, none⟩ = some v2_ := by (intros; go_simp))); (try (have hpz9_3 : ∀ v0_ v1_ v2_ v3_ : Value, ((((w7.setCell ⟨gb101, 0, none⟩ v0_).setCell ⟨gb101, 1, none⟩ v1_).setCell ⟨gb101, 2, none⟩ v2_).setCell ⟨gb101, 3, none⟩ v3_).cell? ⟨gb101, 3, none⟩ = some v3_ := by (intros; go_simp))); (try (have hpz9_4 : ∀ v0_ v1_ v2_ v3_ v4_ : Value, (((((w7.setCell ⟨gb101, 0, none⟩ v0_).setCell ⟨gb101, 1, none⟩ v1_).setCell ⟨gb101, 2, none⟩ v2_).setCell ⟨gb101, 3, none⟩ v3_).setCell ⟨gb101, 4, none⟩ v4_).cell? ⟨gb101, 4, none⟩ = some v4_ := by (intros; go_simp))); have hcz10_0 : w7.cell? ⟨gb102, 0, none⟩ = some (.int .i64 0) := (blk_cell BK102.out 0).trans rfl; have hcz10_1 : w7.cell? ⟨gb102, 1, none⟩ = some (.string (⟨#[]⟩ : ByteArray)) := (blk_cell BK102.out 1).trans rfl; have hcz10_2 : w7.cell? ⟨gb102, 2, none⟩ = some (.int .i64 0) := (blk_cell BK102.out 2).trans rfl; have hcz10_3 : w7.cell? ⟨gb102, 3, none⟩ = some (.int .i64 0) := (blk_cell BK102.out 3).trans rfl; have hcz10_4 : w7.cell? ⟨gb102, 4, none⟩ = some (.slice none 0 0) := (blk_cell BK102.out 4).trans rfl; have hfz10_0 := blk_frozen BK102.out 0; have hfz10_1 := blk_frozen BK102.out 1; have hfz10_2 := blk_frozen BK102.out 2; have hfz10_3 := blk_frozen BK102.out 3; have hfz10_4 := blk_frozen BK102.out 4; (try (have hpz10_1 : ∀ v0_ v1_ : Value, ((w7.setCell ⟨gb102, 0, none⟩ v0_).setCell ⟨gb102, 1, none⟩ v1_).cell? ⟨gb102, 1, none⟩ = some v1_ := by (intros; go_simp))); (try (have hpz10_2 : ∀ v0_ v1_ v2_ : Value, (((w7.setCell ⟨gb102, 0, none⟩ v0_).setCell ⟨gb102, 1, none⟩ v1_).setCell ⟨gb102, 2, none⟩ v2_).cell? ⟨gb102, 2, none⟩ = some v2_ := by (intros; go_simp))); (try (have hpz10_3 : ∀ v0_ v1_ v2_ v3_ : Value, ((((w7.setCell ⟨gb102, 0, none⟩ v0_).setCell ⟨gb102, 1, none⟩ v1_).setCell ⟨gb102, 2, none⟩ v2_).setCell ⟨gb102, 3, none⟩ v3_).cell? ⟨gb102, 3, none⟩ = some v3_ := by (intros; go_simp))); (try (have hpz10_4 : ∀ v0_ v1_ v2_ v3_ v4_ : Value, (((((w7.setCell ⟨gb102, 0, none⟩ v0_).setCell ⟨gb102, 1, none⟩ v1_).setCell ⟨gb102, 2, none⟩ v2_).setCell ⟨gb102, 3, none⟩ v3_).setCell ⟨gb102, 4, none⟩ v4_).cell? ⟨gb102, 4, none⟩ = some v4_ := by (intros; go_simp)))))
 refine bodyPost_ret (results_cell_row rfl _ _ gb102 24 #[.int .i64 a0_0, .string a0_1, .int .i64 a0_2, .int .i64 a0_3, .slice Ao8 t103.length co8] (0, 0) _ rfl (by (with_reducible repeat (first | refine blk_drewN ?_ _ | refine blk_drew ?_ | refine blk_alloc ?_ _)); refine blk_put (cs := #[.int .i64 a0_0, .string a0_1, .int .i64 a0_2, .int .i64 a0_3, .slice none 0 0]) ?_ 4 _ rfl; (with_reducible repeat (first | refine blk_drewN ?_ _ | refine blk_drew ?_ | refine blk_alloc ?_ _)); refine blk_put (cs := #[.int .i64 a0_0, .string a0_1, .int .i64 a0_2, .int .i64 0, .slice none 0 0]) ?_ 3 _ rfl; (with_reducible repeat (first | refine blk_drewN ?_ _ | refine blk_drew ?_ | refine blk_alloc ?_ _)); refine blk_put (cs := #[.int .i64 a0_0, .string a0_1, .int .i64 0, .int .i64 0, .slice none 0 0]) ?_ 2 _ rfl; (with_reducible repeat (first | refine blk_drewN ?_ _ | refine blk_drew ?_ | refine blk_alloc ?_ _)); refine blk_put (cs := #[.int .i64 a0_0, .string (⟨#[]⟩ : ByteArray), .int .i64 0, .int .i64 0, .slice none 0 0]) ?_ 1 _ rfl; (with_reducible repeat (first | refine blk_drewN ?_ _ | refine blk_drew ?_ | refine blk_alloc ?_ _)); refine blk_put (cs := #[.int .i64 0, .string (⟨#[]⟩ : ByteArray), .int .i64 0, .int .i64 0, .slice none 0 0]) ?_ 0 _ rfl; (with_reducible repeat (first | refine blk_drewN ?_ _ | refine blk_drew ?_ | refine blk_alloc ?_ _)); refine blk_far ?_ NB102_101.out _; (with_reducible repeat (first | refine blk_drewN ?_ _ | refine blk_drew ?_ | refine blk_alloc ?_ _)); exact BK102.out) Tryd.underlying24 rfl (by kernel_rfl)) rfl ?_
 exact ⟨_, by first | rfl | (simp [errW_none, errW_some] <;> rfl) | (simp [*, errW_none, errW_some] <;> rfl), by (with_reducible repeat (first | apply Kd.R_alloc | apply Kd.R_drewN | apply Kd.R_drew)); exact Kd.R_mono (Kd.R_far (p := ⟨gb102, 4, none⟩) (Kd.R_far (p := ⟨gb102, 3, none⟩) (Kd.R_far (p := ⟨gb102, 2, none⟩) (Kd.R_far (p := ⟨gb102, 1, none⟩) (Kd.R_far (p := ⟨gb102, 0, none⟩) (Kd.R_far (p := ⟨gb101, 4, none⟩) (Kd.R_types (Kd.R_types HO105.out BK101.out (by decide)) BK102.out (by decide)) (fun _ hk => hk.1.2) (.slice Ao8 t103.length co8)) (fun _ hk => hk.2) (.int .i64 a0_0)) (fun _ hk => hk.2) (.string a0_1)) (fun _ hk => hk.2) (.int .i64 a0_2)) (fun _ hk => hk.2) (.int .i64 a0_3)) (fun _ hk => hk.2) (.slice Ao8 t103.length co8)) (fun _ hk => trivial), by repeat (first | (with_reducible first | exact HB.out | apply below_alloc | apply pw_below_drewN | apply below_drew1 | refine below_set ?_ GE101.out | refine below_set ?_ GE102.out) | exact HB.out)⟩

def slices_Clone_int_int.f (l0 : List Int) : Option (List Int) := if l0.length < 17592186044417 then some l0 else none
set_option maxHeartbeats 8000000 in
set_option maxRecDepth 100000 in
theorem slices_Clone_int_int.calls (A0 : Option Addr) (c0 : Nat) (l0 : List Int) (r : List Int) (w : World) (hr0 : Kd.C (Kd.int .i64) w A0 l0.length l0) (hc0 : l0.length ≤ c0) (h : slices_Clone_int_int.f l0 = some r) :
  Calls Tryd.prog 43 #[.slice A0 l0.length c0] w fun e w' => ∃ v0_ : Value, e = .returned (v0_) ∧ Kd.R (Kd.int .i64) 3 w' w.heap.size (fun _ => True) v0_ r ∧ Below w.heap.size w w' := by
 obtain ⟨hl, rfl⟩ : l0.length < 17592186044417 ∧ l0 = r := by
  unfold slices_Clone_int_int.f at h
  by_cases c : l0.length < 17592186044417
  ·
   rw [if_pos c] at h
   exact ⟨c, Option.some.inj h⟩
  ·
   rw [if_neg c] at h
   cases h
 clear h
 rcases A0 with _ | ad
 ·
  have h0 : l0 = [] := by
   rcases Nat.eq_zero_or_pos l0.length with q | q
   ·
    exact List.eq_nil_of_length_eq_zero q
   ·
    obtain ⟨ad, e, _⟩ := hr0.2.2 q
    cases e
  subst h0
  clear hr0 hc0 hl
  have hq : ∀ W : World, (binOp .eql 25 (.slice none 0 c0) (.slice none 0 0)).run Tryd.prog W = .ok (.bool true) W := fun W => by
   simp only [binOp]
   simp [run_equal_slice_nil W 25 3 none 0 c0 Tryd.underlying25]
  go_enter Tryd.func43, Tryd.ntmps43
  go_wp2
  go_ret
  exact ⟨_, rfl, Kd.R_nil _ _ _ _ _, by repeat (first | exact Below.refl _ _ | apply pw_below_drewN | apply below_drew1)⟩
 ·
  have HR := Aside0.mk hr0
  have HL := Aside0.mk hl
  clear hr0 hc0 hl
  have hq : ∀ W : World, (binOp .eql 25 (.slice (some ad) l0.length c0) (.slice none 0 0)).run Tryd.prog W = .ok (.bool false) W := fun W => by
   simp only [binOp]
   simp [run_equal_slice_nil W 25 3 (some ad) l0.length c0 Tryd.underlying25]
  go_enter Tryd.func43, Tryd.ntmps43
  go_wp2_with (first | ((with_reducible refine gate_dst (N := 5) rfl ?_); refine Kd.R_lit (Kd.int .i64) (w0 := w) w.heap.size 3 ?hg (N := 5) ?hd (xs := ([] : List Int)) (inner := []) (ok := fun _ => True) (okp := fun _ => True) ?hr ?hp (fun _ hk => hk) trivial ?hb ?hs (by simp) ?_; (case hd => rfl); (case hg => rfl); (case hr => first | (go_simp; done) | (go_simp; rfl)); (case hp => exact (Reps.none _ _)); (case hb => repeat (first | exact Below.refl _ _ | apply pw_below_drewN | apply below_drew1)); (case hs => exact below_size (by repeat (first | exact Below.refl _ _ | apply pw_below_drewN | apply below_drew1))); intro v5 w1 ho hb hg_ hnew_; have HO := Aside0.mk ho; have HB := Aside0.mk hb; clear hg_ hnew_ ho hb) | ((with_reducible refine gate_builtin (b := .append) (xs := #[.tmp 5, .tmp 6]) rfl ?_); at_builtin; refine Kd.R_append_rows (Kd.int .i64) (w0 := w) w.heap.size rfl (.tmp 5) (.tmp 6) 25 3 (.int .i64 0) 8 rfl Tryd.underlying25 info3 rfl (by decide) (by omega) v5 ([] : List Int) l0 (some ad) _ _ (fun _ => True) (fun _ => False) rfl rfl ?aO ?aR (fun _ _ h => h) (fun _ h => h.elim) (fun _ _ => trivial) ?aB ?aS ?aL ?_; (case aO => exact HO.out); (case aR => exact Kd.C_below HR.out HB.out); (case aB => exact HB.out); (case aS => exact HB.out.size); (case aL => have := HL.out; simp only [List.length_nil]; omega); intro v7 w2 ho hb hg hat; have HO7 := Aside0.mk (show Kd.R (Kd.int .i64) 3 w2 w.heap.size (fun _ => True) v7 l0 from ho); have HB7 := Aside0.mk hb; clear ho hb hg hat))
  go_ret
  exact ⟨_, rfl, HO7.out, HB7.out⟩

def transit_arrived.f (a0_0 : Int) (a0_1 : Int) (a0_2 : Int) (a0_3 : Int) (a0_4 : Int) (a0_5 : ByteArray) (a0_6 : Int) (a0_7 : Int) (l0_8 : List (S89)) (l0_9 : List Int) (l0_10 : List Int) : Option (Int × Int × Int × Int × Int × ByteArray × Int × Int × (List (S89)) × List Int × List Int) := (transit_twin.f a0_4 a0_5 a0_6 a0_7 l0_8).bind fun bt108 => ((slices_Clone_int_int.f l0_9).bind fun t115 => ((slices_Clone_int_int.f l0_10).bind fun t118 => (some (a0_0, a0_1, a0_2, a0_3, bt108.1, bt108.2.1, bt108.2.2.1, bt108.2.2.2.1, bt108.2.2.2.2, t115, t118))))
def transit_arrived.T1 : Bool × List (List Nat × List Nat) := (true, [([], []), ([0], [0]), ([1], [1]), ([], []), ([3], [3]), ([4, 2], [4]), ([], []), ([6], [6]), ([7, 5], [7]), ([0, 1, 2, 3, 4, 6, 7], []), ([9, 2, 8, 0, 1, 2, 3, 4, 6, 7], [2, 9]), ([0, 1, 2, 3, 4, 5, 6, 7, 9, 10], []), ([11, 5, 10, 0, 1, 2, 3, 4, 5, 6, 7, 9, 10], [5, 11]), ([0, 1, 2, 3, 4, 5, 6, 7, 8, 9, 10, 11, 12], []), ([13, 8, 12, 0, 1, 2, 3, 4, 5, 6, 7, 8, 9, 10, 11, 12], [8, 13])])
def transit_arrived.B1 : List Nat := [0, 1, 3, 0, 8, 31, 0, 64, 255, 223, 1023, 2047, 4095, 8191, 16383]
theorem transit_arrived.tab1 : rtab .any (opsOf Tryd.f40 1) = transit_arrived.T1 := by kernel_rfl
theorem transit_arrived.bits1 : waitsOk transit_arrived.T1.2 transit_arrived.B1 = true := by kernel_rfl
set_option maxHeartbeats 8000000 in
set_option maxRecDepth 100000 in
theorem transit_arrived.calls (a0_0 : Int) (a0_1 : Int) (a0_2 : Int) (a0_3 : Int) (a0_4 : Int) (a0_5 : ByteArray) (a0_6 : Int) (a0_7 : Int) (A0_8 : Option Addr) (c0_8 : Nat) (l0_8 : List (S89)) (A0_9 : Option Addr) (c0_9 : Nat) (l0_9 : List Int) (A0_10 : Option Addr) (c0_10 : Nat) (l0_10 : List Int) (r1 : Int) (r2 : Int) (r3 : Int) (r4 : Int) (r5 : Int) (r6 : ByteArray) (r7 : Int) (r8 : Int) (r9 : List (S89)) (r10 : List Int) (r11 : List Int) (w : World) (hr0_8 : Kd.C k89 w A0_8 l0_8.length l0_8) (hc0_8 : l0_8.length ≤ c0_8) (hr0_9 : Kd.C (Kd.int .i64) w A0_9 l0_9.length l0_9) (hc0_9 : l0_9.length ≤ c0_9) (hr0_10 : Kd.C (Kd.int .i64) w A0_10 l0_10.length l0_10) (hc0_10 : l0_10.length ≤ c0_10) (h : transit_arrived.f a0_0 a0_1 a0_2 a0_3 a0_4 a0_5 a0_6 a0_7 l0_8 l0_9 l0_10 = some (r1, r2, r3, r4, r5, r6, r7, r8, r9, r10, r11)) :
  Calls Tryd.prog 40 #[.agg #[.int .i64 a0_0, .int .i64 a0_1, .int .i64 a0_2, .int .i64 a0_3, .int .i64 a0_4, .string a0_5, .int .i64 a0_6, .int .i64 a0_7, .slice A0_8 l0_8.length c0_8, .slice A0_9 l0_9.length c0_9, .slice A0_10 l0_10.length c0_10]] w fun e w' => ∃ v8_ v9_ v10_ : Value, e = .returned (.agg #[.int .i64 r1, .int .i64 r2, .int .i64 r3, .int .i64 r4, .int .i64 r5, .string r6, .int .i64 r7, .int .i64 r8, v8_, v9_, v10_]) ∧ Kd.R k89 89 w' w.heap.size (fun _ => True) v8_ r9 ∧ Kd.R (Kd.int .i64) 3 w' w.heap.size (fun k_ => some k_ ≠ (v10_ : Value).ownBlock) v9_ r10 ∧ Kd.R (Kd.int .i64) 3 w' w.heap.size (fun k_ => some k_ ≠ (v9_ : Value).ownBlock) v10_ r11 ∧ Below w.heap.size w w' := by
 have hu27 := Tryd.underlying27
 have hu24 := Tryd.underlying24
 have HR0_8 := Aside0.mk hr0_8
 have HC0_8 := Aside0.mk hc0_8
 clear hr0_8 hc0_8
 have HR0_9 := Aside0.mk hr0_9
 have HC0_9 := Aside0.mk hc0_9
 clear hr0_9 hc0_9
 have HR0_10 := Aside0.mk hr0_10
 have HC0_10 := Aside0.mk hc0_10
 clear hr0_10 hc0_10
 have HB := Aside0.mk (Below.refl w.heap.size w)
 have H : ((transit_twin.f a0_4 a0_5 a0_6 a0_7 l0_8).bind fun bt108 => ((slices_Clone_int_int.f l0_9).bind fun t115 => ((slices_Clone_int_int.f l0_10).bind fun t118 => (some (a0_0, a0_1, a0_2, a0_3, bt108.1, bt108.2.1, bt108.2.2.1, bt108.2.2.2.1, bt108.2.2.2.2, t115, t118))))) = some (r1, r2, r3, r4, r5, r6, r7, r8, r9, r10, r11) := h
 clear h
 replace H := Option.bind_eq_some_iff.mp H
 obtain ⟨⟨t108, t109, t110, t111, t112⟩, A20, H⟩ := H
 replace H : ((slices_Clone_int_int.f l0_9).bind fun t115 => ((slices_Clone_int_int.f l0_10).bind fun t118 => (some (a0_0, a0_1, a0_2, a0_3, t108, t109, t110, t111, t112, t115, t118)))) = some (r1, r2, r3, r4, r5, r6, r7, r8, r9, r10, r11) := H
 have A2 := Aside0.mk A20
 clear A20
 replace H := Option.bind_eq_some_iff.mp H
 obtain ⟨t115, A30, H⟩ := H
 replace H : ((slices_Clone_int_int.f l0_10).bind fun t118 => (some (a0_0, a0_1, a0_2, a0_3, t108, t109, t110, t111, t112, t115, t118))) = some (r1, r2, r3, r4, r5, r6, r7, r8, r9, r10, r11) := H
 have A3 := Aside0.mk A30
 clear A30
 replace H := Option.bind_eq_some_iff.mp H
 obtain ⟨t118, A40, H⟩ := H
 replace H : (some (a0_0, a0_1, a0_2, a0_3, t108, t109, t110, t111, t112, t115, t118)) = some (r1, r2, r3, r4, r5, r6, r7, r8, r9, r10, r11) := H
 have A4 := Aside0.mk A40
 clear A40
 simp only [Option.some.injEq, Prod.mk.injEq] at H
 obtain ⟨rfl, rfl, rfl, rfl, rfl, rfl, rfl, rfl, rfl, rfl, rfl⟩ := H
 go_enter Tryd.func40, Tryd.ntmps40
 try go_wp2_with (first | ((with_reducible refine gate_dst (N := 1) rfl ?_); refine box_event ?hg (N := 1) ?hd (cs := #[.int .i64 a0_0, .int .i64 a0_1, .int .i64 a0_2, .int .i64 a0_3, .int .i64 a0_4, .string a0_5, .int .i64 a0_6, .int .i64 a0_7, .slice A0_8 l0_8.length c0_8, .slice A0_9 l0_9.length c0_9, .slice A0_10 l0_10.length c0_10]) (t := 27) ?hr ?_; (case hd => rfl); (case hg => rfl); (case hr => first | (go_simp; done) | (go_simp; rfl)); intro gb106 hg w5 hbox hb; have n0_ := Aside0.mk (below_step (by repeat (first | (with_reducible first | exact HB.out | apply below_alloc | apply pw_below_drewN | apply below_drew1) | exact HB.out)) hb); have n1_ := Aside0.mk (hbox); have n2_ := Aside0.mk ((by rw [hg]; exact (below_size (by repeat (first | (with_reducible first | exact HB.out | apply below_alloc | apply pw_below_drewN | apply below_drew1) | exact HB.out))) : w.heap.size ≤ gb106)); have n3_ := Aside0.mk ((by rw [hg]; exact (below_size (by repeat (first | (with_reducible first | exact HB.out | apply below_alloc | apply pw_below_drewN | apply below_drew1) | exact HB.out))) : w.heap.size ≤ gb106)); clear HB; have HB := n0_; have BK106 := n1_; have GW106 := n2_; have GE106 := n3_; clear n0_ n1_ n2_ n3_; clear hb hbox hg) | ((with_reducible refine gate_dst (N := 2) rfl ?_); refine box_event ?hg (N := 2) ?hd (cs := #[.int .i64 0, .int .i64 0, .int .i64 0, .int .i64 0, .int .i64 0, .string (⟨#[]⟩ : ByteArray), .int .i64 0, .int .i64 0, .slice none 0 0, .slice none 0 0, .slice none 0 0]) (t := 27) ?hr ?_; (case hd => rfl); (case hg => rfl); (case hr => first | (go_simp; done) | (go_simp; rfl)); intro gb107 hg w6 hbox hb; have n0_ := Aside0.mk (blk_below (g := gb106) (o := .cells #[.int .i64 a0_0, .int .i64 a0_1, .int .i64 a0_2, .int .i64 a0_3, .int .i64 a0_4, .string a0_5, .int .i64 a0_6, .int .i64 a0_7, .slice A0_8 l0_8.length c0_8, .slice A0_9 l0_9.length c0_9, .slice A0_10 l0_10.length c0_10] 27 (0, 0)) (by (with_reducible repeat (first | refine blk_drewN ?_ _ | refine blk_drew ?_ | refine blk_alloc ?_ _)); exact BK106.out) hb); have n1_ := Aside0.mk (below_step (by repeat (first | (with_reducible first | exact HB.out | apply below_alloc | apply pw_below_drewN | apply below_drew1 | refine below_set ?_ GE106.out) | exact HB.out)) hb); have n2_ := Aside0.mk (hbox); have n3_ := Aside0.mk ((by rw [hg]; exact (below_size (by repeat (first | (with_reducible first | exact HB.out | apply below_alloc | apply pw_below_drewN | apply below_drew1 | refine below_set ?_ GE106.out) | exact HB.out))) : w.heap.size ≤ gb107)); have n4_ := Aside0.mk ((by rw [hg]; exact (below_size (by repeat (first | (with_reducible first | exact HB.out | apply below_alloc | apply pw_below_drewN | apply below_drew1 | refine below_set ?_ GE106.out) | exact HB.out))) : w.heap.size ≤ gb107)); have n5_ := Aside0.mk ((by rw [hg]; exact Nat.ne_of_lt (blk_lt (g := gb106) (o := .cells #[.int .i64 a0_0, .int .i64 a0_1, .int .i64 a0_2, .int .i64 a0_3, .int .i64 a0_4, .string a0_5, .int .i64 a0_6, .int .i64 a0_7, .slice A0_8 l0_8.length c0_8, .slice A0_9 l0_9.length c0_9, .slice A0_10 l0_10.length c0_10] 27 (0, 0)) (by (with_reducible repeat (first | refine blk_drewN ?_ _ | refine blk_drew ?_ | refine blk_alloc ?_ _)); exact BK106.out)) : gb106 ≠ gb107)); have n6_ := Aside0.mk ((by rw [hg]; exact Nat.ne_of_gt (blk_lt (g := gb106) (o := .cells #[.int .i64 a0_0, .int .i64 a0_1, .int .i64 a0_2, .int .i64 a0_3, .int .i64 a0_4, .string a0_5, .int .i64 a0_6, .int .i64 a0_7, .slice A0_8 l0_8.length c0_8, .slice A0_9 l0_9.length c0_9, .slice A0_10 l0_10.length c0_10] 27 (0, 0)) (by (with_reducible repeat (first | refine blk_drewN ?_ _ | refine blk_drew ?_ | refine blk_alloc ?_ _)); exact BK106.out)) : gb107 ≠ gb106)); clear BK106; clear HB; have BK106 := n0_; have HB := n1_; have BK107 := n2_; have GW107 := n3_; have GE107 := n4_; have NB106_107 := n5_; have NB107_106 := n6_; clear n0_ n1_ n2_ n3_ n4_ n5_ n6_; clear hb hbox hg))
 have n0_ := Aside0.mk (blk_drew BK106.out)
 have n1_ := Aside0.mk (blk_drew BK107.out)
 have n2_ := Aside0.mk (below_drew1 HB.out)
 clear BK106
 clear BK107
 clear HB
 have BK106 := n0_
 have BK107 := n1_
 have HB := n2_
 clear n0_ n1_ n2_
 refine start_ (n := 15) (S := fun w' => w'.cell? ⟨gb106, 0, none⟩ = some (.int .i64 a0_0) ∧ w'.cell? ⟨gb106, 1, none⟩ = some (.int .i64 a0_1) ∧ w'.cell? ⟨gb106, 2, none⟩ = some (.int .i64 a0_2) ∧ w'.cell? ⟨gb106, 3, none⟩ = some (.int .i64 a0_3) ∧ w'.cell? ⟨gb106, 4, none⟩ = some (.int .i64 a0_4) ∧ w'.cell? ⟨gb106, 5, none⟩ = some (.string a0_5) ∧ w'.cell? ⟨gb106, 6, none⟩ = some (.int .i64 a0_6) ∧ w'.cell? ⟨gb106, 7, none⟩ = some (.int .i64 a0_7) ∧ w'.cell? ⟨gb106, 8, none⟩ = some (.slice A0_8 l0_8.length c0_8) ∧ w'.cell? ⟨gb106, 9, none⟩ = some (.slice A0_9 l0_9.length c0_9) ∧ w'.cell? ⟨gb106, 10, none⟩ = some (.slice A0_10 l0_10.length c0_10)) (ds := [10, 12, 14]) #[false, false, false, false, false, false, false, false, false, false, false, false, false, false, false] (by kernel_rfl) rfl rfl ⟨(blk_cell BK106.out 0).trans rfl, (blk_cell BK106.out 1).trans rfl, (blk_cell BK106.out 2).trans rfl, (blk_cell BK106.out 3).trans rfl, (blk_cell BK106.out 4).trans rfl, (blk_cell BK106.out 5).trans rfl, (blk_cell BK106.out 6).trans rfl, (blk_cell BK106.out 7).trans rfl, (blk_cell BK106.out 8).trans rfl, (blk_cell BK106.out 9).trans rfl, (blk_cell BK106.out 10).trans rfl⟩ (fun hHeld => ?_); refine with_tabW transit_arrived.tab1 transit_arrived.bits1 (fun HT_ HW_ => ?_)
 generalize w6.drew = w7 at BK106 BK107 HB hHeld ⊢
 refine pure_ (i := 0) (N := some 3) (v := ?_) (a' := ?_) #[true, false, false, false, false, false, false, false, false, false, false, false, false, false, false] rfl rfl (any_of HT_.out (by kernel_rfl)) (fun _ _ _ h => h) (Or.inl ⟨by rfl, ?_⟩) ?_ ?_
 rotate_left
 ·
  intro w'
  go_simp
  with_reducible rfl
 rotate_left
 ·
  simp only [Act.put, List.setIfInBounds_toArray, List.set_cons_zero, List.set_cons_succ, i64_w, i32_w]
  rfl
 refine pure_ (i := 3) (N := some 6) (v := ?_) (a' := ?_) #[true, false, false, true, false, false, false, false, false, false, false, false, false, false, false] rfl rfl (any_of HT_.out (by kernel_rfl)) (fun _ _ _ h => h) (Or.inl ⟨by rfl, ?_⟩) ?_ ?_
 rotate_left
 ·
  intro w'
  go_simp
  with_reducible rfl
 rotate_left
 ·
  simp only [Act.put, List.setIfInBounds_toArray, List.set_cons_zero, List.set_cons_succ, i64_w, i32_w]
  rfl
 refine pure_ (i := 6) (N := some 9) (v := ?_) (a' := ?_) #[true, false, false, true, false, false, true, false, false, false, false, false, false, false, false] rfl rfl (any_of HT_.out (by kernel_rfl)) (fun _ _ _ h => h) (Or.inl ⟨by rfl, ?_⟩) ?_ ?_
 rotate_left
 ·
  intro w'
  go_simp
  with_reducible rfl
 rotate_left
 ·
  simp only [Act.put, List.setIfInBounds_toArray, List.set_cons_zero, List.set_cons_succ, i64_w, i32_w]
  rfl
 refine take_ (i := 1) (N := some 4) (v := ?_) (a' := ?_) #[true, true, false, true, false, false, true, false, false, false, false, false, false, false, false] rfl rfl (take_ofW HT_.out HW_.out (by kernel_rfl)) (fun _ _ _ h => h) (Or.inl ⟨by rfl, ?_⟩) hHeld ?_ ?_
 rotate_left
 ·
  rintro w' ⟨s0, s1, s2, s3, s4, s5, s6, s7, s8, s9, s10⟩
  go_simp
  with_reducible rfl
 rotate_left
 ·
  simp only [Act.put, List.setIfInBounds_toArray, List.set_cons_zero, List.set_cons_succ, i64_w, i32_w]
  rfl
 refine take_ (i := 4) (N := some 7) (v := ?_) (a' := ?_) #[true, true, false, true, true, false, true, false, false, false, false, false, false, false, false] rfl rfl (take_ofW HT_.out HW_.out (by kernel_rfl)) (fun _ _ _ h => h) (Or.inl ⟨by rfl, ?_⟩) hHeld ?_ ?_
 rotate_left
 ·
  rintro w' ⟨s0, s1, s2, s3, s4, s5, s6, s7, s8, s9, s10⟩
  go_simp
  with_reducible rfl
 rotate_left
 ·
  simp only [Act.put, List.setIfInBounds_toArray, List.set_cons_zero, List.set_cons_succ, i64_w, i32_w]
  rfl
 refine take_ (i := 7) (N := some 10) (v := ?_) (a' := ?_) #[true, true, false, true, true, false, true, true, false, false, false, false, false, false, false] rfl rfl (take_ofW HT_.out HW_.out (by kernel_rfl)) (fun _ _ _ h => h) (Or.inl ⟨by rfl, ?_⟩) hHeld ?_ ?_
 rotate_left
 ·
  rintro w' ⟨s0, s1, s2, s3, s4, s5, s6, s7, s8, s9, s10⟩
  go_simp
  with_reducible rfl
 rotate_left
 ·
  simp only [Act.put, List.setIfInBounds_toArray, List.set_cons_zero, List.set_cons_succ, i64_w, i32_w]
  rfl
 refine one_ (i := 2) (N := some 5) #[true, true, true, true, true, false, true, true, false, false, false, false, false, false, false] rfl rfl (one_of HT_.out (by kernel_rfl)) (by decide) (fun K hK => ?_)
 refine goes_ Tryd.func42 (by kernel_rfl) rfl #[.agg #[.int .i64 a0_4, .string a0_5, .int .i64 a0_6, .int .i64 a0_7, .slice A0_8 l0_8.length c0_8]] (by rfl) rfl rfl (by (try simp only [List.map_toArray, List.map_cons, List.map_nil]); first | done | rfl | (simp only [List.length_drop, List.length_take]; rfl)) ?_
 with_reducible refine (transit_twin.calls a0_4 a0_5 a0_6 a0_7 _ _ l0_8 t108 t109 t110 t111 t112 _ ?side1 ?side2 A2.out).mono ?_
 (case side1 => repeat (first | exact (Kd.C_below HR0_8.out HB.out) | (with_reducible refine Kd.C_alloc ?_ _) | (with_reducible refine Kd.C_drewN ?_ _) | (with_reducible refine Kd.C_drew ?_)))
 (case side2 => exact HC0_8.out)
 rintro e w8 ⟨v113, rfl, ho0, hb⟩
 refine ⟨_, rfl, ?_⟩
 have n0_ := Aside0.mk (Kd.R_lower ho0 (below_size (by repeat (first | (with_reducible first | exact HB.out | apply below_alloc | apply pw_below_drewN | apply below_drew1 | refine below_set ?_ GE106.out | refine below_set ?_ GE107.out) | exact HB.out))))
 have n1_ := Aside0.mk (blk_below (g := gb106) (o := .cells #[.int .i64 a0_0, .int .i64 a0_1, .int .i64 a0_2, .int .i64 a0_3, .int .i64 a0_4, .string a0_5, .int .i64 a0_6, .int .i64 a0_7, .slice A0_8 l0_8.length c0_8, .slice A0_9 l0_9.length c0_9, .slice A0_10 l0_10.length c0_10] 27 (0, 0)) (by (with_reducible repeat (first | refine blk_drewN ?_ _ | refine blk_drew ?_ | refine blk_alloc ?_ _)); exact BK106.out) hb)
 have n2_ := Aside0.mk (blk_below (g := gb107) (o := .cells #[.int .i64 0, .int .i64 0, .int .i64 0, .int .i64 0, .int .i64 0, .string (⟨#[]⟩ : ByteArray), .int .i64 0, .int .i64 0, .slice none 0 0, .slice none 0 0, .slice none 0 0] 27 (0, 0)) (by (with_reducible repeat (first | refine blk_drewN ?_ _ | refine blk_drew ?_ | refine blk_alloc ?_ _)); exact BK107.out) hb)
 have n3_ := Aside0.mk (below_step (by repeat (first | (with_reducible first | exact HB.out | apply below_alloc | apply pw_below_drewN | apply below_drew1 | refine below_set ?_ GE106.out | refine below_set ?_ GE107.out) | exact HB.out)) hb)
 clear BK106
 clear BK107
 clear HB
 have HO114 := n0_
 have BK106 := n1_
 have BK107 := n2_
 have HB := n3_
 clear n0_ n1_ n2_ n3_
 (try clear hb)
 (try clear hb2)
 (try clear hk)
 (try clear hi)
 (try clear ho0)
 refine hK.out _ _ ⟨(blk_cell BK106.out 0).trans rfl, (blk_cell BK106.out 1).trans rfl, (blk_cell BK106.out 2).trans rfl, (blk_cell BK106.out 3).trans rfl, (blk_cell BK106.out 4).trans rfl, (blk_cell BK106.out 5).trans rfl, (blk_cell BK106.out 6).trans rfl, (blk_cell BK106.out 7).trans rfl, (blk_cell BK106.out 8).trans rfl, (blk_cell BK106.out 9).trans rfl, (blk_cell BK106.out 10).trans rfl⟩ (fun hHeld => ?_)
 clear hK K
 refine norm_ (a' := ?_) ?_ ?_
 rotate_left
 ·
  show Act.put _ (some 5) _ = _
  simp only [Act.put, List.setIfInBounds_toArray, List.set_cons_zero, List.set_cons_succ, i64_w, i32_w]
  rfl
 refine pure_ (i := 9) (N := some 12) (v := ?_) (a' := ?_) #[true, true, true, true, true, false, true, true, false, true, false, false, false, false, false] rfl rfl (any_of HT_.out (by kernel_rfl)) (fun _ _ _ h => h) (Or.inl ⟨by rfl, ?_⟩) ?_ ?_
 rotate_left
 ·
  intro w'
  go_simp
  with_reducible rfl
 rotate_left
 ·
  simp only [Act.put, List.setIfInBounds_toArray, List.set_cons_zero, List.set_cons_succ, i64_w, i32_w]
  rfl
 refine one_ (i := 5) (N := some 8) #[true, true, true, true, true, true, true, true, false, true, false, false, false, false, false] rfl rfl (one_of HT_.out (by kernel_rfl)) (by decide) (fun K hK => ?_)
 refine goes_ Tryd.func43 (by kernel_rfl) rfl #[.slice A0_9 l0_9.length c0_9] (by rfl) rfl rfl (by (try simp only [List.map_toArray, List.map_cons, List.map_nil]); first | done | rfl | (simp only [List.length_drop, List.length_take]; rfl)) ?_
 with_reducible refine (slices_Clone_int_int.calls _ _ l0_9 t115 _ ?side1 ?side2 A3.out).mono ?_
 (case side1 => repeat (first | exact (Kd.C_below HR0_9.out HB.out) | (with_reducible refine Kd.C_alloc ?_ _) | (with_reducible refine Kd.C_drewN ?_ _) | (with_reducible refine Kd.C_drew ?_)))
 (case side2 => exact HC0_9.out)
 rintro e w9 ⟨v116, rfl, ho0, hb⟩
 refine ⟨_, rfl, ?_⟩
 have n0_ := Aside0.mk (Kd.R_below (by (with_reducible repeat (first | apply Kd.R_alloc | apply Kd.R_drewN | apply Kd.R_drew)); exact HO114.out) hb)
 have n1_ := Aside0.mk (Kd.R_lower ho0 (below_size (by repeat (first | (with_reducible first | exact HB.out | apply below_alloc | apply pw_below_drewN | apply below_drew1 | refine below_set ?_ GE106.out | refine below_set ?_ GE107.out) | exact HB.out))))
 have n2_ := Aside0.mk (blk_below (g := gb106) (o := .cells #[.int .i64 a0_0, .int .i64 a0_1, .int .i64 a0_2, .int .i64 a0_3, .int .i64 a0_4, .string a0_5, .int .i64 a0_6, .int .i64 a0_7, .slice A0_8 l0_8.length c0_8, .slice A0_9 l0_9.length c0_9, .slice A0_10 l0_10.length c0_10] 27 (0, 0)) (by (with_reducible repeat (first | refine blk_drewN ?_ _ | refine blk_drew ?_ | refine blk_alloc ?_ _)); exact BK106.out) hb)
 have n3_ := Aside0.mk (blk_below (g := gb107) (o := .cells #[.int .i64 0, .int .i64 0, .int .i64 0, .int .i64 0, .int .i64 0, .string (⟨#[]⟩ : ByteArray), .int .i64 0, .int .i64 0, .slice none 0 0, .slice none 0 0, .slice none 0 0] 27 (0, 0)) (by (with_reducible repeat (first | refine blk_drewN ?_ _ | refine blk_drew ?_ | refine blk_alloc ?_ _)); exact BK107.out) hb)
 have n4_ := Aside0.mk (below_step (by repeat (first | (with_reducible first | exact HB.out | apply below_alloc | apply pw_below_drewN | apply below_drew1 | refine below_set ?_ GE106.out | refine below_set ?_ GE107.out) | exact HB.out)) hb)
 clear HO114
 clear BK106
 clear BK107
 clear HB
 have HO114 := n0_
 have HO117 := n1_
 have BK106 := n2_
 have BK107 := n3_
 have HB := n4_
 clear n0_ n1_ n2_ n3_ n4_
 (try clear hb)
 (try clear hb2)
 (try clear hk)
 (try clear hi)
 (try clear ho0)
 refine hK.out _ _ ⟨(blk_cell BK106.out 0).trans rfl, (blk_cell BK106.out 1).trans rfl, (blk_cell BK106.out 2).trans rfl, (blk_cell BK106.out 3).trans rfl, (blk_cell BK106.out 4).trans rfl, (blk_cell BK106.out 5).trans rfl, (blk_cell BK106.out 6).trans rfl, (blk_cell BK106.out 7).trans rfl, (blk_cell BK106.out 8).trans rfl, (blk_cell BK106.out 9).trans rfl, (blk_cell BK106.out 10).trans rfl⟩ (fun hHeld => ?_)
 clear hK K
 refine norm_ (a' := ?_) ?_ ?_
 rotate_left
 ·
  show Act.put _ (some 8) _ = _
  simp only [Act.put, List.setIfInBounds_toArray, List.set_cons_zero, List.set_cons_succ, i64_w, i32_w]
  rfl
 refine one_ (i := 8) (N := some 11) #[true, true, true, true, true, true, true, true, true, true, false, false, false, false, false] rfl rfl (one_of HT_.out (by kernel_rfl)) (by decide) (fun K hK => ?_)
 refine goes_ Tryd.func43 (by kernel_rfl) rfl #[.slice A0_10 l0_10.length c0_10] (by rfl) rfl rfl (by (try simp only [List.map_toArray, List.map_cons, List.map_nil]); first | done | rfl | (simp only [List.length_drop, List.length_take]; rfl)) ?_
 with_reducible refine (slices_Clone_int_int.calls _ _ l0_10 t118 _ ?side1 ?side2 A4.out).mono ?_
 (case side1 => repeat (first | exact (Kd.C_below HR0_10.out HB.out) | (with_reducible refine Kd.C_alloc ?_ _) | (with_reducible refine Kd.C_drewN ?_ _) | (with_reducible refine Kd.C_drew ?_)))
 (case side2 => exact HC0_10.out)
 rintro e w10 ⟨v119, rfl, ho0, hb⟩
 refine ⟨_, rfl, ?_⟩
 have n0_ := Aside0.mk (Kd.R_below (by (with_reducible repeat (first | apply Kd.R_alloc | apply Kd.R_drewN | apply Kd.R_drew)); exact HO114.out) hb)
 have n1_ := Aside0.mk (Kd.R_elder' (by (with_reducible repeat (first | apply Kd.R_alloc | apply Kd.R_drewN | apply Kd.R_drew)); exact HO117.out) (Kd.R_base ho0) hb)
 have n2_ := Aside0.mk (Kd.R_lower (Kd.R_new' ho0 (Kd.R_lt (by (with_reducible repeat (first | apply Kd.R_alloc | apply Kd.R_drewN | apply Kd.R_drew)); exact HO117.out))) (below_size (by repeat (first | (with_reducible first | exact HB.out | apply below_alloc | apply pw_below_drewN | apply below_drew1 | refine below_set ?_ GE106.out | refine below_set ?_ GE107.out) | exact HB.out))))
 have n3_ := Aside0.mk (blk_below (g := gb106) (o := .cells #[.int .i64 a0_0, .int .i64 a0_1, .int .i64 a0_2, .int .i64 a0_3, .int .i64 a0_4, .string a0_5, .int .i64 a0_6, .int .i64 a0_7, .slice A0_8 l0_8.length c0_8, .slice A0_9 l0_9.length c0_9, .slice A0_10 l0_10.length c0_10] 27 (0, 0)) (by (with_reducible repeat (first | refine blk_drewN ?_ _ | refine blk_drew ?_ | refine blk_alloc ?_ _)); exact BK106.out) hb)
 have n4_ := Aside0.mk (blk_below (g := gb107) (o := .cells #[.int .i64 0, .int .i64 0, .int .i64 0, .int .i64 0, .int .i64 0, .string (⟨#[]⟩ : ByteArray), .int .i64 0, .int .i64 0, .slice none 0 0, .slice none 0 0, .slice none 0 0] 27 (0, 0)) (by (with_reducible repeat (first | refine blk_drewN ?_ _ | refine blk_drew ?_ | refine blk_alloc ?_ _)); exact BK107.out) hb)
 have n5_ := Aside0.mk (below_step (by repeat (first | (with_reducible first | exact HB.out | apply below_alloc | apply pw_below_drewN | apply below_drew1 | refine below_set ?_ GE106.out | refine below_set ?_ GE107.out) | exact HB.out)) hb)
 clear HO114
 clear HO117
 clear BK106
 clear BK107
 clear HB
 have HO114 := n0_
 have HO117 := n1_
 have HO120 := n2_
 have BK106 := n3_
 have BK107 := n4_
 have HB := n5_
 clear n0_ n1_ n2_ n3_ n4_ n5_
 (try clear hb)
 (try clear hb2)
 (try clear hk)
 (try clear hi)
 (try clear ho0)
 obtain ⟨Ao15, co15, eo15⟩ := Kd.R_slice HO114.out
 (first | subst eo15 | (injection eo15 with f1_ f2_ f3_; have f4_ := f1_.symm; have f5_ := f3_.symm; clear f1_ f2_ f3_; subst f4_; subst f5_))
 obtain ⟨Ao17, co17, eo17⟩ := Kd.R_slice HO117.out
 (first | subst eo17 | (injection eo17 with f1_ f2_ f3_; have f4_ := f1_.symm; have f5_ := f3_.symm; clear f1_ f2_ f3_; subst f4_; subst f5_))
 obtain ⟨Ao19, co19, eo19⟩ := Kd.R_slice HO120.out
 (first | subst eo19 | (injection eo19 with f1_ f2_ f3_; have f4_ := f1_.symm; have f5_ := f3_.symm; clear f1_ f2_ f3_; subst f4_; subst f5_))
 refine hK.out _ _ ⟨(blk_cell BK106.out 0).trans rfl, (blk_cell BK106.out 1).trans rfl, (blk_cell BK106.out 2).trans rfl, (blk_cell BK106.out 3).trans rfl, (blk_cell BK106.out 4).trans rfl, (blk_cell BK106.out 5).trans rfl, (blk_cell BK106.out 6).trans rfl, (blk_cell BK106.out 7).trans rfl, (blk_cell BK106.out 8).trans rfl, (blk_cell BK106.out 9).trans rfl, (blk_cell BK106.out 10).trans rfl⟩ (fun hHeld => ?_)
 clear hK K
 refine norm_ (a' := ?_) ?_ ?_
 rotate_left
 ·
  show Act.put _ (some 11) _ = _
  simp only [Act.put, List.setIfInBounds_toArray, List.set_cons_zero, List.set_cons_succ, i64_w, i32_w]
  rfl
 refine last_ (i := 10) (N := none) #[true, true, true, true, true, true, true, true, true, true, true, false, false, false, false] rfl rfl (one_of HT_.out (by kernel_rfl)) (by decide) (fun K hK => ?_)
 have hs11 : w10.cell? ⟨gb106, 4, none⟩ = some (.int .i64 a0_4) := (blk_cell BK106.out 4).trans rfl
 have hfs11 := blk_frozen BK106.out 4
 have hns11_1 := NB107_106.out
 have hms11_1 := NB106_107.out
 have hs12 : w10.cell? ⟨gb106, 5, none⟩ = some (.string a0_5) := (blk_cell BK106.out 5).trans rfl
 have hfs12 := blk_frozen BK106.out 5
 have hns12_1 := NB107_106.out
 have hms12_1 := NB106_107.out
 have hs13 : w10.cell? ⟨gb106, 6, none⟩ = some (.int .i64 a0_6) := (blk_cell BK106.out 6).trans rfl
 have hfs13 := blk_frozen BK106.out 6
 have hns13_1 := NB107_106.out
 have hms13_1 := NB106_107.out
 have hs14 : w10.cell? ⟨gb106, 7, none⟩ = some (.int .i64 a0_7) := (blk_cell BK106.out 7).trans rfl
 have hfs14 := blk_frozen BK106.out 7
 have hns14_1 := NB107_106.out
 have hms14_1 := NB106_107.out
 have hs16 : w10.cell? ⟨gb106, 8, none⟩ = some (.slice A0_8 l0_8.length c0_8) := (blk_cell BK106.out 8).trans rfl
 have hfs16 := blk_frozen BK106.out 8
 have hns16_1 := NB107_106.out
 have hms16_1 := NB106_107.out
 refine skip_ (w1 := ?_) (by rfl) rfl ?_ ?_
 rotate_left
 ·
  go_simp
  rfl
 refine hK.out _ _ ?_
 clear hK K
 refine pure_ (i := 11) (N := some 13) (v := ?_) (a' := ?_) #[true, true, true, true, true, true, true, true, true, true, true, true, false, false, false] rfl rfl (any_of HT_.out (by kernel_rfl)) (fun _ _ _ h => h) (Or.inl ⟨by rfl, ?_⟩) ?_ ?_
 rotate_left
 ·
  intro w'
  go_simp
  with_reducible rfl
 rotate_left
 ·
  simp only [Act.put, List.setIfInBounds_toArray, List.set_cons_zero, List.set_cons_succ, i64_w, i32_w]
  rfl
 refine last_ (i := 12) (N := none) #[true, true, true, true, true, true, true, true, true, true, true, true, true, false, false] rfl rfl (one_of HT_.out (by kernel_rfl)) (by decide) (fun K hK => ?_)
 have hs18 : w10.cell? ⟨gb106, 9, none⟩ = some (.slice A0_9 l0_9.length c0_9) := (blk_cell BK106.out 9).trans rfl
 have hfs18 := blk_frozen BK106.out 9
 have hns18_1 := NB107_106.out
 have hms18_1 := NB106_107.out
 refine skip_ (w1 := ?_) (by rfl) rfl ?_ ?_
 rotate_left
 ·
  go_simp
  rfl
 refine hK.out _ _ ?_
 clear hK K
 refine pure_ (i := 13) (N := some 14) (v := ?_) (a' := ?_) #[true, true, true, true, true, true, true, true, true, true, true, true, true, true, false] rfl rfl (any_of HT_.out (by kernel_rfl)) (fun _ _ _ h => h) (Or.inl ⟨by rfl, ?_⟩) ?_ ?_
 rotate_left
 ·
  intro w'
  go_simp
  with_reducible rfl
 rotate_left
 ·
  simp only [Act.put, List.setIfInBounds_toArray, List.set_cons_zero, List.set_cons_succ, i64_w, i32_w]
  rfl
 refine last_ (i := 14) (N := none) #[true, true, true, true, true, true, true, true, true, true, true, true, true, true, true] rfl rfl (one_of HT_.out (by kernel_rfl)) (by decide) (fun K hK => ?_)
 have hs20 : w10.cell? ⟨gb106, 10, none⟩ = some (.slice A0_10 l0_10.length c0_10) := (blk_cell BK106.out 10).trans rfl
 have hfs20 := blk_frozen BK106.out 10
 have hns20_1 := NB107_106.out
 have hms20_1 := NB106_107.out
 refine skip_ (w1 := ?_) (by rfl) rfl ?_ ?_
 rotate_left
 ·
  go_simp
  rfl
 refine hK.out _ _ ?_
 clear hK K
 refine done_ (done_of HT_.out (by kernel_rfl)) ?_
 have hnb21 := NB106_107.out
 have hnc21 := NB107_106.out
 have hcz22_0 : w10.cell? ⟨gb106, 0, none⟩ = some (.int .i64 a0_0) := (blk_cell BK106.out 0).trans rfl
 have hcz22_1 : w10.cell? ⟨gb106, 1, none⟩ = some (.int .i64 a0_1) := (blk_cell BK106.out 1).trans rfl
 have hcz22_2 : w10.cell? ⟨gb106, 2, none⟩ = some (.int .i64 a0_2) := (blk_cell BK106.out 2).trans rfl
 have hcz22_3 : w10.cell? ⟨gb106, 3, none⟩ = some (.int .i64 a0_3) := (blk_cell BK106.out 3).trans rfl
 have hcz22_4 : w10.cell? ⟨gb106, 4, none⟩ = some (.int .i64 a0_4) := (blk_cell BK106.out 4).trans rfl
 have hcz22_5 : w10.cell? ⟨gb106, 5, none⟩ = some (.string a0_5) := (blk_cell BK106.out 5).trans rfl
 have hcz22_6 : w10.cell? ⟨gb106, 6, none⟩ = some (.int .i64 a0_6) := (blk_cell BK106.out 6).trans rfl
 have hcz22_7 : w10.cell? ⟨gb106, 7, none⟩ = some (.int .i64 a0_7) := (blk_cell BK106.out 7).trans rfl
 have hcz22_8 : w10.cell? ⟨gb106, 8, none⟩ = some (.slice A0_8 l0_8.length c0_8) := (blk_cell BK106.out 8).trans rfl
 have hcz22_9 : w10.cell? ⟨gb106, 9, none⟩ = some (.slice A0_9 l0_9.length c0_9) := (blk_cell BK106.out 9).trans rfl
 have hcz22_10 : w10.cell? ⟨gb106, 10, none⟩ = some (.slice A0_10 l0_10.length c0_10) := (blk_cell BK106.out 10).trans rfl
 have hfz22_0 := blk_frozen BK106.out 0
 have hfz22_1 := blk_frozen BK106.out 1
 have hfz22_2 := blk_frozen BK106.out 2
 have hfz22_3 := blk_frozen BK106.out 3
 have hfz22_4 := blk_frozen BK106.out 4
 have hfz22_5 := blk_frozen BK106.out 5
 have hfz22_6 := blk_frozen BK106.out 6
 have hfz22_7 := blk_frozen BK106.out 7
 have hfz22_8 := blk_frozen BK106.out 8
 have hfz22_9 := blk_frozen BK106.out 9
 have hfz22_10 := blk_frozen BK106.out 10
 have hcz23_0 : w10.cell? ⟨gb107, 0, none⟩ = some (.int .i64 0) := (blk_cell BK107.out 0).trans rfl
 have hcz23_1 : w10.cell? ⟨gb107, 1, none⟩ = some (.int .i64 0) := (blk_cell BK107.out 1).trans rfl
 have hcz23_2 : w10.cell? ⟨gb107, 2, none⟩ = some (.int .i64 0) := (blk_cell BK107.out 2).trans rfl
 have hcz23_3 : w10.cell? ⟨gb107, 3, none⟩ = some (.int .i64 0) := (blk_cell BK107.out 3).trans rfl
 have hcz23_4 : w10.cell? ⟨gb107, 4, none⟩ = some (.int .i64 0) := (blk_cell BK107.out 4).trans rfl
 have hcz23_5 : w10.cell? ⟨gb107, 5, none⟩ = some (.string (⟨#[]⟩ : ByteArray)) := (blk_cell BK107.out 5).trans rfl
 have hcz23_6 : w10.cell? ⟨gb107, 6, none⟩ = some (.int .i64 0) := (blk_cell BK107.out 6).trans rfl
 have hcz23_7 : w10.cell? ⟨gb107, 7, none⟩ = some (.int .i64 0) := (blk_cell BK107.out 7).trans rfl
 have hcz23_8 : w10.cell? ⟨gb107, 8, none⟩ = some (.slice none 0 0) := (blk_cell BK107.out 8).trans rfl
 have hcz23_9 : w10.cell? ⟨gb107, 9, none⟩ = some (.slice none 0 0) := (blk_cell BK107.out 9).trans rfl
 have hcz23_10 : w10.cell? ⟨gb107, 10, none⟩ = some (.slice none 0 0) := (blk_cell BK107.out 10).trans rfl
 have hfz23_0 := blk_frozen BK107.out 0
 have hfz23_1 := blk_frozen BK107.out 1
 have hfz23_2 := blk_frozen BK107.out 2
 have hfz23_3 := blk_frozen BK107.out 3
 have hfz23_4 := blk_frozen BK107.out 4
 have hfz23_5 := blk_frozen BK107.out 5
 have hfz23_6 := blk_frozen BK107.out 6
 have hfz23_7 := blk_frozen BK107.out 7
 have hfz23_8 := blk_frozen BK107.out 8
 have hfz23_9 := blk_frozen BK107.out 9
 have hfz23_10 := blk_frozen BK107.out 10
 try go_wp2
 refine bodyPost_ret (results_cell_row rfl _ _ gb107 27 #[.int .i64 a0_0, .int .i64 a0_1, .int .i64 a0_2, .int .i64 a0_3, .int .i64 t108, .string t109, .int .i64 t110, .int .i64 t111, .slice Ao15 t112.length co15, .slice Ao17 t115.length co17, .slice Ao19 t118.length co19] (0, 0) _ rfl (by (with_reducible repeat (first | refine blk_drewN ?_ _ | refine blk_drew ?_ | refine blk_alloc ?_ _)); refine blk_put (cs := #[.int .i64 a0_0, .int .i64 a0_1, .int .i64 a0_2, .int .i64 a0_3, .int .i64 t108, .string t109, .int .i64 t110, .int .i64 t111, .slice Ao15 t112.length co15, .slice Ao17 t115.length co17, .slice none 0 0]) ?_ 10 _ rfl; (with_reducible repeat (first | refine blk_drewN ?_ _ | refine blk_drew ?_ | refine blk_alloc ?_ _)); refine blk_put (cs := #[.int .i64 a0_0, .int .i64 a0_1, .int .i64 a0_2, .int .i64 a0_3, .int .i64 t108, .string t109, .int .i64 t110, .int .i64 t111, .slice Ao15 t112.length co15, .slice none 0 0, .slice none 0 0]) ?_ 9 _ rfl; (with_reducible repeat (first | refine blk_drewN ?_ _ | refine blk_drew ?_ | refine blk_alloc ?_ _)); refine blk_put (cs := #[.int .i64 a0_0, .int .i64 a0_1, .int .i64 a0_2, .int .i64 a0_3, .int .i64 t108, .string t109, .int .i64 t110, .int .i64 t111, .slice none 0 0, .slice none 0 0, .slice none 0 0]) ?_ 8 _ rfl; (with_reducible repeat (first | refine blk_drewN ?_ _ | refine blk_drew ?_ | refine blk_alloc ?_ _)); refine blk_put (cs := #[.int .i64 a0_0, .int .i64 a0_1, .int .i64 a0_2, .int .i64 a0_3, .int .i64 t108, .string t109, .int .i64 t110, .int .i64 0, .slice none 0 0, .slice none 0 0, .slice none 0 0]) ?_ 7 _ rfl; (with_reducible repeat (first | refine blk_drewN ?_ _ | refine blk_drew ?_ | refine blk_alloc ?_ _)); refine blk_put (cs := #[.int .i64 a0_0, .int .i64 a0_1, .int .i64 a0_2, .int .i64 a0_3, .int .i64 t108, .string t109, .int .i64 0, .int .i64 0, .slice none 0 0, .slice none 0 0, .slice none 0 0]) ?_ 6 _ rfl; (with_reducible repeat (first | refine blk_drewN ?_ _ | refine blk_drew ?_ | refine blk_alloc ?_ _)); refine blk_put (cs := #[.int .i64 a0_0, .int .i64 a0_1, .int .i64 a0_2, .int .i64 a0_3, .int .i64 t108, .string (⟨#[]⟩ : ByteArray), .int .i64 0, .int .i64 0, .slice none 0 0, .slice none 0 0, .slice none 0 0]) ?_ 5 _ rfl; (with_reducible repeat (first | refine blk_drewN ?_ _ | refine blk_drew ?_ | refine blk_alloc ?_ _)); refine blk_put (cs := #[.int .i64 a0_0, .int .i64 a0_1, .int .i64 a0_2, .int .i64 a0_3, .int .i64 0, .string (⟨#[]⟩ : ByteArray), .int .i64 0, .int .i64 0, .slice none 0 0, .slice none 0 0, .slice none 0 0]) ?_ 4 _ rfl; (with_reducible repeat (first | refine blk_drewN ?_ _ | refine blk_drew ?_ | refine blk_alloc ?_ _)); refine blk_put (cs := #[.int .i64 a0_0, .int .i64 a0_1, .int .i64 a0_2, .int .i64 0, .int .i64 0, .string (⟨#[]⟩ : ByteArray), .int .i64 0, .int .i64 0, .slice none 0 0, .slice none 0 0, .slice none 0 0]) ?_ 3 _ rfl; (with_reducible repeat (first | refine blk_drewN ?_ _ | refine blk_drew ?_ | refine blk_alloc ?_ _)); refine blk_put (cs := #[.int .i64 a0_0, .int .i64 a0_1, .int .i64 0, .int .i64 0, .int .i64 0, .string (⟨#[]⟩ : ByteArray), .int .i64 0, .int .i64 0, .slice none 0 0, .slice none 0 0, .slice none 0 0]) ?_ 2 _ rfl; (with_reducible repeat (first | refine blk_drewN ?_ _ | refine blk_drew ?_ | refine blk_alloc ?_ _)); refine blk_put (cs := #[.int .i64 a0_0, .int .i64 0, .int .i64 0, .int .i64 0, .int .i64 0, .string (⟨#[]⟩ : ByteArray), .int .i64 0, .int .i64 0, .slice none 0 0, .slice none 0 0, .slice none 0 0]) ?_ 1 _ rfl; (with_reducible repeat (first | refine blk_drewN ?_ _ | refine blk_drew ?_ | refine blk_alloc ?_ _)); refine blk_put (cs := #[.int .i64 0, .int .i64 0, .int .i64 0, .int .i64 0, .int .i64 0, .string (⟨#[]⟩ : ByteArray), .int .i64 0, .int .i64 0, .slice none 0 0, .slice none 0 0, .slice none 0 0]) ?_ 0 _ rfl; (with_reducible repeat (first | refine blk_drewN ?_ _ | refine blk_drew ?_ | refine blk_alloc ?_ _)); refine blk_far ?_ NB107_106.out _; (with_reducible repeat (first | refine blk_drewN ?_ _ | refine blk_drew ?_ | refine blk_alloc ?_ _)); refine blk_far ?_ NB107_106.out _; (with_reducible repeat (first | refine blk_drewN ?_ _ | refine blk_drew ?_ | refine blk_alloc ?_ _)); refine blk_far ?_ NB107_106.out _; (with_reducible repeat (first | refine blk_drewN ?_ _ | refine blk_drew ?_ | refine blk_alloc ?_ _)); refine blk_far ?_ NB107_106.out _; (with_reducible repeat (first | refine blk_drewN ?_ _ | refine blk_drew ?_ | refine blk_alloc ?_ _)); refine blk_far ?_ NB107_106.out _; (with_reducible repeat (first | refine blk_drewN ?_ _ | refine blk_drew ?_ | refine blk_alloc ?_ _)); refine blk_far ?_ NB107_106.out _; (with_reducible repeat (first | refine blk_drewN ?_ _ | refine blk_drew ?_ | refine blk_alloc ?_ _)); refine blk_far ?_ NB107_106.out _; (with_reducible repeat (first | refine blk_drewN ?_ _ | refine blk_drew ?_ | refine blk_alloc ?_ _)); exact BK107.out) Tryd.underlying27 rfl (by kernel_rfl)) rfl ?_
 exact ⟨_, _, _, by first | rfl | (simp [errW_none, errW_some] <;> rfl) | (simp [*, errW_none, errW_some] <;> rfl), by (with_reducible repeat (first | apply Kd.R_alloc | apply Kd.R_drewN | apply Kd.R_drew)); exact Kd.R_mono (Kd.R_far (p := ⟨gb107, 10, none⟩) (Kd.R_far (p := ⟨gb107, 9, none⟩) (Kd.R_far (p := ⟨gb107, 8, none⟩) (Kd.R_far (p := ⟨gb107, 7, none⟩) (Kd.R_far (p := ⟨gb107, 6, none⟩) (Kd.R_far (p := ⟨gb107, 5, none⟩) (Kd.R_far (p := ⟨gb107, 4, none⟩) (Kd.R_far (p := ⟨gb107, 3, none⟩) (Kd.R_far (p := ⟨gb107, 2, none⟩) (Kd.R_far (p := ⟨gb107, 1, none⟩) (Kd.R_far (p := ⟨gb107, 0, none⟩) (Kd.R_far (p := ⟨gb106, 10, none⟩) (Kd.R_far (p := ⟨gb106, 9, none⟩) (Kd.R_far (p := ⟨gb106, 8, none⟩) (Kd.R_far (p := ⟨gb106, 7, none⟩) (Kd.R_far (p := ⟨gb106, 6, none⟩) (Kd.R_far (p := ⟨gb106, 5, none⟩) (Kd.R_far (p := ⟨gb106, 4, none⟩) (Kd.R_types (Kd.R_types HO114.out BK106.out (by decide)) BK107.out (by decide)) (fun _ hk => hk.1.2) (.int .i64 t108)) (fun _ hk => hk.1.2) (.string t109)) (fun _ hk => hk.1.2) (.int .i64 t110)) (fun _ hk => hk.1.2) (.int .i64 t111)) (fun _ hk => hk.1.2) (.slice Ao15 t112.length co15)) (fun _ hk => hk.1.2) (.slice Ao17 t115.length co17)) (fun _ hk => hk.1.2) (.slice Ao19 t118.length co19)) (fun _ hk => hk.2) (.int .i64 a0_0)) (fun _ hk => hk.2) (.int .i64 a0_1)) (fun _ hk => hk.2) (.int .i64 a0_2)) (fun _ hk => hk.2) (.int .i64 a0_3)) (fun _ hk => hk.2) (.int .i64 t108)) (fun _ hk => hk.2) (.string t109)) (fun _ hk => hk.2) (.int .i64 t110)) (fun _ hk => hk.2) (.int .i64 t111)) (fun _ hk => hk.2) (.slice Ao15 t112.length co15)) (fun _ hk => hk.2) (.slice Ao17 t115.length co17)) (fun _ hk => hk.2) (.slice Ao19 t118.length co19)) (fun _ hk => trivial), by (with_reducible repeat (first | apply Kd.R_alloc | apply Kd.R_drewN | apply Kd.R_drew)); exact Kd.R_mono (Kd.R_far (p := ⟨gb107, 10, none⟩) (Kd.R_far (p := ⟨gb107, 9, none⟩) (Kd.R_far (p := ⟨gb107, 8, none⟩) (Kd.R_far (p := ⟨gb107, 7, none⟩) (Kd.R_far (p := ⟨gb107, 6, none⟩) (Kd.R_far (p := ⟨gb107, 5, none⟩) (Kd.R_far (p := ⟨gb107, 4, none⟩) (Kd.R_far (p := ⟨gb107, 3, none⟩) (Kd.R_far (p := ⟨gb107, 2, none⟩) (Kd.R_far (p := ⟨gb107, 1, none⟩) (Kd.R_far (p := ⟨gb107, 0, none⟩) (Kd.R_far (p := ⟨gb106, 10, none⟩) (Kd.R_far (p := ⟨gb106, 9, none⟩) (Kd.R_far (p := ⟨gb106, 8, none⟩) (Kd.R_far (p := ⟨gb106, 7, none⟩) (Kd.R_far (p := ⟨gb106, 6, none⟩) (Kd.R_far (p := ⟨gb106, 5, none⟩) (Kd.R_far (p := ⟨gb106, 4, none⟩) (Kd.R_types (Kd.R_types HO117.out BK106.out (by decide)) BK107.out (by decide)) (fun _ hk => hk.1.2) (.int .i64 t108)) (fun _ hk => hk.1.2) (.string t109)) (fun _ hk => hk.1.2) (.int .i64 t110)) (fun _ hk => hk.1.2) (.int .i64 t111)) (fun _ hk => hk.1.2) (.slice Ao15 t112.length co15)) (fun _ hk => hk.1.2) (.slice Ao17 t115.length co17)) (fun _ hk => hk.1.2) (.slice Ao19 t118.length co19)) (fun _ hk => hk.2) (.int .i64 a0_0)) (fun _ hk => hk.2) (.int .i64 a0_1)) (fun _ hk => hk.2) (.int .i64 a0_2)) (fun _ hk => hk.2) (.int .i64 a0_3)) (fun _ hk => hk.2) (.int .i64 t108)) (fun _ hk => hk.2) (.string t109)) (fun _ hk => hk.2) (.int .i64 t110)) (fun _ hk => hk.2) (.int .i64 t111)) (fun _ hk => hk.2) (.slice Ao15 t112.length co15)) (fun _ hk => hk.2) (.slice Ao17 t115.length co17)) (fun _ hk => hk.2) (.slice Ao19 t118.length co19)) (fun _ hk => hk.1.1.2), by (with_reducible repeat (first | apply Kd.R_alloc | apply Kd.R_drewN | apply Kd.R_drew)); exact Kd.R_mono (Kd.R_far (p := ⟨gb107, 10, none⟩) (Kd.R_far (p := ⟨gb107, 9, none⟩) (Kd.R_far (p := ⟨gb107, 8, none⟩) (Kd.R_far (p := ⟨gb107, 7, none⟩) (Kd.R_far (p := ⟨gb107, 6, none⟩) (Kd.R_far (p := ⟨gb107, 5, none⟩) (Kd.R_far (p := ⟨gb107, 4, none⟩) (Kd.R_far (p := ⟨gb107, 3, none⟩) (Kd.R_far (p := ⟨gb107, 2, none⟩) (Kd.R_far (p := ⟨gb107, 1, none⟩) (Kd.R_far (p := ⟨gb107, 0, none⟩) (Kd.R_far (p := ⟨gb106, 10, none⟩) (Kd.R_far (p := ⟨gb106, 9, none⟩) (Kd.R_far (p := ⟨gb106, 8, none⟩) (Kd.R_far (p := ⟨gb106, 7, none⟩) (Kd.R_far (p := ⟨gb106, 6, none⟩) (Kd.R_far (p := ⟨gb106, 5, none⟩) (Kd.R_far (p := ⟨gb106, 4, none⟩) (Kd.R_types (Kd.R_types HO120.out BK106.out (by decide)) BK107.out (by decide)) (fun _ hk => hk.1.2) (.int .i64 t108)) (fun _ hk => hk.1.2) (.string t109)) (fun _ hk => hk.1.2) (.int .i64 t110)) (fun _ hk => hk.1.2) (.int .i64 t111)) (fun _ hk => hk.1.2) (.slice Ao15 t112.length co15)) (fun _ hk => hk.1.2) (.slice Ao17 t115.length co17)) (fun _ hk => hk.1.2) (.slice Ao19 t118.length co19)) (fun _ hk => hk.2) (.int .i64 a0_0)) (fun _ hk => hk.2) (.int .i64 a0_1)) (fun _ hk => hk.2) (.int .i64 a0_2)) (fun _ hk => hk.2) (.int .i64 a0_3)) (fun _ hk => hk.2) (.int .i64 t108)) (fun _ hk => hk.2) (.string t109)) (fun _ hk => hk.2) (.int .i64 t110)) (fun _ hk => hk.2) (.int .i64 t111)) (fun _ hk => hk.2) (.slice Ao15 t112.length co15)) (fun _ hk => hk.2) (.slice Ao17 t115.length co17)) (fun _ hk => hk.2) (.slice Ao19 t118.length co19)) (fun _ hk => hk.1.1.2), by repeat (first | (with_reducible first | exact HB.out | apply below_alloc | apply pw_below_drewN | apply below_drew1 | refine below_set ?_ GE106.out | refine below_set ?_ GE107.out) | exact HB.out)⟩

/-- The table of changes: state, event, new state. -/
def chanL : List (Int × Int × Int) := [(0, 1, 2), (1, 1, 3), (0, 2, 1), (2, 2, 3), (2, 3, 4)]
def changeIn : List (Int × Int × Int) → Int → Int → Int × Bool
 | [], p, _ => (p, false)
 | x :: xs, p, event => if x.1 = p ∧ x.2.1 = event then (x.2.2, true) else changeIn xs p event
def transit_next.f (a0 : Int) (a1 : Int) : Option (Int × Bool) := some (changeIn chanL a0 a1)
theorem changeIn_drop (i : Nat) (hi : i < 5) (p event : Int) : changeIn (chanL.drop i) p event = if (chanL.getD i (0, 0, 0)).1 = p ∧ (chanL.getD i (0, 0, 0)).2.1 = event then ((chanL.getD i (0, 0, 0)).2.2, true) else changeIn (chanL.drop (i + 1)) p event := by
 have hl : chanL.length = 5 := rfl
 have hlt : i < chanL.length := by omega
 rw [List.drop_eq_getElem_cons hlt]
 have e : chanL.getD i (0, 0, 0) = chanL[i] := by simp [List.getD_eq_getElem?_getD, List.getElem?_eq_getElem hlt]
 rw [e]
 rfl
theorem chan_at (W : World) (i : Nat) (hi : i < 5) : (Instr.index 86 (.agg cells_changes) (.int .i64 i)).run Tryd.prog W = .ok (.agg #[.int .i64 (chanL.getD i (0, 0, 0)).1, .int .i64 (chanL.getD i (0, 0, 0)).2.1, .int .i64 (chanL.getD i (0, 0, 0)).2.2]) W := by
 rcases (by omega : i = 0 ∨ i = 1 ∨ i = 2 ∨ i = 3 ∨ i = 4) with rfl | rfl | rfl | rfl | rfl
 all_goals kernel_rfl
theorem pair_eq (a b c d : Int) (W : World) : (Op.equalIn 10000 83 (.agg #[.int .i64 a, .int .i64 b]) (.agg #[.int .i64 c, .int .i64 d])).run Tryd.prog W = .ok (a == c && b == d) W := by
 obtain ⟨i3, hi3, hz3, hsz3, _⟩ := info_parts info3
 rw [show (10000 : Nat) = 9998 + 1 + 1 from rfl, Op.equalIn]
 simp only [Sem.run_bind, run_underlying Tryd.underlying83, Result.andThen_ok]
 have hs : (sizeOf 3).run Tryd.prog W = .ok 1 W := by simp [sizeOf, typeInfo, hi3, hsz3]
 have hag : (isAgg 3).run Tryd.prog W = .ok false W := by simp [isAgg, run_underlying Tryd.underlying3]
 have hq : ∀ x y : Int, (Op.equalIn 9999 3 (.int .i64 x) (.int .i64 y)).run Tryd.prog W = .ok (x == y) W := fun x y => run_equalIn_int W 9998 3 .i64 .i64 x y Tryd.underlying3
 have hp0 : ∀ x y : Int, (part 3 #[.int .i64 x, .int .i64 y] 0).run Tryd.prog W = .ok (.int .i64 x) W := fun x y => by simp [part, Sem.run_bind, hag]
 have hp1 : ∀ x y : Int, (part 3 #[.int .i64 x, .int .i64 y] 1).run Tryd.prog W = .ok (.int .i64 y) W := fun x y => by simp [part, Sem.run_bind, hag]
 by_cases h1 : a = c <;> by_cases h2 : b = d <;> simp [List.range', Sem.run_bind, hs, hp0, hp1, hq, h1, h2]
set_option maxHeartbeats 8000000 in
set_option maxRecDepth 100000 in
theorem transit_next.calls (a0 : Int) (a1 : Int) (r1 : Int) (r2 : Bool) (w : World) (hG_changes : GL_changes w) (h : transit_next.f a0 a1 = some (r1, r2)) :
  Calls Tryd.prog 41 #[.int .i64 a0, .int .i64 a1] w fun e w' => e = .returned (.tuple #[.int .i64 r1, .bool r2]) ∧ Below w.heap.size w w' := by
 have hR := (Option.some.inj h).symm
 clear h
 have hu85 := Tryd.underlying85
 obtain ⟨tt, fr, hg⟩ := hG_changes
 have HG := Aside0.mk hg
 clear hg
 have HB := Aside0.mk (Below.refl w.heap.size w)
 have HR := Aside0.mk hR
 clear hR
 go_enter Tryd.func41, Tryd.ntmps41
 go_wp2_with (first | (refine wpList_load_row rfl _ _ rfl _ rfl _ _ _ _ HG.out Tryd.underlying86 rfl (by kernel_rfl) ?_))
 go_loopw [9] (fun v wr => ∃ i : Nat, i ≤ 5 ∧ v = .int .i64 i ∧ Aside0 (changeIn (chanL.drop i) a0 a1 = (r1, r2)) ∧ Aside0 (Below w.heap.size w wr)) (fun v _ => 5 - (intOf v).toNat)
 case atStart => exact ⟨0, by omega, rfl, ⟨HR.out.symm⟩, HB⟩
 case round =>
  obtain ⟨i, hi, rfl, HA, HBr⟩ := hrel
  by_cases hlt : i < 5
  ·
   have hx := fun W => chan_at W i hlt
   have hs := changeIn_drop i hlt a0 a1
   obtain ⟨⟨a, f, t⟩, he⟩ : ∃ x, x = chanL.getD i (0, 0, 0) := ⟨_, rfl⟩
   rw [← he] at hs hx
   dsimp only at hs hx
   clear he
   rw [HA.out] at hs
   have HS := Aside0.mk hs
   clear hs HA
   have hlt' : decide ((i : Int) < 5) = true := decide_eq_true (by omega)
   have hpe := fun W => pair_eq a f a0 a1 W
   by_cases ca : a = a0
   ·
    by_cases cf : f = a1
    ·
     have H1 := HS.out
     rw [if_pos ⟨ca, cf⟩] at H1
     cases H1
     have cab : (a == a0) = true := beq_iff_eq.mpr ca
     have cfb : (f == a1) = true := beq_iff_eq.mpr cf
     clear HS HR
     rw [cab, cfb] at hpe
     clear cab cfb ca cf
     go_wp2
     go_ret2
     exact ⟨rfl, by repeat (first | exact HBr.out | apply below_alloc | refine below_set ?_ HBr.out.size | apply pw_below_drewN)⟩
    ·
     have H1 := Aside0.mk (HS.out.trans (if_neg (fun h => cf h.2)))
     have cab : (a == a0) = true := beq_iff_eq.mpr ca
     have cfb : (f == a1) = false := beq_eq_false_iff_ne.mpr cf
     rw [cab, cfb] at hpe
     clear HS HR cab cfb ca cf
     go_wp2
     go_roundw
     case rel => exact ⟨i + 1, by omega, by go_num, ⟨H1.out.symm⟩, ⟨by repeat (first | exact HBr.out | apply below_alloc | refine below_set ?_ HBr.out.size | apply pw_below_drewN)⟩⟩
     case measure => simp [intOf]; omega
   ·
    have H1 := Aside0.mk (HS.out.trans (if_neg (fun h => ca h.1)))
    have cab : (a == a0) = false := beq_eq_false_iff_ne.mpr ca
    rw [cab, Bool.false_and] at hpe
    clear HS HR cab ca
    go_wp2
    go_roundw
    case rel => exact ⟨i + 1, by omega, by go_num, ⟨H1.out.symm⟩, ⟨by repeat (first | exact HBr.out | apply below_alloc | refine below_set ?_ HBr.out.size | apply pw_below_drewN)⟩⟩
    case measure => simp [intOf]; omega
  ·
   obtain rfl : i = 5 := by omega
   have e : (a0, false) = (r1, r2) := HA.out
   cases e
   clear HA HR
   have hlt' : decide (((5 : Nat) : Int) < 5) = false := rfl
   go_wp2
   go_ret2
   exact ⟨rfl, by repeat (first | exact HBr.out | apply below_alloc | refine below_set ?_ HBr.out.size | apply pw_below_drewN)⟩

def transit_Announce.f (a0_0 : Int) (a0_1 : Int) (a0_2 : Int) (a0_3 : Int) (a0_4 : Int) (a0_5 : ByteArray) (a0_6 : Int) (a0_7 : Int) (l0_8 : List (S89)) (l0_9 : List Int) (l0_10 : List Int) (a1_0 : Int) (a1_1 : ByteArray) (a1_2 : Int) (a1_3 : Int) (l1_4 : List (S89)) (a2 : Int) (a3 : Int) (l4 : List Int) : Option (Int × Int × Int × Int × Int × ByteArray × Int × Int × (List (S89)) × List Int × List Int × Bool) := (transit_arrived.f a0_0 a0_1 a0_2 a0_3 a0_4 a0_5 a0_6 a0_7 l0_8 l0_9 l0_10).bind fun bt124 => ((transit_next.f bt124.2.2.2.1 1).bind fun bt141 => (if bt141.2 = true then ((transit_twin.f a1_0 a1_1 a1_2 a1_3 l1_4).bind fun bt143 => ((slices_Clone_int_int.f l4).bind fun t150 => (some (a1_0, a2, a3, bt141.1, bt143.1, bt143.2.1, bt143.2.2.1, bt143.2.2.2.1, bt143.2.2.2.2, t150, bt124.2.2.2.2.2.2.2.2.2.2, bt141.2)))) else (some (bt124.1, bt124.2.1, bt124.2.2.1, bt124.2.2.2.1, bt124.2.2.2.2.1, bt124.2.2.2.2.2.1, bt124.2.2.2.2.2.2.1, bt124.2.2.2.2.2.2.2.1, bt124.2.2.2.2.2.2.2.2.1, bt124.2.2.2.2.2.2.2.2.2.1, bt124.2.2.2.2.2.2.2.2.2.2, bt141.2))))
def transit_Announce.T4 : Bool × List (List Nat × List Nat) := (true, [([], []), ([], []), ([1], [1]), ([], []), ([3], [3]), ([], []), ([], []), ([], []), ([7, 4], [7]), ([0], []), ([9, 0, 8, 0], [0, 9]), ([0, 1, 2, 9, 10], []), ([11, 2, 10, 0, 1, 2, 9, 10], [2, 11]), ([0, 1, 2, 3, 4, 9, 10, 11, 12], []), ([13, 4, 12, 0, 1, 2, 3, 4, 9, 10, 11, 12], [4, 13]), ([0, 1, 2, 3, 4, 5, 9, 10, 11, 12, 13, 14], []), ([15, 5, 14, 0, 1, 2, 3, 4, 5, 9, 10, 11, 12, 13, 14], [5, 15]), ([0, 1, 2, 3, 4, 5, 6, 9, 10, 11, 12, 13, 14, 15, 16], []), ([17, 6, 16, 0, 1, 2, 3, 4, 5, 6, 9, 10, 11, 12, 13, 14, 15, 16], [6, 17]), ([0, 1, 2, 3, 4, 5, 6, 7, 8, 9, 10, 11, 12, 13, 14, 15, 16, 17, 18], []), ([19, 8, 18, 0, 1, 2, 3, 4, 5, 6, 7, 8, 9, 10, 11, 12, 13, 14, 15, 16, 17, 18], [8, 19])])
def transit_Announce.B4 : List Nat := [0, 0, 2, 0, 8, 0, 0, 0, 152, 1, 921, 1951, 3999, 8095, 16287, 32703, 65471, 131071, 262143, 524287, 1048575]
theorem transit_Announce.tab4 : rtab .any (opsOf Tryd.f9 4) = transit_Announce.T4 := by kernel_rfl
theorem transit_Announce.bits4 : waitsOk transit_Announce.T4.2 transit_Announce.B4 = true := by kernel_rfl
set_option maxHeartbeats 8000000 in
set_option maxRecDepth 100000 in
theorem transit_Announce.calls (a0_0 : Int) (a0_1 : Int) (a0_2 : Int) (a0_3 : Int) (a0_4 : Int) (a0_5 : ByteArray) (a0_6 : Int) (a0_7 : Int) (A0_8 : Option Addr) (c0_8 : Nat) (l0_8 : List (S89)) (A0_9 : Option Addr) (c0_9 : Nat) (l0_9 : List Int) (A0_10 : Option Addr) (c0_10 : Nat) (l0_10 : List Int) (a1_0 : Int) (a1_1 : ByteArray) (a1_2 : Int) (a1_3 : Int) (A1_4 : Option Addr) (c1_4 : Nat) (l1_4 : List (S89)) (a2 : Int) (a3 : Int) (A4 : Option Addr) (c4 : Nat) (l4 : List Int) (r1 : Int) (r2 : Int) (r3 : Int) (r4 : Int) (r5 : Int) (r6 : ByteArray) (r7 : Int) (r8 : Int) (r9 : List (S89)) (r10 : List Int) (r11 : List Int) (r12 : Bool) (w : World) (hr0_8 : Kd.C k89 w A0_8 l0_8.length l0_8) (hc0_8 : l0_8.length ≤ c0_8) (hr0_9 : Kd.C (Kd.int .i64) w A0_9 l0_9.length l0_9) (hc0_9 : l0_9.length ≤ c0_9) (hr0_10 : Kd.C (Kd.int .i64) w A0_10 l0_10.length l0_10) (hc0_10 : l0_10.length ≤ c0_10) (hr1_4 : Kd.C k89 w A1_4 l1_4.length l1_4) (hc1_4 : l1_4.length ≤ c1_4) (hr4 : Kd.C (Kd.int .i64) w A4 l4.length l4) (hc4 : l4.length ≤ c4) (hG_changes : GL_changes w) (h : transit_Announce.f a0_0 a0_1 a0_2 a0_3 a0_4 a0_5 a0_6 a0_7 l0_8 l0_9 l0_10 a1_0 a1_1 a1_2 a1_3 l1_4 a2 a3 l4 = some (r1, r2, r3, r4, r5, r6, r7, r8, r9, r10, r11, r12)) :
  Calls Tryd.prog 9 #[.agg #[.int .i64 a0_0, .int .i64 a0_1, .int .i64 a0_2, .int .i64 a0_3, .int .i64 a0_4, .string a0_5, .int .i64 a0_6, .int .i64 a0_7, .slice A0_8 l0_8.length c0_8, .slice A0_9 l0_9.length c0_9, .slice A0_10 l0_10.length c0_10], .agg #[.int .i64 a1_0, .string a1_1, .int .i64 a1_2, .int .i64 a1_3, .slice A1_4 l1_4.length c1_4], .int .i64 a2, .int .i64 a3, .slice A4 l4.length c4] w fun e w' => ∃ v8_ v9_ v10_ : Value, e = .returned (.tuple #[.agg #[.int .i64 r1, .int .i64 r2, .int .i64 r3, .int .i64 r4, .int .i64 r5, .string r6, .int .i64 r7, .int .i64 r8, v8_, v9_, v10_], .bool r12]) ∧ Kd.R k89 89 w' w.heap.size (fun _ => True) v8_ r9 ∧ Kd.R (Kd.int .i64) 3 w' w.heap.size (fun k_ => some k_ ≠ (v10_ : Value).ownBlock) v9_ r10 ∧ Kd.R (Kd.int .i64) 3 w' w.heap.size (fun k_ => some k_ ≠ (v9_ : Value).ownBlock) v10_ r11 ∧ Below w.heap.size w w' := by
 have HR8 := Aside0.mk hr0_8
 have HC8 := Aside0.mk hc0_8
 have HR9 := Aside0.mk hr0_9
 have HC9 := Aside0.mk hc0_9
 have HR10 := Aside0.mk hr0_10
 have HC10 := Aside0.mk hc0_10
 have HR14 := Aside0.mk hr1_4
 have HC14 := Aside0.mk hc1_4
 have HR4 := Aside0.mk hr4
 have HC4 := Aside0.mk hc4
 have HG := Aside0.mk hG_changes
 clear hr0_8 hc0_8 hr0_9 hc0_9 hr0_10 hc0_10 hr1_4 hc1_4 hr4 hc4 hG_changes
 have hu27 := Tryd.underlying27
 have hu24 := Tryd.underlying24
 unfold transit_Announce.f at h
 obtain ⟨⟨t0, t1, t2, t3, t4, t5, t6, t7, m8, m9, m10⟩, A0, H⟩ := Option.bind_eq_some_iff.mp h
 have E1 := Aside0.mk A0
 clear h A0
 obtain ⟨⟨st, pb⟩, A0, H⟩ := Option.bind_eq_some_iff.mp H
 have E2 := Aside0.mk (show transit_next.f t3 1 = some (st, pb) from A0)
 clear A0
 cases pb with
 | false =>
  simp only [Bool.false_eq_true, if_false, Option.some.injEq, Prod.mk.injEq] at H
  obtain ⟨rfl, rfl, rfl, rfl, rfl, rfl, rfl, rfl, rfl, rfl, rfl, rfl⟩ := H
  go_enter Tryd.func9, Tryd.ntmps9
  go_wp2_with (first
   | ((with_reducible refine gate_dst (N := 5) rfl ?_); refine box_event rfl (N := 5) rfl (cs := #[.int .i64 a0_0, .int .i64 a0_1, .int .i64 a0_2, .int .i64 a0_3, .int .i64 a0_4, .string a0_5, .int .i64 a0_6, .int .i64 a0_7, .slice A0_8 l0_8.length c0_8, .slice A0_9 l0_9.length c0_9, .slice A0_10 l0_10.length c0_10]) (t := 27) ?hr ?_; (case hr => first | (go_simp; done) | (go_simp; rfl)); intro g hg w1 h1 b1; have G1 := Aside0.mk (And.intro hg (And.intro h1 b1)); clear hg h1 b1)
   | ((with_reducible refine gate_dst (N := 6) rfl ?_); refine box_event rfl (N := 6) rfl (cs := #[.int .i64 a1_0, .string a1_1, .int .i64 a1_2, .int .i64 a1_3, .slice A1_4 l1_4.length c1_4]) (t := 24) ?hr ?_; (case hr => first | (go_simp; done) | (go_simp; rfl)); intro g2 hg w2 h1 b1; have G2 := Aside0.mk (And.intro hg (And.intro h1 b1)); clear hg h1 b1)
   | ((with_reducible refine gate_dst (N := 10) rfl ?_); refine box_event rfl (N := 10) rfl (cs := #[.int .i64 0, .int .i64 0, .int .i64 0, .int .i64 0, .int .i64 0, .string (⟨#[]⟩ : ByteArray), .int .i64 0, .int .i64 0, .slice none 0 0, .slice none 0 0, .slice none 0 0]) (t := 27) ?hr ?_; (case hr => first | (go_simp; done) | (go_simp; rfl)); intro gr hg w3 h1 b1; have S3 := Aside0.mk (St.start G1.out G2.out ⟨hg, h1, b1⟩ rfl); clear hg h1 b1 G1 G2)
   | ((with_reducible refine gate_dst (N := 14) rfl ?_); refine ev_load rfl (N := 14) rfl rfl (q := .pointer (some ⟨g, 0, none⟩)) (v := .agg #[.int .i64 a0_0, .int .i64 a0_1, .int .i64 a0_2, .int .i64 a0_3, .int .i64 a0_4, .string a0_5, .int .i64 a0_6, .int .i64 a0_7, .slice A0_8 l0_8.length c0_8, .slice A0_9 l0_9.length c0_9, .slice A0_10 l0_10.length c0_10]) rfl (load_eleven Tryd.underlying27 rfl (by kernel_rfl) S3.out.lo.at1 rfl) ?_)
   | (go_at_call 40; refine (transit_arrived.calls a0_0 a0_1 a0_2 a0_3 a0_4 a0_5 a0_6 a0_7 _ _ l0_8 _ _ l0_9 _ _ l0_10 t0 t1 t2 t3 t4 t5 t6 t7 m8 m9 m10 _ (Kd.C_below HR8.out S3.out.below) HC8.out (Kd.C_below HR9.out S3.out.below) HC9.out (Kd.C_below HR10.out S3.out.below) HC10.out E1.out).mono ?_; rintro e w4 ⟨u8, u9, u10, rfl, o8, o9, o10, hb⟩; have R8 := Aside0.mk (Kd.R_lower o8 (below_size S3.out.below)); have R9 := Aside0.mk (Kd.R_lower o9 (below_size S3.out.below)); have R10 := Aside0.mk (Kd.R_lower o10 (below_size S3.out.below)); have S4 := Aside0.mk (S3.out.call hb); clear o8 o9 o10 hb S3)
   | ((with_reducible refine gate_store (t := 27) (p := 5) rfl ?_); refine ev_store rfl (ty := 27) (p := 5) rfl rfl (q := .pointer (some ⟨g, 0, none⟩)) (v := .agg #[.int .i64 t0, .int .i64 t1, .int .i64 t2, .int .i64 t3, .int .i64 t4, .string t5, .int .i64 t6, .int .i64 t7, u8, u9, u10]) rfl rfl (store_eleven (by kernel_rfl) S4.out.lo.at1 rfl (arr_elf _ _ _ _ _ _ _ _ (rone R8.out) (rone R9.out) (rone R10.out))) ?_; intro w5 hF; have S5 := Aside0.mk (S4.out.same hF.1 rfl hF.2); have R8' := Aside0.mk (R_past (by decide) R8.out S4.out.lo.at1 S4.out.lo.at2.choose_spec.2 S5.out.mv); have R9' := Aside0.mk (R_past (by decide) R9.out S4.out.lo.at1 S4.out.lo.at2.choose_spec.2 S5.out.mv); have R10' := Aside0.mk (R_past (by decide) R10.out S4.out.lo.at1 S4.out.lo.at2.choose_spec.2 S5.out.mv); have hc3 : w5.cell? ⟨g, 3, none⟩ = some (.int .i64 t3) := (cell_of_row w5 g 3 _ 27 (0, 0) S5.out.lo.at1).trans rfl; clear hF S4 R8 R9 R10)
   | (go_at_call 41; refine (transit_next.calls t3 1 st _ _ (HG.out.of_below S5.out.below) E2.out).mono ?_; rintro e w6 ⟨rfl, hb⟩; have S6 := Aside0.mk (S5.out.call hb); have R8 := Aside0.mk (Kd.R_below R8'.out hb); have R9 := Aside0.mk (Kd.R_below R9'.out hb); have R10 := Aside0.mk (Kd.R_below R10'.out hb); clear hb S5 R8' R9' R10' hc3)
   | ((with_reducible refine gate_dst (N := 38) rfl ?_); refine ev_load rfl (N := 38) rfl rfl (q := .pointer (some ⟨g, 0, none⟩)) (v := .agg #[.int .i64 t0, .int .i64 t1, .int .i64 t2, .int .i64 t3, .int .i64 t4, .string t5, .int .i64 t6, .int .i64 t7, u8, u9, u10]) rfl (load_eleven Tryd.underlying27 rfl (by kernel_rfl) S6.out.lo.at1 rfl) ?_)
   | ((with_reducible refine gate_store (t := 27) (p := 10) rfl ?_); obtain ⟨old, ho2, h2⟩ := S6.out.lo.at2; refine ev_store rfl (ty := 27) (p := 10) rfl rfl (q := .pointer (some ⟨gr, 0, none⟩)) (v := .agg #[.int .i64 t0, .int .i64 t1, .int .i64 t2, .int .i64 t3, .int .i64 t4, .string t5, .int .i64 t6, .int .i64 t7, u8, u9, u10]) rfl rfl (store_eleven (by kernel_rfl) h2 ho2 (arr_elf _ _ _ _ _ _ _ _ (rone R8.out) (rone R9.out) (rone R10.out))) ?_; intro w9 hF; have AF := Aside0.mk hF.1; have MF := Aside0.mk (S6.out.lo.done hF.2); have MG := Aside0.mk (S6.out.mv.then_ (Mv.same (fun k => k = g ∨ k = gr) (.inr rfl) hF.2) (fun _ hk => .inl hk)); clear hF ho2 h2))
  refine bodyPost_ret (results_ct rfl _ _ gr 27 #[.int .i64 t0, .int .i64 t1, .int .i64 t2, .int .i64 t3, .int .i64 t4, .string t5, .int .i64 t6, .int .i64 t7, u8, u9, u10] (0, 0) _ rfl AF.out Tryd.underlying27 rfl (by kernel_rfl)) rfl ?_
  exact ⟨u8, u9, u10, rfl, R_past (by decide) R8.out S6.out.lo.at1 S6.out.lo.at2.choose_spec.2 MG.out, R_past (by decide) R9.out S6.out.lo.at1 S6.out.lo.at2.choose_spec.2 MG.out, R_past (by decide) R10.out S6.out.lo.at1 S6.out.lo.at2.choose_spec.2 MG.out, MF.out.below (Nat.le_refl _) (fun _ hk => hk.elim)⟩
 | true =>
  obtain ⟨⟨q4, q5, q6, q7, m4⟩, A0, H⟩ := Option.bind_eq_some_iff.mp (show (transit_twin.f a1_0 a1_1 a1_2 a1_3 l1_4).bind _ = _ from H)
  have E3 := Aside0.mk A0
  clear A0
  obtain ⟨s9, A0, H⟩ := Option.bind_eq_some_iff.mp H
  have E4 := Aside0.mk A0
  clear A0
  simp only [Option.some.injEq, Prod.mk.injEq] at H
  obtain ⟨rfl, rfl, rfl, rfl, rfl, rfl, rfl, rfl, rfl, rfl, rfl, rfl⟩ := H
  go_enter Tryd.func9, Tryd.ntmps9
  try go_wp2_with (first
   | ((with_reducible refine gate_dst (N := 5) rfl ?_); refine box_event rfl (N := 5) rfl (cs := #[.int .i64 a0_0, .int .i64 a0_1, .int .i64 a0_2, .int .i64 a0_3, .int .i64 a0_4, .string a0_5, .int .i64 a0_6, .int .i64 a0_7, .slice A0_8 l0_8.length c0_8, .slice A0_9 l0_9.length c0_9, .slice A0_10 l0_10.length c0_10]) (t := 27) ?hr ?_; (case hr => first | (go_simp; done) | (go_simp; rfl)); intro g hg w1 h1 b1; have G1 := Aside0.mk (And.intro hg (And.intro h1 b1)); clear hg h1 b1)
   | ((with_reducible refine gate_dst (N := 6) rfl ?_); refine box_event rfl (N := 6) rfl (cs := #[.int .i64 a1_0, .string a1_1, .int .i64 a1_2, .int .i64 a1_3, .slice A1_4 l1_4.length c1_4]) (t := 24) ?hr ?_; (case hr => first | (go_simp; done) | (go_simp; rfl)); intro g2 hg w2 h1 b1; have G2 := Aside0.mk (And.intro hg (And.intro h1 b1)); clear hg h1 b1)
   | ((with_reducible refine gate_dst (N := 10) rfl ?_); refine box_event rfl (N := 10) rfl (cs := #[.int .i64 0, .int .i64 0, .int .i64 0, .int .i64 0, .int .i64 0, .string (⟨#[]⟩ : ByteArray), .int .i64 0, .int .i64 0, .slice none 0 0, .slice none 0 0, .slice none 0 0]) (t := 27) ?hr ?_; (case hr => first | (go_simp; done) | (go_simp; rfl)); intro gr hg w3 h1 b1; have S3 := Aside0.mk (St.start G1.out G2.out ⟨hg, h1, b1⟩ rfl); clear hg h1 b1 G1 G2)
   | ((with_reducible refine gate_dst (N := 14) rfl ?_); refine ev_load rfl (N := 14) rfl rfl (q := .pointer (some ⟨g, 0, none⟩)) (v := .agg #[.int .i64 a0_0, .int .i64 a0_1, .int .i64 a0_2, .int .i64 a0_3, .int .i64 a0_4, .string a0_5, .int .i64 a0_6, .int .i64 a0_7, .slice A0_8 l0_8.length c0_8, .slice A0_9 l0_9.length c0_9, .slice A0_10 l0_10.length c0_10]) rfl (load_eleven Tryd.underlying27 rfl (by kernel_rfl) S3.out.lo.at1 rfl) ?_)
   | (go_at_call 40; refine (transit_arrived.calls a0_0 a0_1 a0_2 a0_3 a0_4 a0_5 a0_6 a0_7 _ _ l0_8 _ _ l0_9 _ _ l0_10 t0 t1 t2 t3 t4 t5 t6 t7 m8 m9 m10 _ (Kd.C_below HR8.out S3.out.below) HC8.out (Kd.C_below HR9.out S3.out.below) HC9.out (Kd.C_below HR10.out S3.out.below) HC10.out E1.out).mono ?_; rintro e w4 ⟨u8, u9, u10, rfl, o8, o9, o10, hb⟩; have R8 := Aside0.mk (Kd.R_lower o8 (below_size S3.out.below)); have R9 := Aside0.mk (Kd.R_lower o9 (below_size S3.out.below)); have R10 := Aside0.mk (Kd.R_lower o10 (below_size S3.out.below)); have S4 := Aside0.mk (S3.out.call hb); clear o8 o9 o10 hb S3)
   | ((with_reducible refine gate_store (t := 27) (p := 5) rfl ?_); refine ev_store rfl (ty := 27) (p := 5) rfl rfl (q := .pointer (some ⟨g, 0, none⟩)) (v := .agg #[.int .i64 t0, .int .i64 t1, .int .i64 t2, .int .i64 t3, .int .i64 t4, .string t5, .int .i64 t6, .int .i64 t7, u8, u9, u10]) rfl rfl (store_eleven (by kernel_rfl) S4.out.lo.at1 rfl (arr_elf _ _ _ _ _ _ _ _ (rone R8.out) (rone R9.out) (rone R10.out))) ?_; intro w5 hF; have S5 := Aside0.mk (S4.out.same hF.1 rfl hF.2); have R8' := Aside0.mk (R_past (by decide) R8.out S4.out.lo.at1 S4.out.lo.at2.choose_spec.2 S5.out.mv); have R9' := Aside0.mk (R_past (by decide) R9.out S4.out.lo.at1 S4.out.lo.at2.choose_spec.2 S5.out.mv); have R10' := Aside0.mk (R_past (by decide) R10.out S4.out.lo.at1 S4.out.lo.at2.choose_spec.2 S5.out.mv); have hc3 : w5.cell? ⟨g, 3, none⟩ = some (.int .i64 t3) := (cell_of_row w5 g 3 _ 27 (0, 0) S5.out.lo.at1).trans rfl; clear hF S4 R8 R9 R10)
   | (go_at_call 41; refine (transit_next.calls t3 1 st _ _ (HG.out.of_below S5.out.below) E2.out).mono ?_; rintro e w6 ⟨rfl, hb⟩; have S6 := Aside0.mk (S5.out.call hb); have R8 := Aside0.mk (Kd.R_below R8'.out hb); have R9 := Aside0.mk (Kd.R_below R9'.out hb); have R10 := Aside0.mk (Kd.R_below R10'.out hb); clear hb S5 R8' R9' R10' hc3))
  have S7 := Aside0.mk S6.out.draw
  have R9' := Aside0.mk (Kd.R_below R9.out (Below.refl _ _).drew)
  have R10' := Aside0.mk (Kd.R_below R10.out (Below.refl _ _).drew)
  clear R8 R9 R10 S6
  refine start_ (n := 21) (S := fun w' => w'.heap[g2]? = some (.cells #[.int .i64 a1_0, .string a1_1, .int .i64 a1_2, .int .i64 a1_3, .slice A1_4 l1_4.length c1_4] 24 (0, 0))) (ds := []) #[false, false, false, false, false, false, false, false, false, false, false, false, false, false, false, false, false, false, false, false, false] (by kernel_rfl) rfl rfl S7.out.lot (fun hHeld => ?_); refine with_tabW transit_Announce.tab4 transit_Announce.bits4 (fun HT_ HW_ => ?_)
  generalize w6.drew = w7 at S7 R9' R10' hHeld ⊢
  refine pure_ (i := 0) (N := some 23) (v := ?_) (a' := ?_) #[true, false, false, false, false, false, false, false, false, false, false, false, false, false, false, false, false, false, false, false, false] rfl rfl (any_of HT_.out (by kernel_rfl)) (fun _ _ _ h => h) (Or.inl ⟨by rfl, ?_⟩) ?_ ?_
  rotate_left
  ·
   intro w'
   go_simp
   with_reducible rfl
  rotate_left
  ·
   simp only [Act.put, List.setIfInBounds_toArray, List.set_cons_zero, List.set_cons_succ, i64_w, i32_w]
   rfl
  refine pure_ (i := 1) (N := some 24) (v := ?_) (a' := ?_) #[true, true, false, false, false, false, false, false, false, false, false, false, false, false, false, false, false, false, false, false, false] rfl rfl (any_of HT_.out (by kernel_rfl)) (fun _ _ _ h => h) (Or.inl ⟨by rfl, ?_⟩) ?_ ?_
  rotate_left
  ·
   intro w'
   go_simp
   with_reducible rfl
  rotate_left
  ·
   simp only [Act.put, List.setIfInBounds_toArray, List.set_cons_zero, List.set_cons_succ, i64_w, i32_w]
   rfl
  refine pure_ (i := 5) (N := some 28) (v := ?_) (a' := ?_) #[true, true, false, false, false, true, false, false, false, false, false, false, false, false, false, false, false, false, false, false, false] rfl rfl (any_of HT_.out (by kernel_rfl)) (fun _ _ _ h => h) (Or.inl ⟨by rfl, ?_⟩) ?_ ?_
  rotate_left
  ·
   intro w'
   go_simp
   with_reducible rfl
  rotate_left
  ·
   simp only [Act.put, List.setIfInBounds_toArray, List.set_cons_zero, List.set_cons_succ, i64_w, i32_w]
   rfl
  refine pure_ (i := 6) (N := some 29) (v := ?_) (a' := ?_) #[true, true, false, false, false, true, true, false, false, false, false, false, false, false, false, false, false, false, false, false, false] rfl rfl (any_of HT_.out (by kernel_rfl)) (fun _ _ _ h => h) (Or.inl ⟨by rfl, ?_⟩) ?_ ?_
  rotate_left
  ·
   intro w'
   go_simp
   with_reducible rfl
  rotate_left
  ·
   simp only [Act.put, List.setIfInBounds_toArray, List.set_cons_zero, List.set_cons_succ, i64_w, i32_w]
   rfl
  refine pure_ (i := 7) (N := some 30) (v := ?_) (a' := ?_) #[true, true, false, false, false, true, true, true, false, false, false, false, false, false, false, false, false, false, false, false, false] rfl rfl (any_of HT_.out (by kernel_rfl)) (fun _ _ _ h => h) (Or.inl ⟨by rfl, ?_⟩) ?_ ?_
  rotate_left
  ·
   intro w'
   go_simp
   with_reducible rfl
  rotate_left
  ·
   simp only [Act.put, List.setIfInBounds_toArray, List.set_cons_zero, List.set_cons_succ, i64_w, i32_w]
   rfl
  refine pure_ (i := 9) (N := some 32) (v := ?_) (a' := ?_) #[true, true, false, false, false, true, true, true, false, true, false, false, false, false, false, false, false, false, false, false, false] rfl rfl (any_of HT_.out (by kernel_rfl)) (fun _ _ _ h => h) (Or.inl ⟨by rfl, ?_⟩) ?_ ?_
  rotate_left
  ·
   intro w'
   go_simp
   with_reducible rfl
  rotate_left
  ·
   simp only [Act.put, List.setIfInBounds_toArray, List.set_cons_zero, List.set_cons_succ, i64_w, i32_w]
   rfl
  refine take_ (i := 2) (N := some 25) (v := .int .i64 a1_0) (a' := ?_) #[true, true, true, false, false, true, true, true, false, true, false, false, false, false, false, false, false, false, false, false, false] rfl rfl (take_ofW HT_.out HW_.out (by kernel_rfl)) (fun _ _ _ h => h) (Or.inl ⟨by rfl, fun w' hs => by
    have h0 : w'.cell? ⟨g2, 0, none⟩ = some (.int .i64 a1_0) := (cell_of_row w' g2 0 _ 24 (0, 0) hs).trans rfl
    go_simp⟩) hHeld ?_ ?_
  rotate_left
  ·
   simp only [Act.put, List.setIfInBounds_toArray, List.set_cons_zero, List.set_cons_succ, i64_w, i32_w]
   rfl
  refine take_ (i := 3) (N := some 26) (v := .agg #[.int .i64 a1_0, .string a1_1, .int .i64 a1_2, .int .i64 a1_3, .slice A1_4 l1_4.length c1_4]) (a' := ?_) #[true, true, true, true, false, true, true, true, false, true, false, false, false, false, false, false, false, false, false, false, false] rfl rfl (take_ofW HT_.out HW_.out (by kernel_rfl)) (fun _ _ _ h => h) (Or.inl ⟨by rfl, fun w' hs => by
    exact exec_load rfl (q := .pointer (some ⟨g2, 0, none⟩)) rfl (load_lot hs rfl)⟩) hHeld ?_ ?_
  rotate_left
  ·
   simp only [Act.put, List.setIfInBounds_toArray, List.set_cons_zero, List.set_cons_succ, i64_w, i32_w]
   rfl
  refine one_ (i := 4) (N := some 27) #[true, true, true, true, true, true, true, true, false, true, false, false, false, false, false, false, false, false, false, false, false] rfl rfl (one_of HT_.out (by kernel_rfl)) (by decide) (fun K hK => ?_)
  refine goes_ Tryd.func42 (by kernel_rfl) rfl #[.agg #[.int .i64 a1_0, .string a1_1, .int .i64 a1_2, .int .i64 a1_3, .slice A1_4 l1_4.length c1_4]] (by rfl) rfl rfl (by (try simp only [List.map_toArray, List.map_cons, List.map_nil]); first | done | rfl) ?_
  refine (transit_twin.calls a1_0 a1_1 a1_2 a1_3 _ _ l1_4 q4 q5 q6 q7 m4 _ (Kd.C_below HR14.out S7.out.below) HC14.out E3.out).mono ?_
  rintro e w8 ⟨x8, rfl, o8, hb⟩
  refine ⟨_, rfl, ?_⟩
  have S8 := Aside0.mk (S7.out.call hb)
  have X8 := Aside0.mk (Kd.R_lower o8 (below_size S7.out.below))
  have R10 := Aside0.mk (Kd.R_below R10'.out hb)
  clear o8 hb S7 R9' R10'
  refine hK.out _ _ (S8.out.lot) (fun hHeld => ?_)
  clear hK K
  refine norm_ (a' := ?_) ?_ ?_
  rotate_left
  ·
   show Act.put _ (some 27) _ = _
   simp only [Act.put, List.setIfInBounds_toArray, List.set_cons_zero, List.set_cons_succ, i64_w, i32_w]
   rfl
  refine one_ (i := 8) (N := some 31) #[true, true, true, true, true, true, true, true, true, true, false, false, false, false, false, false, false, false, false, false, false] rfl rfl (one_of HT_.out (by kernel_rfl)) (by decide) (fun K hK => ?_)
  refine goes_ Tryd.func43 (by kernel_rfl) rfl #[.slice A4 l4.length c4] (by rfl) rfl rfl (by (try simp only [List.map_toArray, List.map_cons, List.map_nil]); first | done | rfl) ?_
  refine (slices_Clone_int_int.calls _ _ l4 s9 _ (Kd.C_below HR4.out S8.out.below) HC4.out E4.out).mono ?_
  rintro e w9 ⟨x9, rfl, o9, hb⟩
  refine ⟨_, rfl, ?_⟩
  have S9 := Aside0.mk (S8.out.call hb)
  have Z8 := Aside0.mk (Kd.R_below X8.out hb)
  have Z10 := Aside0.mk (Kd.R_mono (Kd.R_elder' R10.out (Kd.R_base o9) hb) (fun k hk => hk.2))
  have Z9 := Aside0.mk (Kd.R_mono (Kd.R_lower (Kd.R_new' o9 (Kd.R_lt R10.out)) (below_size S8.out.below)) (fun k hk => hk.2))
  have Q1 := Aside0.mk S9.out.lo.at1
  have Q2 : Aside0 (∃ T : Array Value, w9.heap[gr]? = some (.cells T 27 (0, 0))) := ⟨S9.out.lo.at2.choose, S9.out.lo.at2.choose_spec.2⟩
  clear o9 hb S8 X8 R10
  refine hK.out _ _ (S9.out.lot) (fun hHeld => ?_)
  clear hK K
  refine norm_ (a' := ?_) ?_ ?_
  rotate_left
  ·
   show Act.put _ (some 31) _ = _
   simp only [Act.put, List.setIfInBounds_toArray, List.set_cons_zero, List.set_cons_succ, i64_w, i32_w]
   rfl
  refine one_ (i := 10) (N := none) #[true, true, true, true, true, true, true, true, true, true, true, false, false, false, false, false, false, false, false, false, false] rfl rfl (one_of HT_.out (by kernel_rfl)) (by decide) (fun K hK => ?_)
  obtain ⟨W10, hr, hF⟩ := store_one S9.out.lo.at1 3 (by show 3 < 11; omega) (.int .i64 st) rfl rfl 3 (by kernel_rfl)
  refine skip_ (w1 := W10) (by rfl) rfl (exec_store rfl (q := .pointer (some ⟨g, 3, none⟩)) (v := .int .i64 st) rfl rfl hr) ?_
  have S10 := Aside0.mk (S9.out.same hF.1 rfl hF.2)
  clear S9
  clear hr hF
  refine hK.out _ _ (S10.out.lot) (fun hHeld => ?_)
  clear hK K
  refine pure_ (i := 11) (N := some 33) (v := ?_) (a' := ?_) #[true, true, true, true, true, true, true, true, true, true, true, true, false, false, false, false, false, false, false, false, false] rfl rfl (any_of HT_.out (by kernel_rfl)) (fun _ _ _ h => h) (Or.inl ⟨by rfl, ?_⟩) ?_ ?_
  rotate_left
  ·
   intro w'
   go_simp
   with_reducible rfl
  rotate_left
  ·
   simp only [Act.put, List.setIfInBounds_toArray, List.set_cons_zero, List.set_cons_succ, i64_w, i32_w]
   rfl
  refine one_ (i := 12) (N := none) #[true, true, true, true, true, true, true, true, true, true, true, true, true, false, false, false, false, false, false, false, false] rfl rfl (one_of HT_.out (by kernel_rfl)) (by decide) (fun K hK => ?_)
  obtain ⟨W11, hr, hF⟩ := store_one S10.out.lo.at1 0 (by show 0 < 11; omega) (.int .i64 a1_0) rfl rfl 3 (by kernel_rfl)
  refine skip_ (w1 := W11) (by rfl) rfl (exec_store rfl (q := .pointer (some ⟨g, 0, none⟩)) (v := .int .i64 a1_0) rfl rfl hr) ?_
  have S11 := Aside0.mk (S10.out.same hF.1 rfl hF.2)
  clear S10
  clear hr hF
  refine hK.out _ _ (S11.out.lot) (fun hHeld => ?_)
  clear hK K
  refine pure_ (i := 13) (N := some 34) (v := ?_) (a' := ?_) #[true, true, true, true, true, true, true, true, true, true, true, true, true, true, false, false, false, false, false, false, false] rfl rfl (any_of HT_.out (by kernel_rfl)) (fun _ _ _ h => h) (Or.inl ⟨by rfl, ?_⟩) ?_ ?_
  rotate_left
  ·
   intro w'
   go_simp
   with_reducible rfl
  rotate_left
  ·
   simp only [Act.put, List.setIfInBounds_toArray, List.set_cons_zero, List.set_cons_succ, i64_w, i32_w]
   rfl
  refine one_ (i := 14) (N := none) #[true, true, true, true, true, true, true, true, true, true, true, true, true, true, true, false, false, false, false, false, false] rfl rfl (one_of HT_.out (by kernel_rfl)) (by decide) (fun K hK => ?_)
  obtain ⟨W12, hr, hF⟩ := store_lot a1_0 t1 t2 st t4 t5 t6 t7 u8 u9 u10 q4 q5 q6 q7 (rone Z8.out) S11.out.lo.at1
  refine skip_ (w1 := W12) (by rfl) rfl (exec_store rfl (q := .pointer (some ⟨g, 4, none⟩)) (v := .agg #[.int .i64 q4, .string q5, .int .i64 q6, .int .i64 q7, x8]) rfl rfl hr) ?_
  have S12 := Aside0.mk (S11.out.same hF.1 rfl hF.2)
  clear S11
  clear hr hF
  refine hK.out _ _ (S12.out.lot) (fun hHeld => ?_)
  clear hK K
  refine pure_ (i := 15) (N := some 35) (v := ?_) (a' := ?_) #[true, true, true, true, true, true, true, true, true, true, true, true, true, true, true, true, false, false, false, false, false] rfl rfl (any_of HT_.out (by kernel_rfl)) (fun _ _ _ h => h) (Or.inl ⟨by rfl, ?_⟩) ?_ ?_
  rotate_left
  ·
   intro w'
   go_simp
   with_reducible rfl
  rotate_left
  ·
   simp only [Act.put, List.setIfInBounds_toArray, List.set_cons_zero, List.set_cons_succ, i64_w, i32_w]
   rfl
  refine one_ (i := 16) (N := none) #[true, true, true, true, true, true, true, true, true, true, true, true, true, true, true, true, true, false, false, false, false] rfl rfl (one_of HT_.out (by kernel_rfl)) (by decide) (fun K hK => ?_)
  obtain ⟨W13, hr, hF⟩ := store_one S12.out.lo.at1 1 (by show 1 < 11; omega) (.int .i64 a2) rfl rfl 3 (by kernel_rfl)
  refine skip_ (w1 := W13) (by rfl) rfl (exec_store rfl (q := .pointer (some ⟨g, 1, none⟩)) (v := .int .i64 a2) rfl rfl hr) ?_
  have S13 := Aside0.mk (S12.out.same hF.1 rfl hF.2)
  clear S12
  clear hr hF
  refine hK.out _ _ (S13.out.lot) (fun hHeld => ?_)
  clear hK K
  refine pure_ (i := 17) (N := some 36) (v := ?_) (a' := ?_) #[true, true, true, true, true, true, true, true, true, true, true, true, true, true, true, true, true, true, false, false, false] rfl rfl (any_of HT_.out (by kernel_rfl)) (fun _ _ _ h => h) (Or.inl ⟨by rfl, ?_⟩) ?_ ?_
  rotate_left
  ·
   intro w'
   go_simp
   with_reducible rfl
  rotate_left
  ·
   simp only [Act.put, List.setIfInBounds_toArray, List.set_cons_zero, List.set_cons_succ, i64_w, i32_w]
   rfl
  refine one_ (i := 18) (N := none) #[true, true, true, true, true, true, true, true, true, true, true, true, true, true, true, true, true, true, true, false, false] rfl rfl (one_of HT_.out (by kernel_rfl)) (by decide) (fun K hK => ?_)
  obtain ⟨W14, hr, hF⟩ := store_one S13.out.lo.at1 2 (by show 2 < 11; omega) (.int .i64 a3) rfl rfl 3 (by kernel_rfl)
  refine skip_ (w1 := W14) (by rfl) rfl (exec_store rfl (q := .pointer (some ⟨g, 2, none⟩)) (v := .int .i64 a3) rfl rfl hr) ?_
  have S14 := Aside0.mk (S13.out.same hF.1 rfl hF.2)
  clear S13
  clear hr hF
  refine hK.out _ _ (S14.out.lot) (fun hHeld => ?_)
  clear hK K
  refine pure_ (i := 19) (N := some 37) (v := ?_) (a' := ?_) #[true, true, true, true, true, true, true, true, true, true, true, true, true, true, true, true, true, true, true, true, false] rfl rfl (any_of HT_.out (by kernel_rfl)) (fun _ _ _ h => h) (Or.inl ⟨by rfl, ?_⟩) ?_ ?_
  rotate_left
  ·
   intro w'
   go_simp
   with_reducible rfl
  rotate_left
  ·
   simp only [Act.put, List.setIfInBounds_toArray, List.set_cons_zero, List.set_cons_succ, i64_w, i32_w]
   rfl
  refine one_ (i := 20) (N := none) #[true, true, true, true, true, true, true, true, true, true, true, true, true, true, true, true, true, true, true, true, true] rfl rfl (one_of HT_.out (by kernel_rfl)) (by decide) (fun K hK => ?_)
  obtain ⟨W15, hr, hF⟩ := store_one S14.out.lo.at1 9 (by show 9 < 11; omega) (x9) (rone Z9.out) rfl 25 (by kernel_rfl)
  refine skip_ (w1 := W15) (by rfl) rfl (exec_store rfl (q := .pointer (some ⟨g, 9, none⟩)) (v := x9) rfl rfl hr) ?_
  have S15 := Aside0.mk (S14.out.same hF.1 rfl hF.2)
  clear S14
  clear hr hF
  refine hK.out _ _ (S15.out.lot) (fun hHeld => ?_)
  clear hK K
  refine done_ (done_of HT_.out (by kernel_rfl)) ?_
  go_wp2_with (first
   | ((with_reducible refine gate_dst (N := 38) rfl ?_); refine ev_load rfl (N := 38) rfl rfl (q := .pointer (some ⟨g, 0, none⟩)) (v := .agg #[.int .i64 a1_0, .int .i64 a2, .int .i64 a3, .int .i64 st, .int .i64 q4, .string q5, .int .i64 q6, .int .i64 q7, x8, x9, u10]) rfl (load_eleven Tryd.underlying27 rfl (by kernel_rfl) S15.out.lo.at1 rfl) ?_)
   | ((with_reducible refine gate_store (t := 27) (p := 10) rfl ?_); obtain ⟨old, ho2, h2⟩ := S15.out.lo.at2; refine ev_store rfl (ty := 27) (p := 10) rfl rfl (q := .pointer (some ⟨gr, 0, none⟩)) (v := .agg #[.int .i64 a1_0, .int .i64 a2, .int .i64 a3, .int .i64 st, .int .i64 q4, .string q5, .int .i64 q6, .int .i64 q7, x8, x9, u10]) rfl rfl (store_eleven (by kernel_rfl) h2 ho2 (arr_elf _ _ _ _ _ _ _ _ (rone Z8.out) (rone Z9.out) (rone Z10.out))) ?_; intro w9 hF; have AF := Aside0.mk hF.1; have MF := Aside0.mk (S15.out.lo.done hF.2); have MG := Aside0.mk (S15.out.mv.then_ (Mv.same (fun k => k = g ∨ k = gr) (.inr rfl) hF.2) (fun _ hk => .inl hk)); clear hF ho2 h2))
  refine bodyPost_ret (results_ct rfl _ _ gr 27 #[.int .i64 a1_0, .int .i64 a2, .int .i64 a3, .int .i64 st, .int .i64 q4, .string q5, .int .i64 q6, .int .i64 q7, x8, x9, u10] (0, 0) _ rfl AF.out Tryd.underlying27 rfl (by kernel_rfl)) rfl ?_
  exact ⟨x8, x9, u10, rfl, R_past (by decide) Z8.out Q1.out Q2.out.choose_spec MG.out, R_past (by decide) Z9.out Q1.out Q2.out.choose_spec MG.out, R_past (by decide) Z10.out Q1.out Q2.out.choose_spec MG.out, MF.out.below (Nat.le_refl _) (fun _ hk => hk.elim)⟩


def transit_Arrive.f (a0_0 : Int) (a0_1 : Int) (a0_2 : Int) (a0_3 : Int) (a0_4 : Int) (a0_5 : ByteArray) (a0_6 : Int) (a0_7 : Int) (l0_8 : List (S89)) (l0_9 : List Int) (l0_10 : List Int) (a1 : Int) (l2 : List Int) : Option (Int × Int × Int × Int × Int × ByteArray × Int × Int × (List (S89)) × List Int × List Int × Bool) := (transit_arrived.f a0_0 a0_1 a0_2 a0_3 a0_4 a0_5 a0_6 a0_7 l0_8 l0_9 l0_10).bind fun bt123 => ((transit_next.f bt123.2.2.2.1 2).bind fun bt140 => (if bt140.2 = true then ((slices_Clone_int_int.f l2).bind fun t142 => (some (a1, bt123.2.1, bt123.2.2.1, bt140.1, bt123.2.2.2.2.1, bt123.2.2.2.2.2.1, bt123.2.2.2.2.2.2.1, bt123.2.2.2.2.2.2.2.1, bt123.2.2.2.2.2.2.2.2.1, bt123.2.2.2.2.2.2.2.2.2.1, t142, bt140.2))) else (some (bt123.1, bt123.2.1, bt123.2.2.1, bt123.2.2.2.1, bt123.2.2.2.2.1, bt123.2.2.2.2.2.1, bt123.2.2.2.2.2.2.1, bt123.2.2.2.2.2.2.2.1, bt123.2.2.2.2.2.2.2.2.1, bt123.2.2.2.2.2.2.2.2.2.1, bt123.2.2.2.2.2.2.2.2.2.2, bt140.2))))
set_option maxHeartbeats 8000000 in
set_option maxRecDepth 100000 in
theorem transit_Arrive.calls (a0_0 : Int) (a0_1 : Int) (a0_2 : Int) (a0_3 : Int) (a0_4 : Int) (a0_5 : ByteArray) (a0_6 : Int) (a0_7 : Int) (A0_8 : Option Addr) (c0_8 : Nat) (l0_8 : List (S89)) (A0_9 : Option Addr) (c0_9 : Nat) (l0_9 : List Int) (A0_10 : Option Addr) (c0_10 : Nat) (l0_10 : List Int) (a1 : Int) (A2 : Option Addr) (c2 : Nat) (l2 : List Int) (r1 : Int) (r2 : Int) (r3 : Int) (r4 : Int) (r5 : Int) (r6 : ByteArray) (r7 : Int) (r8 : Int) (r9 : List (S89)) (r10 : List Int) (r11 : List Int) (r12 : Bool) (w : World) (hr0_8 : Kd.C k89 w A0_8 l0_8.length l0_8) (hc0_8 : l0_8.length ≤ c0_8) (hr0_9 : Kd.C (Kd.int .i64) w A0_9 l0_9.length l0_9) (hc0_9 : l0_9.length ≤ c0_9) (hr0_10 : Kd.C (Kd.int .i64) w A0_10 l0_10.length l0_10) (hc0_10 : l0_10.length ≤ c0_10) (hr2 : Kd.C (Kd.int .i64) w A2 l2.length l2) (hc2 : l2.length ≤ c2) (hG_changes : GL_changes w) (h : transit_Arrive.f a0_0 a0_1 a0_2 a0_3 a0_4 a0_5 a0_6 a0_7 l0_8 l0_9 l0_10 a1 l2 = some (r1, r2, r3, r4, r5, r6, r7, r8, r9, r10, r11, r12)) :
  Calls Tryd.prog 11 #[.agg #[.int .i64 a0_0, .int .i64 a0_1, .int .i64 a0_2, .int .i64 a0_3, .int .i64 a0_4, .string a0_5, .int .i64 a0_6, .int .i64 a0_7, .slice A0_8 l0_8.length c0_8, .slice A0_9 l0_9.length c0_9, .slice A0_10 l0_10.length c0_10], .int .i64 a1, .slice A2 l2.length c2] w fun e w' => ∃ v8_ v9_ v10_ : Value, e = .returned (.tuple #[.agg #[.int .i64 r1, .int .i64 r2, .int .i64 r3, .int .i64 r4, .int .i64 r5, .string r6, .int .i64 r7, .int .i64 r8, v8_, v9_, v10_], .bool r12]) ∧ Kd.R k89 89 w' w.heap.size (fun _ => True) v8_ r9 ∧ Kd.R (Kd.int .i64) 3 w' w.heap.size (fun k_ => some k_ ≠ (v10_ : Value).ownBlock) v9_ r10 ∧ Kd.R (Kd.int .i64) 3 w' w.heap.size (fun k_ => some k_ ≠ (v9_ : Value).ownBlock) v10_ r11 ∧ Below w.heap.size w w' := by
 have hu27 := Tryd.underlying27
 have HR0_8 := Aside0.mk hr0_8
 have HC0_8 := Aside0.mk hc0_8
 clear hr0_8 hc0_8
 have HR0_9 := Aside0.mk hr0_9
 have HC0_9 := Aside0.mk hc0_9
 clear hr0_9 hc0_9
 have HR0_10 := Aside0.mk hr0_10
 have HC0_10 := Aside0.mk hc0_10
 clear hr0_10 hc0_10
 have HR2 := Aside0.mk hr2
 have HC2 := Aside0.mk hc2
 clear hr2 hc2
 have HG_changes := Aside0.mk hG_changes
 clear hG_changes
 have HB := Aside0.mk (Below.refl w.heap.size w)
 have H : ((transit_arrived.f a0_0 a0_1 a0_2 a0_3 a0_4 a0_5 a0_6 a0_7 l0_8 l0_9 l0_10).bind fun bt123 => ((transit_next.f bt123.2.2.2.1 2).bind fun bt140 => (if bt140.2 = true then ((slices_Clone_int_int.f l2).bind fun t142 => (some (a1, bt123.2.1, bt123.2.2.1, bt140.1, bt123.2.2.2.2.1, bt123.2.2.2.2.2.1, bt123.2.2.2.2.2.2.1, bt123.2.2.2.2.2.2.2.1, bt123.2.2.2.2.2.2.2.2.1, bt123.2.2.2.2.2.2.2.2.2.1, t142, bt140.2))) else (some (bt123.1, bt123.2.1, bt123.2.2.1, bt123.2.2.2.1, bt123.2.2.2.2.1, bt123.2.2.2.2.2.1, bt123.2.2.2.2.2.2.1, bt123.2.2.2.2.2.2.2.1, bt123.2.2.2.2.2.2.2.2.1, bt123.2.2.2.2.2.2.2.2.2.1, bt123.2.2.2.2.2.2.2.2.2.2, bt140.2))))) = some (r1, r2, r3, r4, r5, r6, r7, r8, r9, r10, r11, r12) := h
 clear h
 replace H := Option.bind_eq_some_iff.mp H
 obtain ⟨⟨t123, t124, t125, t126, t127, t128, t129, t130, t131, t134, t137⟩, A40, H⟩ := H
 replace H : ((transit_next.f t126 2).bind fun bt140 => (if bt140.2 = true then ((slices_Clone_int_int.f l2).bind fun t142 => (some (a1, t124, t125, bt140.1, t127, t128, t129, t130, t131, t134, t142, bt140.2))) else (some (t123, t124, t125, t126, t127, t128, t129, t130, t131, t134, t137, bt140.2)))) = some (r1, r2, r3, r4, r5, r6, r7, r8, r9, r10, r11, r12) := H
 have A4 := Aside0.mk A40
 clear A40
 replace H := Option.bind_eq_some_iff.mp H
 obtain ⟨⟨t140, t141⟩, A50, H⟩ := H
 replace H : (if t141 = true then ((slices_Clone_int_int.f l2).bind fun t142 => (some (a1, t124, t125, t140, t127, t128, t129, t130, t131, t134, t142, t141))) else (some (t123, t124, t125, t126, t127, t128, t129, t130, t131, t134, t137, t141))) = some (r1, r2, r3, r4, r5, r6, r7, r8, r9, r10, r11, r12) := H
 have A5 := Aside0.mk A50
 clear A50
 by_cases c6 : t141 = true
 ·
  subst c6
  have H1 : ((slices_Clone_int_int.f l2).bind fun t142 => (some (a1, t124, t125, t140, t127, t128, t129, t130, t131, t134, t142, true))) = some (r1, r2, r3, r4, r5, r6, r7, r8, r9, r10, r11, r12) := by rw [if_pos rfl] at H; exact H
  clear H
  have H := H1
  clear H1
  replace H := Option.bind_eq_some_iff.mp H
  obtain ⟨t142, A70, H⟩ := H
  replace H : (some (a1, t124, t125, t140, t127, t128, t129, t130, t131, t134, t142, true)) = some (r1, r2, r3, r4, r5, r6, r7, r8, r9, r10, r11, r12) := H
  have A7 := Aside0.mk A70
  clear A70
  simp only [Option.some.injEq, Prod.mk.injEq] at H
  obtain ⟨rfl, rfl, rfl, rfl, rfl, rfl, rfl, rfl, rfl, rfl, rfl, rfl⟩ := H
  go_enter Tryd.func11, Tryd.ntmps11
  go_wp2_with (first | ((with_reducible refine gate_dst (N := 3) rfl ?_); refine box_event ?hg (N := 3) ?hd (cs := #[.int .i64 a0_0, .int .i64 a0_1, .int .i64 a0_2, .int .i64 a0_3, .int .i64 a0_4, .string a0_5, .int .i64 a0_6, .int .i64 a0_7, .slice A0_8 l0_8.length c0_8, .slice A0_9 l0_9.length c0_9, .slice A0_10 l0_10.length c0_10]) (t := 27) ?hr ?_; (case hd => rfl); (case hg => rfl); (case hr => first | (go_simp; done) | (go_simp; rfl)); intro gb121 hg w8 hbox hb; have n0_ := Aside0.mk (below_step (by repeat (first | (with_reducible first | exact HB.out | apply below_alloc | apply pw_below_drewN | apply below_drew1) | exact HB.out)) hb); have n1_ := Aside0.mk (hbox); have n2_ := Aside0.mk ((by rw [hg]; exact (below_size (by repeat (first | (with_reducible first | exact HB.out | apply below_alloc | apply pw_below_drewN | apply below_drew1) | exact HB.out))) : w.heap.size ≤ gb121)); have n3_ := Aside0.mk ((by rw [hg]; exact (below_size (by repeat (first | (with_reducible first | exact HB.out | apply below_alloc | apply pw_below_drewN | apply below_drew1) | exact HB.out))) : w.heap.size ≤ gb121)); clear HB; have HB := n0_; have BK121 := n1_; have GW121 := n2_; have GE121 := n3_; clear n0_ n1_ n2_ n3_; clear hb hbox hg) | ((with_reducible refine gate_dst (N := 6) rfl ?_); refine box_event ?hg (N := 6) ?hd (cs := #[.int .i64 0, .int .i64 0, .int .i64 0, .int .i64 0, .int .i64 0, .string (⟨#[]⟩ : ByteArray), .int .i64 0, .int .i64 0, .slice none 0 0, .slice none 0 0, .slice none 0 0]) (t := 27) ?hr ?_; (case hd => rfl); (case hg => rfl); (case hr => first | (go_simp; done) | (go_simp; rfl)); intro gb122 hg w9 hbox hb; have n0_ := Aside0.mk (blk_below (g := gb121) (o := .cells #[.int .i64 a0_0, .int .i64 a0_1, .int .i64 a0_2, .int .i64 a0_3, .int .i64 a0_4, .string a0_5, .int .i64 a0_6, .int .i64 a0_7, .slice A0_8 l0_8.length c0_8, .slice A0_9 l0_9.length c0_9, .slice A0_10 l0_10.length c0_10] 27 (0, 0)) (by (with_reducible repeat (first | refine blk_drewN ?_ _ | refine blk_drew ?_ | refine blk_alloc ?_ _)); exact BK121.out) hb); have n1_ := Aside0.mk (below_step (by repeat (first | (with_reducible first | exact HB.out | apply below_alloc | apply pw_below_drewN | apply below_drew1 | refine below_set ?_ GE121.out) | exact HB.out)) hb); have n2_ := Aside0.mk (hbox); have n3_ := Aside0.mk ((by rw [hg]; exact (below_size (by repeat (first | (with_reducible first | exact HB.out | apply below_alloc | apply pw_below_drewN | apply below_drew1 | refine below_set ?_ GE121.out) | exact HB.out))) : w.heap.size ≤ gb122)); have n4_ := Aside0.mk ((by rw [hg]; exact (below_size (by repeat (first | (with_reducible first | exact HB.out | apply below_alloc | apply pw_below_drewN | apply below_drew1 | refine below_set ?_ GE121.out) | exact HB.out))) : w.heap.size ≤ gb122)); have n5_ := Aside0.mk ((by rw [hg]; exact Nat.ne_of_lt (blk_lt (g := gb121) (o := .cells #[.int .i64 a0_0, .int .i64 a0_1, .int .i64 a0_2, .int .i64 a0_3, .int .i64 a0_4, .string a0_5, .int .i64 a0_6, .int .i64 a0_7, .slice A0_8 l0_8.length c0_8, .slice A0_9 l0_9.length c0_9, .slice A0_10 l0_10.length c0_10] 27 (0, 0)) (by (with_reducible repeat (first | refine blk_drewN ?_ _ | refine blk_drew ?_ | refine blk_alloc ?_ _)); exact BK121.out)) : gb121 ≠ gb122)); have n6_ := Aside0.mk ((by rw [hg]; exact Nat.ne_of_gt (blk_lt (g := gb121) (o := .cells #[.int .i64 a0_0, .int .i64 a0_1, .int .i64 a0_2, .int .i64 a0_3, .int .i64 a0_4, .string a0_5, .int .i64 a0_6, .int .i64 a0_7, .slice A0_8 l0_8.length c0_8, .slice A0_9 l0_9.length c0_9, .slice A0_10 l0_10.length c0_10] 27 (0, 0)) (by (with_reducible repeat (first | refine blk_drewN ?_ _ | refine blk_drew ?_ | refine blk_alloc ?_ _)); exact BK121.out)) : gb122 ≠ gb121)); clear BK121; clear HB; have BK121 := n0_; have HB := n1_; have BK122 := n2_; have GW122 := n3_; have GE122 := n4_; have NB121_122 := n5_; have NB122_121 := n6_; clear n0_ n1_ n2_ n3_ n4_ n5_ n6_; clear hb hbox hg; have hnb10 := NB121_122.out; have hnc10 := NB122_121.out; have hcz11_0 : w9.cell? ⟨gb121, 0, none⟩ = some (.int .i64 a0_0) := (blk_cell BK121.out 0).trans rfl; have hcz11_1 : w9.cell? ⟨gb121, 1, none⟩ = some (.int .i64 a0_1) := (blk_cell BK121.out 1).trans rfl; have hcz11_2 : w9.cell? ⟨gb121, 2, none⟩ = some (.int .i64 a0_2) := (blk_cell BK121.out 2).trans rfl; have hcz11_3 : w9.cell? ⟨gb121, 3, none⟩ = some (.int .i64 a0_3) := (blk_cell BK121.out 3).trans rfl; have hcz11_4 : w9.cell? ⟨gb121, 4, none⟩ = some (.int .i64 a0_4) := (blk_cell BK121.out 4).trans rfl; have hcz11_5 : w9.cell? ⟨gb121, 5, none⟩ = some (.string a0_5) := (blk_cell BK121.out 5).trans rfl; have hcz11_6 : w9.cell? ⟨gb121, 6, none⟩ = some (.int .i64 a0_6) := (blk_cell BK121.out 6).trans rfl; have hcz11_7 : w9.cell? ⟨gb121, 7, none⟩ = some (.int .i64 a0_7) := (blk_cell BK121.out 7).trans rfl; have hcz11_8 : w9.cell? ⟨gb121, 8, none⟩ = some (.slice A0_8 l0_8.length c0_8) := (blk_cell BK121.out 8).trans rfl; have hcz11_9 : w9.cell? ⟨gb121, 9, none⟩ = some (.slice A0_9 l0_9.length c0_9) := (blk_cell BK121.out 9).trans rfl; have hcz11_10 : w9.cell? ⟨gb121, 10, none⟩ = some (.slice A0_10 l0_10.length c0_10) := (blk_cell BK121.out 10).trans rfl; have hfz11_0 := blk_frozen BK121.out 0; have hfz11_1 := blk_frozen BK121.out 1; have hfz11_2 := blk_frozen BK121.out 2; have hfz11_3 := blk_frozen BK121.out 3; have hfz11_4 := blk_frozen BK121.out 4; have hfz11_5 := blk_frozen BK121.out 5; have hfz11_6 := blk_frozen BK121.out 6; have hfz11_7 := blk_frozen BK121.out 7; have hfz11_8 := blk_frozen BK121.out 8; have hfz11_9 := blk_frozen BK121.out 9; have hfz11_10 := blk_frozen BK121.out 10) | ((with_reducible refine gate_callee (f := 40) rfl ?_); refine goesL_ (some 11) rfl rfl Tryd.func40 (by kernel_rfl) rfl #[.agg #[.int .i64 a0_0, .int .i64 a0_1, .int .i64 a0_2, .int .i64 a0_3, .int .i64 a0_4, .string a0_5, .int .i64 a0_6, .int .i64 a0_7, .slice A0_8 l0_8.length c0_8, .slice A0_9 l0_9.length c0_9, .slice A0_10 l0_10.length c0_10]] rfl (by (try simp only [List.map_toArray, List.map_cons, List.map_nil]); first | done | rfl | (simp only [List.length_drop, List.length_take]; rfl)) ?_; (with_reducible refine (transit_arrived.calls a0_0 a0_1 a0_2 a0_3 a0_4 a0_5 a0_6 a0_7 _ _ l0_8 _ _ l0_9 _ _ l0_10 t123 t124 t125 t126 t127 t128 t129 t130 t131 t134 t137 _ ?side1 ?side2 ?side3 ?side4 ?side5 ?side6 A4.out).mono ?_); (case side1 => repeat (first | exact (Kd.C_below HR0_8.out HB.out) | (with_reducible refine Kd.C_alloc ?_ _) | (with_reducible refine Kd.C_drewN ?_ _) | (with_reducible refine Kd.C_drew ?_))); (case side2 => exact HC0_8.out); (case side3 => repeat (first | exact (Kd.C_below HR0_9.out HB.out) | (with_reducible refine Kd.C_alloc ?_ _) | (with_reducible refine Kd.C_drewN ?_ _) | (with_reducible refine Kd.C_drew ?_))); (case side4 => exact HC0_9.out); (case side5 => repeat (first | exact (Kd.C_below HR0_10.out HB.out) | (with_reducible refine Kd.C_alloc ?_ _) | (with_reducible refine Kd.C_drewN ?_ _) | (with_reducible refine Kd.C_drew ?_))); (case side6 => exact HC0_10.out); rintro e w12 ⟨v132, v135, v138, rfl, ho0, ho1, ho2, hb⟩; refine ⟨_, rfl, ?_⟩; have n0_ := Aside0.mk (Kd.R_lower ho0 (below_size (by repeat (first | (with_reducible first | exact HB.out | apply below_alloc | apply pw_below_drewN | apply below_drew1 | refine below_set ?_ GE121.out | refine below_set ?_ GE122.out) | exact HB.out)))); have n1_ := Aside0.mk (Kd.R_lower ho1 (below_size (by repeat (first | (with_reducible first | exact HB.out | apply below_alloc | apply pw_below_drewN | apply below_drew1 | refine below_set ?_ GE121.out | refine below_set ?_ GE122.out) | exact HB.out)))); have n2_ := Aside0.mk (Kd.R_lower ho2 (below_size (by repeat (first | (with_reducible first | exact HB.out | apply below_alloc | apply pw_below_drewN | apply below_drew1 | refine below_set ?_ GE121.out | refine below_set ?_ GE122.out) | exact HB.out)))); have n3_ := Aside0.mk (blk_below (g := gb121) (o := .cells #[.int .i64 a0_0, .int .i64 a0_1, .int .i64 a0_2, .int .i64 a0_3, .int .i64 a0_4, .string a0_5, .int .i64 a0_6, .int .i64 a0_7, .slice A0_8 l0_8.length c0_8, .slice A0_9 l0_9.length c0_9, .slice A0_10 l0_10.length c0_10] 27 (0, 0)) (by (with_reducible repeat (first | refine blk_drewN ?_ _ | refine blk_drew ?_ | refine blk_alloc ?_ _)); exact BK121.out) hb); have n4_ := Aside0.mk (blk_below (g := gb122) (o := .cells #[.int .i64 0, .int .i64 0, .int .i64 0, .int .i64 0, .int .i64 0, .string (⟨#[]⟩ : ByteArray), .int .i64 0, .int .i64 0, .slice none 0 0, .slice none 0 0, .slice none 0 0] 27 (0, 0)) (by (with_reducible repeat (first | refine blk_drewN ?_ _ | refine blk_drew ?_ | refine blk_alloc ?_ _)); exact BK122.out) hb); have n5_ := Aside0.mk (below_step (by repeat (first | (with_reducible first | exact HB.out | apply below_alloc | apply pw_below_drewN | apply below_drew1 | refine below_set ?_ GE121.out | refine below_set ?_ GE122.out) | exact HB.out)) hb); clear BK121; clear BK122; clear HB; have HO133 := n0_; have HO136 := n1_; have HO139 := n2_; have BK121 := n3_; have BK122 := n4_; have HB := n5_; clear n0_ n1_ n2_ n3_ n4_ n5_; (try clear hb); (try clear hb2); (try clear hk); (try clear hi); (try clear ho0); (try clear ho1); (try clear ho2); have hcz13_0 : w12.cell? ⟨gb121, 0, none⟩ = some (.int .i64 a0_0) := (blk_cell BK121.out 0).trans rfl; have hcz13_1 : w12.cell? ⟨gb121, 1, none⟩ = some (.int .i64 a0_1) := (blk_cell BK121.out 1).trans rfl; have hcz13_2 : w12.cell? ⟨gb121, 2, none⟩ = some (.int .i64 a0_2) := (blk_cell BK121.out 2).trans rfl; have hcz13_3 : w12.cell? ⟨gb121, 3, none⟩ = some (.int .i64 a0_3) := (blk_cell BK121.out 3).trans rfl; have hcz13_4 : w12.cell? ⟨gb121, 4, none⟩ = some (.int .i64 a0_4) := (blk_cell BK121.out 4).trans rfl; have hcz13_5 : w12.cell? ⟨gb121, 5, none⟩ = some (.string a0_5) := (blk_cell BK121.out 5).trans rfl; have hcz13_6 : w12.cell? ⟨gb121, 6, none⟩ = some (.int .i64 a0_6) := (blk_cell BK121.out 6).trans rfl; have hcz13_7 : w12.cell? ⟨gb121, 7, none⟩ = some (.int .i64 a0_7) := (blk_cell BK121.out 7).trans rfl; have hcz13_8 : w12.cell? ⟨gb121, 8, none⟩ = some (.slice A0_8 l0_8.length c0_8) := (blk_cell BK121.out 8).trans rfl; have hcz13_9 : w12.cell? ⟨gb121, 9, none⟩ = some (.slice A0_9 l0_9.length c0_9) := (blk_cell BK121.out 9).trans rfl; have hcz13_10 : w12.cell? ⟨gb121, 10, none⟩ = some (.slice A0_10 l0_10.length c0_10) := (blk_cell BK121.out 10).trans rfl; have hfz13_0 := blk_frozen BK121.out 0; have hfz13_1 := blk_frozen BK121.out 1; have hfz13_2 := blk_frozen BK121.out 2; have hfz13_3 := blk_frozen BK121.out 3; have hfz13_4 := blk_frozen BK121.out 4; have hfz13_5 := blk_frozen BK121.out 5; have hfz13_6 := blk_frozen BK121.out 6; have hfz13_7 := blk_frozen BK121.out 7; have hfz13_8 := blk_frozen BK121.out 8; have hfz13_9 := blk_frozen BK121.out 9; have hfz13_10 := blk_frozen BK121.out 10; obtain ⟨Ao14, co14, eo14⟩ := Kd.R_slice HO133.out; subst eo14; obtain ⟨Ao15, co15, eo15⟩ := Kd.R_slice HO136.out; subst eo15; obtain ⟨Ao16, co16, eo16⟩ := Kd.R_slice HO139.out; subst eo16) | ((with_reducible refine gate_callee (f := 41) rfl ?_); refine goesL_ (some 15) rfl rfl Tryd.func41 (by kernel_rfl) rfl #[.int .i64 t126, .int .i64 2] rfl (by (try simp only [List.map_toArray, List.map_cons, List.map_nil]); first | done | rfl | (simp only [List.length_drop, List.length_take]; rfl)) ?_; (with_reducible refine (transit_next.calls t126 2 t140 true _ ?side1 A5.out).mono ?_); (case side1 => exact GL_changes.of_below (by repeat (first | (with_reducible first | exact HB.out | apply below_alloc | apply pw_below_drewN | apply below_drew1 | refine below_set ?_ GE121.out | refine below_set ?_ GE122.out) | exact HB.out)) HG_changes.out); rintro e w17 ⟨rfl, hb⟩; refine ⟨_, rfl, ?_⟩; have n0_ := Aside0.mk (Kd.R_below (by (with_reducible repeat (first | apply Kd.R_alloc | apply Kd.R_drewN | apply Kd.R_drew)); exact (Kd.R_mono (Kd.R_far (p := ⟨gb121, 10, none⟩) (Kd.R_far (p := ⟨gb121, 9, none⟩) (Kd.R_far (p := ⟨gb121, 8, none⟩) (Kd.R_far (p := ⟨gb121, 7, none⟩) (Kd.R_far (p := ⟨gb121, 6, none⟩) (Kd.R_far (p := ⟨gb121, 5, none⟩) (Kd.R_far (p := ⟨gb121, 4, none⟩) (Kd.R_far (p := ⟨gb121, 3, none⟩) (Kd.R_far (p := ⟨gb121, 2, none⟩) (Kd.R_far (p := ⟨gb121, 1, none⟩) (Kd.R_far (p := ⟨gb121, 0, none⟩) (Kd.R_types HO133.out BK121.out (by decide)) (fun _ hk => hk.2) (.int .i64 t123)) (fun _ hk => hk.2) (.int .i64 t124)) (fun _ hk => hk.2) (.int .i64 t125)) (fun _ hk => hk.2) (.int .i64 t126)) (fun _ hk => hk.2) (.int .i64 t127)) (fun _ hk => hk.2) (.string t128)) (fun _ hk => hk.2) (.int .i64 t129)) (fun _ hk => hk.2) (.int .i64 t130)) (fun _ hk => hk.2) (.slice Ao14 t131.length co14)) (fun _ hk => hk.2) (.slice Ao15 t134.length co15)) (fun _ hk => hk.2) (.slice Ao16 t137.length co16)) (fun _ h_ => h_.1))) hb); have n1_ := Aside0.mk (Kd.R_below (by (with_reducible repeat (first | apply Kd.R_alloc | apply Kd.R_drewN | apply Kd.R_drew)); exact (Kd.R_mono (Kd.R_far (p := ⟨gb121, 10, none⟩) (Kd.R_far (p := ⟨gb121, 9, none⟩) (Kd.R_far (p := ⟨gb121, 8, none⟩) (Kd.R_far (p := ⟨gb121, 7, none⟩) (Kd.R_far (p := ⟨gb121, 6, none⟩) (Kd.R_far (p := ⟨gb121, 5, none⟩) (Kd.R_far (p := ⟨gb121, 4, none⟩) (Kd.R_far (p := ⟨gb121, 3, none⟩) (Kd.R_far (p := ⟨gb121, 2, none⟩) (Kd.R_far (p := ⟨gb121, 1, none⟩) (Kd.R_far (p := ⟨gb121, 0, none⟩) (Kd.R_types HO136.out BK121.out (by decide)) (fun _ hk => hk.2) (.int .i64 t123)) (fun _ hk => hk.2) (.int .i64 t124)) (fun _ hk => hk.2) (.int .i64 t125)) (fun _ hk => hk.2) (.int .i64 t126)) (fun _ hk => hk.2) (.int .i64 t127)) (fun _ hk => hk.2) (.string t128)) (fun _ hk => hk.2) (.int .i64 t129)) (fun _ hk => hk.2) (.int .i64 t130)) (fun _ hk => hk.2) (.slice Ao14 t131.length co14)) (fun _ hk => hk.2) (.slice Ao15 t134.length co15)) (fun _ hk => hk.2) (.slice Ao16 t137.length co16)) (fun _ h_ => h_.1))) hb); have n2_ := Aside0.mk (Kd.R_below (by (with_reducible repeat (first | apply Kd.R_alloc | apply Kd.R_drewN | apply Kd.R_drew)); exact (Kd.R_mono (Kd.R_far (p := ⟨gb121, 10, none⟩) (Kd.R_far (p := ⟨gb121, 9, none⟩) (Kd.R_far (p := ⟨gb121, 8, none⟩) (Kd.R_far (p := ⟨gb121, 7, none⟩) (Kd.R_far (p := ⟨gb121, 6, none⟩) (Kd.R_far (p := ⟨gb121, 5, none⟩) (Kd.R_far (p := ⟨gb121, 4, none⟩) (Kd.R_far (p := ⟨gb121, 3, none⟩) (Kd.R_far (p := ⟨gb121, 2, none⟩) (Kd.R_far (p := ⟨gb121, 1, none⟩) (Kd.R_far (p := ⟨gb121, 0, none⟩) (Kd.R_types HO139.out BK121.out (by decide)) (fun _ hk => hk.2) (.int .i64 t123)) (fun _ hk => hk.2) (.int .i64 t124)) (fun _ hk => hk.2) (.int .i64 t125)) (fun _ hk => hk.2) (.int .i64 t126)) (fun _ hk => hk.2) (.int .i64 t127)) (fun _ hk => hk.2) (.string t128)) (fun _ hk => hk.2) (.int .i64 t129)) (fun _ hk => hk.2) (.int .i64 t130)) (fun _ hk => hk.2) (.slice Ao14 t131.length co14)) (fun _ hk => hk.2) (.slice Ao15 t134.length co15)) (fun _ hk => hk.2) (.slice Ao16 t137.length co16)) (fun _ h_ => h_.1))) hb); have n3_ := Aside0.mk (blk_below (g := gb121) (o := .cells #[.int .i64 t123, .int .i64 t124, .int .i64 t125, .int .i64 t126, .int .i64 t127, .string t128, .int .i64 t129, .int .i64 t130, .slice Ao14 t131.length co14, .slice Ao15 t134.length co15, .slice Ao16 t137.length co16] 27 (0, 0)) (by (with_reducible repeat (first | refine blk_drewN ?_ _ | refine blk_drew ?_ | refine blk_alloc ?_ _)); refine blk_put (cs := #[.int .i64 t123, .int .i64 t124, .int .i64 t125, .int .i64 t126, .int .i64 t127, .string t128, .int .i64 t129, .int .i64 t130, .slice Ao14 t131.length co14, .slice Ao15 t134.length co15, .slice A0_10 l0_10.length c0_10]) ?_ 10 _ rfl; (with_reducible repeat (first | refine blk_drewN ?_ _ | refine blk_drew ?_ | refine blk_alloc ?_ _)); refine blk_put (cs := #[.int .i64 t123, .int .i64 t124, .int .i64 t125, .int .i64 t126, .int .i64 t127, .string t128, .int .i64 t129, .int .i64 t130, .slice Ao14 t131.length co14, .slice A0_9 l0_9.length c0_9, .slice A0_10 l0_10.length c0_10]) ?_ 9 _ rfl; (with_reducible repeat (first | refine blk_drewN ?_ _ | refine blk_drew ?_ | refine blk_alloc ?_ _)); refine blk_put (cs := #[.int .i64 t123, .int .i64 t124, .int .i64 t125, .int .i64 t126, .int .i64 t127, .string t128, .int .i64 t129, .int .i64 t130, .slice A0_8 l0_8.length c0_8, .slice A0_9 l0_9.length c0_9, .slice A0_10 l0_10.length c0_10]) ?_ 8 _ rfl; (with_reducible repeat (first | refine blk_drewN ?_ _ | refine blk_drew ?_ | refine blk_alloc ?_ _)); refine blk_put (cs := #[.int .i64 t123, .int .i64 t124, .int .i64 t125, .int .i64 t126, .int .i64 t127, .string t128, .int .i64 t129, .int .i64 a0_7, .slice A0_8 l0_8.length c0_8, .slice A0_9 l0_9.length c0_9, .slice A0_10 l0_10.length c0_10]) ?_ 7 _ rfl; (with_reducible repeat (first | refine blk_drewN ?_ _ | refine blk_drew ?_ | refine blk_alloc ?_ _)); refine blk_put (cs := #[.int .i64 t123, .int .i64 t124, .int .i64 t125, .int .i64 t126, .int .i64 t127, .string t128, .int .i64 a0_6, .int .i64 a0_7, .slice A0_8 l0_8.length c0_8, .slice A0_9 l0_9.length c0_9, .slice A0_10 l0_10.length c0_10]) ?_ 6 _ rfl; (with_reducible repeat (first | refine blk_drewN ?_ _ | refine blk_drew ?_ | refine blk_alloc ?_ _)); refine blk_put (cs := #[.int .i64 t123, .int .i64 t124, .int .i64 t125, .int .i64 t126, .int .i64 t127, .string a0_5, .int .i64 a0_6, .int .i64 a0_7, .slice A0_8 l0_8.length c0_8, .slice A0_9 l0_9.length c0_9, .slice A0_10 l0_10.length c0_10]) ?_ 5 _ rfl; (with_reducible repeat (first | refine blk_drewN ?_ _ | refine blk_drew ?_ | refine blk_alloc ?_ _)); refine blk_put (cs := #[.int .i64 t123, .int .i64 t124, .int .i64 t125, .int .i64 t126, .int .i64 a0_4, .string a0_5, .int .i64 a0_6, .int .i64 a0_7, .slice A0_8 l0_8.length c0_8, .slice A0_9 l0_9.length c0_9, .slice A0_10 l0_10.length c0_10]) ?_ 4 _ rfl; (with_reducible repeat (first | refine blk_drewN ?_ _ | refine blk_drew ?_ | refine blk_alloc ?_ _)); refine blk_put (cs := #[.int .i64 t123, .int .i64 t124, .int .i64 t125, .int .i64 a0_3, .int .i64 a0_4, .string a0_5, .int .i64 a0_6, .int .i64 a0_7, .slice A0_8 l0_8.length c0_8, .slice A0_9 l0_9.length c0_9, .slice A0_10 l0_10.length c0_10]) ?_ 3 _ rfl; (with_reducible repeat (first | refine blk_drewN ?_ _ | refine blk_drew ?_ | refine blk_alloc ?_ _)); refine blk_put (cs := #[.int .i64 t123, .int .i64 t124, .int .i64 a0_2, .int .i64 a0_3, .int .i64 a0_4, .string a0_5, .int .i64 a0_6, .int .i64 a0_7, .slice A0_8 l0_8.length c0_8, .slice A0_9 l0_9.length c0_9, .slice A0_10 l0_10.length c0_10]) ?_ 2 _ rfl; (with_reducible repeat (first | refine blk_drewN ?_ _ | refine blk_drew ?_ | refine blk_alloc ?_ _)); refine blk_put (cs := #[.int .i64 t123, .int .i64 a0_1, .int .i64 a0_2, .int .i64 a0_3, .int .i64 a0_4, .string a0_5, .int .i64 a0_6, .int .i64 a0_7, .slice A0_8 l0_8.length c0_8, .slice A0_9 l0_9.length c0_9, .slice A0_10 l0_10.length c0_10]) ?_ 1 _ rfl; (with_reducible repeat (first | refine blk_drewN ?_ _ | refine blk_drew ?_ | refine blk_alloc ?_ _)); refine blk_put (cs := #[.int .i64 a0_0, .int .i64 a0_1, .int .i64 a0_2, .int .i64 a0_3, .int .i64 a0_4, .string a0_5, .int .i64 a0_6, .int .i64 a0_7, .slice A0_8 l0_8.length c0_8, .slice A0_9 l0_9.length c0_9, .slice A0_10 l0_10.length c0_10]) ?_ 0 _ rfl; (with_reducible repeat (first | refine blk_drewN ?_ _ | refine blk_drew ?_ | refine blk_alloc ?_ _)); exact BK121.out) hb); have n4_ := Aside0.mk (blk_below (g := gb122) (o := .cells #[.int .i64 0, .int .i64 0, .int .i64 0, .int .i64 0, .int .i64 0, .string (⟨#[]⟩ : ByteArray), .int .i64 0, .int .i64 0, .slice none 0 0, .slice none 0 0, .slice none 0 0] 27 (0, 0)) (by (with_reducible repeat (first | refine blk_drewN ?_ _ | refine blk_drew ?_ | refine blk_alloc ?_ _)); refine blk_far ?_ NB122_121.out _; (with_reducible repeat (first | refine blk_drewN ?_ _ | refine blk_drew ?_ | refine blk_alloc ?_ _)); refine blk_far ?_ NB122_121.out _; (with_reducible repeat (first | refine blk_drewN ?_ _ | refine blk_drew ?_ | refine blk_alloc ?_ _)); refine blk_far ?_ NB122_121.out _; (with_reducible repeat (first | refine blk_drewN ?_ _ | refine blk_drew ?_ | refine blk_alloc ?_ _)); refine blk_far ?_ NB122_121.out _; (with_reducible repeat (first | refine blk_drewN ?_ _ | refine blk_drew ?_ | refine blk_alloc ?_ _)); refine blk_far ?_ NB122_121.out _; (with_reducible repeat (first | refine blk_drewN ?_ _ | refine blk_drew ?_ | refine blk_alloc ?_ _)); refine blk_far ?_ NB122_121.out _; (with_reducible repeat (first | refine blk_drewN ?_ _ | refine blk_drew ?_ | refine blk_alloc ?_ _)); refine blk_far ?_ NB122_121.out _; (with_reducible repeat (first | refine blk_drewN ?_ _ | refine blk_drew ?_ | refine blk_alloc ?_ _)); refine blk_far ?_ NB122_121.out _; (with_reducible repeat (first | refine blk_drewN ?_ _ | refine blk_drew ?_ | refine blk_alloc ?_ _)); refine blk_far ?_ NB122_121.out _; (with_reducible repeat (first | refine blk_drewN ?_ _ | refine blk_drew ?_ | refine blk_alloc ?_ _)); refine blk_far ?_ NB122_121.out _; (with_reducible repeat (first | refine blk_drewN ?_ _ | refine blk_drew ?_ | refine blk_alloc ?_ _)); refine blk_far ?_ NB122_121.out _; (with_reducible repeat (first | refine blk_drewN ?_ _ | refine blk_drew ?_ | refine blk_alloc ?_ _)); exact BK122.out) hb); have n5_ := Aside0.mk (below_step (by repeat (first | (with_reducible first | exact HB.out | apply below_alloc | apply pw_below_drewN | apply below_drew1 | refine below_set ?_ GE121.out | refine below_set ?_ GE122.out) | exact HB.out)) hb); clear HO133; clear HO136; clear HO139; clear BK121; clear BK122; clear HB; have HO133 := n0_; have HO136 := n1_; have HO139 := n2_; have BK121 := n3_; have BK122 := n4_; have HB := n5_; clear n0_ n1_ n2_ n3_ n4_ n5_; (try clear hb); (try clear hb2); (try clear hk); (try clear hi)) | ((with_reducible refine gate_callee (f := 43) rfl ?_); refine goesL_ (some 22) rfl rfl Tryd.func43 (by kernel_rfl) rfl #[.slice A2 l2.length c2] rfl (by (try simp only [List.map_toArray, List.map_cons, List.map_nil]); first | done | rfl | (simp only [List.length_drop, List.length_take]; rfl)) ?_; (with_reducible refine (slices_Clone_int_int.calls _ _ l2 t142 _ ?side1 ?side2 A7.out).mono ?_); (case side1 => repeat (first | exact (Kd.C_below HR2.out HB.out) | (with_reducible refine Kd.C_alloc ?_ _) | (with_reducible refine Kd.C_drewN ?_ _) | (with_reducible refine Kd.C_drew ?_))); (case side2 => exact HC2.out); rintro e w18 ⟨v143, rfl, ho0, hb⟩; refine ⟨_, rfl, ?_⟩; have n0_ := Aside0.mk (Kd.R_below (by (with_reducible repeat (first | apply Kd.R_alloc | apply Kd.R_drewN | apply Kd.R_drew)); exact HO133.out) hb); have n1_ := Aside0.mk (Kd.R_elder' (by (with_reducible repeat (first | apply Kd.R_alloc | apply Kd.R_drewN | apply Kd.R_drew)); exact HO136.out) (Kd.R_base ho0) hb); have n2_ := Aside0.mk (Kd.R_elder' (by (with_reducible repeat (first | apply Kd.R_alloc | apply Kd.R_drewN | apply Kd.R_drew)); exact HO139.out) (Kd.R_base ho0) hb); have n3_ := Aside0.mk (Kd.R_lower (Kd.R_new' (Kd.R_new' ho0 (Kd.R_lt (by (with_reducible repeat (first | apply Kd.R_alloc | apply Kd.R_drewN | apply Kd.R_drew)); exact HO136.out))) (Kd.R_lt (by (with_reducible repeat (first | apply Kd.R_alloc | apply Kd.R_drewN | apply Kd.R_drew)); exact HO139.out))) (below_size (by repeat (first | (with_reducible first | exact HB.out | apply below_alloc | apply pw_below_drewN | apply below_drew1 | refine below_set ?_ GE121.out | refine below_set ?_ GE122.out) | exact HB.out)))); have n4_ := Aside0.mk (blk_below (g := gb121) (o := .cells #[.int .i64 t123, .int .i64 t124, .int .i64 t125, .int .i64 t126, .int .i64 t127, .string t128, .int .i64 t129, .int .i64 t130, .slice Ao14 t131.length co14, .slice Ao15 t134.length co15, .slice Ao16 t137.length co16] 27 (0, 0)) (by (with_reducible repeat (first | refine blk_drewN ?_ _ | refine blk_drew ?_ | refine blk_alloc ?_ _)); exact BK121.out) hb); have n5_ := Aside0.mk (blk_below (g := gb122) (o := .cells #[.int .i64 0, .int .i64 0, .int .i64 0, .int .i64 0, .int .i64 0, .string (⟨#[]⟩ : ByteArray), .int .i64 0, .int .i64 0, .slice none 0 0, .slice none 0 0, .slice none 0 0] 27 (0, 0)) (by (with_reducible repeat (first | refine blk_drewN ?_ _ | refine blk_drew ?_ | refine blk_alloc ?_ _)); exact BK122.out) hb); have n6_ := Aside0.mk (below_step (by repeat (first | (with_reducible first | exact HB.out | apply below_alloc | apply pw_below_drewN | apply below_drew1 | refine below_set ?_ GE121.out | refine below_set ?_ GE122.out) | exact HB.out)) hb); clear HO133; clear HO136; clear HO139; clear BK121; clear BK122; clear HB; have HO133 := n0_; have HO136 := n1_; have HO139 := n2_; have HO144 := n3_; have BK121 := n4_; have BK122 := n5_; have HB := n6_; clear n0_ n1_ n2_ n3_ n4_ n5_ n6_; (try clear hb); (try clear hb2); (try clear hk); (try clear hi); (try clear ho0); have hcz19_0 : w18.cell? ⟨gb121, 0, none⟩ = some (.int .i64 t123) := (blk_cell BK121.out 0).trans rfl; have hcz19_1 : w18.cell? ⟨gb121, 1, none⟩ = some (.int .i64 t124) := (blk_cell BK121.out 1).trans rfl; have hcz19_2 : w18.cell? ⟨gb121, 2, none⟩ = some (.int .i64 t125) := (blk_cell BK121.out 2).trans rfl; have hcz19_3 : w18.cell? ⟨gb121, 3, none⟩ = some (.int .i64 t126) := (blk_cell BK121.out 3).trans rfl; have hcz19_4 : w18.cell? ⟨gb121, 4, none⟩ = some (.int .i64 t127) := (blk_cell BK121.out 4).trans rfl; have hcz19_5 : w18.cell? ⟨gb121, 5, none⟩ = some (.string t128) := (blk_cell BK121.out 5).trans rfl; have hcz19_6 : w18.cell? ⟨gb121, 6, none⟩ = some (.int .i64 t129) := (blk_cell BK121.out 6).trans rfl; have hcz19_7 : w18.cell? ⟨gb121, 7, none⟩ = some (.int .i64 t130) := (blk_cell BK121.out 7).trans rfl; have hcz19_8 : w18.cell? ⟨gb121, 8, none⟩ = some (.slice Ao14 t131.length co14) := (blk_cell BK121.out 8).trans rfl; have hcz19_9 : w18.cell? ⟨gb121, 9, none⟩ = some (.slice Ao15 t134.length co15) := (blk_cell BK121.out 9).trans rfl; have hcz19_10 : w18.cell? ⟨gb121, 10, none⟩ = some (.slice Ao16 t137.length co16) := (blk_cell BK121.out 10).trans rfl; have hfz19_0 := blk_frozen BK121.out 0; have hfz19_1 := blk_frozen BK121.out 1; have hfz19_2 := blk_frozen BK121.out 2; have hfz19_3 := blk_frozen BK121.out 3; have hfz19_4 := blk_frozen BK121.out 4; have hfz19_5 := blk_frozen BK121.out 5; have hfz19_6 := blk_frozen BK121.out 6; have hfz19_7 := blk_frozen BK121.out 7; have hfz19_8 := blk_frozen BK121.out 8; have hfz19_9 := blk_frozen BK121.out 9; have hfz19_10 := blk_frozen BK121.out 10; obtain ⟨Ao20, co20, eo20⟩ := Kd.R_slice HO144.out; subst eo20; have hcz21_0 : w18.cell? ⟨gb122, 0, none⟩ = some (.int .i64 0) := (blk_cell BK122.out 0).trans rfl; have hcz21_1 : w18.cell? ⟨gb122, 1, none⟩ = some (.int .i64 0) := (blk_cell BK122.out 1).trans rfl; have hcz21_2 : w18.cell? ⟨gb122, 2, none⟩ = some (.int .i64 0) := (blk_cell BK122.out 2).trans rfl; have hcz21_3 : w18.cell? ⟨gb122, 3, none⟩ = some (.int .i64 0) := (blk_cell BK122.out 3).trans rfl; have hcz21_4 : w18.cell? ⟨gb122, 4, none⟩ = some (.int .i64 0) := (blk_cell BK122.out 4).trans rfl; have hcz21_5 : w18.cell? ⟨gb122, 5, none⟩ = some (.string (⟨#[]⟩ : ByteArray)) := (blk_cell BK122.out 5).trans rfl; have hcz21_6 : w18.cell? ⟨gb122, 6, none⟩ = some (.int .i64 0) := (blk_cell BK122.out 6).trans rfl; have hcz21_7 : w18.cell? ⟨gb122, 7, none⟩ = some (.int .i64 0) := (blk_cell BK122.out 7).trans rfl; have hcz21_8 : w18.cell? ⟨gb122, 8, none⟩ = some (.slice none 0 0) := (blk_cell BK122.out 8).trans rfl; have hcz21_9 : w18.cell? ⟨gb122, 9, none⟩ = some (.slice none 0 0) := (blk_cell BK122.out 9).trans rfl; have hcz21_10 : w18.cell? ⟨gb122, 10, none⟩ = some (.slice none 0 0) := (blk_cell BK122.out 10).trans rfl; have hfz21_0 := blk_frozen BK122.out 0; have hfz21_1 := blk_frozen BK122.out 1; have hfz21_2 := blk_frozen BK122.out 2; have hfz21_3 := blk_frozen BK122.out 3; have hfz21_4 := blk_frozen BK122.out 4; have hfz21_5 := blk_frozen BK122.out 5; have hfz21_6 := blk_frozen BK122.out 6; have hfz21_7 := blk_frozen BK122.out 7; have hfz21_8 := blk_frozen BK122.out 8; have hfz21_9 := blk_frozen BK122.out 9; have hfz21_10 := blk_frozen BK122.out 10))
  refine bodyPost_ret (results_ct rfl _ _ gb122 27 #[.int .i64 a1, .int .i64 t124, .int .i64 t125, .int .i64 t140, .int .i64 t127, .string t128, .int .i64 t129, .int .i64 t130, .slice Ao14 t131.length co14, .slice Ao15 t134.length co15, .slice Ao20 t142.length co20] (0, 0) _ rfl (by (with_reducible repeat (first | refine blk_drewN ?_ _ | refine blk_drew ?_ | refine blk_alloc ?_ _)); refine blk_put (cs := #[.int .i64 a1, .int .i64 t124, .int .i64 t125, .int .i64 t140, .int .i64 t127, .string t128, .int .i64 t129, .int .i64 t130, .slice Ao14 t131.length co14, .slice Ao15 t134.length co15, .slice none 0 0]) ?_ 10 _ rfl; (with_reducible repeat (first | refine blk_drewN ?_ _ | refine blk_drew ?_ | refine blk_alloc ?_ _)); refine blk_put (cs := #[.int .i64 a1, .int .i64 t124, .int .i64 t125, .int .i64 t140, .int .i64 t127, .string t128, .int .i64 t129, .int .i64 t130, .slice Ao14 t131.length co14, .slice none 0 0, .slice none 0 0]) ?_ 9 _ rfl; (with_reducible repeat (first | refine blk_drewN ?_ _ | refine blk_drew ?_ | refine blk_alloc ?_ _)); refine blk_put (cs := #[.int .i64 a1, .int .i64 t124, .int .i64 t125, .int .i64 t140, .int .i64 t127, .string t128, .int .i64 t129, .int .i64 t130, .slice none 0 0, .slice none 0 0, .slice none 0 0]) ?_ 8 _ rfl; (with_reducible repeat (first | refine blk_drewN ?_ _ | refine blk_drew ?_ | refine blk_alloc ?_ _)); refine blk_put (cs := #[.int .i64 a1, .int .i64 t124, .int .i64 t125, .int .i64 t140, .int .i64 t127, .string t128, .int .i64 t129, .int .i64 0, .slice none 0 0, .slice none 0 0, .slice none 0 0]) ?_ 7 _ rfl; (with_reducible repeat (first | refine blk_drewN ?_ _ | refine blk_drew ?_ | refine blk_alloc ?_ _)); refine blk_put (cs := #[.int .i64 a1, .int .i64 t124, .int .i64 t125, .int .i64 t140, .int .i64 t127, .string t128, .int .i64 0, .int .i64 0, .slice none 0 0, .slice none 0 0, .slice none 0 0]) ?_ 6 _ rfl; (with_reducible repeat (first | refine blk_drewN ?_ _ | refine blk_drew ?_ | refine blk_alloc ?_ _)); refine blk_put (cs := #[.int .i64 a1, .int .i64 t124, .int .i64 t125, .int .i64 t140, .int .i64 t127, .string (⟨#[]⟩ : ByteArray), .int .i64 0, .int .i64 0, .slice none 0 0, .slice none 0 0, .slice none 0 0]) ?_ 5 _ rfl; (with_reducible repeat (first | refine blk_drewN ?_ _ | refine blk_drew ?_ | refine blk_alloc ?_ _)); refine blk_put (cs := #[.int .i64 a1, .int .i64 t124, .int .i64 t125, .int .i64 t140, .int .i64 0, .string (⟨#[]⟩ : ByteArray), .int .i64 0, .int .i64 0, .slice none 0 0, .slice none 0 0, .slice none 0 0]) ?_ 4 _ rfl; (with_reducible repeat (first | refine blk_drewN ?_ _ | refine blk_drew ?_ | refine blk_alloc ?_ _)); refine blk_put (cs := #[.int .i64 a1, .int .i64 t124, .int .i64 t125, .int .i64 0, .int .i64 0, .string (⟨#[]⟩ : ByteArray), .int .i64 0, .int .i64 0, .slice none 0 0, .slice none 0 0, .slice none 0 0]) ?_ 3 _ rfl; (with_reducible repeat (first | refine blk_drewN ?_ _ | refine blk_drew ?_ | refine blk_alloc ?_ _)); refine blk_put (cs := #[.int .i64 a1, .int .i64 t124, .int .i64 0, .int .i64 0, .int .i64 0, .string (⟨#[]⟩ : ByteArray), .int .i64 0, .int .i64 0, .slice none 0 0, .slice none 0 0, .slice none 0 0]) ?_ 2 _ rfl; (with_reducible repeat (first | refine blk_drewN ?_ _ | refine blk_drew ?_ | refine blk_alloc ?_ _)); refine blk_put (cs := #[.int .i64 a1, .int .i64 0, .int .i64 0, .int .i64 0, .int .i64 0, .string (⟨#[]⟩ : ByteArray), .int .i64 0, .int .i64 0, .slice none 0 0, .slice none 0 0, .slice none 0 0]) ?_ 1 _ rfl; (with_reducible repeat (first | refine blk_drewN ?_ _ | refine blk_drew ?_ | refine blk_alloc ?_ _)); refine blk_put (cs := #[.int .i64 0, .int .i64 0, .int .i64 0, .int .i64 0, .int .i64 0, .string (⟨#[]⟩ : ByteArray), .int .i64 0, .int .i64 0, .slice none 0 0, .slice none 0 0, .slice none 0 0]) ?_ 0 _ rfl; (with_reducible repeat (first | refine blk_drewN ?_ _ | refine blk_drew ?_ | refine blk_alloc ?_ _)); refine blk_far ?_ NB122_121.out _; (with_reducible repeat (first | refine blk_drewN ?_ _ | refine blk_drew ?_ | refine blk_alloc ?_ _)); refine blk_far ?_ NB122_121.out _; (with_reducible repeat (first | refine blk_drewN ?_ _ | refine blk_drew ?_ | refine blk_alloc ?_ _)); refine blk_far ?_ NB122_121.out _; (with_reducible repeat (first | refine blk_drewN ?_ _ | refine blk_drew ?_ | refine blk_alloc ?_ _)); exact BK122.out) Tryd.underlying27 rfl (by kernel_rfl)) rfl ?_
  exact ⟨_, _, _, by first | rfl | (simp [errW_none, errW_some] <;> rfl) | (simp [*, errW_none, errW_some] <;> rfl), by (with_reducible repeat (first | apply Kd.R_alloc | apply Kd.R_drewN | apply Kd.R_drew)); exact Kd.R_mono (Kd.R_far (p := ⟨gb122, 10, none⟩) (Kd.R_far (p := ⟨gb122, 9, none⟩) (Kd.R_far (p := ⟨gb122, 8, none⟩) (Kd.R_far (p := ⟨gb122, 7, none⟩) (Kd.R_far (p := ⟨gb122, 6, none⟩) (Kd.R_far (p := ⟨gb122, 5, none⟩) (Kd.R_far (p := ⟨gb122, 4, none⟩) (Kd.R_far (p := ⟨gb122, 3, none⟩) (Kd.R_far (p := ⟨gb122, 2, none⟩) (Kd.R_far (p := ⟨gb122, 1, none⟩) (Kd.R_far (p := ⟨gb122, 0, none⟩) (Kd.R_far (p := ⟨gb121, 10, none⟩) (Kd.R_far (p := ⟨gb121, 0, none⟩) (Kd.R_far (p := ⟨gb121, 3, none⟩) (Kd.R_types (Kd.R_types HO133.out BK121.out (by decide)) BK122.out (by decide)) (fun _ hk => hk.1.2) (.int .i64 t140)) (fun _ hk => hk.1.2) (.int .i64 a1)) (fun _ hk => hk.1.2) (.slice Ao20 t142.length co20)) (fun _ hk => hk.2) (.int .i64 a1)) (fun _ hk => hk.2) (.int .i64 t124)) (fun _ hk => hk.2) (.int .i64 t125)) (fun _ hk => hk.2) (.int .i64 t140)) (fun _ hk => hk.2) (.int .i64 t127)) (fun _ hk => hk.2) (.string t128)) (fun _ hk => hk.2) (.int .i64 t129)) (fun _ hk => hk.2) (.int .i64 t130)) (fun _ hk => hk.2) (.slice Ao14 t131.length co14)) (fun _ hk => hk.2) (.slice Ao15 t134.length co15)) (fun _ hk => hk.2) (.slice Ao20 t142.length co20)) (fun _ hk => trivial), by (with_reducible repeat (first | apply Kd.R_alloc | apply Kd.R_drewN | apply Kd.R_drew)); exact Kd.R_mono (Kd.R_far (p := ⟨gb122, 10, none⟩) (Kd.R_far (p := ⟨gb122, 9, none⟩) (Kd.R_far (p := ⟨gb122, 8, none⟩) (Kd.R_far (p := ⟨gb122, 7, none⟩) (Kd.R_far (p := ⟨gb122, 6, none⟩) (Kd.R_far (p := ⟨gb122, 5, none⟩) (Kd.R_far (p := ⟨gb122, 4, none⟩) (Kd.R_far (p := ⟨gb122, 3, none⟩) (Kd.R_far (p := ⟨gb122, 2, none⟩) (Kd.R_far (p := ⟨gb122, 1, none⟩) (Kd.R_far (p := ⟨gb122, 0, none⟩) (Kd.R_far (p := ⟨gb121, 10, none⟩) (Kd.R_far (p := ⟨gb121, 0, none⟩) (Kd.R_far (p := ⟨gb121, 3, none⟩) (Kd.R_types (Kd.R_types HO136.out BK121.out (by decide)) BK122.out (by decide)) (fun _ hk => hk.1.2) (.int .i64 t140)) (fun _ hk => hk.1.2) (.int .i64 a1)) (fun _ hk => hk.1.2) (.slice Ao20 t142.length co20)) (fun _ hk => hk.2) (.int .i64 a1)) (fun _ hk => hk.2) (.int .i64 t124)) (fun _ hk => hk.2) (.int .i64 t125)) (fun _ hk => hk.2) (.int .i64 t140)) (fun _ hk => hk.2) (.int .i64 t127)) (fun _ hk => hk.2) (.string t128)) (fun _ hk => hk.2) (.int .i64 t129)) (fun _ hk => hk.2) (.int .i64 t130)) (fun _ hk => hk.2) (.slice Ao14 t131.length co14)) (fun _ hk => hk.2) (.slice Ao15 t134.length co15)) (fun _ hk => hk.2) (.slice Ao20 t142.length co20)) (fun _ hk => hk.1.1.2), by (with_reducible repeat (first | apply Kd.R_alloc | apply Kd.R_drewN | apply Kd.R_drew)); exact Kd.R_mono (Kd.R_far (p := ⟨gb122, 10, none⟩) (Kd.R_far (p := ⟨gb122, 9, none⟩) (Kd.R_far (p := ⟨gb122, 8, none⟩) (Kd.R_far (p := ⟨gb122, 7, none⟩) (Kd.R_far (p := ⟨gb122, 6, none⟩) (Kd.R_far (p := ⟨gb122, 5, none⟩) (Kd.R_far (p := ⟨gb122, 4, none⟩) (Kd.R_far (p := ⟨gb122, 3, none⟩) (Kd.R_far (p := ⟨gb122, 2, none⟩) (Kd.R_far (p := ⟨gb122, 1, none⟩) (Kd.R_far (p := ⟨gb122, 0, none⟩) (Kd.R_far (p := ⟨gb121, 10, none⟩) (Kd.R_far (p := ⟨gb121, 0, none⟩) (Kd.R_far (p := ⟨gb121, 3, none⟩) (Kd.R_types (Kd.R_types HO144.out BK121.out (by decide)) BK122.out (by decide)) (fun _ hk => hk.1.2) (.int .i64 t140)) (fun _ hk => hk.1.2) (.int .i64 a1)) (fun _ hk => hk.1.2) (.slice Ao20 t142.length co20)) (fun _ hk => hk.2) (.int .i64 a1)) (fun _ hk => hk.2) (.int .i64 t124)) (fun _ hk => hk.2) (.int .i64 t125)) (fun _ hk => hk.2) (.int .i64 t140)) (fun _ hk => hk.2) (.int .i64 t127)) (fun _ hk => hk.2) (.string t128)) (fun _ hk => hk.2) (.int .i64 t129)) (fun _ hk => hk.2) (.int .i64 t130)) (fun _ hk => hk.2) (.slice Ao14 t131.length co14)) (fun _ hk => hk.2) (.slice Ao15 t134.length co15)) (fun _ hk => hk.2) (.slice Ao20 t142.length co20)) (fun _ hk => hk.1.1.1.2), by repeat (first | (with_reducible first | exact HB.out | apply below_alloc | apply pw_below_drewN | apply below_drew1 | refine below_set ?_ GE121.out | refine below_set ?_ GE122.out) | exact HB.out)⟩
 ·
  replace c6 := Bool.eq_false_iff.mpr c6
  subst c6
  have H1 : (some (t123, t124, t125, t126, t127, t128, t129, t130, t131, t134, t137, false)) = some (r1, r2, r3, r4, r5, r6, r7, r8, r9, r10, r11, r12) := by rw [if_neg (show ¬ (false = true) by decide)] at H; exact H
  clear H
  have H := H1
  clear H1
  simp only [Option.some.injEq, Prod.mk.injEq] at H
  obtain ⟨rfl, rfl, rfl, rfl, rfl, rfl, rfl, rfl, rfl, rfl, rfl, rfl⟩ := H
  go_enter Tryd.func11, Tryd.ntmps11
  go_wp2_with (first | ((with_reducible refine gate_dst (N := 3) rfl ?_); refine box_event ?hg (N := 3) ?hd (cs := #[.int .i64 a0_0, .int .i64 a0_1, .int .i64 a0_2, .int .i64 a0_3, .int .i64 a0_4, .string a0_5, .int .i64 a0_6, .int .i64 a0_7, .slice A0_8 l0_8.length c0_8, .slice A0_9 l0_9.length c0_9, .slice A0_10 l0_10.length c0_10]) (t := 27) ?hr ?_; (case hd => rfl); (case hg => rfl); (case hr => first | (go_simp; done) | (go_simp; rfl)); intro gb121 hg w22 hbox hb; have n0_ := Aside0.mk (below_step (by repeat (first | (with_reducible first | exact HB.out | apply below_alloc | apply pw_below_drewN | apply below_drew1) | exact HB.out)) hb); have n1_ := Aside0.mk (hbox); have n2_ := Aside0.mk ((by rw [hg]; exact (below_size (by repeat (first | (with_reducible first | exact HB.out | apply below_alloc | apply pw_below_drewN | apply below_drew1) | exact HB.out))) : w.heap.size ≤ gb121)); have n3_ := Aside0.mk ((by rw [hg]; exact (below_size (by repeat (first | (with_reducible first | exact HB.out | apply below_alloc | apply pw_below_drewN | apply below_drew1) | exact HB.out))) : w.heap.size ≤ gb121)); clear HB; have HB := n0_; have BK121 := n1_; have GW121 := n2_; have GE121 := n3_; clear n0_ n1_ n2_ n3_; clear hb hbox hg) | ((with_reducible refine gate_dst (N := 6) rfl ?_); refine box_event ?hg (N := 6) ?hd (cs := #[.int .i64 0, .int .i64 0, .int .i64 0, .int .i64 0, .int .i64 0, .string (⟨#[]⟩ : ByteArray), .int .i64 0, .int .i64 0, .slice none 0 0, .slice none 0 0, .slice none 0 0]) (t := 27) ?hr ?_; (case hd => rfl); (case hg => rfl); (case hr => first | (go_simp; done) | (go_simp; rfl)); intro gb122 hg w23 hbox hb; have n0_ := Aside0.mk (blk_below (g := gb121) (o := .cells #[.int .i64 a0_0, .int .i64 a0_1, .int .i64 a0_2, .int .i64 a0_3, .int .i64 a0_4, .string a0_5, .int .i64 a0_6, .int .i64 a0_7, .slice A0_8 l0_8.length c0_8, .slice A0_9 l0_9.length c0_9, .slice A0_10 l0_10.length c0_10] 27 (0, 0)) (by (with_reducible repeat (first | refine blk_drewN ?_ _ | refine blk_drew ?_ | refine blk_alloc ?_ _)); exact BK121.out) hb); have n1_ := Aside0.mk (below_step (by repeat (first | (with_reducible first | exact HB.out | apply below_alloc | apply pw_below_drewN | apply below_drew1 | refine below_set ?_ GE121.out) | exact HB.out)) hb); have n2_ := Aside0.mk (hbox); have n3_ := Aside0.mk ((by rw [hg]; exact (below_size (by repeat (first | (with_reducible first | exact HB.out | apply below_alloc | apply pw_below_drewN | apply below_drew1 | refine below_set ?_ GE121.out) | exact HB.out))) : w.heap.size ≤ gb122)); have n4_ := Aside0.mk ((by rw [hg]; exact (below_size (by repeat (first | (with_reducible first | exact HB.out | apply below_alloc | apply pw_below_drewN | apply below_drew1 | refine below_set ?_ GE121.out) | exact HB.out))) : w.heap.size ≤ gb122)); have n5_ := Aside0.mk ((by rw [hg]; exact Nat.ne_of_lt (blk_lt (g := gb121) (o := .cells #[.int .i64 a0_0, .int .i64 a0_1, .int .i64 a0_2, .int .i64 a0_3, .int .i64 a0_4, .string a0_5, .int .i64 a0_6, .int .i64 a0_7, .slice A0_8 l0_8.length c0_8, .slice A0_9 l0_9.length c0_9, .slice A0_10 l0_10.length c0_10] 27 (0, 0)) (by (with_reducible repeat (first | refine blk_drewN ?_ _ | refine blk_drew ?_ | refine blk_alloc ?_ _)); exact BK121.out)) : gb121 ≠ gb122)); have n6_ := Aside0.mk ((by rw [hg]; exact Nat.ne_of_gt (blk_lt (g := gb121) (o := .cells #[.int .i64 a0_0, .int .i64 a0_1, .int .i64 a0_2, .int .i64 a0_3, .int .i64 a0_4, .string a0_5, .int .i64 a0_6, .int .i64 a0_7, .slice A0_8 l0_8.length c0_8, .slice A0_9 l0_9.length c0_9, .slice A0_10 l0_10.length c0_10] 27 (0, 0)) (by (with_reducible repeat (first | refine blk_drewN ?_ _ | refine blk_drew ?_ | refine blk_alloc ?_ _)); exact BK121.out)) : gb122 ≠ gb121)); clear BK121; clear HB; have BK121 := n0_; have HB := n1_; have BK122 := n2_; have GW122 := n3_; have GE122 := n4_; have NB121_122 := n5_; have NB122_121 := n6_; clear n0_ n1_ n2_ n3_ n4_ n5_ n6_; clear hb hbox hg; have hnb24 := NB121_122.out; have hnc24 := NB122_121.out; have hcz25_0 : w23.cell? ⟨gb121, 0, none⟩ = some (.int .i64 a0_0) := (blk_cell BK121.out 0).trans rfl; have hcz25_1 : w23.cell? ⟨gb121, 1, none⟩ = some (.int .i64 a0_1) := (blk_cell BK121.out 1).trans rfl; have hcz25_2 : w23.cell? ⟨gb121, 2, none⟩ = some (.int .i64 a0_2) := (blk_cell BK121.out 2).trans rfl; have hcz25_3 : w23.cell? ⟨gb121, 3, none⟩ = some (.int .i64 a0_3) := (blk_cell BK121.out 3).trans rfl; have hcz25_4 : w23.cell? ⟨gb121, 4, none⟩ = some (.int .i64 a0_4) := (blk_cell BK121.out 4).trans rfl; have hcz25_5 : w23.cell? ⟨gb121, 5, none⟩ = some (.string a0_5) := (blk_cell BK121.out 5).trans rfl; have hcz25_6 : w23.cell? ⟨gb121, 6, none⟩ = some (.int .i64 a0_6) := (blk_cell BK121.out 6).trans rfl; have hcz25_7 : w23.cell? ⟨gb121, 7, none⟩ = some (.int .i64 a0_7) := (blk_cell BK121.out 7).trans rfl; have hcz25_8 : w23.cell? ⟨gb121, 8, none⟩ = some (.slice A0_8 l0_8.length c0_8) := (blk_cell BK121.out 8).trans rfl; have hcz25_9 : w23.cell? ⟨gb121, 9, none⟩ = some (.slice A0_9 l0_9.length c0_9) := (blk_cell BK121.out 9).trans rfl; have hcz25_10 : w23.cell? ⟨gb121, 10, none⟩ = some (.slice A0_10 l0_10.length c0_10) := (blk_cell BK121.out 10).trans rfl; have hfz25_0 := blk_frozen BK121.out 0; have hfz25_1 := blk_frozen BK121.out 1; have hfz25_2 := blk_frozen BK121.out 2; have hfz25_3 := blk_frozen BK121.out 3; have hfz25_4 := blk_frozen BK121.out 4; have hfz25_5 := blk_frozen BK121.out 5; have hfz25_6 := blk_frozen BK121.out 6; have hfz25_7 := blk_frozen BK121.out 7; have hfz25_8 := blk_frozen BK121.out 8; have hfz25_9 := blk_frozen BK121.out 9; have hfz25_10 := blk_frozen BK121.out 10) | ((with_reducible refine gate_callee (f := 40) rfl ?_); refine goesL_ (some 11) rfl rfl Tryd.func40 (by kernel_rfl) rfl #[.agg #[.int .i64 a0_0, .int .i64 a0_1, .int .i64 a0_2, .int .i64 a0_3, .int .i64 a0_4, .string a0_5, .int .i64 a0_6, .int .i64 a0_7, .slice A0_8 l0_8.length c0_8, .slice A0_9 l0_9.length c0_9, .slice A0_10 l0_10.length c0_10]] rfl (by (try simp only [List.map_toArray, List.map_cons, List.map_nil]); first | done | rfl | (simp only [List.length_drop, List.length_take]; rfl)) ?_; (with_reducible refine (transit_arrived.calls a0_0 a0_1 a0_2 a0_3 a0_4 a0_5 a0_6 a0_7 _ _ l0_8 _ _ l0_9 _ _ l0_10 t123 t124 t125 t126 t127 t128 t129 t130 t131 t134 t137 _ ?side1 ?side2 ?side3 ?side4 ?side5 ?side6 A4.out).mono ?_); (case side1 => repeat (first | exact (Kd.C_below HR0_8.out HB.out) | (with_reducible refine Kd.C_alloc ?_ _) | (with_reducible refine Kd.C_drewN ?_ _) | (with_reducible refine Kd.C_drew ?_))); (case side2 => exact HC0_8.out); (case side3 => repeat (first | exact (Kd.C_below HR0_9.out HB.out) | (with_reducible refine Kd.C_alloc ?_ _) | (with_reducible refine Kd.C_drewN ?_ _) | (with_reducible refine Kd.C_drew ?_))); (case side4 => exact HC0_9.out); (case side5 => repeat (first | exact (Kd.C_below HR0_10.out HB.out) | (with_reducible refine Kd.C_alloc ?_ _) | (with_reducible refine Kd.C_drewN ?_ _) | (with_reducible refine Kd.C_drew ?_))); (case side6 => exact HC0_10.out); rintro e w26 ⟨v132, v135, v138, rfl, ho0, ho1, ho2, hb⟩; refine ⟨_, rfl, ?_⟩; have n0_ := Aside0.mk (Kd.R_lower ho0 (below_size (by repeat (first | (with_reducible first | exact HB.out | apply below_alloc | apply pw_below_drewN | apply below_drew1 | refine below_set ?_ GE121.out | refine below_set ?_ GE122.out) | exact HB.out)))); have n1_ := Aside0.mk (Kd.R_lower ho1 (below_size (by repeat (first | (with_reducible first | exact HB.out | apply below_alloc | apply pw_below_drewN | apply below_drew1 | refine below_set ?_ GE121.out | refine below_set ?_ GE122.out) | exact HB.out)))); have n2_ := Aside0.mk (Kd.R_lower ho2 (below_size (by repeat (first | (with_reducible first | exact HB.out | apply below_alloc | apply pw_below_drewN | apply below_drew1 | refine below_set ?_ GE121.out | refine below_set ?_ GE122.out) | exact HB.out)))); have n3_ := Aside0.mk (blk_below (g := gb121) (o := .cells #[.int .i64 a0_0, .int .i64 a0_1, .int .i64 a0_2, .int .i64 a0_3, .int .i64 a0_4, .string a0_5, .int .i64 a0_6, .int .i64 a0_7, .slice A0_8 l0_8.length c0_8, .slice A0_9 l0_9.length c0_9, .slice A0_10 l0_10.length c0_10] 27 (0, 0)) (by (with_reducible repeat (first | refine blk_drewN ?_ _ | refine blk_drew ?_ | refine blk_alloc ?_ _)); exact BK121.out) hb); have n4_ := Aside0.mk (blk_below (g := gb122) (o := .cells #[.int .i64 0, .int .i64 0, .int .i64 0, .int .i64 0, .int .i64 0, .string (⟨#[]⟩ : ByteArray), .int .i64 0, .int .i64 0, .slice none 0 0, .slice none 0 0, .slice none 0 0] 27 (0, 0)) (by (with_reducible repeat (first | refine blk_drewN ?_ _ | refine blk_drew ?_ | refine blk_alloc ?_ _)); exact BK122.out) hb); have n5_ := Aside0.mk (below_step (by repeat (first | (with_reducible first | exact HB.out | apply below_alloc | apply pw_below_drewN | apply below_drew1 | refine below_set ?_ GE121.out | refine below_set ?_ GE122.out) | exact HB.out)) hb); clear BK121; clear BK122; clear HB; have HO133 := n0_; have HO136 := n1_; have HO139 := n2_; have BK121 := n3_; have BK122 := n4_; have HB := n5_; clear n0_ n1_ n2_ n3_ n4_ n5_; (try clear hb); (try clear hb2); (try clear hk); (try clear hi); (try clear ho0); (try clear ho1); (try clear ho2); have hcz27_0 : w26.cell? ⟨gb121, 0, none⟩ = some (.int .i64 a0_0) := (blk_cell BK121.out 0).trans rfl; have hcz27_1 : w26.cell? ⟨gb121, 1, none⟩ = some (.int .i64 a0_1) := (blk_cell BK121.out 1).trans rfl; have hcz27_2 : w26.cell? ⟨gb121, 2, none⟩ = some (.int .i64 a0_2) := (blk_cell BK121.out 2).trans rfl; have hcz27_3 : w26.cell? ⟨gb121, 3, none⟩ = some (.int .i64 a0_3) := (blk_cell BK121.out 3).trans rfl; have hcz27_4 : w26.cell? ⟨gb121, 4, none⟩ = some (.int .i64 a0_4) := (blk_cell BK121.out 4).trans rfl; have hcz27_5 : w26.cell? ⟨gb121, 5, none⟩ = some (.string a0_5) := (blk_cell BK121.out 5).trans rfl; have hcz27_6 : w26.cell? ⟨gb121, 6, none⟩ = some (.int .i64 a0_6) := (blk_cell BK121.out 6).trans rfl; have hcz27_7 : w26.cell? ⟨gb121, 7, none⟩ = some (.int .i64 a0_7) := (blk_cell BK121.out 7).trans rfl; have hcz27_8 : w26.cell? ⟨gb121, 8, none⟩ = some (.slice A0_8 l0_8.length c0_8) := (blk_cell BK121.out 8).trans rfl; have hcz27_9 : w26.cell? ⟨gb121, 9, none⟩ = some (.slice A0_9 l0_9.length c0_9) := (blk_cell BK121.out 9).trans rfl; have hcz27_10 : w26.cell? ⟨gb121, 10, none⟩ = some (.slice A0_10 l0_10.length c0_10) := (blk_cell BK121.out 10).trans rfl; have hfz27_0 := blk_frozen BK121.out 0; have hfz27_1 := blk_frozen BK121.out 1; have hfz27_2 := blk_frozen BK121.out 2; have hfz27_3 := blk_frozen BK121.out 3; have hfz27_4 := blk_frozen BK121.out 4; have hfz27_5 := blk_frozen BK121.out 5; have hfz27_6 := blk_frozen BK121.out 6; have hfz27_7 := blk_frozen BK121.out 7; have hfz27_8 := blk_frozen BK121.out 8; have hfz27_9 := blk_frozen BK121.out 9; have hfz27_10 := blk_frozen BK121.out 10; obtain ⟨Ao28, co28, eo28⟩ := Kd.R_slice HO133.out; subst eo28; obtain ⟨Ao29, co29, eo29⟩ := Kd.R_slice HO136.out; subst eo29; obtain ⟨Ao30, co30, eo30⟩ := Kd.R_slice HO139.out; subst eo30) | ((with_reducible refine gate_callee (f := 41) rfl ?_); refine goesL_ (some 15) rfl rfl Tryd.func41 (by kernel_rfl) rfl #[.int .i64 t126, .int .i64 2] rfl (by (try simp only [List.map_toArray, List.map_cons, List.map_nil]); first | done | rfl | (simp only [List.length_drop, List.length_take]; rfl)) ?_; (with_reducible refine (transit_next.calls t126 2 t140 false _ ?side1 A5.out).mono ?_); (case side1 => exact GL_changes.of_below (by repeat (first | (with_reducible first | exact HB.out | apply below_alloc | apply pw_below_drewN | apply below_drew1 | refine below_set ?_ GE121.out | refine below_set ?_ GE122.out) | exact HB.out)) HG_changes.out); rintro e w31 ⟨rfl, hb⟩; refine ⟨_, rfl, ?_⟩; have n0_ := Aside0.mk (Kd.R_below (by (with_reducible repeat (first | apply Kd.R_alloc | apply Kd.R_drewN | apply Kd.R_drew)); exact (Kd.R_mono (Kd.R_far (p := ⟨gb121, 10, none⟩) (Kd.R_far (p := ⟨gb121, 9, none⟩) (Kd.R_far (p := ⟨gb121, 8, none⟩) (Kd.R_far (p := ⟨gb121, 7, none⟩) (Kd.R_far (p := ⟨gb121, 6, none⟩) (Kd.R_far (p := ⟨gb121, 5, none⟩) (Kd.R_far (p := ⟨gb121, 4, none⟩) (Kd.R_far (p := ⟨gb121, 3, none⟩) (Kd.R_far (p := ⟨gb121, 2, none⟩) (Kd.R_far (p := ⟨gb121, 1, none⟩) (Kd.R_far (p := ⟨gb121, 0, none⟩) (Kd.R_types HO133.out BK121.out (by decide)) (fun _ hk => hk.2) (.int .i64 t123)) (fun _ hk => hk.2) (.int .i64 t124)) (fun _ hk => hk.2) (.int .i64 t125)) (fun _ hk => hk.2) (.int .i64 t126)) (fun _ hk => hk.2) (.int .i64 t127)) (fun _ hk => hk.2) (.string t128)) (fun _ hk => hk.2) (.int .i64 t129)) (fun _ hk => hk.2) (.int .i64 t130)) (fun _ hk => hk.2) (.slice Ao28 t131.length co28)) (fun _ hk => hk.2) (.slice Ao29 t134.length co29)) (fun _ hk => hk.2) (.slice Ao30 t137.length co30)) (fun _ h_ => h_.1))) hb); have n1_ := Aside0.mk (Kd.R_below (by (with_reducible repeat (first | apply Kd.R_alloc | apply Kd.R_drewN | apply Kd.R_drew)); exact (Kd.R_mono (Kd.R_far (p := ⟨gb121, 10, none⟩) (Kd.R_far (p := ⟨gb121, 9, none⟩) (Kd.R_far (p := ⟨gb121, 8, none⟩) (Kd.R_far (p := ⟨gb121, 7, none⟩) (Kd.R_far (p := ⟨gb121, 6, none⟩) (Kd.R_far (p := ⟨gb121, 5, none⟩) (Kd.R_far (p := ⟨gb121, 4, none⟩) (Kd.R_far (p := ⟨gb121, 3, none⟩) (Kd.R_far (p := ⟨gb121, 2, none⟩) (Kd.R_far (p := ⟨gb121, 1, none⟩) (Kd.R_far (p := ⟨gb121, 0, none⟩) (Kd.R_types HO136.out BK121.out (by decide)) (fun _ hk => hk.2) (.int .i64 t123)) (fun _ hk => hk.2) (.int .i64 t124)) (fun _ hk => hk.2) (.int .i64 t125)) (fun _ hk => hk.2) (.int .i64 t126)) (fun _ hk => hk.2) (.int .i64 t127)) (fun _ hk => hk.2) (.string t128)) (fun _ hk => hk.2) (.int .i64 t129)) (fun _ hk => hk.2) (.int .i64 t130)) (fun _ hk => hk.2) (.slice Ao28 t131.length co28)) (fun _ hk => hk.2) (.slice Ao29 t134.length co29)) (fun _ hk => hk.2) (.slice Ao30 t137.length co30)) (fun _ h_ => h_.1))) hb); have n2_ := Aside0.mk (Kd.R_below (by (with_reducible repeat (first | apply Kd.R_alloc | apply Kd.R_drewN | apply Kd.R_drew)); exact (Kd.R_mono (Kd.R_far (p := ⟨gb121, 10, none⟩) (Kd.R_far (p := ⟨gb121, 9, none⟩) (Kd.R_far (p := ⟨gb121, 8, none⟩) (Kd.R_far (p := ⟨gb121, 7, none⟩) (Kd.R_far (p := ⟨gb121, 6, none⟩) (Kd.R_far (p := ⟨gb121, 5, none⟩) (Kd.R_far (p := ⟨gb121, 4, none⟩) (Kd.R_far (p := ⟨gb121, 3, none⟩) (Kd.R_far (p := ⟨gb121, 2, none⟩) (Kd.R_far (p := ⟨gb121, 1, none⟩) (Kd.R_far (p := ⟨gb121, 0, none⟩) (Kd.R_types HO139.out BK121.out (by decide)) (fun _ hk => hk.2) (.int .i64 t123)) (fun _ hk => hk.2) (.int .i64 t124)) (fun _ hk => hk.2) (.int .i64 t125)) (fun _ hk => hk.2) (.int .i64 t126)) (fun _ hk => hk.2) (.int .i64 t127)) (fun _ hk => hk.2) (.string t128)) (fun _ hk => hk.2) (.int .i64 t129)) (fun _ hk => hk.2) (.int .i64 t130)) (fun _ hk => hk.2) (.slice Ao28 t131.length co28)) (fun _ hk => hk.2) (.slice Ao29 t134.length co29)) (fun _ hk => hk.2) (.slice Ao30 t137.length co30)) (fun _ h_ => h_.1))) hb); have n3_ := Aside0.mk (blk_below (g := gb121) (o := .cells #[.int .i64 t123, .int .i64 t124, .int .i64 t125, .int .i64 t126, .int .i64 t127, .string t128, .int .i64 t129, .int .i64 t130, .slice Ao28 t131.length co28, .slice Ao29 t134.length co29, .slice Ao30 t137.length co30] 27 (0, 0)) (by (with_reducible repeat (first | refine blk_drewN ?_ _ | refine blk_drew ?_ | refine blk_alloc ?_ _)); refine blk_put (cs := #[.int .i64 t123, .int .i64 t124, .int .i64 t125, .int .i64 t126, .int .i64 t127, .string t128, .int .i64 t129, .int .i64 t130, .slice Ao28 t131.length co28, .slice Ao29 t134.length co29, .slice A0_10 l0_10.length c0_10]) ?_ 10 _ rfl; (with_reducible repeat (first | refine blk_drewN ?_ _ | refine blk_drew ?_ | refine blk_alloc ?_ _)); refine blk_put (cs := #[.int .i64 t123, .int .i64 t124, .int .i64 t125, .int .i64 t126, .int .i64 t127, .string t128, .int .i64 t129, .int .i64 t130, .slice Ao28 t131.length co28, .slice A0_9 l0_9.length c0_9, .slice A0_10 l0_10.length c0_10]) ?_ 9 _ rfl; (with_reducible repeat (first | refine blk_drewN ?_ _ | refine blk_drew ?_ | refine blk_alloc ?_ _)); refine blk_put (cs := #[.int .i64 t123, .int .i64 t124, .int .i64 t125, .int .i64 t126, .int .i64 t127, .string t128, .int .i64 t129, .int .i64 t130, .slice A0_8 l0_8.length c0_8, .slice A0_9 l0_9.length c0_9, .slice A0_10 l0_10.length c0_10]) ?_ 8 _ rfl; (with_reducible repeat (first | refine blk_drewN ?_ _ | refine blk_drew ?_ | refine blk_alloc ?_ _)); refine blk_put (cs := #[.int .i64 t123, .int .i64 t124, .int .i64 t125, .int .i64 t126, .int .i64 t127, .string t128, .int .i64 t129, .int .i64 a0_7, .slice A0_8 l0_8.length c0_8, .slice A0_9 l0_9.length c0_9, .slice A0_10 l0_10.length c0_10]) ?_ 7 _ rfl; (with_reducible repeat (first | refine blk_drewN ?_ _ | refine blk_drew ?_ | refine blk_alloc ?_ _)); refine blk_put (cs := #[.int .i64 t123, .int .i64 t124, .int .i64 t125, .int .i64 t126, .int .i64 t127, .string t128, .int .i64 a0_6, .int .i64 a0_7, .slice A0_8 l0_8.length c0_8, .slice A0_9 l0_9.length c0_9, .slice A0_10 l0_10.length c0_10]) ?_ 6 _ rfl; (with_reducible repeat (first | refine blk_drewN ?_ _ | refine blk_drew ?_ | refine blk_alloc ?_ _)); refine blk_put (cs := #[.int .i64 t123, .int .i64 t124, .int .i64 t125, .int .i64 t126, .int .i64 t127, .string a0_5, .int .i64 a0_6, .int .i64 a0_7, .slice A0_8 l0_8.length c0_8, .slice A0_9 l0_9.length c0_9, .slice A0_10 l0_10.length c0_10]) ?_ 5 _ rfl; (with_reducible repeat (first | refine blk_drewN ?_ _ | refine blk_drew ?_ | refine blk_alloc ?_ _)); refine blk_put (cs := #[.int .i64 t123, .int .i64 t124, .int .i64 t125, .int .i64 t126, .int .i64 a0_4, .string a0_5, .int .i64 a0_6, .int .i64 a0_7, .slice A0_8 l0_8.length c0_8, .slice A0_9 l0_9.length c0_9, .slice A0_10 l0_10.length c0_10]) ?_ 4 _ rfl; (with_reducible repeat (first | refine blk_drewN ?_ _ | refine blk_drew ?_ | refine blk_alloc ?_ _)); refine blk_put (cs := #[.int .i64 t123, .int .i64 t124, .int .i64 t125, .int .i64 a0_3, .int .i64 a0_4, .string a0_5, .int .i64 a0_6, .int .i64 a0_7, .slice A0_8 l0_8.length c0_8, .slice A0_9 l0_9.length c0_9, .slice A0_10 l0_10.length c0_10]) ?_ 3 _ rfl; (with_reducible repeat (first | refine blk_drewN ?_ _ | refine blk_drew ?_ | refine blk_alloc ?_ _)); refine blk_put (cs := #[.int .i64 t123, .int .i64 t124, .int .i64 a0_2, .int .i64 a0_3, .int .i64 a0_4, .string a0_5, .int .i64 a0_6, .int .i64 a0_7, .slice A0_8 l0_8.length c0_8, .slice A0_9 l0_9.length c0_9, .slice A0_10 l0_10.length c0_10]) ?_ 2 _ rfl; (with_reducible repeat (first | refine blk_drewN ?_ _ | refine blk_drew ?_ | refine blk_alloc ?_ _)); refine blk_put (cs := #[.int .i64 t123, .int .i64 a0_1, .int .i64 a0_2, .int .i64 a0_3, .int .i64 a0_4, .string a0_5, .int .i64 a0_6, .int .i64 a0_7, .slice A0_8 l0_8.length c0_8, .slice A0_9 l0_9.length c0_9, .slice A0_10 l0_10.length c0_10]) ?_ 1 _ rfl; (with_reducible repeat (first | refine blk_drewN ?_ _ | refine blk_drew ?_ | refine blk_alloc ?_ _)); refine blk_put (cs := #[.int .i64 a0_0, .int .i64 a0_1, .int .i64 a0_2, .int .i64 a0_3, .int .i64 a0_4, .string a0_5, .int .i64 a0_6, .int .i64 a0_7, .slice A0_8 l0_8.length c0_8, .slice A0_9 l0_9.length c0_9, .slice A0_10 l0_10.length c0_10]) ?_ 0 _ rfl; (with_reducible repeat (first | refine blk_drewN ?_ _ | refine blk_drew ?_ | refine blk_alloc ?_ _)); exact BK121.out) hb); have n4_ := Aside0.mk (blk_below (g := gb122) (o := .cells #[.int .i64 0, .int .i64 0, .int .i64 0, .int .i64 0, .int .i64 0, .string (⟨#[]⟩ : ByteArray), .int .i64 0, .int .i64 0, .slice none 0 0, .slice none 0 0, .slice none 0 0] 27 (0, 0)) (by (with_reducible repeat (first | refine blk_drewN ?_ _ | refine blk_drew ?_ | refine blk_alloc ?_ _)); refine blk_far ?_ NB122_121.out _; (with_reducible repeat (first | refine blk_drewN ?_ _ | refine blk_drew ?_ | refine blk_alloc ?_ _)); refine blk_far ?_ NB122_121.out _; (with_reducible repeat (first | refine blk_drewN ?_ _ | refine blk_drew ?_ | refine blk_alloc ?_ _)); refine blk_far ?_ NB122_121.out _; (with_reducible repeat (first | refine blk_drewN ?_ _ | refine blk_drew ?_ | refine blk_alloc ?_ _)); refine blk_far ?_ NB122_121.out _; (with_reducible repeat (first | refine blk_drewN ?_ _ | refine blk_drew ?_ | refine blk_alloc ?_ _)); refine blk_far ?_ NB122_121.out _; (with_reducible repeat (first | refine blk_drewN ?_ _ | refine blk_drew ?_ | refine blk_alloc ?_ _)); refine blk_far ?_ NB122_121.out _; (with_reducible repeat (first | refine blk_drewN ?_ _ | refine blk_drew ?_ | refine blk_alloc ?_ _)); refine blk_far ?_ NB122_121.out _; (with_reducible repeat (first | refine blk_drewN ?_ _ | refine blk_drew ?_ | refine blk_alloc ?_ _)); refine blk_far ?_ NB122_121.out _; (with_reducible repeat (first | refine blk_drewN ?_ _ | refine blk_drew ?_ | refine blk_alloc ?_ _)); refine blk_far ?_ NB122_121.out _; (with_reducible repeat (first | refine blk_drewN ?_ _ | refine blk_drew ?_ | refine blk_alloc ?_ _)); refine blk_far ?_ NB122_121.out _; (with_reducible repeat (first | refine blk_drewN ?_ _ | refine blk_drew ?_ | refine blk_alloc ?_ _)); refine blk_far ?_ NB122_121.out _; (with_reducible repeat (first | refine blk_drewN ?_ _ | refine blk_drew ?_ | refine blk_alloc ?_ _)); exact BK122.out) hb); have n5_ := Aside0.mk (below_step (by repeat (first | (with_reducible first | exact HB.out | apply below_alloc | apply pw_below_drewN | apply below_drew1 | refine below_set ?_ GE121.out | refine below_set ?_ GE122.out) | exact HB.out)) hb); clear HO133; clear HO136; clear HO139; clear BK121; clear BK122; clear HB; have HO133 := n0_; have HO136 := n1_; have HO139 := n2_; have BK121 := n3_; have BK122 := n4_; have HB := n5_; clear n0_ n1_ n2_ n3_ n4_ n5_; (try clear hb); (try clear hb2); (try clear hk); (try clear hi); have hcz32_0 : w31.cell? ⟨gb121, 0, none⟩ = some (.int .i64 t123) := (blk_cell BK121.out 0).trans rfl; have hcz32_1 : w31.cell? ⟨gb121, 1, none⟩ = some (.int .i64 t124) := (blk_cell BK121.out 1).trans rfl; have hcz32_2 : w31.cell? ⟨gb121, 2, none⟩ = some (.int .i64 t125) := (blk_cell BK121.out 2).trans rfl; have hcz32_3 : w31.cell? ⟨gb121, 3, none⟩ = some (.int .i64 t126) := (blk_cell BK121.out 3).trans rfl; have hcz32_4 : w31.cell? ⟨gb121, 4, none⟩ = some (.int .i64 t127) := (blk_cell BK121.out 4).trans rfl; have hcz32_5 : w31.cell? ⟨gb121, 5, none⟩ = some (.string t128) := (blk_cell BK121.out 5).trans rfl; have hcz32_6 : w31.cell? ⟨gb121, 6, none⟩ = some (.int .i64 t129) := (blk_cell BK121.out 6).trans rfl; have hcz32_7 : w31.cell? ⟨gb121, 7, none⟩ = some (.int .i64 t130) := (blk_cell BK121.out 7).trans rfl; have hcz32_8 : w31.cell? ⟨gb121, 8, none⟩ = some (.slice Ao28 t131.length co28) := (blk_cell BK121.out 8).trans rfl; have hcz32_9 : w31.cell? ⟨gb121, 9, none⟩ = some (.slice Ao29 t134.length co29) := (blk_cell BK121.out 9).trans rfl; have hcz32_10 : w31.cell? ⟨gb121, 10, none⟩ = some (.slice Ao30 t137.length co30) := (blk_cell BK121.out 10).trans rfl; have hfz32_0 := blk_frozen BK121.out 0; have hfz32_1 := blk_frozen BK121.out 1; have hfz32_2 := blk_frozen BK121.out 2; have hfz32_3 := blk_frozen BK121.out 3; have hfz32_4 := blk_frozen BK121.out 4; have hfz32_5 := blk_frozen BK121.out 5; have hfz32_6 := blk_frozen BK121.out 6; have hfz32_7 := blk_frozen BK121.out 7; have hfz32_8 := blk_frozen BK121.out 8; have hfz32_9 := blk_frozen BK121.out 9; have hfz32_10 := blk_frozen BK121.out 10; have hcz33_0 : w31.cell? ⟨gb122, 0, none⟩ = some (.int .i64 0) := (blk_cell BK122.out 0).trans rfl; have hcz33_1 : w31.cell? ⟨gb122, 1, none⟩ = some (.int .i64 0) := (blk_cell BK122.out 1).trans rfl; have hcz33_2 : w31.cell? ⟨gb122, 2, none⟩ = some (.int .i64 0) := (blk_cell BK122.out 2).trans rfl; have hcz33_3 : w31.cell? ⟨gb122, 3, none⟩ = some (.int .i64 0) := (blk_cell BK122.out 3).trans rfl; have hcz33_4 : w31.cell? ⟨gb122, 4, none⟩ = some (.int .i64 0) := (blk_cell BK122.out 4).trans rfl; have hcz33_5 : w31.cell? ⟨gb122, 5, none⟩ = some (.string (⟨#[]⟩ : ByteArray)) := (blk_cell BK122.out 5).trans rfl; have hcz33_6 : w31.cell? ⟨gb122, 6, none⟩ = some (.int .i64 0) := (blk_cell BK122.out 6).trans rfl; have hcz33_7 : w31.cell? ⟨gb122, 7, none⟩ = some (.int .i64 0) := (blk_cell BK122.out 7).trans rfl; have hcz33_8 : w31.cell? ⟨gb122, 8, none⟩ = some (.slice none 0 0) := (blk_cell BK122.out 8).trans rfl; have hcz33_9 : w31.cell? ⟨gb122, 9, none⟩ = some (.slice none 0 0) := (blk_cell BK122.out 9).trans rfl; have hcz33_10 : w31.cell? ⟨gb122, 10, none⟩ = some (.slice none 0 0) := (blk_cell BK122.out 10).trans rfl; have hfz33_0 := blk_frozen BK122.out 0; have hfz33_1 := blk_frozen BK122.out 1; have hfz33_2 := blk_frozen BK122.out 2; have hfz33_3 := blk_frozen BK122.out 3; have hfz33_4 := blk_frozen BK122.out 4; have hfz33_5 := blk_frozen BK122.out 5; have hfz33_6 := blk_frozen BK122.out 6; have hfz33_7 := blk_frozen BK122.out 7; have hfz33_8 := blk_frozen BK122.out 8; have hfz33_9 := blk_frozen BK122.out 9; have hfz33_10 := blk_frozen BK122.out 10))
  refine bodyPost_ret (results_ct rfl _ _ gb122 27 #[.int .i64 t123, .int .i64 t124, .int .i64 t125, .int .i64 t126, .int .i64 t127, .string t128, .int .i64 t129, .int .i64 t130, .slice Ao28 t131.length co28, .slice Ao29 t134.length co29, .slice Ao30 t137.length co30] (0, 0) _ rfl (by (with_reducible repeat (first | refine blk_drewN ?_ _ | refine blk_drew ?_ | refine blk_alloc ?_ _)); refine blk_put (cs := #[.int .i64 t123, .int .i64 t124, .int .i64 t125, .int .i64 t126, .int .i64 t127, .string t128, .int .i64 t129, .int .i64 t130, .slice Ao28 t131.length co28, .slice Ao29 t134.length co29, .slice none 0 0]) ?_ 10 _ rfl; (with_reducible repeat (first | refine blk_drewN ?_ _ | refine blk_drew ?_ | refine blk_alloc ?_ _)); refine blk_put (cs := #[.int .i64 t123, .int .i64 t124, .int .i64 t125, .int .i64 t126, .int .i64 t127, .string t128, .int .i64 t129, .int .i64 t130, .slice Ao28 t131.length co28, .slice none 0 0, .slice none 0 0]) ?_ 9 _ rfl; (with_reducible repeat (first | refine blk_drewN ?_ _ | refine blk_drew ?_ | refine blk_alloc ?_ _)); refine blk_put (cs := #[.int .i64 t123, .int .i64 t124, .int .i64 t125, .int .i64 t126, .int .i64 t127, .string t128, .int .i64 t129, .int .i64 t130, .slice none 0 0, .slice none 0 0, .slice none 0 0]) ?_ 8 _ rfl; (with_reducible repeat (first | refine blk_drewN ?_ _ | refine blk_drew ?_ | refine blk_alloc ?_ _)); refine blk_put (cs := #[.int .i64 t123, .int .i64 t124, .int .i64 t125, .int .i64 t126, .int .i64 t127, .string t128, .int .i64 t129, .int .i64 0, .slice none 0 0, .slice none 0 0, .slice none 0 0]) ?_ 7 _ rfl; (with_reducible repeat (first | refine blk_drewN ?_ _ | refine blk_drew ?_ | refine blk_alloc ?_ _)); refine blk_put (cs := #[.int .i64 t123, .int .i64 t124, .int .i64 t125, .int .i64 t126, .int .i64 t127, .string t128, .int .i64 0, .int .i64 0, .slice none 0 0, .slice none 0 0, .slice none 0 0]) ?_ 6 _ rfl; (with_reducible repeat (first | refine blk_drewN ?_ _ | refine blk_drew ?_ | refine blk_alloc ?_ _)); refine blk_put (cs := #[.int .i64 t123, .int .i64 t124, .int .i64 t125, .int .i64 t126, .int .i64 t127, .string (⟨#[]⟩ : ByteArray), .int .i64 0, .int .i64 0, .slice none 0 0, .slice none 0 0, .slice none 0 0]) ?_ 5 _ rfl; (with_reducible repeat (first | refine blk_drewN ?_ _ | refine blk_drew ?_ | refine blk_alloc ?_ _)); refine blk_put (cs := #[.int .i64 t123, .int .i64 t124, .int .i64 t125, .int .i64 t126, .int .i64 0, .string (⟨#[]⟩ : ByteArray), .int .i64 0, .int .i64 0, .slice none 0 0, .slice none 0 0, .slice none 0 0]) ?_ 4 _ rfl; (with_reducible repeat (first | refine blk_drewN ?_ _ | refine blk_drew ?_ | refine blk_alloc ?_ _)); refine blk_put (cs := #[.int .i64 t123, .int .i64 t124, .int .i64 t125, .int .i64 0, .int .i64 0, .string (⟨#[]⟩ : ByteArray), .int .i64 0, .int .i64 0, .slice none 0 0, .slice none 0 0, .slice none 0 0]) ?_ 3 _ rfl; (with_reducible repeat (first | refine blk_drewN ?_ _ | refine blk_drew ?_ | refine blk_alloc ?_ _)); refine blk_put (cs := #[.int .i64 t123, .int .i64 t124, .int .i64 0, .int .i64 0, .int .i64 0, .string (⟨#[]⟩ : ByteArray), .int .i64 0, .int .i64 0, .slice none 0 0, .slice none 0 0, .slice none 0 0]) ?_ 2 _ rfl; (with_reducible repeat (first | refine blk_drewN ?_ _ | refine blk_drew ?_ | refine blk_alloc ?_ _)); refine blk_put (cs := #[.int .i64 t123, .int .i64 0, .int .i64 0, .int .i64 0, .int .i64 0, .string (⟨#[]⟩ : ByteArray), .int .i64 0, .int .i64 0, .slice none 0 0, .slice none 0 0, .slice none 0 0]) ?_ 1 _ rfl; (with_reducible repeat (first | refine blk_drewN ?_ _ | refine blk_drew ?_ | refine blk_alloc ?_ _)); refine blk_put (cs := #[.int .i64 0, .int .i64 0, .int .i64 0, .int .i64 0, .int .i64 0, .string (⟨#[]⟩ : ByteArray), .int .i64 0, .int .i64 0, .slice none 0 0, .slice none 0 0, .slice none 0 0]) ?_ 0 _ rfl; (with_reducible repeat (first | refine blk_drewN ?_ _ | refine blk_drew ?_ | refine blk_alloc ?_ _)); exact BK122.out) Tryd.underlying27 rfl (by kernel_rfl)) rfl ?_
  exact ⟨_, _, _, by first | rfl | (simp [errW_none, errW_some] <;> rfl) | (simp [*, errW_none, errW_some] <;> rfl), by (with_reducible repeat (first | apply Kd.R_alloc | apply Kd.R_drewN | apply Kd.R_drew)); exact Kd.R_mono (Kd.R_far (p := ⟨gb122, 10, none⟩) (Kd.R_far (p := ⟨gb122, 9, none⟩) (Kd.R_far (p := ⟨gb122, 8, none⟩) (Kd.R_far (p := ⟨gb122, 7, none⟩) (Kd.R_far (p := ⟨gb122, 6, none⟩) (Kd.R_far (p := ⟨gb122, 5, none⟩) (Kd.R_far (p := ⟨gb122, 4, none⟩) (Kd.R_far (p := ⟨gb122, 3, none⟩) (Kd.R_far (p := ⟨gb122, 2, none⟩) (Kd.R_far (p := ⟨gb122, 1, none⟩) (Kd.R_far (p := ⟨gb122, 0, none⟩) (Kd.R_types HO133.out BK122.out (by decide)) (fun _ hk => hk.2) (.int .i64 t123)) (fun _ hk => hk.2) (.int .i64 t124)) (fun _ hk => hk.2) (.int .i64 t125)) (fun _ hk => hk.2) (.int .i64 t126)) (fun _ hk => hk.2) (.int .i64 t127)) (fun _ hk => hk.2) (.string t128)) (fun _ hk => hk.2) (.int .i64 t129)) (fun _ hk => hk.2) (.int .i64 t130)) (fun _ hk => hk.2) (.slice Ao28 t131.length co28)) (fun _ hk => hk.2) (.slice Ao29 t134.length co29)) (fun _ hk => hk.2) (.slice Ao30 t137.length co30)) (fun _ hk => trivial), by (with_reducible repeat (first | apply Kd.R_alloc | apply Kd.R_drewN | apply Kd.R_drew)); exact Kd.R_mono (Kd.R_far (p := ⟨gb122, 10, none⟩) (Kd.R_far (p := ⟨gb122, 9, none⟩) (Kd.R_far (p := ⟨gb122, 8, none⟩) (Kd.R_far (p := ⟨gb122, 7, none⟩) (Kd.R_far (p := ⟨gb122, 6, none⟩) (Kd.R_far (p := ⟨gb122, 5, none⟩) (Kd.R_far (p := ⟨gb122, 4, none⟩) (Kd.R_far (p := ⟨gb122, 3, none⟩) (Kd.R_far (p := ⟨gb122, 2, none⟩) (Kd.R_far (p := ⟨gb122, 1, none⟩) (Kd.R_far (p := ⟨gb122, 0, none⟩) (Kd.R_types HO136.out BK122.out (by decide)) (fun _ hk => hk.2) (.int .i64 t123)) (fun _ hk => hk.2) (.int .i64 t124)) (fun _ hk => hk.2) (.int .i64 t125)) (fun _ hk => hk.2) (.int .i64 t126)) (fun _ hk => hk.2) (.int .i64 t127)) (fun _ hk => hk.2) (.string t128)) (fun _ hk => hk.2) (.int .i64 t129)) (fun _ hk => hk.2) (.int .i64 t130)) (fun _ hk => hk.2) (.slice Ao28 t131.length co28)) (fun _ hk => hk.2) (.slice Ao29 t134.length co29)) (fun _ hk => hk.2) (.slice Ao30 t137.length co30)) (fun _ hk => hk.1), by (with_reducible repeat (first | apply Kd.R_alloc | apply Kd.R_drewN | apply Kd.R_drew)); exact Kd.R_mono (Kd.R_far (p := ⟨gb122, 10, none⟩) (Kd.R_far (p := ⟨gb122, 9, none⟩) (Kd.R_far (p := ⟨gb122, 8, none⟩) (Kd.R_far (p := ⟨gb122, 7, none⟩) (Kd.R_far (p := ⟨gb122, 6, none⟩) (Kd.R_far (p := ⟨gb122, 5, none⟩) (Kd.R_far (p := ⟨gb122, 4, none⟩) (Kd.R_far (p := ⟨gb122, 3, none⟩) (Kd.R_far (p := ⟨gb122, 2, none⟩) (Kd.R_far (p := ⟨gb122, 1, none⟩) (Kd.R_far (p := ⟨gb122, 0, none⟩) (Kd.R_types HO139.out BK122.out (by decide)) (fun _ hk => hk.2) (.int .i64 t123)) (fun _ hk => hk.2) (.int .i64 t124)) (fun _ hk => hk.2) (.int .i64 t125)) (fun _ hk => hk.2) (.int .i64 t126)) (fun _ hk => hk.2) (.int .i64 t127)) (fun _ hk => hk.2) (.string t128)) (fun _ hk => hk.2) (.int .i64 t129)) (fun _ hk => hk.2) (.int .i64 t130)) (fun _ hk => hk.2) (.slice Ao28 t131.length co28)) (fun _ hk => hk.2) (.slice Ao29 t134.length co29)) (fun _ hk => hk.2) (.slice Ao30 t137.length co30)) (fun _ hk => hk.1), by repeat (first | (with_reducible first | exact HB.out | apply below_alloc | apply pw_below_drewN | apply below_drew1 | refine below_set ?_ GE121.out | refine below_set ?_ GE122.out) | exact HB.out)⟩

end Go.Proofs.YtbndoihcejieoaaDoor.G
