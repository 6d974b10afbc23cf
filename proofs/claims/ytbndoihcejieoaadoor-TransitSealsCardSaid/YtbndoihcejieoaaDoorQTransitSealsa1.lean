/-
  Functions of the program and of the references as plain Lean functions, each with a proof that the machine's call comes to what it answers. Conditions: what each contract states.
-/
import Derived.Test.YtbndoihcejieoaaDoorQCorew1
import Derived.Test.YtbndoihcejieoaaDoorQCorev1
import Derived.Test.YtbndoihcejieoaaDoorQCorea1
import Derived.Test.YtbndoihcejieoaaDoorQCorea2
import Derived.Test.YtbndoihcejieoaaDoorQCorea3
namespace Go.Proofs.YtbndoihcejieoaaDoor.G
open Go.RowKit Go.Proofs.YtbndoihcejieoaaDoorW.PrintWords Go.Proofs.YtbndoihcejieoaaDoorW.PrintLast Go.Proofs.YtbndoihcejieoaaDoorW.PrintMore
attribute [local go_sem] max2_int min2_int max_two min_two max_three min_three max_four min_four   -- for this text's walks alone
set_option linter.unusedVariables false
set_option linter.unusedSimpArgs false

def affL (lot : Int) (xs : List S53) : List Int := (xs.filter fun x => x.f2 == lot).map (·.f4)
def remL (lot : Int) (xs : List S53) : List Int := (xs.filter fun x => x.f2 == lot).map (·.f3)
def sealsL (affixed : List Int) (lot : Int) (xs : List S53) : List Int := (setL (affixed ++ affL lot xs)).filter fun n => !(decide (n < 1) || (remL lot xs).contains n)
def row53 (x : S53) : Array Value := #[.int .i64 x.f0, .int .i64 x.f1, .int .i64 x.f2, .int .i64 x.f3, .int .i64 x.f4]
theorem take53 (xs : List S53) (i : Nat) (hi : i < xs.length) : xs.take (i + 1) = xs.take i ++ [rd_T53 xs (i : Int)] := by
 rw [List.take_succ_eq_append_getElem hi]
 have e : rd_T53 xs (i : Int) = xs[i] := by
  show xs.getD (i : Int).toNat z53 = _
  rw [Int.toNat_natCast]
  simp [List.getD_eq_getElem?_getD, List.getElem?_eq_getElem hi]
 rw [e]
theorem affL_take (lot : Int) (xs : List S53) (i : Nat) (hi : i < xs.length) : affL lot (xs.take (i + 1)) = affL lot (xs.take i) ++ (if (rd_T53 xs (i : Int)).f2 == lot then [(rd_T53 xs (i : Int)).f4] else []) := by
 unfold affL
 rw [take53 xs i hi, List.filter_append, List.map_append]
 by_cases c : (rd_T53 xs (i : Int)).f2 == lot
 ·
  simp [c]
 ·
  simp [c]
theorem remL_take (lot : Int) (xs : List S53) (i : Nat) (hi : i < xs.length) : remL lot (xs.take (i + 1)) = remL lot (xs.take i) ++ (if (rd_T53 xs (i : Int)).f2 == lot then [(rd_T53 xs (i : Int)).f3] else []) := by
 unfold remL
 rw [take53 xs i hi, List.filter_append, List.map_append]
 by_cases c : (rd_T53 xs (i : Int)).f2 == lot
 ·
  simp [c]
 ·
  simp [c]
theorem affL_len (lot : Int) (xs : List S53) : (affL lot xs).length ≤ xs.length := by
 unfold affL
 rw [List.length_map]
 exact List.length_filter_le _ _
theorem remL_len (lot : Int) (xs : List S53) : (remL lot xs).length ≤ xs.length := by
 unfold remL
 rw [List.length_map]
 exact List.length_filter_le _ _
/-- A whole incident is read, wherever it lies. -/
theorem load53 {W : World} {ad : Addr} {x : S53} {m : Nat} (h0 : W.cell? (ad.add m) = some (.int .i64 x.f0)) (h1 : W.cell? ⟨(ad.add m).block, (ad.add m).off + 1, none⟩ = some (.int .i64 x.f1)) (h2 : W.cell? ⟨(ad.add m).block, (ad.add m).off + 2, none⟩ = some (.int .i64 x.f2)) (h3 : W.cell? ⟨(ad.add m).block, (ad.add m).off + 3, none⟩ = some (.int .i64 x.f3)) (h4 : W.cell? ⟨(ad.add m).block, (ad.add m).off + 4, none⟩ = some (.int .i64 x.f4)) :
  (Instr.loadAt 53 (.pointer (some (ad.add m)))).run Tryd.prog W = .ok (.agg (row53 x)) W := by
 have hl : (loadCells (ad.add m) (row53 x).toList.length).run Tryd.prog W = .ok (row53 x).toList.toArray W :=
  run_loadCells_list (P := Tryd.prog) W (ad.add m) (row53 x).toList (fun j v hv => by
   unfold row53 at hv
   rcases j with _ | _ | _ | _ | _ | j
   ·
    simp at hv; subst hv; simpa [Addr.add] using h0
   ·
    simp at hv; subst hv; simpa [Addr.add] using h1
   ·
    simp at hv; subst hv; simpa [Addr.add] using h2
   ·
    simp at hv; subst hv; simpa [Addr.add] using h3
   ·
    simp at hv; subst hv; simpa [Addr.add] using h4
   ·
    simp at hv)
 have hi : (Tryd.prog.info? 53).map (·.size) = some 5 := by kernel_rfl
 cases hq : Tryd.prog.info? 53 with
 | none => simp [hq] at hi
 | some i =>
  have hs : i.size = 5 := by simpa [hq] using hi
  have hagg : (isAgg 53).run Tryd.prog W = .ok true W := by
   unfold isAgg
   rw [Sem.run_bind, run_underlying Tryd.underlying53 W]
   rfl
  have hl' : (loadCells (ad.add m) 5).run Tryd.prog W = .ok (row53 x) W := hl
  simp [Instr.loadAt, Instr.sureAddr, loadVar, Sem.run_bind, hagg, sizeOf, typeInfo, hq, hs, hl']
theorem store53 {W : World} {g : Nat} (x : S53) (h : W.heap[g]? = some (.cells #[.int .i64 0, .int .i64 0, .int .i64 0, .int .i64 0, .int .i64 0] 53 (0, 0))) :
  ∃ W1, (Instr.storeAt 53 (.pointer (some ⟨g, 0, none⟩)) (.agg (row53 x))).run Tryd.prog W = .ok () W1 ∧ W1.heap[g]? = some (.cells (row53 x) 53 (0, 0)) ∧ Same g W W1 :=
 store_gen h 0 53 (row53 x) (by show 0 + 5 ≤ 5; omega) (by show (Tryd.prog.info? 53).map (·.size) = some 5; kernel_rfl) (by
  refine Array.all_eq_true_iff_forall_mem.2 (fun y hy => ?_)
  simp only [row53, List.mem_toArray, List.mem_cons, List.not_mem_nil, or_false] at hy
  rcases hy with rfl | rfl | rfl | rfl | rfl <;> rfl) (row53 x) rfl

/-- Two rows that are built beside each other: u, and v, which lies in the variable g8 (or will lie there). -/
structure Two (w : World) (g8 : Nat) (c8 : Value) (W : World) (u : Value) (U : List Int) (v : Value) (V : List Int) : Prop where
 r8 : W.heap[g8]? = some (.cells #[c8] 25 (0, 0))
 ru : Kd.R (Kd.int .i64) 3 W w.heap.size (fun k => some k ≠ v.ownBlock) u U
 rv : Kd.R (Kd.int .i64) 3 W w.heap.size (fun k => some k ≠ u.ownBlock) v V
 b : Below w.heap.size w W
 g : w.heap.size ≤ g8
section
variable {w W W1 : World} {g8 g10 : Nat} {c8 u v u1 v1 : Value} {U V : List Int} {x : Int} {row : Array Value}
theorem Two.below (h : Two w g8 c8 W u U v V) (k : Below W.heap.size W W1) : Two w g8 c8 W1 u U v V :=
 ⟨blk_below h.r8 k, Kd.R_below h.ru k, Kd.R_below h.rv k, h.b.trans (k.mono h.b.size), h.g⟩
theorem Two.lu (h : Two w g8 c8 W u U v V) : ∀ k, W.heap.size ≤ k → some k ≠ u.ownBlock := Kd.fresh' (Kd.R_lt h.ru)
theorem Two.lv (h : Two w g8 c8 W u U v V) : ∀ k, W.heap.size ≤ k → some k ≠ v.ownBlock := Kd.fresh' (Kd.R_lt h.rv)
theorem Two.appU (h : Two w g8 c8 W u U v V) (ho : Kd.R (Kd.int .i64) 3 W1 w.heap.size (fun k => some k ≠ v.ownBlock) u1 (U ++ [x])) (hb : Below w.heap.size w W1) (hg : W.grownBy W1 u.ownBlock) (hat : u1.ownBlock = u.ownBlock ∨ ∃ b, u1.ownBlock = some b ∧ W.heap.size ≤ b) : Two w g8 c8 W1 u1 (U ++ [x]) v V :=
 ⟨(hg.block g8 (blk_lt h.r8) (Kd.R_ne h.ru h.r8 (by decide))).trans h.r8, ho, Kd.R_mono (Kd.R_after (ok := fun _ => True) (Kd.R_mono h.rv (fun _ hk => ⟨trivial, hk⟩)) hg hat) (fun _ hk => hk.2), hb, h.g⟩
theorem Two.appV (h : Two w g8 c8 W u U v V) (ho : Kd.R (Kd.int .i64) 3 W1 w.heap.size (fun k => some k ≠ u.ownBlock) v1 (V ++ [x])) (hb : Below w.heap.size w W1) (hg : W.grownBy W1 v.ownBlock) (hat : v1.ownBlock = v.ownBlock ∨ ∃ b, v1.ownBlock = some b ∧ W.heap.size ≤ b) : Two w g8 c8 W1 u U v1 (V ++ [x]) :=
 ⟨(hg.block g8 (blk_lt h.r8) (Kd.R_ne h.rv h.r8 (by decide))).trans h.r8, Kd.R_mono (Kd.R_after (ok := fun _ => True) (Kd.R_mono h.ru (fun _ hk => ⟨trivial, hk⟩)) hg hat) (fun _ hk => hk.2), ho, hb, h.g⟩
theorem Two.same (h : Two w g8 c8 W u U v V) (hW : W1.heap[g8]? = some (.cells #[v] 25 (0, 0))) (k : Same g8 W W1) : Two w g8 v W1 u U v V :=
 ⟨hW, R_same h.ru h.r8 (by decide) k, R_same h.rv h.r8 (by decide) k, (Mv.of_below h.b (fun _ => False)).then_ (Mv.same (fun k => k = g8) rfl k) (fun i hi => .inr (by rw [hi]; exact h.g)) |>.below (Nat.le_refl _) (fun _ hk => hk.elim), h.g⟩
theorem Two.same10 (h : Two w g8 c8 W u U v V) (h10 : W.heap[g10]? = some (.cells row 53 (0, 0))) (hne : g8 ≠ g10) (hge : w.heap.size ≤ g10) (k : Same g10 W W1) : Two w g8 c8 W1 u U v V :=
 ⟨(k.block g8 hne).trans h.r8, R_same h.ru h10 (by decide) k, R_same h.rv h10 (by decide) k, (Mv.of_below h.b (fun _ => False)).then_ (Mv.same (fun k => k = g10) rfl k) (fun i hi => .inr (by rw [hi]; exact hge)) |>.below (Nat.le_refl _) (fun _ hk => hk.elim), h.g⟩
end
section
variable {P : Program} {ops : Array Oper} {Q : Exit → Act → World → Prop} {oi : Oper} {N : Option Tmp} {a : Act} {Kc : Act → World → Prop}
/-- A slice of one number is made, in a region that draws. -/
theorem lit_step {W : World} {cs : Array Value} {t : TypeId} {n : Nat} (hw : Region.wanted oi (yielded ops a.tmps) = true) (hN : oi.dst = N)
  (hrun : (execOp a.eval oi).run P W = .ok (.value (.slice (some ⟨W.heap.size, 0, none⟩) n n)) (W.alloc (.cells cs t (0, 0))))
  (h : ∀ g, g = W.heap.size → ∀ w1, w1.heap[g]? = some (.cells cs t (0, 0)) → Below W.heap.size W w1 → Kc (a.put N (.slice (some ⟨g, 0, none⟩) n n)) w1) :
  if Region.wanted oi (yielded ops a.tmps) = true then Oper.wp P oi a W Kc Q else Kc (a.put N undef) W :=
 value_ hw hN hrun (h _ rfl _ (blk_new W _) (below_alloc (Below.refl _ _) _))
end
section
variable {ops : Array Oper} {Q : Exit → Act → World → Prop} {o : Oper} {a : Act} {Kc : Act → World → Prop}
variable {w W : World} {g8 b : Nat} {c8 u v : Value} {U V : List Int} {x : Int}
theorem appU_step (s y : Operand) (T : Two w g8 c8 W u U v V) (L : W.heap[b]? = some (.cells #[.int .i64 x] 3 (0, 0))) (hl : U.length < 5000000000000) (hw : Region.wanted o (yielded ops a.tmps) = true)
  (ho : o.op = .call { callee := .builtin .append, args := #[s, y], argTypes := #[25, 25] }) (hs : a.eval s = u) (hy : a.eval y = .slice (some ⟨b, 0, none⟩) 1 1)
  (h : ∀ u1 w1, Two w g8 c8 w1 u1 (U ++ [x]) v V → W.grownBy w1 u.ownBlock → Kc (a.put o.dst u1) w1) :
  if Region.wanted o (yielded ops a.tmps) = true then Oper.wp Tryd.prog o a W Kc Q else Kc (a.put o.dst undef) W :=
 Kd.R_append_rows_step (Kd.int .i64) (w0 := w) w.heap.size hw s y 25 3 (.int .i64 0) 8 ho Tryd.underlying25 info3 rfl (by decide) (by omega) u U [x] (some ⟨b, 0, none⟩) 1 1 (fun k => some k ≠ v.ownBlock) (fun _ => False) hs hy T.ru (lit_C (l := [x]) L (by simp)) (fun _ _ h => h) (fun _ h => h.elim) T.lv T.b T.b.size (by omega)
  (fun u1 w1 ho hb hg hat => h u1 w1 (T.appU ho hb hg hat) hg)
theorem appV_step (s y : Operand) (T : Two w g8 c8 W u U v V) (L : W.heap[b]? = some (.cells #[.int .i64 x] 3 (0, 0))) (hl : V.length < 5000000000000) (hw : Region.wanted o (yielded ops a.tmps) = true)
  (ho : o.op = .call { callee := .builtin .append, args := #[s, y], argTypes := #[25, 25] }) (hs : a.eval s = v) (hy : a.eval y = .slice (some ⟨b, 0, none⟩) 1 1)
  (h : ∀ v1 w1, Two w g8 c8 w1 u U v1 (V ++ [x]) → W.grownBy w1 v.ownBlock → Kc (a.put o.dst v1) w1) :
  if Region.wanted o (yielded ops a.tmps) = true then Oper.wp Tryd.prog o a W Kc Q else Kc (a.put o.dst undef) W :=
 Kd.R_append_rows_step (Kd.int .i64) (w0 := w) w.heap.size hw s y 25 3 (.int .i64 0) 8 ho Tryd.underlying25 info3 rfl (by decide) (by omega) v V [x] (some ⟨b, 0, none⟩) 1 1 (fun k => some k ≠ u.ownBlock) (fun _ => False) hs hy T.rv (lit_C (l := [x]) L (by simp)) (fun _ _ h => h) (fun _ h => h.elim) T.lu T.b T.b.size (by omega)
  (fun v1 w1 ho hb hg hat => h v1 w1 (T.appV ho hb hg hat) hg)
end
theorem enters58 (args : Array Value) (w : World) : (callFunc 58 args).run Tryd.prog w = .ok (.enter 58 args) w := enters_ Tryd.func58 (by kernel_rfl) rfl args w
set_option maxHeartbeats 4000000 in
set_option maxRecDepth 100000 in
theorem clo58 (gb : Nat) (A : Option Addr) (c : Nat) (ys : List Int) (W : World) (hcell : W.cell? ⟨gb, 0, none⟩ = some (.slice A ys.length c)) (hr : Kd.C (Kd.int .i64) W A ys.length ys) (x : Int) : FnGives Tryd.prog 58 #[.pointer (some ⟨gb, 0, none⟩)] #[.int .i64 x] (.bool (decide (x < 1) || ys.contains x)) W := by
 show Calls Tryd.prog 58 #[.int .i64 x, .pointer (some ⟨gb, 0, none⟩)] W _
 have HR := Aside0.mk hr
 clear hr
 by_cases c1 : x < 1
 ·
  go_enter Tryd.func58, Tryd.ntmps58
  go_wp2
  go_ret
  exact ⟨by simp [c1], 0, rfl⟩
 ·
  go_enter Tryd.func58, Tryd.ntmps58
  go_wp2_with (first
   | (refine wpList_wanted rfl (by kernel_rfl) ?_; intro K hK)
   | (go_at_call 55; refine (contains_calls A c ys x W HR.out).mono ?_; rintro e w1 ⟨rfl, rfl⟩))
  go_ret
  exact ⟨by simp; intro h; omega, 0, rfl⟩
def customsref27_Rise.l0 : Nat → List Int → Int → Int → Option (List Int)
 | 0, _, _, _ => none
 | k + 1, x0, x1, x5 => if x5 < (x0.length : Int) then (if 0 ≤ x5 then (if (rd x0 x5) < x1 then (customsref27_Rise.l0 k x0 x1 (wrap64 (x5 + 1))) else (if (rd x0 x5) = x1 then (some x0) else ((some (([] : List Int) : List Int)).bind fun y791 => (if x5 ≤ (x0.length : Int) then ((some (x0.take (x5 : Int).toNat : List Int)).bind fun y794 => (if y791.length + y794.length < 17592186044416 then ((some (y791 ++ y794 : List Int)).bind fun y799 => ((some (([x1] : List Int) : List Int)).bind fun y802 => (if y799.length + y802.length < 17592186044416 then ((some (y799 ++ y802 : List Int)).bind fun y805 => ((some (x0.drop (x5 : Int).toNat : List Int)).bind fun y808 => (if y805.length + y808.length < 17592186044416 then (some (y805 ++ y808)) else (none)))) else (none)))) else (none))) else (none))))) else (none)) else ((some (([] : List Int) : List Int)).bind fun y816 => (if 0 ≤ x5 then (if x5 ≤ (x0.length : Int) then ((some (x0.take (x5 : Int).toNat : List Int)).bind fun y819 => (if y816.length + y819.length < 17592186044416 then ((some (y816 ++ y819 : List Int)).bind fun y824 => ((some (([x1] : List Int) : List Int)).bind fun y827 => (if y824.length + y827.length < 17592186044416 then ((some (y824 ++ y827 : List Int)).bind fun y830 => ((some (x0.drop (x5 : Int).toNat : List Int)).bind fun y833 => (if y830.length + y833.length < 17592186044416 then (some (y830 ++ y833)) else (none)))) else (none)))) else (none))) else (none)) else (none)))
def customsref27_Rise.f (k : Nat) (l0 : List Int) (a1 : Int) : Option (List Int) := customsref27_Rise.l0 k l0 a1 0
def customsref27_Rise.T6 : Bool × List (List Nat × List Nat) := (true, [([], []), ([], []), ([], []), ([1, 2], [1, 2]), ([0, 3], [0, 3]), ([], []), ([5], [5]), ([4, 6, 4], [4, 6]), ([], []), ([], []), ([8, 9], [8, 9]), ([7, 10, 7], [7, 10]), ([11, 11, 0, 1, 2, 3, 4, 5, 6, 7, 8, 9, 10, 11], [11])])
def customsref27_Rise.B6 : List Nat := [0, 0, 0, 6, 15, 0, 32, 127, 0, 0, 768, 2047, 4095]
theorem customsref27_Rise.tab6 : rtab .any (opsOf Tryd.f59 6) = customsref27_Rise.T6 := by kernel_rfl
theorem customsref27_Rise.bits6 : waitsOk customsref27_Rise.T6.2 customsref27_Rise.B6 = true := by kernel_rfl
set_option maxHeartbeats 8000000 in
set_option maxRecDepth 100000 in
theorem customsref27_Rise.calls (k : Nat) (P0_ : Nat → Prop) (A0 : Option Addr) (c0 : Nat) (l0 : List Int) (a1 : Int) (r : List Int) (w : World) (hs0 : Kd.V (Kd.int .i64) 3 w w.heap.size (fun k_ => P0_ k_) (.slice A0 l0.length c0) l0) (h : customsref27_Rise.f k l0 a1 = some r) :
  Calls Tryd.prog 59 #[.slice A0 l0.length c0, .int .i64 a1] w fun e w' => ∃ v0_ : Value, e = .returned (v0_) ∧ Kd.V (Kd.int .i64) 3 w' w.heap.size (fun k_ => (P0_ k_ ∨ w.heap.size ≤ k_)) v0_ r ∧ Below w.heap.size w w' := by
 have HO0 := Aside0.mk (show Kd.V (Kd.int .i64) 3 w w.heap.size (fun k_ => (P0_ k_ ∨ w.heap.size ≤ k_)) (.slice A0 l0.length c0) l0 from Kd.V_mono hs0 (fun k_ hk => .inl hk))
 have HB := Aside0.mk (Below.refl w.heap.size w)
 have H : (customsref27_Rise.l0 k l0 a1 0) = some r := h
 clear h
 have H' := Aside0.mk H
 clear H
 go_enter Tryd.func59, Tryd.ntmps59
 go_wp2
 go_loopg [5] k (fun kq v5 w' => ∃ (x5_1 : Int), v5 = .int .i64 x5_1 ∧ Aside0 (customsref27_Rise.l0 kq l0 a1 x5_1 = some r) ∧ Aside0 (kq ≤ k) ∧ Aside0 (Kd.V (Kd.int .i64) 3 w' w.heap.size (fun k_ => (P0_ k_ ∨ w.heap.size ≤ k_)) (.slice A0 l0.length c0) l0) ∧ Aside0 (Below w.heap.size w w'))
 case atStart => exact ⟨(0), (by first | rfl | (simp; done) | (simp [*]; done)), H', ⟨Nat.le_refl _⟩, ⟨by (with_reducible repeat (first | apply Kd.V_alloc | apply Kd.V_drewN | apply Kd.V_drew)); exact HO0.out⟩, ⟨by repeat (first | (with_reducible first | exact HB.out | apply below_alloc | apply pw_below_drewN | apply below_drew1) | exact HB.out)⟩⟩
 case round =>
  clear H'
  try clear p2
  obtain ⟨x5_1, rfl, HA, HK1, HO_0, HB⟩ := hrel
  cases gk with
  | zero => exact absurd HA.out (by simp [customsref27_Rise.l0])
  | succ k1 =>
   have H := HA.out
   clear HA
   simp only [customsref27_Rise.l0] at H
   by_cases c3 : x5_1 < (l0.length : Int)
   ·
    rw [if_pos c3] at H
    have c3b0 : decide (x5_1 < (l0.length : Int)) = true := decide_eq_true c3
    clear c3
    by_cases c4 : 0 ≤ x5_1
    ·
     rw [if_pos c4] at H
     have c4b0 : decide (0 ≤ x5_1) = true := decide_eq_true c4
     clear c4
     by_cases c5 : (rd l0 x5_1) < a1
     ·
      rw [if_pos c5] at H
      have c5b0 : decide ((rd l0 x5_1) < a1) = true := decide_eq_true c5
      clear c5
      have H' := Aside0.mk H
      clear H
      have p789 : 0 ≤ (x5_1 : Int) := of_decide_eq_true (by first | (with_reducible assumption) | assumption)
      have q789 : x5_1 < (l0.length : Int) := of_decide_eq_true (by first | (with_reducible assumption) | assumption)
      obtain ⟨ad789, e789, hx789_0⟩ := Kd.at_int (Kd.V_reads' HO_0.out).2.2 x5_1 p789 q789
      cases e789
      replace p789 := eq_true p789
      replace q789 := eq_true q789
      go_wp2
      go_roundg k1
      case measure => have := HK1.out; omega
      case rel => exact ⟨(wrap64 (x5_1 + 1)), (by first | rfl | (simp; done) | (simp [*]; done)), H', ⟨by have := HK1.out; omega⟩, ⟨by (with_reducible repeat (first | apply Kd.V_alloc | apply Kd.V_drewN | apply Kd.V_drew)); exact HO_0.out⟩, ⟨by repeat (first | (with_reducible first | exact HB.out | apply below_alloc | apply pw_below_drewN | apply below_drew1) | exact HB.out)⟩⟩
     ·
      rw [if_neg c5] at H
      have c5b0 : decide ((rd l0 x5_1) < a1) = false := decide_eq_false c5
      clear c5
      by_cases c6 : (rd l0 x5_1) = a1
      ·
       rw [if_pos c6] at H
       have c6b0 : ((rd l0 x5_1) == a1) = true := beq_iff_eq.mpr c6
       have c6b1 : ((rd l0 x5_1) != a1) = false := bne_eq_false_iff_eq.mpr c6
       clear c6
       obtain rfl := Option.some.inj H
       have p789 : 0 ≤ (x5_1 : Int) := of_decide_eq_true (by first | (with_reducible assumption) | assumption)
       have q789 : x5_1 < (l0.length : Int) := of_decide_eq_true (by first | (with_reducible assumption) | assumption)
       obtain ⟨ad789, e789, hx789_0⟩ := Kd.at_int (Kd.V_reads' HO_0.out).2.2 x5_1 p789 q789
       cases e789
       replace p789 := eq_true p789
       replace q789 := eq_true q789
       have p790 : 0 ≤ (x5_1 : Int) := of_decide_eq_true (by first | (with_reducible assumption) | assumption)
       have q790 : x5_1 < (l0.length : Int) := of_decide_eq_true (by first | (with_reducible assumption) | assumption)
       obtain ⟨ad790, e790, hx790_0⟩ := Kd.at_int (Kd.V_reads' HO_0.out).2.2 x5_1 p790 q790
       obtain rfl : ad789 = ad790 := (by injection e790)
       replace p790 := eq_true p790
       replace q790 := eq_true q790
       go_wp2
       go_ret
       exact ⟨_, by first | rfl | (simp [errW_none, errW_some] <;> rfl) | (simp [*, errW_none, errW_some] <;> rfl), by (with_reducible repeat (first | apply Kd.V_alloc | apply Kd.V_drewN | apply Kd.V_drew)); exact HO_0.out, by repeat (first | (with_reducible first | exact HB.out | apply below_alloc | apply pw_below_drewN | apply below_drew1) | exact HB.out)⟩
      ·
       rw [if_neg c6] at H
       have c6b0 : ((rd l0 x5_1) == a1) = false := beq_eq_false_iff_ne.mpr c6
       have c6b1 : ((rd l0 x5_1) != a1) = true := bne_iff_ne.mpr c6
       obtain ⟨y791, hy791⟩ : ∃ y_ : List Int, y_ = (([] : List Int)) := ⟨_, rfl⟩
       replace H : (if x5_1 ≤ (l0.length : Int) then ((some (l0.take (x5_1 : Int).toNat : List Int)).bind fun y794 => (if y791.length + y794.length < 17592186044416 then ((some (y791 ++ y794 : List Int)).bind fun y799 => ((some (([a1] : List Int) : List Int)).bind fun y802 => (if y799.length + y802.length < 17592186044416 then ((some (y799 ++ y802 : List Int)).bind fun y805 => ((some (l0.drop (x5_1 : Int).toNat : List Int)).bind fun y808 => (if y805.length + y808.length < 17592186044416 then (some (y805 ++ y808)) else (none)))) else (none)))) else (none))) else (none)) = some r := by first | (rw [hy791]; with_reducible exact H) | (have H2_ := (Option.bind_some _ _).symm.trans H; rw [hy791]; with_reducible exact H2_) | (have H2_ := (Option.bind_some _ _).symm.trans H; with_reducible exact H2_) | with_reducible exact H | (rw [hy791]; exact H) | exact H
       have Ny791 := Aside0.mk hy791
       clear hy791
       have c7b0 := eq_true (of_decide_eq_true (by first | (with_reducible assumption) | assumption) : 0 ≤ x5_1)
       by_cases c8 : x5_1 ≤ (l0.length : Int)
       ·
        rw [if_pos c8] at H
        have c8b0 := eq_true c8
        have c8b1 : decide (x5_1 ≤ (l0.length : Int)) = true := decide_eq_true c8
        clear c8
        obtain ⟨y794, hy794⟩ : ∃ y_ : List Int, y_ = (l0.take (x5_1 : Int).toNat) := ⟨_, rfl⟩
        replace H : (if y791.length + y794.length < 17592186044416 then ((some (y791 ++ y794 : List Int)).bind fun y799 => ((some (([a1] : List Int) : List Int)).bind fun y802 => (if y799.length + y802.length < 17592186044416 then ((some (y799 ++ y802 : List Int)).bind fun y805 => ((some (l0.drop (x5_1 : Int).toNat : List Int)).bind fun y808 => (if y805.length + y808.length < 17592186044416 then (some (y805 ++ y808)) else (none)))) else (none)))) else (none)) = some r := by first | (rw [hy794]; with_reducible exact H) | (have H2_ := (Option.bind_some _ _).symm.trans H; rw [hy794]; with_reducible exact H2_) | (have H2_ := (Option.bind_some _ _).symm.trans H; with_reducible exact H2_) | with_reducible exact H | (rw [hy794]; exact H) | exact H
        have Ny794 := Aside0.mk hy794
        clear hy794
        by_cases c9 : y791.length + y794.length < 17592186044416
        ·
         rw [if_pos c9] at H
         have LMc9 := Aside0.mk c9
         clear c9
         obtain ⟨y799, hy799⟩ : ∃ y_ : List Int, y_ = (y791 ++ y794) := ⟨_, rfl⟩
         replace H : ((some (([a1] : List Int) : List Int)).bind fun y802 => (if y799.length + y802.length < 17592186044416 then ((some (y799 ++ y802 : List Int)).bind fun y805 => ((some (l0.drop (x5_1 : Int).toNat : List Int)).bind fun y808 => (if y805.length + y808.length < 17592186044416 then (some (y805 ++ y808)) else (none)))) else (none))) = some r := by first | (rw [hy799]; with_reducible exact H) | (have H2_ := (Option.bind_some _ _).symm.trans H; rw [hy799]; with_reducible exact H2_) | (have H2_ := (Option.bind_some _ _).symm.trans H; with_reducible exact H2_) | with_reducible exact H | (rw [hy799]; exact H) | exact H
         have Ny799 := Aside0.mk hy799
         clear hy799
         obtain ⟨y802, hy802⟩ : ∃ y_ : List Int, y_ = (([a1] : List Int)) := ⟨_, rfl⟩
         replace H : (if y799.length + y802.length < 17592186044416 then ((some (y799 ++ y802 : List Int)).bind fun y805 => ((some (l0.drop (x5_1 : Int).toNat : List Int)).bind fun y808 => (if y805.length + y808.length < 17592186044416 then (some (y805 ++ y808)) else (none)))) else (none)) = some r := by first | (rw [hy802]; with_reducible exact H) | (have H2_ := (Option.bind_some _ _).symm.trans H; rw [hy802]; with_reducible exact H2_) | (have H2_ := (Option.bind_some _ _).symm.trans H; with_reducible exact H2_) | with_reducible exact H | (rw [hy802]; exact H) | exact H
         have Ny802 := Aside0.mk hy802
         clear hy802
         by_cases c10 : y799.length + y802.length < 17592186044416
         ·
          rw [if_pos c10] at H
          have LMc10 := Aside0.mk c10
          clear c10
          obtain ⟨y805, hy805⟩ : ∃ y_ : List Int, y_ = (y799 ++ y802) := ⟨_, rfl⟩
          replace H : ((some (l0.drop (x5_1 : Int).toNat : List Int)).bind fun y808 => (if y805.length + y808.length < 17592186044416 then (some (y805 ++ y808)) else (none))) = some r := by first | (rw [hy805]; with_reducible exact H) | (have H2_ := (Option.bind_some _ _).symm.trans H; rw [hy805]; with_reducible exact H2_) | (have H2_ := (Option.bind_some _ _).symm.trans H; with_reducible exact H2_) | with_reducible exact H | (rw [hy805]; exact H) | exact H
          have Ny805 := Aside0.mk hy805
          clear hy805
          have c11b0 := eq_true (of_decide_eq_true (by first | (with_reducible assumption) | assumption) : 0 ≤ x5_1)
          have c12b0 := eq_true (of_decide_eq_true (by first | (with_reducible assumption) | assumption) : x5_1 ≤ (l0.length : Int))
          obtain ⟨y808, hy808⟩ : ∃ y_ : List Int, y_ = (l0.drop (x5_1 : Int).toNat) := ⟨_, rfl⟩
          replace H : (if y805.length + y808.length < 17592186044416 then (some (y805 ++ y808)) else (none)) = some r := by first | (rw [hy808]; with_reducible exact H) | (have H2_ := (Option.bind_some _ _).symm.trans H; rw [hy808]; with_reducible exact H2_) | (have H2_ := (Option.bind_some _ _).symm.trans H; with_reducible exact H2_) | with_reducible exact H | (rw [hy808]; exact H) | exact H
          have Ny808 := Aside0.mk hy808
          clear hy808
          by_cases c13 : y805.length + y808.length < 17592186044416
          ·
           rw [if_pos c13] at H
           have LMc13 := Aside0.mk c13
           clear c13
           obtain ⟨y813, hy813⟩ : ∃ y_ : List Int, y_ = (y805 ++ y808) := ⟨_, rfl⟩
           replace H : (some y813) = some r := by first | (rw [hy813]; with_reducible exact H) | (have H2_ := (Option.bind_some _ _).symm.trans H; rw [hy813]; with_reducible exact H2_) | (have H2_ := (Option.bind_some _ _).symm.trans H; with_reducible exact H2_) | with_reducible exact H | (rw [hy813]; exact H) | exact H
           have Ny813 := Aside0.mk hy813
           clear hy813
           obtain rfl := Option.some.inj H
           have p789 : 0 ≤ (x5_1 : Int) := of_decide_eq_true (by first | (with_reducible assumption) | assumption)
           have q789 : x5_1 < (l0.length : Int) := of_decide_eq_true (by first | (with_reducible assumption) | assumption)
           obtain ⟨ad789, e789, hx789_0⟩ := Kd.at_int (Kd.V_reads' HO_0.out).2.2 x5_1 p789 q789
           cases e789
           replace p789 := eq_true p789
           replace q789 := eq_true q789
           have p790 : 0 ≤ (x5_1 : Int) := of_decide_eq_true (by first | (with_reducible assumption) | assumption)
           have q790 : x5_1 < (l0.length : Int) := of_decide_eq_true (by first | (with_reducible assumption) | assumption)
           obtain ⟨ad790, e790, hx790_0⟩ := Kd.at_int (Kd.V_reads' HO_0.out).2.2 x5_1 p790 q790
           obtain rfl : ad789 = ad790 := (by injection e790)
           replace p790 := eq_true p790
           replace q790 := eq_true q790
           try go_wp2
           have n0_ := Aside0.mk (Kd.V_drew HO_0.out)
           have n1_ := Aside0.mk (below_drew1 HB.out)
           clear HO_0
           clear HB
           have HO_0 := n0_
           have HB := n1_
           clear n0_ n1_
           have q15 : (x5_1 : Int) ≤ ((l0.length : Int) : Int) := of_decide_eq_true (by first | (with_reducible assumption) | assumption)
           obtain ⟨i015, hi015, _, hsz15, _⟩ := info_parts info3
           have hroom15 : l0.length ≤ c0 := (Kd.V_reads' HO_0.out).2.1
           have hC15 : Kd.F (Kd.int .i64) _ _ (some ad789) l0.length l0 := (Kd.V_at (base := w.heap.size) HO_0.out).2.2
           have hcut15 := cut_to (P := Tryd.prog) 25 3 .i64 Tryd.underlying25 hi015 (some ad789) l0.length c0 x5_1 (of_decide_eq_true (by first | (with_reducible assumption) | assumption)) q15 hroom15
           have hr15 := Kd.F_take (m := (x5_1 : Int).toNat) hC15 (by omega)
           have hy15 : y794.length = (x5_1 : Int).toNat := (by rw [Ny794.out, List.length_take]; omega)
           rw [← Ny794.out] at hr15
           rw [← hy15] at hcut15
           have HO798 := Aside0.mk (show Kd.V (Kd.int .i64) 3 _ w.heap.size _ (.slice (some ad789) y794.length c0) y794 from Kd.V_mk (by omega) hr15)
           have HC798 := Aside0.mk (show y794.length ≤ c0 from by omega)
           clear hr15 hC15 hroom15 hi015 hsz15
           have KY15 := Aside0.mk hy15
           clear hy15
           replace q15 := eq_true q15
           have q16 : (x5_1 : Int) ≤ ((l0.length : Int) : Int) := of_decide_eq_true (by first | (with_reducible assumption) | assumption)
           obtain ⟨i016, hi016, _, hsz16, _⟩ := info_parts info3
           have hroom16 : l0.length ≤ c0 := (Kd.V_reads' HO_0.out).2.1
           have hC16 : Kd.F (Kd.int .i64) _ _ (some ad789) l0.length l0 := (Kd.V_at (base := w.heap.size) HO_0.out).2.2
           have q016 : (0 : Int) ≤ (x5_1 : Int) := of_decide_eq_true (by first | (with_reducible assumption) | assumption)
           have hcut16 := cut_from (P := Tryd.prog) 25 3 .i64 Tryd.underlying25 hi016 1 hsz16 (some ad789) l0.length c0 x5_1 q016 q16
           have hr16 := Kd.F_cut (m := (x5_1 : Int).toNat) (c := c0) hC16 (by omega) hroom16
           obtain ⟨A16, hA16⟩ : ∃ A1, A1 = (if c0 = (x5_1 : Int).toNat then (some ad789) else ((some ad789) : Option Addr).map (·.add ((x5_1 : Int).toNat * 1))) := ⟨_, rfl⟩
           obtain ⟨c16, hc16⟩ : ∃ c1, c1 = c0 - (x5_1 : Int).toNat := ⟨_, rfl⟩
           have hy16 : y808.length = l0.length - (x5_1 : Int).toNat := (by rw [Ny808.out, List.length_drop] <;> omega)
           rw [show (l0).drop (x5_1 : Int).toNat = y808 from Ny808.out.symm] at hr16
           replace hr16 : Kd.F (Kd.int .i64) _ _ A16 y808.length y808 := (by rw [hA16]; exact hr16)
           rw [← hy16, ← hA16, ← hc16] at hcut16
           have HO812 := Aside0.mk (show Kd.V (Kd.int .i64) 3 _ w.heap.size _ (.slice A16 y808.length c16) y808 from Kd.V_mk (by rw [hy16, hc16]; exact Nat.sub_le_sub_right hroom16 _) hr16)
           have HC812 := Aside0.mk (show y808.length ≤ c16 from by rw [hy16, hc16]; exact Nat.sub_le_sub_right hroom16 _)
           clear hr16 hC16 hroom16 hi016 hsz16 hc16
           have KY16 := Aside0.mk hy16
           have KA16 := Aside0.mk hA16
           clear hy16 hA16
           replace q16 := eq_true q16
           refine start_ (n := 13) (S := fun w' => True) (ds := []) #[false, false, false, false, false, false, false, false, false, false, false, false, false] (by kernel_rfl) rfl rfl trivial (fun hHeld => ?_); refine with_tabW customsref27_Rise.tab6 customsref27_Rise.bits6 (fun HT_ HW_ => ?_)
           generalize wr.drew = w14 at HO_0 HB HO798 HO812 hHeld ⊢
           refine pure_ (i := 1) (N := some 34) (v := ?_) (a' := ?_) #[false, true, false, false, false, false, false, false, false, false, false, false, false] rfl rfl (any_of HT_.out (by kernel_rfl)) (fun _ _ _ h => h) (Or.inl ⟨by rfl, ?_⟩) ?_ ?_
           rotate_left
           ·
            intro w'
            go_simp
            with_reducible rfl
           rotate_left
           ·
            simp only [Act.put, List.setIfInBounds_toArray, List.set_cons_zero, List.set_cons_succ, i64_w, i32_w]
            rfl
           refine pure_ (i := 2) (N := some 35) (v := ?_) (a' := ?_) #[false, true, true, false, false, false, false, false, false, false, false, false, false] rfl rfl (any_of HT_.out (by kernel_rfl)) (fun _ _ _ h => h) (Or.inl ⟨by rfl, ?_⟩) ?_ ?_
           rotate_left
           ·
            intro w'
            go_simp
            with_reducible rfl
           rotate_left
           ·
            simp only [Act.put, List.setIfInBounds_toArray, List.set_cons_zero, List.set_cons_succ, i64_w, i32_w]
            rfl
           refine pure_ (i := 3) (N := some 36) (v := ?_) (a' := ?_) #[false, true, true, true, false, false, false, false, false, false, false, false, false] rfl rfl (any_of HT_.out (by kernel_rfl)) (fun _ _ _ h => h) (Or.inl ⟨by rfl, ?_⟩) ?_ ?_
           rotate_left
           ·
            intro w'
            go_simp
            with_reducible rfl
           rotate_left
           ·
            simp only [Act.put, List.setIfInBounds_toArray, List.set_cons_zero, List.set_cons_succ, i64_w, i32_w]
            rfl
           refine pure_ (i := 5) (N := some 38) (v := ?_) (a' := ?_) #[false, true, true, true, false, true, false, false, false, false, false, false, false] rfl rfl (any_of HT_.out (by kernel_rfl)) (fun _ _ _ h => h) (Or.inl ⟨by rfl, ?_⟩) ?_ ?_
           rotate_left
           ·
            intro w'
            go_simp
            with_reducible rfl
           rotate_left
           ·
            simp only [Act.put, List.setIfInBounds_toArray, List.set_cons_zero, List.set_cons_succ, i64_w, i32_w]
            rfl
           refine pure_ (i := 8) (N := some 41) (v := ?_) (a' := ?_) #[false, true, true, true, false, true, false, false, true, false, false, false, false] rfl rfl (any_of HT_.out (by kernel_rfl)) (fun _ _ _ h => h) (Or.inl ⟨by rfl, ?_⟩) ?_ ?_
           rotate_left
           ·
            intro w'
            go_simp
            with_reducible rfl
           rotate_left
           ·
            simp only [Act.put, List.setIfInBounds_toArray, List.set_cons_zero, List.set_cons_succ, i64_w, i32_w]
            rfl
           refine pure_ (i := 9) (N := some 42) (v := ?_) (a' := ?_) #[false, true, true, true, false, true, false, false, true, true, false, false, false] rfl rfl (any_of HT_.out (by kernel_rfl)) (fun _ _ _ h => h) (Or.inl ⟨by rfl, ?_⟩) ?_ ?_
           rotate_left
           ·
            intro w'
            go_simp
            with_reducible rfl
           rotate_left
           ·
            simp only [Act.put, List.setIfInBounds_toArray, List.set_cons_zero, List.set_cons_succ, i64_w, i32_w]
            rfl
           refine pure_ (i := 10) (N := some 43) (v := ?_) (a' := ?_) #[false, true, true, true, false, true, false, false, true, true, true, false, false] rfl rfl (any_of HT_.out (by kernel_rfl)) (fun _ _ _ h => h) (Or.inl ⟨by rfl, ?_⟩) ?_ ?_
           rotate_left
           ·
            intro w'
            go_simp
            with_reducible rfl
           rotate_left
           ·
            simp only [Act.put, List.setIfInBounds_toArray, List.set_cons_zero, List.set_cons_succ, i64_w, i32_w]
            rfl
           refine join_ (σ := Value × Value × Value) 3 #[true, true, true, true, true, true, true, false, true, true, true, false, false] (fun s_ => [(33, s_.1), (37, s_.2.1), (39, s_.2.2)]) (fun s_ w' => (Kd.V (Kd.int .i64) 3 w' w.heap.size (fun k_ => (P0_ k_ ∨ w.heap.size ≤ k_) ∧ some k_ ≠ (s_.2.1 : Value).ownBlock ∧ some k_ ≠ (s_.2.2 : Value).ownBlock) (.slice (some ad789) y794.length c0) y794) ∧ (Kd.R (Kd.int .i64) 3 w' w.heap.size (fun k_ => (w.heap.size ≤ k_) ∧ some k_ ≠ (s_.2.2 : Value).ownBlock) s_.2.1 y799) ∧ (Kd.R (Kd.int .i64) 3 w' w.heap.size (fun k_ => (w.heap.size ≤ k_) ∧ some k_ ≠ (s_.2.1 : Value).ownBlock) s_.2.2 y802) ∧ (Kd.V (Kd.int .i64) 3 w' w.heap.size (fun k_ => (P0_ k_ ∨ w.heap.size ≤ k_) ∧ some k_ ≠ (s_.2.1 : Value).ownBlock ∧ some k_ ≠ (s_.2.2 : Value).ownBlock) (.slice A16 y808.length c16) y808) ∧ (Kd.V (Kd.int .i64) 3 w' w.heap.size (fun k_ => (P0_ k_ ∨ w.heap.size ≤ k_) ∧ some k_ ≠ (s_.2.1 : Value).ownBlock ∧ some k_ ≠ (s_.2.2 : Value).ownBlock) (.slice (some ad789) l0.length c0) l0) ∧ (Below w.heap.size w w')) ?_ ?_
           rotate_left
           ·
            intro hCont
            refine two_ (i := 0) (j := 6) (Ni := some 33) (Nj := some 39) #[true, true, true, true, false, true, false, false, true, true, true, false, false] #[false, true, true, true, false, true, true, false, true, true, true, false, false] rfl rfl rfl rfl (two_of HT_.out (by kernel_rfl)) (by decide) (by decide) (fun K hK => ?_) (fun K hK => ?_)
            ·
             skip
             refine Kd.R_lit_step (Kd.int .i64) _ 3 ?hg (N := 33) ?hd (xs := ([] : List Int)) (inner := []) (ok := fun _ => True) (okp := fun _ => True) ?hr ?hp (fun _ hk => hk) trivial (Below.refl _ _) (Nat.le_refl _) (by simp) ?_; (case hd => rfl); (case hg => rfl); (case hr => first | (go_simp; done) | (go_simp; rfl)); (case hp => exact (Reps.none _ _))
             intro v792 w17 ho18 hb hg_ hnew_
             clear hg_ hnew_
             (first | rw [← Ny791.out] at ho18 | (simp only [Int.reduceToNat] at ho18; rw [← Ny791.out] at ho18))
             have n0_ := Aside0.mk (Kd.V_elder' (by (with_reducible repeat (first | apply Kd.V_alloc | apply Kd.V_drewN | apply Kd.V_drew)); exact HO_0.out) (Kd.R_base ho18) hb)
             have n1_ := Aside0.mk (Kd.V_elder' (by (with_reducible repeat (first | apply Kd.V_alloc | apply Kd.V_drewN | apply Kd.V_drew)); exact HO798.out) (Kd.R_base ho18) hb)
             have n2_ := Aside0.mk (Kd.V_elder' (by (with_reducible repeat (first | apply Kd.V_alloc | apply Kd.V_drewN | apply Kd.V_drew)); exact HO812.out) (Kd.R_base ho18) hb)
             have n3_ := Aside0.mk (Kd.R_lower (Kd.R_newM (M := fun k_ => (w.heap.size ≤ k_)) ho18 (below_size (by repeat (first | (with_reducible first | exact HB.out | apply below_alloc | apply pw_below_drewN | apply below_drew1) | exact HB.out))) (fun k_ h_ => h_)) (below_size (by repeat (first | (with_reducible first | exact HB.out | apply below_alloc | apply pw_below_drewN | apply below_drew1) | exact HB.out))))
             have n4_ := Aside0.mk (below_step (by repeat (first | (with_reducible first | exact HB.out | apply below_alloc | apply pw_below_drewN | apply below_drew1) | exact HB.out)) hb)
             clear HO_0
             clear HO798
             clear HO812
             clear HB
             have HO_0 := n0_
             have HO798 := n1_
             have HO812 := n2_
             have HO793 := n3_
             have HB := n4_
             clear n0_ n1_ n2_ n3_ n4_
             clear hb ho18
             refine hK.out _ _ trivial (fun hHeld => ?_)
             clear hK K
             refine norm_ (a' := ?_) ?_ ?_
             rotate_left
             ·
              show Act.put _ (some 33) _ = _
              simp only [Act.put, List.setIfInBounds_toArray, List.set_cons_zero, List.set_cons_succ, i64_w, i32_w]
              rfl
             refine two_ (i := 4) (j := 6) (Ni := some 37) (Nj := some 39) #[true, true, true, true, true, true, false, false, true, true, true, false, false] #[true, true, true, true, false, true, true, false, true, true, true, false, false] rfl rfl rfl rfl (two_of HT_.out (by kernel_rfl)) (by decide) (by decide) (fun K hK => ?_) (fun K hK => ?_)
             ·
              skip
              refine Kd.R_append_rows_step (Kd.int .i64) (w0 := w) w.heap.size (by rfl) (.tmp 33) (.tmp 36) 25 3 (.int .i64 0) 8 rfl Tryd.underlying25 info3 rfl (by decide) (by omega) v792 y791 y794 _ _ _ (fun k_ => (w.heap.size ≤ k_)) (fun _ => False) rfl rfl ?aO ?aR (fun _ _ h => h) (fun _ h => h.elim) ?aF ?aB ?aS ?aL ?_
              (case aR => repeat (first | exact (Kd.V_reads' HO798.out).2.2 | (with_reducible refine Kd.C_alloc ?_ _) | (with_reducible refine Kd.C_drewN ?_ _) | (with_reducible refine Kd.C_drew ?_)))
              (case aB => exact (by repeat (first | (with_reducible first | exact HB.out | apply below_alloc | apply pw_below_drewN | apply below_drew1) | exact HB.out)))
              (case aF => exact (fun k_ hk => (Nat.le_trans (below_size (by repeat (first | (with_reducible first | exact HB.out | apply below_alloc | apply pw_below_drewN | apply below_drew1) | exact HB.out))) hk)))
              (case aO => exact (by (with_reducible repeat (first | apply Kd.R_alloc | apply Kd.R_drewN | apply Kd.R_drew)); exact Kd.R_mono HO793.out (fun _ hk => hk.1)))
              (case aS => exact (below_size (by repeat (first | (with_reducible first | exact HB.out | apply below_alloc | apply pw_below_drewN | apply below_drew1) | exact HB.out))))
              (case aL => have := LMc9.out; omega)
              intro v800 w19 ho hb hg hat
              rw [← Ny799.out] at ho
              have n0_ := Aside0.mk (Kd.V_afterv (ok := (fun k_ => (P0_ k_ ∨ w.heap.size ≤ k_))) (by (with_reducible repeat (first | apply Kd.V_alloc | apply Kd.V_drewN | apply Kd.V_drew)); exact HO_0.out) hg hat)
              have n1_ := Aside0.mk (Kd.V_afterv (ok := (fun k_ => (P0_ k_ ∨ w.heap.size ≤ k_))) (by (with_reducible repeat (first | apply Kd.V_alloc | apply Kd.V_drewN | apply Kd.V_drew)); exact HO798.out) hg hat)
              have n2_ := Aside0.mk (Kd.V_afterv (ok := (fun k_ => (P0_ k_ ∨ w.heap.size ≤ k_))) (by (with_reducible repeat (first | apply Kd.V_alloc | apply Kd.V_drewN | apply Kd.V_drew)); exact HO812.out) hg hat)
              have n3_ := Aside0.mk (hb)
              have n4_ := Aside0.mk (ho)
              clear HO_0
              clear HO798
              clear HO812
              clear HB
              clear HO793
              have HO_0 := n0_
              have HO798 := n1_
              have HO812 := n2_
              have HB := n3_
              have HO801 := n4_
              clear n0_ n1_ n2_ n3_ n4_
              clear ho hb hg hat
              refine hK.out _ _ trivial (fun hHeld => ?_)
              clear hK K
              refine norm_ (a' := ?_) ?_ ?_
              rotate_left
              ·
               show Act.put _ (some 37) _ = _
               simp only [Act.put, List.setIfInBounds_toArray, List.set_cons_zero, List.set_cons_succ, i64_w, i32_w]
               rfl
              refine one_ (i := 6) (N := some 39) #[true, true, true, true, true, true, true, false, true, true, true, false, false] rfl rfl (one_of HT_.out (by kernel_rfl)) (by decide) (fun K hK => ?_)
              refine Kd.R_lit_step (Kd.int .i64) _ 3 ?hg (N := 39) ?hd (xs := ([a1] : List Int)) (inner := [.int .i64 a1]) (ok := fun _ => True) (okp := fun _ => True) ?hr ?hp (fun _ hk => hk) trivial (Below.refl _ _) (Nat.le_refl _) (by simp) ?_; (case hd => rfl); (case hg => rfl); (case hr => first | (go_simp; done) | (go_simp; rfl)); (case hp => exact (Reps.one (show Kd.M (Kd.int .i64) _ _ _ a1 [.int .i64 a1] from rfl) (Reps.none _ _)))
              intro v803 w20 ho21 hb hg_ hnew_
              clear hg_ hnew_
              (first | rw [← Ny802.out] at ho21 | (simp only [Int.reduceToNat] at ho21; rw [← Ny802.out] at ho21))
              have n0_ := Aside0.mk (Kd.V_elder' (by (with_reducible repeat (first | apply Kd.V_alloc | apply Kd.V_drewN | apply Kd.V_drew)); exact HO_0.out) (Kd.R_base ho21) hb)
              have n1_ := Aside0.mk (Kd.V_elder' (by (with_reducible repeat (first | apply Kd.V_alloc | apply Kd.V_drewN | apply Kd.V_drew)); exact HO798.out) (Kd.R_base ho21) hb)
              have n2_ := Aside0.mk (Kd.V_elder' (by (with_reducible repeat (first | apply Kd.V_alloc | apply Kd.V_drewN | apply Kd.V_drew)); exact HO812.out) (Kd.R_base ho21) hb)
              have n3_ := Aside0.mk (Kd.R_elder' (by (with_reducible repeat (first | apply Kd.R_alloc | apply Kd.R_drewN | apply Kd.R_drew)); exact HO801.out) (Kd.R_base ho21) hb)
              have n4_ := Aside0.mk (Kd.R_lower (Kd.R_new' (Kd.R_newM (M := fun k_ => (w.heap.size ≤ k_)) ho21 (below_size (by repeat (first | (with_reducible first | exact HB.out | apply below_alloc | apply pw_below_drewN | apply below_drew1) | exact HB.out))) (fun k_ h_ => h_)) (Kd.R_lt (by (with_reducible repeat (first | apply Kd.R_alloc | apply Kd.R_drewN | apply Kd.R_drew)); exact HO801.out))) (below_size (by repeat (first | (with_reducible first | exact HB.out | apply below_alloc | apply pw_below_drewN | apply below_drew1) | exact HB.out))))
              have n5_ := Aside0.mk (below_step (by repeat (first | (with_reducible first | exact HB.out | apply below_alloc | apply pw_below_drewN | apply below_drew1) | exact HB.out)) hb)
              clear HO_0
              clear HO798
              clear HO812
              clear HO801
              clear HB
              have HO_0 := n0_
              have HO798 := n1_
              have HO812 := n2_
              have HO801 := n3_
              have HO804 := n4_
              have HB := n5_
              clear n0_ n1_ n2_ n3_ n4_ n5_
              clear hb ho21
              refine hK.out _ _ trivial (fun hHeld => ?_)
              clear hK K
              refine norm_ (a' := ?_) ?_ ?_
              rotate_left
              ·
               show Act.put _ (some 39) _ = _
               simp only [Act.put, List.setIfInBounds_toArray, List.set_cons_zero, List.set_cons_succ, i64_w, i32_w]
               rfl
              exact norm_ (by simp only [putAll, Act.put, List.setIfInBounds_toArray, List.set_cons_zero, List.set_cons_succ]) (hCont (v792, v800, v803) _ ⟨(by (with_reducible repeat (first | apply Kd.V_alloc | apply Kd.V_drewN | apply Kd.V_drew)); exact Kd.V_mono HO798.out (fun _ hk => ⟨hk.1.1, ⟨hk.1.2, hk.2⟩⟩)), (by (with_reducible repeat (first | apply Kd.R_alloc | apply Kd.R_drewN | apply Kd.R_drew)); exact HO801.out), (by (with_reducible repeat (first | apply Kd.R_alloc | apply Kd.R_drewN | apply Kd.R_drew)); exact Kd.R_mono HO804.out (fun _ hk => ⟨hk.1.1, hk.2⟩)), (by (with_reducible repeat (first | apply Kd.V_alloc | apply Kd.V_drewN | apply Kd.V_drew)); exact Kd.V_mono HO812.out (fun _ hk => ⟨hk.1.1, ⟨hk.1.2, hk.2⟩⟩)), (by (with_reducible repeat (first | apply Kd.V_alloc | apply Kd.V_drewN | apply Kd.V_drew)); exact Kd.V_mono HO_0.out (fun _ hk => ⟨hk.1.1, ⟨hk.1.2, hk.2⟩⟩)), (by repeat (first | (with_reducible first | exact HB.out | apply below_alloc | apply pw_below_drewN | apply below_drew1) | exact HB.out))⟩)
             ·
              skip
              refine Kd.R_lit_step (Kd.int .i64) _ 3 ?hg (N := 39) ?hd (xs := ([a1] : List Int)) (inner := [.int .i64 a1]) (ok := fun _ => True) (okp := fun _ => True) ?hr ?hp (fun _ hk => hk) trivial (Below.refl _ _) (Nat.le_refl _) (by simp) ?_; (case hd => rfl); (case hg => rfl); (case hr => first | (go_simp; done) | (go_simp; rfl)); (case hp => exact (Reps.one (show Kd.M (Kd.int .i64) _ _ _ a1 [.int .i64 a1] from rfl) (Reps.none _ _)))
              intro v803 w19 ho20 hb hg_ hnew_
              clear hg_ hnew_
              (first | rw [← Ny802.out] at ho20 | (simp only [Int.reduceToNat] at ho20; rw [← Ny802.out] at ho20))
              have n0_ := Aside0.mk (Kd.V_elder' (by (with_reducible repeat (first | apply Kd.V_alloc | apply Kd.V_drewN | apply Kd.V_drew)); exact HO_0.out) (Kd.R_base ho20) hb)
              have n1_ := Aside0.mk (Kd.V_elder' (by (with_reducible repeat (first | apply Kd.V_alloc | apply Kd.V_drewN | apply Kd.V_drew)); exact HO798.out) (Kd.R_base ho20) hb)
              have n2_ := Aside0.mk (Kd.V_elder' (by (with_reducible repeat (first | apply Kd.V_alloc | apply Kd.V_drewN | apply Kd.V_drew)); exact HO812.out) (Kd.R_base ho20) hb)
              have n3_ := Aside0.mk (Kd.R_elder' (by (with_reducible repeat (first | apply Kd.R_alloc | apply Kd.R_drewN | apply Kd.R_drew)); exact HO793.out) (Kd.R_base ho20) hb)
              have n4_ := Aside0.mk (Kd.R_lower (Kd.R_new' (Kd.R_newM (M := fun k_ => (w.heap.size ≤ k_)) ho20 (below_size (by repeat (first | (with_reducible first | exact HB.out | apply below_alloc | apply pw_below_drewN | apply below_drew1) | exact HB.out))) (fun k_ h_ => h_)) (Kd.R_lt (by (with_reducible repeat (first | apply Kd.R_alloc | apply Kd.R_drewN | apply Kd.R_drew)); exact HO793.out))) (below_size (by repeat (first | (with_reducible first | exact HB.out | apply below_alloc | apply pw_below_drewN | apply below_drew1) | exact HB.out))))
              have n5_ := Aside0.mk (below_step (by repeat (first | (with_reducible first | exact HB.out | apply below_alloc | apply pw_below_drewN | apply below_drew1) | exact HB.out)) hb)
              clear HO_0
              clear HO798
              clear HO812
              clear HO793
              clear HB
              have HO_0 := n0_
              have HO798 := n1_
              have HO812 := n2_
              have HO793 := n3_
              have HO804 := n4_
              have HB := n5_
              clear n0_ n1_ n2_ n3_ n4_ n5_
              clear hb ho20
              refine hK.out _ _ trivial (fun hHeld => ?_)
              clear hK K
              refine norm_ (a' := ?_) ?_ ?_
              rotate_left
              ·
               show Act.put _ (some 39) _ = _
               simp only [Act.put, List.setIfInBounds_toArray, List.set_cons_zero, List.set_cons_succ, i64_w, i32_w]
               rfl
              refine one_ (i := 4) (N := some 37) #[true, true, true, true, true, true, true, false, true, true, true, false, false] rfl rfl (one_of HT_.out (by kernel_rfl)) (by decide) (fun K hK => ?_)
              refine Kd.R_append_rows_step (Kd.int .i64) (w0 := w) w.heap.size (by rfl) (.tmp 33) (.tmp 36) 25 3 (.int .i64 0) 8 rfl Tryd.underlying25 info3 rfl (by decide) (by omega) v792 y791 y794 _ _ _ (fun k_ => (w.heap.size ≤ k_) ∧ some k_ ≠ (v803 : Value).ownBlock) (fun _ => False) rfl rfl ?aO ?aR (fun _ _ h => h) (fun _ h => h.elim) ?aF ?aB ?aS ?aL ?_
              (case aR => repeat (first | exact (Kd.V_reads' HO798.out).2.2 | (with_reducible refine Kd.C_alloc ?_ _) | (with_reducible refine Kd.C_drewN ?_ _) | (with_reducible refine Kd.C_drew ?_)))
              (case aB => exact (by repeat (first | (with_reducible first | exact HB.out | apply below_alloc | apply pw_below_drewN | apply below_drew1) | exact HB.out)))
              (case aF => exact (fun k_ hk => ⟨(Nat.le_trans (below_size (by repeat (first | (with_reducible first | exact HB.out | apply below_alloc | apply pw_below_drewN | apply below_drew1) | exact HB.out))) hk), Kd.fresh' (Kd.R_lt (by (with_reducible repeat (first | apply Kd.R_alloc | apply Kd.R_drewN | apply Kd.R_drew)); exact HO804.out)) k_ hk⟩))
              (case aO => exact (by (with_reducible repeat (first | apply Kd.R_alloc | apply Kd.R_drewN | apply Kd.R_drew)); exact Kd.R_mono HO793.out (fun _ hk => ⟨hk.1.1, hk.2⟩)))
              (case aS => exact (below_size (by repeat (first | (with_reducible first | exact HB.out | apply below_alloc | apply pw_below_drewN | apply below_drew1) | exact HB.out))))
              (case aL => have := LMc9.out; omega)
              intro v800 w21 ho hb hg hat
              rw [← Ny799.out] at ho
              have n0_ := Aside0.mk (Kd.V_afterv (ok := (fun k_ => (P0_ k_ ∨ w.heap.size ≤ k_) ∧ some k_ ≠ (v803 : Value).ownBlock)) (by (with_reducible repeat (first | apply Kd.V_alloc | apply Kd.V_drewN | apply Kd.V_drew)); exact Kd.V_mono HO_0.out (fun _ hk => ⟨⟨hk.1.1, hk.2⟩, hk.1.2⟩)) hg hat)
              have n1_ := Aside0.mk (Kd.V_afterv (ok := (fun k_ => (P0_ k_ ∨ w.heap.size ≤ k_) ∧ some k_ ≠ (v803 : Value).ownBlock)) (by (with_reducible repeat (first | apply Kd.V_alloc | apply Kd.V_drewN | apply Kd.V_drew)); exact Kd.V_mono HO798.out (fun _ hk => ⟨⟨hk.1.1, hk.2⟩, hk.1.2⟩)) hg hat)
              have n2_ := Aside0.mk (Kd.V_afterv (ok := (fun k_ => (P0_ k_ ∨ w.heap.size ≤ k_) ∧ some k_ ≠ (v803 : Value).ownBlock)) (by (with_reducible repeat (first | apply Kd.V_alloc | apply Kd.V_drewN | apply Kd.V_drew)); exact Kd.V_mono HO812.out (fun _ hk => ⟨⟨hk.1.1, hk.2⟩, hk.1.2⟩)) hg hat)
              have n3_ := Aside0.mk (Kd.R_after (ok := (fun k_ => (w.heap.size ≤ k_))) (by (with_reducible repeat (first | apply Kd.R_alloc | apply Kd.R_drewN | apply Kd.R_drew)); exact Kd.R_mono HO804.out (fun _ hk => ⟨hk.1.1, hk.2⟩)) hg hat)
              have n4_ := Aside0.mk (hb)
              have n5_ := Aside0.mk (ho)
              clear HO_0
              clear HO798
              clear HO812
              clear HO804
              clear HB
              clear HO793
              have HO_0 := n0_
              have HO798 := n1_
              have HO812 := n2_
              have HO804 := n3_
              have HB := n4_
              have HO801 := n5_
              clear n0_ n1_ n2_ n3_ n4_ n5_
              clear ho hb hg hat
              refine hK.out _ _ trivial (fun hHeld => ?_)
              clear hK K
              refine norm_ (a' := ?_) ?_ ?_
              rotate_left
              ·
               show Act.put _ (some 37) _ = _
               simp only [Act.put, List.setIfInBounds_toArray, List.set_cons_zero, List.set_cons_succ, i64_w, i32_w]
               rfl
              exact norm_ (by simp only [putAll, Act.put, List.setIfInBounds_toArray, List.set_cons_zero, List.set_cons_succ]) (hCont (v792, v800, v803) _ ⟨(by (with_reducible repeat (first | apply Kd.V_alloc | apply Kd.V_drewN | apply Kd.V_drew)); exact Kd.V_mono HO798.out (fun _ hk => ⟨hk.1.1, ⟨hk.2, hk.1.2⟩⟩)), (by (with_reducible repeat (first | apply Kd.R_alloc | apply Kd.R_drewN | apply Kd.R_drew)); exact HO801.out), (by (with_reducible repeat (first | apply Kd.R_alloc | apply Kd.R_drewN | apply Kd.R_drew)); exact HO804.out), (by (with_reducible repeat (first | apply Kd.V_alloc | apply Kd.V_drewN | apply Kd.V_drew)); exact Kd.V_mono HO812.out (fun _ hk => ⟨hk.1.1, ⟨hk.2, hk.1.2⟩⟩)), (by (with_reducible repeat (first | apply Kd.V_alloc | apply Kd.V_drewN | apply Kd.V_drew)); exact Kd.V_mono HO_0.out (fun _ hk => ⟨hk.1.1, ⟨hk.2, hk.1.2⟩⟩)), (by repeat (first | (with_reducible first | exact HB.out | apply below_alloc | apply pw_below_drewN | apply below_drew1) | exact HB.out))⟩)
            ·
             skip
             refine Kd.R_lit_step (Kd.int .i64) _ 3 ?hg (N := 39) ?hd (xs := ([a1] : List Int)) (inner := [.int .i64 a1]) (ok := fun _ => True) (okp := fun _ => True) ?hr ?hp (fun _ hk => hk) trivial (Below.refl _ _) (Nat.le_refl _) (by simp) ?_; (case hd => rfl); (case hg => rfl); (case hr => first | (go_simp; done) | (go_simp; rfl)); (case hp => exact (Reps.one (show Kd.M (Kd.int .i64) _ _ _ a1 [.int .i64 a1] from rfl) (Reps.none _ _)))
             intro v803 w17 ho18 hb hg_ hnew_
             clear hg_ hnew_
             (first | rw [← Ny802.out] at ho18 | (simp only [Int.reduceToNat] at ho18; rw [← Ny802.out] at ho18))
             have n0_ := Aside0.mk (Kd.V_elder' (by (with_reducible repeat (first | apply Kd.V_alloc | apply Kd.V_drewN | apply Kd.V_drew)); exact HO_0.out) (Kd.R_base ho18) hb)
             have n1_ := Aside0.mk (Kd.V_elder' (by (with_reducible repeat (first | apply Kd.V_alloc | apply Kd.V_drewN | apply Kd.V_drew)); exact HO798.out) (Kd.R_base ho18) hb)
             have n2_ := Aside0.mk (Kd.V_elder' (by (with_reducible repeat (first | apply Kd.V_alloc | apply Kd.V_drewN | apply Kd.V_drew)); exact HO812.out) (Kd.R_base ho18) hb)
             have n3_ := Aside0.mk (Kd.R_lower (Kd.R_newM (M := fun k_ => (w.heap.size ≤ k_)) ho18 (below_size (by repeat (first | (with_reducible first | exact HB.out | apply below_alloc | apply pw_below_drewN | apply below_drew1) | exact HB.out))) (fun k_ h_ => h_)) (below_size (by repeat (first | (with_reducible first | exact HB.out | apply below_alloc | apply pw_below_drewN | apply below_drew1) | exact HB.out))))
             have n4_ := Aside0.mk (below_step (by repeat (first | (with_reducible first | exact HB.out | apply below_alloc | apply pw_below_drewN | apply below_drew1) | exact HB.out)) hb)
             clear HO_0
             clear HO798
             clear HO812
             clear HB
             have HO_0 := n0_
             have HO798 := n1_
             have HO812 := n2_
             have HO804 := n3_
             have HB := n4_
             clear n0_ n1_ n2_ n3_ n4_
             clear hb ho18
             refine hK.out _ _ trivial (fun hHeld => ?_)
             clear hK K
             refine norm_ (a' := ?_) ?_ ?_
             rotate_left
             ·
              show Act.put _ (some 39) _ = _
              simp only [Act.put, List.setIfInBounds_toArray, List.set_cons_zero, List.set_cons_succ, i64_w, i32_w]
              rfl
             refine one_ (i := 0) (N := some 33) #[true, true, true, true, false, true, true, false, true, true, true, false, false] rfl rfl (one_of HT_.out (by kernel_rfl)) (by decide) (fun K hK => ?_)
             refine Kd.R_lit_step (Kd.int .i64) _ 3 ?hg (N := 33) ?hd (xs := ([] : List Int)) (inner := []) (ok := fun _ => True) (okp := fun _ => True) ?hr ?hp (fun _ hk => hk) trivial (Below.refl _ _) (Nat.le_refl _) (by simp) ?_; (case hd => rfl); (case hg => rfl); (case hr => first | (go_simp; done) | (go_simp; rfl)); (case hp => exact (Reps.none _ _))
             intro v792 w19 ho20 hb hg_ hnew_
             clear hg_ hnew_
             (first | rw [← Ny791.out] at ho20 | (simp only [Int.reduceToNat] at ho20; rw [← Ny791.out] at ho20))
             have n0_ := Aside0.mk (Kd.V_elder' (by (with_reducible repeat (first | apply Kd.V_alloc | apply Kd.V_drewN | apply Kd.V_drew)); exact HO_0.out) (Kd.R_base ho20) hb)
             have n1_ := Aside0.mk (Kd.V_elder' (by (with_reducible repeat (first | apply Kd.V_alloc | apply Kd.V_drewN | apply Kd.V_drew)); exact HO798.out) (Kd.R_base ho20) hb)
             have n2_ := Aside0.mk (Kd.V_elder' (by (with_reducible repeat (first | apply Kd.V_alloc | apply Kd.V_drewN | apply Kd.V_drew)); exact HO812.out) (Kd.R_base ho20) hb)
             have n3_ := Aside0.mk (Kd.R_elder' (by (with_reducible repeat (first | apply Kd.R_alloc | apply Kd.R_drewN | apply Kd.R_drew)); exact HO804.out) (Kd.R_base ho20) hb)
             have n4_ := Aside0.mk (Kd.R_lower (Kd.R_new' (Kd.R_newM (M := fun k_ => (w.heap.size ≤ k_)) ho20 (below_size (by repeat (first | (with_reducible first | exact HB.out | apply below_alloc | apply pw_below_drewN | apply below_drew1) | exact HB.out))) (fun k_ h_ => h_)) (Kd.R_lt (by (with_reducible repeat (first | apply Kd.R_alloc | apply Kd.R_drewN | apply Kd.R_drew)); exact HO804.out))) (below_size (by repeat (first | (with_reducible first | exact HB.out | apply below_alloc | apply pw_below_drewN | apply below_drew1) | exact HB.out))))
             have n5_ := Aside0.mk (below_step (by repeat (first | (with_reducible first | exact HB.out | apply below_alloc | apply pw_below_drewN | apply below_drew1) | exact HB.out)) hb)
             clear HO_0
             clear HO798
             clear HO812
             clear HO804
             clear HB
             have HO_0 := n0_
             have HO798 := n1_
             have HO812 := n2_
             have HO804 := n3_
             have HO793 := n4_
             have HB := n5_
             clear n0_ n1_ n2_ n3_ n4_ n5_
             clear hb ho20
             refine hK.out _ _ trivial (fun hHeld => ?_)
             clear hK K
             refine norm_ (a' := ?_) ?_ ?_
             rotate_left
             ·
              show Act.put _ (some 33) _ = _
              simp only [Act.put, List.setIfInBounds_toArray, List.set_cons_zero, List.set_cons_succ, i64_w, i32_w]
              rfl
             refine one_ (i := 4) (N := some 37) #[true, true, true, true, true, true, true, false, true, true, true, false, false] rfl rfl (one_of HT_.out (by kernel_rfl)) (by decide) (fun K hK => ?_)
             refine Kd.R_append_rows_step (Kd.int .i64) (w0 := w) w.heap.size (by rfl) (.tmp 33) (.tmp 36) 25 3 (.int .i64 0) 8 rfl Tryd.underlying25 info3 rfl (by decide) (by omega) v792 y791 y794 _ _ _ (fun k_ => (w.heap.size ≤ k_) ∧ some k_ ≠ (v803 : Value).ownBlock) (fun _ => False) rfl rfl ?aO ?aR (fun _ _ h => h) (fun _ h => h.elim) ?aF ?aB ?aS ?aL ?_
             (case aR => repeat (first | exact (Kd.V_reads' HO798.out).2.2 | (with_reducible refine Kd.C_alloc ?_ _) | (with_reducible refine Kd.C_drewN ?_ _) | (with_reducible refine Kd.C_drew ?_)))
             (case aB => exact (by repeat (first | (with_reducible first | exact HB.out | apply below_alloc | apply pw_below_drewN | apply below_drew1) | exact HB.out)))
             (case aF => exact (fun k_ hk => ⟨(Nat.le_trans (below_size (by repeat (first | (with_reducible first | exact HB.out | apply below_alloc | apply pw_below_drewN | apply below_drew1) | exact HB.out))) hk), Kd.fresh' (Kd.R_lt (by (with_reducible repeat (first | apply Kd.R_alloc | apply Kd.R_drewN | apply Kd.R_drew)); exact HO804.out)) k_ hk⟩))
             (case aO => exact (by (with_reducible repeat (first | apply Kd.R_alloc | apply Kd.R_drewN | apply Kd.R_drew)); exact Kd.R_mono HO793.out (fun _ hk => ⟨hk.1.1, hk.2⟩)))
             (case aS => exact (below_size (by repeat (first | (with_reducible first | exact HB.out | apply below_alloc | apply pw_below_drewN | apply below_drew1) | exact HB.out))))
             (case aL => have := LMc9.out; omega)
             intro v800 w21 ho hb hg hat
             rw [← Ny799.out] at ho
             have n0_ := Aside0.mk (Kd.V_afterv (ok := (fun k_ => (P0_ k_ ∨ w.heap.size ≤ k_) ∧ some k_ ≠ (v803 : Value).ownBlock)) (by (with_reducible repeat (first | apply Kd.V_alloc | apply Kd.V_drewN | apply Kd.V_drew)); exact HO_0.out) hg hat)
             have n1_ := Aside0.mk (Kd.V_afterv (ok := (fun k_ => (P0_ k_ ∨ w.heap.size ≤ k_) ∧ some k_ ≠ (v803 : Value).ownBlock)) (by (with_reducible repeat (first | apply Kd.V_alloc | apply Kd.V_drewN | apply Kd.V_drew)); exact HO798.out) hg hat)
             have n2_ := Aside0.mk (Kd.V_afterv (ok := (fun k_ => (P0_ k_ ∨ w.heap.size ≤ k_) ∧ some k_ ≠ (v803 : Value).ownBlock)) (by (with_reducible repeat (first | apply Kd.V_alloc | apply Kd.V_drewN | apply Kd.V_drew)); exact HO812.out) hg hat)
             have n3_ := Aside0.mk (Kd.R_after (ok := (fun k_ => (w.heap.size ≤ k_))) (by (with_reducible repeat (first | apply Kd.R_alloc | apply Kd.R_drewN | apply Kd.R_drew)); exact Kd.R_mono HO804.out (fun _ hk => ⟨hk.1.1, hk.2⟩)) hg hat)
             have n4_ := Aside0.mk (hb)
             have n5_ := Aside0.mk (ho)
             clear HO_0
             clear HO798
             clear HO812
             clear HO804
             clear HB
             clear HO793
             have HO_0 := n0_
             have HO798 := n1_
             have HO812 := n2_
             have HO804 := n3_
             have HB := n4_
             have HO801 := n5_
             clear n0_ n1_ n2_ n3_ n4_ n5_
             clear ho hb hg hat
             refine hK.out _ _ trivial (fun hHeld => ?_)
             clear hK K
             refine norm_ (a' := ?_) ?_ ?_
             rotate_left
             ·
              show Act.put _ (some 37) _ = _
              simp only [Act.put, List.setIfInBounds_toArray, List.set_cons_zero, List.set_cons_succ, i64_w, i32_w]
              rfl
             exact norm_ (by simp only [putAll, Act.put, List.setIfInBounds_toArray, List.set_cons_zero, List.set_cons_succ]) (hCont (v792, v800, v803) _ ⟨(by (with_reducible repeat (first | apply Kd.V_alloc | apply Kd.V_drewN | apply Kd.V_drew)); exact Kd.V_mono HO798.out (fun _ hk => ⟨hk.1.1, ⟨hk.2, hk.1.2⟩⟩)), (by (with_reducible repeat (first | apply Kd.R_alloc | apply Kd.R_drewN | apply Kd.R_drew)); exact HO801.out), (by (with_reducible repeat (first | apply Kd.R_alloc | apply Kd.R_drewN | apply Kd.R_drew)); exact HO804.out), (by (with_reducible repeat (first | apply Kd.V_alloc | apply Kd.V_drewN | apply Kd.V_drew)); exact Kd.V_mono HO812.out (fun _ hk => ⟨hk.1.1, ⟨hk.2, hk.1.2⟩⟩)), (by (with_reducible repeat (first | apply Kd.V_alloc | apply Kd.V_drewN | apply Kd.V_drew)); exact Kd.V_mono HO_0.out (fun _ hk => ⟨hk.1.1, ⟨hk.2, hk.1.2⟩⟩)), (by repeat (first | (with_reducible first | exact HB.out | apply below_alloc | apply pw_below_drewN | apply below_drew1) | exact HB.out))⟩)
           rintro ⟨v792, v800, v803⟩ w22 ⟨h0_, h1_, h2_, h3_, h4_, h5_⟩
           have n0_ : Aside0 (Kd.V (Kd.int .i64) 3 w22 w.heap.size (fun k_ => (P0_ k_ ∨ w.heap.size ≤ k_) ∧ some k_ ≠ (v800 : Value).ownBlock ∧ some k_ ≠ (v803 : Value).ownBlock) (.slice (some ad789) y794.length c0) y794) := ⟨h0_⟩
           have n1_ : Aside0 (Kd.R (Kd.int .i64) 3 w22 w.heap.size (fun k_ => (w.heap.size ≤ k_) ∧ some k_ ≠ (v803 : Value).ownBlock) v800 y799) := ⟨h1_⟩
           have n2_ : Aside0 (Kd.R (Kd.int .i64) 3 w22 w.heap.size (fun k_ => (w.heap.size ≤ k_) ∧ some k_ ≠ (v800 : Value).ownBlock) v803 y802) := ⟨h2_⟩
           have n3_ : Aside0 (Kd.V (Kd.int .i64) 3 w22 w.heap.size (fun k_ => (P0_ k_ ∨ w.heap.size ≤ k_) ∧ some k_ ≠ (v800 : Value).ownBlock ∧ some k_ ≠ (v803 : Value).ownBlock) (.slice A16 y808.length c16) y808) := ⟨h3_⟩
           have n4_ : Aside0 (Kd.V (Kd.int .i64) 3 w22 w.heap.size (fun k_ => (P0_ k_ ∨ w.heap.size ≤ k_) ∧ some k_ ≠ (v800 : Value).ownBlock ∧ some k_ ≠ (v803 : Value).ownBlock) (.slice (some ad789) l0.length c0) l0) := ⟨h4_⟩
           have n5_ : Aside0 (Below w.heap.size w w22) := ⟨h5_⟩
           clear HO_0
           clear HB
           clear h0_ h1_ h2_ h3_ h4_ h5_
           have HO798 := n0_
           have HO801 := n1_
           have HO804 := n2_
           have HO812 := n3_
           have HO_0 := n4_
           have HB := n5_
           clear n0_ n1_ n2_ n3_ n4_ n5_
           have hHeld := trivial
           obtain ⟨Ao24, co24, eo24⟩ := Kd.R_slice HO804.out
           (first | subst eo24 | (injection eo24 with f1_ f2_ f3_; have f4_ := f1_.symm; have f5_ := f3_.symm; clear f1_ f2_ f3_; subst f4_; subst f5_))
           refine norm_ (a' := ?_) ?_ ?_
           rotate_left
           ·
            simp only [putAll, Act.put, List.setIfInBounds_toArray, List.set_cons_zero, List.set_cons_succ]
            rfl
           refine one_ (i := 7) (N := some 40) #[true, true, true, true, true, true, true, true, true, true, true, false, false] rfl rfl (one_of HT_.out (by kernel_rfl)) (by decide) (fun K hK => ?_)
           refine Kd.R_append_rows_step (Kd.int .i64) (w0 := w) w.heap.size (by rfl) (.tmp 37) (.tmp 39) 25 3 (.int .i64 0) 8 rfl Tryd.underlying25 info3 rfl (by decide) (by omega) v800 y799 y802 _ _ _ (fun k_ => (w.heap.size ≤ k_) ∧ some k_ ≠ (.slice Ao24 y802.length co24 : Value).ownBlock) (fun _ => False) rfl rfl ?aO ?aR (fun _ _ h => h) (fun _ h => h.elim) ?aF ?aB ?aS ?aL ?_
           (case aR => repeat (first | exact (Kd.R_reads' HO804.out).2.2 | (with_reducible refine Kd.C_alloc ?_ _) | (with_reducible refine Kd.C_drewN ?_ _) | (with_reducible refine Kd.C_drew ?_)))
           (case aB => exact (by repeat (first | (with_reducible first | exact HB.out | apply below_alloc | apply pw_below_drewN | apply below_drew1) | exact HB.out)))
           (case aF => exact (fun k_ hk => ⟨(Nat.le_trans (below_size (by repeat (first | (with_reducible first | exact HB.out | apply below_alloc | apply pw_below_drewN | apply below_drew1) | exact HB.out))) hk), Kd.fresh' (Kd.R_lt (by (with_reducible repeat (first | apply Kd.R_alloc | apply Kd.R_drewN | apply Kd.R_drew)); exact HO804.out)) k_ hk⟩))
           (case aO => exact (by (with_reducible repeat (first | apply Kd.R_alloc | apply Kd.R_drewN | apply Kd.R_drew)); exact HO801.out))
           (case aS => exact (below_size (by repeat (first | (with_reducible first | exact HB.out | apply below_alloc | apply pw_below_drewN | apply below_drew1) | exact HB.out))))
           (case aL => have := LMc10.out; omega)
           intro v806 w23 ho hb hg hat
           rw [← Ny805.out] at ho
           have n0_ := Aside0.mk (Kd.V_afterv (ok := (fun k_ => (P0_ k_ ∨ w.heap.size ≤ k_) ∧ some k_ ≠ (.slice Ao24 y802.length co24 : Value).ownBlock)) (by (with_reducible repeat (first | apply Kd.V_alloc | apply Kd.V_drewN | apply Kd.V_drew)); exact Kd.V_mono HO_0.out (fun _ hk => ⟨⟨hk.1, hk.2.2⟩, hk.2.1⟩)) hg hat)
           have n1_ := Aside0.mk (Kd.V_afterv (ok := (fun k_ => (P0_ k_ ∨ w.heap.size ≤ k_) ∧ some k_ ≠ (.slice Ao24 y802.length co24 : Value).ownBlock)) (by (with_reducible repeat (first | apply Kd.V_alloc | apply Kd.V_drewN | apply Kd.V_drew)); exact Kd.V_mono HO798.out (fun _ hk => ⟨⟨hk.1, hk.2.2⟩, hk.2.1⟩)) hg hat)
           have n2_ := Aside0.mk (Kd.V_afterv (ok := (fun k_ => (P0_ k_ ∨ w.heap.size ≤ k_) ∧ some k_ ≠ (.slice Ao24 y802.length co24 : Value).ownBlock)) (by (with_reducible repeat (first | apply Kd.V_alloc | apply Kd.V_drewN | apply Kd.V_drew)); exact Kd.V_mono HO812.out (fun _ hk => ⟨⟨hk.1, hk.2.2⟩, hk.2.1⟩)) hg hat)
           have n3_ := Aside0.mk (Kd.R_after (ok := (fun k_ => (w.heap.size ≤ k_))) (by (with_reducible repeat (first | apply Kd.R_alloc | apply Kd.R_drewN | apply Kd.R_drew)); exact HO804.out) hg hat)
           have n4_ := Aside0.mk (hb)
           have n5_ := Aside0.mk (ho)
           clear HO_0
           clear HO798
           clear HO812
           clear HO804
           clear HB
           clear HO801
           have HO_0 := n0_
           have HO798 := n1_
           have HO812 := n2_
           have HO804 := n3_
           have HB := n4_
           have HO807 := n5_
           clear n0_ n1_ n2_ n3_ n4_ n5_
           clear ho hb hg hat
           refine hK.out _ _ trivial (fun hHeld => ?_)
           clear hK K
           refine norm_ (a' := ?_) ?_ ?_
           rotate_left
           ·
            show Act.put _ (some 40) _ = _
            simp only [Act.put, List.setIfInBounds_toArray, List.set_cons_zero, List.set_cons_succ, i64_w, i32_w]
            rfl
           refine one_ (i := 11) (N := some 44) #[true, true, true, true, true, true, true, true, true, true, true, true, false] rfl rfl (one_of HT_.out (by kernel_rfl)) (by decide) (fun K hK => ?_)
           refine Kd.R_append_rows_step (Kd.int .i64) (w0 := w) w.heap.size (by rfl) (.tmp 40) (.tmp 43) 25 3 (.int .i64 0) 8 rfl Tryd.underlying25 info3 rfl (by decide) (by omega) v806 y805 y808 _ _ _ (fun k_ => (w.heap.size ≤ k_) ∧ some k_ ≠ (.slice Ao24 y802.length co24 : Value).ownBlock) (fun _ => False) rfl rfl ?aO ?aR (fun _ _ h => h) (fun _ h => h.elim) ?aF ?aB ?aS ?aL ?_
           (case aR => repeat (first | exact (Kd.V_reads' HO812.out).2.2 | (with_reducible refine Kd.C_alloc ?_ _) | (with_reducible refine Kd.C_drewN ?_ _) | (with_reducible refine Kd.C_drew ?_)))
           (case aB => exact (by repeat (first | (with_reducible first | exact HB.out | apply below_alloc | apply pw_below_drewN | apply below_drew1) | exact HB.out)))
           (case aF => exact (fun k_ hk => ⟨(Nat.le_trans (below_size (by repeat (first | (with_reducible first | exact HB.out | apply below_alloc | apply pw_below_drewN | apply below_drew1) | exact HB.out))) hk), Kd.fresh' (Kd.R_lt (by (with_reducible repeat (first | apply Kd.R_alloc | apply Kd.R_drewN | apply Kd.R_drew)); exact HO804.out)) k_ hk⟩))
           (case aO => exact (by (with_reducible repeat (first | apply Kd.R_alloc | apply Kd.R_drewN | apply Kd.R_drew)); exact HO807.out))
           (case aS => exact (below_size (by repeat (first | (with_reducible first | exact HB.out | apply below_alloc | apply pw_below_drewN | apply below_drew1) | exact HB.out))))
           (case aL => have := LMc13.out; omega)
           intro v814 w25 ho hb hg hat
           rw [← Ny813.out] at ho
           have n0_ := Aside0.mk (Kd.V_afterv (ok := (fun k_ => (P0_ k_ ∨ w.heap.size ≤ k_) ∧ some k_ ≠ (.slice Ao24 y802.length co24 : Value).ownBlock)) (by (with_reducible repeat (first | apply Kd.V_alloc | apply Kd.V_drewN | apply Kd.V_drew)); exact HO_0.out) hg hat)
           have n1_ := Aside0.mk (Kd.V_afterv (ok := (fun k_ => (P0_ k_ ∨ w.heap.size ≤ k_) ∧ some k_ ≠ (.slice Ao24 y802.length co24 : Value).ownBlock)) (by (with_reducible repeat (first | apply Kd.V_alloc | apply Kd.V_drewN | apply Kd.V_drew)); exact HO798.out) hg hat)
           have n2_ := Aside0.mk (Kd.V_afterv (ok := (fun k_ => (P0_ k_ ∨ w.heap.size ≤ k_) ∧ some k_ ≠ (.slice Ao24 y802.length co24 : Value).ownBlock)) (by (with_reducible repeat (first | apply Kd.V_alloc | apply Kd.V_drewN | apply Kd.V_drew)); exact HO812.out) hg hat)
           have n3_ := Aside0.mk (Kd.R_after (ok := (fun k_ => (w.heap.size ≤ k_))) (by (with_reducible repeat (first | apply Kd.R_alloc | apply Kd.R_drewN | apply Kd.R_drew)); exact HO804.out) hg hat)
           have n4_ := Aside0.mk (hb)
           have n5_ := Aside0.mk (ho)
           clear HO_0
           clear HO798
           clear HO812
           clear HO804
           clear HB
           clear HO807
           have HO_0 := n0_
           have HO798 := n1_
           have HO812 := n2_
           have HO804 := n3_
           have HB := n4_
           have HO815 := n5_
           clear n0_ n1_ n2_ n3_ n4_ n5_
           clear ho hb hg hat
           refine hK.out _ _ trivial (fun hHeld => ?_)
           clear hK K
           refine norm_ (a' := ?_) ?_ ?_
           rotate_left
           ·
            show Act.put _ (some 44) _ = _
            simp only [Act.put, List.setIfInBounds_toArray, List.set_cons_zero, List.set_cons_succ, i64_w, i32_w]
            rfl
           refine pure_ (i := 12) (N := some 4) (v := ?_) (a' := ?_) #[true, true, true, true, true, true, true, true, true, true, true, true, true] rfl rfl (any_of HT_.out (by kernel_rfl)) (fun _ _ _ h => h) (Or.inl ⟨by rfl, ?_⟩) ?_ ?_
           rotate_left
           ·
            intro w'
            go_simp
            with_reducible rfl
           rotate_left
           ·
            simp only [Act.put, List.setIfInBounds_toArray, List.set_cons_zero, List.set_cons_succ, i64_w, i32_w]
            rfl
           refine done_ (done_of HT_.out (by kernel_rfl)) ?_
           try go_wp2
           go_ret
           exact ⟨_, by first | rfl | (simp [errW_none, errW_some] <;> rfl) | (simp [*, errW_none, errW_some] <;> rfl), Kd.V_mono (Kd.R_V (by (with_reducible repeat (first | apply Kd.R_alloc | apply Kd.R_drewN | apply Kd.R_drew)); exact Kd.R_mono HO815.out (fun _ hk => hk.1))) (fun k_ hk => by first | exact ⟨(.inr (hk.1)), hk.2⟩ | exact (.inr (hk))), by repeat (first | (with_reducible first | exact HB.out | apply below_alloc | apply pw_below_drewN | apply below_drew1) | exact HB.out)⟩
          ·
           rw [if_neg c13] at H
           exact absurd H (by simp)
         ·
          rw [if_neg c10] at H
          exact absurd H (by simp)
        ·
         rw [if_neg c9] at H
         exact absurd H (by simp)
       ·
        rw [if_neg c8] at H
        exact absurd H (by simp)
    ·
     rw [if_neg c4] at H
     exact absurd H (by simp)
   ·
    rw [if_neg c3] at H
    have c3b0 : decide (x5_1 < (l0.length : Int)) = false := decide_eq_false c3
    clear c3
    obtain ⟨y816, hy816⟩ : ∃ y_ : List Int, y_ = (([] : List Int)) := ⟨_, rfl⟩
    replace H : (if 0 ≤ x5_1 then (if x5_1 ≤ (l0.length : Int) then ((some (l0.take (x5_1 : Int).toNat : List Int)).bind fun y819 => (if y816.length + y819.length < 17592186044416 then ((some (y816 ++ y819 : List Int)).bind fun y824 => ((some (([a1] : List Int) : List Int)).bind fun y827 => (if y824.length + y827.length < 17592186044416 then ((some (y824 ++ y827 : List Int)).bind fun y830 => ((some (l0.drop (x5_1 : Int).toNat : List Int)).bind fun y833 => (if y830.length + y833.length < 17592186044416 then (some (y830 ++ y833)) else (none)))) else (none)))) else (none))) else (none)) else (none)) = some r := by first | (rw [hy816]; with_reducible exact H) | (have H2_ := (Option.bind_some _ _).symm.trans H; rw [hy816]; with_reducible exact H2_) | (have H2_ := (Option.bind_some _ _).symm.trans H; with_reducible exact H2_) | with_reducible exact H | (rw [hy816]; exact H) | exact H
    have Ny816 := Aside0.mk hy816
    clear hy816
    by_cases c26 : 0 ≤ x5_1
    ·
     rw [if_pos c26] at H
     have c26b0 := eq_true c26
     have c26b1 : decide (0 ≤ x5_1) = true := decide_eq_true c26
     clear c26
     by_cases c27 : x5_1 ≤ (l0.length : Int)
     ·
      rw [if_pos c27] at H
      have c27b0 := eq_true c27
      have c27b1 : decide (x5_1 ≤ (l0.length : Int)) = true := decide_eq_true c27
      clear c27
      obtain ⟨y819, hy819⟩ : ∃ y_ : List Int, y_ = (l0.take (x5_1 : Int).toNat) := ⟨_, rfl⟩
      replace H : (if y816.length + y819.length < 17592186044416 then ((some (y816 ++ y819 : List Int)).bind fun y824 => ((some (([a1] : List Int) : List Int)).bind fun y827 => (if y824.length + y827.length < 17592186044416 then ((some (y824 ++ y827 : List Int)).bind fun y830 => ((some (l0.drop (x5_1 : Int).toNat : List Int)).bind fun y833 => (if y830.length + y833.length < 17592186044416 then (some (y830 ++ y833)) else (none)))) else (none)))) else (none)) = some r := by first | (rw [hy819]; with_reducible exact H) | (have H2_ := (Option.bind_some _ _).symm.trans H; rw [hy819]; with_reducible exact H2_) | (have H2_ := (Option.bind_some _ _).symm.trans H; with_reducible exact H2_) | with_reducible exact H | (rw [hy819]; exact H) | exact H
      have Ny819 := Aside0.mk hy819
      clear hy819
      by_cases c28 : y816.length + y819.length < 17592186044416
      ·
       rw [if_pos c28] at H
       have LMc28 := Aside0.mk c28
       clear c28
       obtain ⟨y824, hy824⟩ : ∃ y_ : List Int, y_ = (y816 ++ y819) := ⟨_, rfl⟩
       replace H : ((some (([a1] : List Int) : List Int)).bind fun y827 => (if y824.length + y827.length < 17592186044416 then ((some (y824 ++ y827 : List Int)).bind fun y830 => ((some (l0.drop (x5_1 : Int).toNat : List Int)).bind fun y833 => (if y830.length + y833.length < 17592186044416 then (some (y830 ++ y833)) else (none)))) else (none))) = some r := by first | (rw [hy824]; with_reducible exact H) | (have H2_ := (Option.bind_some _ _).symm.trans H; rw [hy824]; with_reducible exact H2_) | (have H2_ := (Option.bind_some _ _).symm.trans H; with_reducible exact H2_) | with_reducible exact H | (rw [hy824]; exact H) | exact H
       have Ny824 := Aside0.mk hy824
       clear hy824
       obtain ⟨y827, hy827⟩ : ∃ y_ : List Int, y_ = (([a1] : List Int)) := ⟨_, rfl⟩
       replace H : (if y824.length + y827.length < 17592186044416 then ((some (y824 ++ y827 : List Int)).bind fun y830 => ((some (l0.drop (x5_1 : Int).toNat : List Int)).bind fun y833 => (if y830.length + y833.length < 17592186044416 then (some (y830 ++ y833)) else (none)))) else (none)) = some r := by first | (rw [hy827]; with_reducible exact H) | (have H2_ := (Option.bind_some _ _).symm.trans H; rw [hy827]; with_reducible exact H2_) | (have H2_ := (Option.bind_some _ _).symm.trans H; with_reducible exact H2_) | with_reducible exact H | (rw [hy827]; exact H) | exact H
       have Ny827 := Aside0.mk hy827
       clear hy827
       by_cases c29 : y824.length + y827.length < 17592186044416
       ·
        rw [if_pos c29] at H
        have LMc29 := Aside0.mk c29
        clear c29
        obtain ⟨y830, hy830⟩ : ∃ y_ : List Int, y_ = (y824 ++ y827) := ⟨_, rfl⟩
        replace H : ((some (l0.drop (x5_1 : Int).toNat : List Int)).bind fun y833 => (if y830.length + y833.length < 17592186044416 then (some (y830 ++ y833)) else (none))) = some r := by first | (rw [hy830]; with_reducible exact H) | (have H2_ := (Option.bind_some _ _).symm.trans H; rw [hy830]; with_reducible exact H2_) | (have H2_ := (Option.bind_some _ _).symm.trans H; with_reducible exact H2_) | with_reducible exact H | (rw [hy830]; exact H) | exact H
        have Ny830 := Aside0.mk hy830
        clear hy830
        have c30b0 := eq_true (of_decide_eq_true (by first | (with_reducible assumption) | assumption) : 0 ≤ x5_1)
        have c31b0 := eq_true (of_decide_eq_true (by first | (with_reducible assumption) | assumption) : x5_1 ≤ (l0.length : Int))
        obtain ⟨y833, hy833⟩ : ∃ y_ : List Int, y_ = (l0.drop (x5_1 : Int).toNat) := ⟨_, rfl⟩
        replace H : (if y830.length + y833.length < 17592186044416 then (some (y830 ++ y833)) else (none)) = some r := by first | (rw [hy833]; with_reducible exact H) | (have H2_ := (Option.bind_some _ _).symm.trans H; rw [hy833]; with_reducible exact H2_) | (have H2_ := (Option.bind_some _ _).symm.trans H; with_reducible exact H2_) | with_reducible exact H | (rw [hy833]; exact H) | exact H
        have Ny833 := Aside0.mk hy833
        clear hy833
        by_cases c32 : y830.length + y833.length < 17592186044416
        ·
         rw [if_pos c32] at H
         have LMc32 := Aside0.mk c32
         clear c32
         obtain ⟨y838, hy838⟩ : ∃ y_ : List Int, y_ = (y830 ++ y833) := ⟨_, rfl⟩
         replace H : (some y838) = some r := by first | (rw [hy838]; with_reducible exact H) | (have H2_ := (Option.bind_some _ _).symm.trans H; rw [hy838]; with_reducible exact H2_) | (have H2_ := (Option.bind_some _ _).symm.trans H; with_reducible exact H2_) | with_reducible exact H | (rw [hy838]; exact H) | exact H
         have Ny838 := Aside0.mk hy838
         clear hy838
         obtain rfl := Option.some.inj H
         try go_wp2
         have n0_ := Aside0.mk (Kd.V_drew HO_0.out)
         have n1_ := Aside0.mk (below_drew1 HB.out)
         clear HO_0
         clear HB
         have HO_0 := n0_
         have HB := n1_
         clear n0_ n1_
         have q34 : (x5_1 : Int) ≤ ((l0.length : Int) : Int) := of_decide_eq_true (by first | (with_reducible assumption) | assumption)
         obtain ⟨i034, hi034, _, hsz34, _⟩ := info_parts info3
         have hroom34 : l0.length ≤ c0 := (Kd.V_reads' HO_0.out).2.1
         have hC34 : Kd.F (Kd.int .i64) _ _ A0 l0.length l0 := (Kd.V_at (base := w.heap.size) HO_0.out).2.2
         have hcut34 := cut_to (P := Tryd.prog) 25 3 .i64 Tryd.underlying25 hi034 A0 l0.length c0 x5_1 (of_decide_eq_true (by first | (with_reducible assumption) | assumption)) q34 hroom34
         have hr34 := Kd.F_take (m := (x5_1 : Int).toNat) hC34 (by omega)
         have hy34 : y819.length = (x5_1 : Int).toNat := (by rw [Ny819.out, List.length_take]; omega)
         rw [← Ny819.out] at hr34
         rw [← hy34] at hcut34
         have HO823 := Aside0.mk (show Kd.V (Kd.int .i64) 3 _ w.heap.size _ (.slice A0 y819.length c0) y819 from Kd.V_mk (by omega) hr34)
         have HC823 := Aside0.mk (show y819.length ≤ c0 from by omega)
         clear hr34 hC34 hroom34 hi034 hsz34
         have KY34 := Aside0.mk hy34
         clear hy34
         replace q34 := eq_true q34
         have q35 : (x5_1 : Int) ≤ ((l0.length : Int) : Int) := of_decide_eq_true (by first | (with_reducible assumption) | assumption)
         obtain ⟨i035, hi035, _, hsz35, _⟩ := info_parts info3
         have hroom35 : l0.length ≤ c0 := (Kd.V_reads' HO_0.out).2.1
         have hC35 : Kd.F (Kd.int .i64) _ _ A0 l0.length l0 := (Kd.V_at (base := w.heap.size) HO_0.out).2.2
         have q035 : (0 : Int) ≤ (x5_1 : Int) := of_decide_eq_true (by first | (with_reducible assumption) | assumption)
         have hcut35 := cut_from (P := Tryd.prog) 25 3 .i64 Tryd.underlying25 hi035 1 hsz35 A0 l0.length c0 x5_1 q035 q35
         have hr35 := Kd.F_cut (m := (x5_1 : Int).toNat) (c := c0) hC35 (by omega) hroom35
         obtain ⟨A35, hA35⟩ : ∃ A1, A1 = (if c0 = (x5_1 : Int).toNat then A0 else (A0 : Option Addr).map (·.add ((x5_1 : Int).toNat * 1))) := ⟨_, rfl⟩
         obtain ⟨c35, hc35⟩ : ∃ c1, c1 = c0 - (x5_1 : Int).toNat := ⟨_, rfl⟩
         have hy35 : y833.length = l0.length - (x5_1 : Int).toNat := (by rw [Ny833.out, List.length_drop] <;> omega)
         rw [show (l0).drop (x5_1 : Int).toNat = y833 from Ny833.out.symm] at hr35
         replace hr35 : Kd.F (Kd.int .i64) _ _ A35 y833.length y833 := (by rw [hA35]; exact hr35)
         rw [← hy35, ← hA35, ← hc35] at hcut35
         have HO837 := Aside0.mk (show Kd.V (Kd.int .i64) 3 _ w.heap.size _ (.slice A35 y833.length c35) y833 from Kd.V_mk (by rw [hy35, hc35]; exact Nat.sub_le_sub_right hroom35 _) hr35)
         have HC837 := Aside0.mk (show y833.length ≤ c35 from by rw [hy35, hc35]; exact Nat.sub_le_sub_right hroom35 _)
         clear hr35 hC35 hroom35 hi035 hsz35 hc35
         have KY35 := Aside0.mk hy35
         have KA35 := Aside0.mk hA35
         clear hy35 hA35
         replace q35 := eq_true q35
         refine start_ (n := 13) (S := fun w' => True) (ds := []) #[false, false, false, false, false, false, false, false, false, false, false, false, false] (by kernel_rfl) rfl rfl trivial (fun hHeld => ?_); refine with_tabW customsref27_Rise.tab6 customsref27_Rise.bits6 (fun HT_ HW_ => ?_)
         generalize wr.drew = w33 at HO_0 HB HO823 HO837 hHeld ⊢
         refine pure_ (i := 1) (N := some 34) (v := ?_) (a' := ?_) #[false, true, false, false, false, false, false, false, false, false, false, false, false] rfl rfl (any_of HT_.out (by kernel_rfl)) (fun _ _ _ h => h) (Or.inl ⟨by rfl, ?_⟩) ?_ ?_
         rotate_left
         ·
          intro w'
          go_simp
          with_reducible rfl
         rotate_left
         ·
          simp only [Act.put, List.setIfInBounds_toArray, List.set_cons_zero, List.set_cons_succ, i64_w, i32_w]
          rfl
         refine pure_ (i := 2) (N := some 35) (v := ?_) (a' := ?_) #[false, true, true, false, false, false, false, false, false, false, false, false, false] rfl rfl (any_of HT_.out (by kernel_rfl)) (fun _ _ _ h => h) (Or.inl ⟨by rfl, ?_⟩) ?_ ?_
         rotate_left
         ·
          intro w'
          go_simp
          with_reducible rfl
         rotate_left
         ·
          simp only [Act.put, List.setIfInBounds_toArray, List.set_cons_zero, List.set_cons_succ, i64_w, i32_w]
          rfl
         refine pure_ (i := 3) (N := some 36) (v := ?_) (a' := ?_) #[false, true, true, true, false, false, false, false, false, false, false, false, false] rfl rfl (any_of HT_.out (by kernel_rfl)) (fun _ _ _ h => h) (Or.inl ⟨by rfl, ?_⟩) ?_ ?_
         rotate_left
         ·
          intro w'
          go_simp
          with_reducible rfl
         rotate_left
         ·
          simp only [Act.put, List.setIfInBounds_toArray, List.set_cons_zero, List.set_cons_succ, i64_w, i32_w]
          rfl
         refine pure_ (i := 5) (N := some 38) (v := ?_) (a' := ?_) #[false, true, true, true, false, true, false, false, false, false, false, false, false] rfl rfl (any_of HT_.out (by kernel_rfl)) (fun _ _ _ h => h) (Or.inl ⟨by rfl, ?_⟩) ?_ ?_
         rotate_left
         ·
          intro w'
          go_simp
          with_reducible rfl
         rotate_left
         ·
          simp only [Act.put, List.setIfInBounds_toArray, List.set_cons_zero, List.set_cons_succ, i64_w, i32_w]
          rfl
         refine pure_ (i := 8) (N := some 41) (v := ?_) (a' := ?_) #[false, true, true, true, false, true, false, false, true, false, false, false, false] rfl rfl (any_of HT_.out (by kernel_rfl)) (fun _ _ _ h => h) (Or.inl ⟨by rfl, ?_⟩) ?_ ?_
         rotate_left
         ·
          intro w'
          go_simp
          with_reducible rfl
         rotate_left
         ·
          simp only [Act.put, List.setIfInBounds_toArray, List.set_cons_zero, List.set_cons_succ, i64_w, i32_w]
          rfl
         refine pure_ (i := 9) (N := some 42) (v := ?_) (a' := ?_) #[false, true, true, true, false, true, false, false, true, true, false, false, false] rfl rfl (any_of HT_.out (by kernel_rfl)) (fun _ _ _ h => h) (Or.inl ⟨by rfl, ?_⟩) ?_ ?_
         rotate_left
         ·
          intro w'
          go_simp
          with_reducible rfl
         rotate_left
         ·
          simp only [Act.put, List.setIfInBounds_toArray, List.set_cons_zero, List.set_cons_succ, i64_w, i32_w]
          rfl
         refine pure_ (i := 10) (N := some 43) (v := ?_) (a' := ?_) #[false, true, true, true, false, true, false, false, true, true, true, false, false] rfl rfl (any_of HT_.out (by kernel_rfl)) (fun _ _ _ h => h) (Or.inl ⟨by rfl, ?_⟩) ?_ ?_
         rotate_left
         ·
          intro w'
          go_simp
          with_reducible rfl
         rotate_left
         ·
          simp only [Act.put, List.setIfInBounds_toArray, List.set_cons_zero, List.set_cons_succ, i64_w, i32_w]
          rfl
         refine join_ (σ := Value × Value × Value) 3 #[true, true, true, true, true, true, true, false, true, true, true, false, false] (fun s_ => [(33, s_.1), (37, s_.2.1), (39, s_.2.2)]) (fun s_ w' => (Kd.V (Kd.int .i64) 3 w' w.heap.size (fun k_ => (P0_ k_ ∨ w.heap.size ≤ k_) ∧ some k_ ≠ (s_.2.1 : Value).ownBlock ∧ some k_ ≠ (s_.2.2 : Value).ownBlock) (.slice A0 y819.length c0) y819) ∧ (Kd.R (Kd.int .i64) 3 w' w.heap.size (fun k_ => (w.heap.size ≤ k_) ∧ some k_ ≠ (s_.2.2 : Value).ownBlock) s_.2.1 y824) ∧ (Kd.R (Kd.int .i64) 3 w' w.heap.size (fun k_ => (w.heap.size ≤ k_) ∧ some k_ ≠ (s_.2.1 : Value).ownBlock) s_.2.2 y827) ∧ (Kd.V (Kd.int .i64) 3 w' w.heap.size (fun k_ => (P0_ k_ ∨ w.heap.size ≤ k_) ∧ some k_ ≠ (s_.2.1 : Value).ownBlock ∧ some k_ ≠ (s_.2.2 : Value).ownBlock) (.slice A35 y833.length c35) y833) ∧ (Kd.V (Kd.int .i64) 3 w' w.heap.size (fun k_ => (P0_ k_ ∨ w.heap.size ≤ k_) ∧ some k_ ≠ (s_.2.1 : Value).ownBlock ∧ some k_ ≠ (s_.2.2 : Value).ownBlock) (.slice A0 l0.length c0) l0) ∧ (Below w.heap.size w w')) ?_ ?_
         rotate_left
         ·
          intro hCont
          refine two_ (i := 0) (j := 6) (Ni := some 33) (Nj := some 39) #[true, true, true, true, false, true, false, false, true, true, true, false, false] #[false, true, true, true, false, true, true, false, true, true, true, false, false] rfl rfl rfl rfl (two_of HT_.out (by kernel_rfl)) (by decide) (by decide) (fun K hK => ?_) (fun K hK => ?_)
          ·
           skip
           refine Kd.R_lit_step (Kd.int .i64) _ 3 ?hg (N := 33) ?hd (xs := ([] : List Int)) (inner := []) (ok := fun _ => True) (okp := fun _ => True) ?hr ?hp (fun _ hk => hk) trivial (Below.refl _ _) (Nat.le_refl _) (by simp) ?_; (case hd => rfl); (case hg => rfl); (case hr => first | (go_simp; done) | (go_simp; rfl)); (case hp => exact (Reps.none _ _))
           intro v817 w36 ho37 hb hg_ hnew_
           clear hg_ hnew_
           (first | rw [← Ny816.out] at ho37 | (simp only [Int.reduceToNat] at ho37; rw [← Ny816.out] at ho37))
           have n0_ := Aside0.mk (Kd.V_elder' (by (with_reducible repeat (first | apply Kd.V_alloc | apply Kd.V_drewN | apply Kd.V_drew)); exact HO_0.out) (Kd.R_base ho37) hb)
           have n1_ := Aside0.mk (Kd.V_elder' (by (with_reducible repeat (first | apply Kd.V_alloc | apply Kd.V_drewN | apply Kd.V_drew)); exact HO823.out) (Kd.R_base ho37) hb)
           have n2_ := Aside0.mk (Kd.V_elder' (by (with_reducible repeat (first | apply Kd.V_alloc | apply Kd.V_drewN | apply Kd.V_drew)); exact HO837.out) (Kd.R_base ho37) hb)
           have n3_ := Aside0.mk (Kd.R_lower (Kd.R_newM (M := fun k_ => (w.heap.size ≤ k_)) ho37 (below_size (by repeat (first | (with_reducible first | exact HB.out | apply below_alloc | apply pw_below_drewN | apply below_drew1) | exact HB.out))) (fun k_ h_ => h_)) (below_size (by repeat (first | (with_reducible first | exact HB.out | apply below_alloc | apply pw_below_drewN | apply below_drew1) | exact HB.out))))
           have n4_ := Aside0.mk (below_step (by repeat (first | (with_reducible first | exact HB.out | apply below_alloc | apply pw_below_drewN | apply below_drew1) | exact HB.out)) hb)
           clear HO_0
           clear HO823
           clear HO837
           clear HB
           have HO_0 := n0_
           have HO823 := n1_
           have HO837 := n2_
           have HO818 := n3_
           have HB := n4_
           clear n0_ n1_ n2_ n3_ n4_
           clear hb ho37
           refine hK.out _ _ trivial (fun hHeld => ?_)
           clear hK K
           refine norm_ (a' := ?_) ?_ ?_
           rotate_left
           ·
            show Act.put _ (some 33) _ = _
            simp only [Act.put, List.setIfInBounds_toArray, List.set_cons_zero, List.set_cons_succ, i64_w, i32_w]
            rfl
           refine two_ (i := 4) (j := 6) (Ni := some 37) (Nj := some 39) #[true, true, true, true, true, true, false, false, true, true, true, false, false] #[true, true, true, true, false, true, true, false, true, true, true, false, false] rfl rfl rfl rfl (two_of HT_.out (by kernel_rfl)) (by decide) (by decide) (fun K hK => ?_) (fun K hK => ?_)
           ·
            skip
            refine Kd.R_append_rows_step (Kd.int .i64) (w0 := w) w.heap.size (by rfl) (.tmp 33) (.tmp 36) 25 3 (.int .i64 0) 8 rfl Tryd.underlying25 info3 rfl (by decide) (by omega) v817 y816 y819 _ _ _ (fun k_ => (w.heap.size ≤ k_)) (fun _ => False) rfl rfl ?aO ?aR (fun _ _ h => h) (fun _ h => h.elim) ?aF ?aB ?aS ?aL ?_
            (case aR => repeat (first | exact (Kd.V_reads' HO823.out).2.2 | (with_reducible refine Kd.C_alloc ?_ _) | (with_reducible refine Kd.C_drewN ?_ _) | (with_reducible refine Kd.C_drew ?_)))
            (case aB => exact (by repeat (first | (with_reducible first | exact HB.out | apply below_alloc | apply pw_below_drewN | apply below_drew1) | exact HB.out)))
            (case aF => exact (fun k_ hk => (Nat.le_trans (below_size (by repeat (first | (with_reducible first | exact HB.out | apply below_alloc | apply pw_below_drewN | apply below_drew1) | exact HB.out))) hk)))
            (case aO => exact (by (with_reducible repeat (first | apply Kd.R_alloc | apply Kd.R_drewN | apply Kd.R_drew)); exact Kd.R_mono HO818.out (fun _ hk => hk.1)))
            (case aS => exact (below_size (by repeat (first | (with_reducible first | exact HB.out | apply below_alloc | apply pw_below_drewN | apply below_drew1) | exact HB.out))))
            (case aL => have := LMc28.out; omega)
            intro v825 w38 ho hb hg hat
            rw [← Ny824.out] at ho
            have n0_ := Aside0.mk (Kd.V_afterv (ok := (fun k_ => (P0_ k_ ∨ w.heap.size ≤ k_))) (by (with_reducible repeat (first | apply Kd.V_alloc | apply Kd.V_drewN | apply Kd.V_drew)); exact HO_0.out) hg hat)
            have n1_ := Aside0.mk (Kd.V_afterv (ok := (fun k_ => (P0_ k_ ∨ w.heap.size ≤ k_))) (by (with_reducible repeat (first | apply Kd.V_alloc | apply Kd.V_drewN | apply Kd.V_drew)); exact HO823.out) hg hat)
            have n2_ := Aside0.mk (Kd.V_afterv (ok := (fun k_ => (P0_ k_ ∨ w.heap.size ≤ k_))) (by (with_reducible repeat (first | apply Kd.V_alloc | apply Kd.V_drewN | apply Kd.V_drew)); exact HO837.out) hg hat)
            have n3_ := Aside0.mk (hb)
            have n4_ := Aside0.mk (ho)
            clear HO_0
            clear HO823
            clear HO837
            clear HB
            clear HO818
            have HO_0 := n0_
            have HO823 := n1_
            have HO837 := n2_
            have HB := n3_
            have HO826 := n4_
            clear n0_ n1_ n2_ n3_ n4_
            clear ho hb hg hat
            refine hK.out _ _ trivial (fun hHeld => ?_)
            clear hK K
            refine norm_ (a' := ?_) ?_ ?_
            rotate_left
            ·
             show Act.put _ (some 37) _ = _
             simp only [Act.put, List.setIfInBounds_toArray, List.set_cons_zero, List.set_cons_succ, i64_w, i32_w]
             rfl
            refine one_ (i := 6) (N := some 39) #[true, true, true, true, true, true, true, false, true, true, true, false, false] rfl rfl (one_of HT_.out (by kernel_rfl)) (by decide) (fun K hK => ?_)
            refine Kd.R_lit_step (Kd.int .i64) _ 3 ?hg (N := 39) ?hd (xs := ([a1] : List Int)) (inner := [.int .i64 a1]) (ok := fun _ => True) (okp := fun _ => True) ?hr ?hp (fun _ hk => hk) trivial (Below.refl _ _) (Nat.le_refl _) (by simp) ?_; (case hd => rfl); (case hg => rfl); (case hr => first | (go_simp; done) | (go_simp; rfl)); (case hp => exact (Reps.one (show Kd.M (Kd.int .i64) _ _ _ a1 [.int .i64 a1] from rfl) (Reps.none _ _)))
            intro v828 w39 ho40 hb hg_ hnew_
            clear hg_ hnew_
            (first | rw [← Ny827.out] at ho40 | (simp only [Int.reduceToNat] at ho40; rw [← Ny827.out] at ho40))
            have n0_ := Aside0.mk (Kd.V_elder' (by (with_reducible repeat (first | apply Kd.V_alloc | apply Kd.V_drewN | apply Kd.V_drew)); exact HO_0.out) (Kd.R_base ho40) hb)
            have n1_ := Aside0.mk (Kd.V_elder' (by (with_reducible repeat (first | apply Kd.V_alloc | apply Kd.V_drewN | apply Kd.V_drew)); exact HO823.out) (Kd.R_base ho40) hb)
            have n2_ := Aside0.mk (Kd.V_elder' (by (with_reducible repeat (first | apply Kd.V_alloc | apply Kd.V_drewN | apply Kd.V_drew)); exact HO837.out) (Kd.R_base ho40) hb)
            have n3_ := Aside0.mk (Kd.R_elder' (by (with_reducible repeat (first | apply Kd.R_alloc | apply Kd.R_drewN | apply Kd.R_drew)); exact HO826.out) (Kd.R_base ho40) hb)
            have n4_ := Aside0.mk (Kd.R_lower (Kd.R_new' (Kd.R_newM (M := fun k_ => (w.heap.size ≤ k_)) ho40 (below_size (by repeat (first | (with_reducible first | exact HB.out | apply below_alloc | apply pw_below_drewN | apply below_drew1) | exact HB.out))) (fun k_ h_ => h_)) (Kd.R_lt (by (with_reducible repeat (first | apply Kd.R_alloc | apply Kd.R_drewN | apply Kd.R_drew)); exact HO826.out))) (below_size (by repeat (first | (with_reducible first | exact HB.out | apply below_alloc | apply pw_below_drewN | apply below_drew1) | exact HB.out))))
            have n5_ := Aside0.mk (below_step (by repeat (first | (with_reducible first | exact HB.out | apply below_alloc | apply pw_below_drewN | apply below_drew1) | exact HB.out)) hb)
            clear HO_0
            clear HO823
            clear HO837
            clear HO826
            clear HB
            have HO_0 := n0_
            have HO823 := n1_
            have HO837 := n2_
            have HO826 := n3_
            have HO829 := n4_
            have HB := n5_
            clear n0_ n1_ n2_ n3_ n4_ n5_
            clear hb ho40
            refine hK.out _ _ trivial (fun hHeld => ?_)
            clear hK K
            refine norm_ (a' := ?_) ?_ ?_
            rotate_left
            ·
             show Act.put _ (some 39) _ = _
             simp only [Act.put, List.setIfInBounds_toArray, List.set_cons_zero, List.set_cons_succ, i64_w, i32_w]
             rfl
            exact norm_ (by simp only [putAll, Act.put, List.setIfInBounds_toArray, List.set_cons_zero, List.set_cons_succ]) (hCont (v817, v825, v828) _ ⟨(by (with_reducible repeat (first | apply Kd.V_alloc | apply Kd.V_drewN | apply Kd.V_drew)); exact Kd.V_mono HO823.out (fun _ hk => ⟨hk.1.1, ⟨hk.1.2, hk.2⟩⟩)), (by (with_reducible repeat (first | apply Kd.R_alloc | apply Kd.R_drewN | apply Kd.R_drew)); exact HO826.out), (by (with_reducible repeat (first | apply Kd.R_alloc | apply Kd.R_drewN | apply Kd.R_drew)); exact Kd.R_mono HO829.out (fun _ hk => ⟨hk.1.1, hk.2⟩)), (by (with_reducible repeat (first | apply Kd.V_alloc | apply Kd.V_drewN | apply Kd.V_drew)); exact Kd.V_mono HO837.out (fun _ hk => ⟨hk.1.1, ⟨hk.1.2, hk.2⟩⟩)), (by (with_reducible repeat (first | apply Kd.V_alloc | apply Kd.V_drewN | apply Kd.V_drew)); exact Kd.V_mono HO_0.out (fun _ hk => ⟨hk.1.1, ⟨hk.1.2, hk.2⟩⟩)), (by repeat (first | (with_reducible first | exact HB.out | apply below_alloc | apply pw_below_drewN | apply below_drew1) | exact HB.out))⟩)
           ·
            skip
            refine Kd.R_lit_step (Kd.int .i64) _ 3 ?hg (N := 39) ?hd (xs := ([a1] : List Int)) (inner := [.int .i64 a1]) (ok := fun _ => True) (okp := fun _ => True) ?hr ?hp (fun _ hk => hk) trivial (Below.refl _ _) (Nat.le_refl _) (by simp) ?_; (case hd => rfl); (case hg => rfl); (case hr => first | (go_simp; done) | (go_simp; rfl)); (case hp => exact (Reps.one (show Kd.M (Kd.int .i64) _ _ _ a1 [.int .i64 a1] from rfl) (Reps.none _ _)))
            intro v828 w38 ho39 hb hg_ hnew_
            clear hg_ hnew_
            (first | rw [← Ny827.out] at ho39 | (simp only [Int.reduceToNat] at ho39; rw [← Ny827.out] at ho39))
            have n0_ := Aside0.mk (Kd.V_elder' (by (with_reducible repeat (first | apply Kd.V_alloc | apply Kd.V_drewN | apply Kd.V_drew)); exact HO_0.out) (Kd.R_base ho39) hb)
            have n1_ := Aside0.mk (Kd.V_elder' (by (with_reducible repeat (first | apply Kd.V_alloc | apply Kd.V_drewN | apply Kd.V_drew)); exact HO823.out) (Kd.R_base ho39) hb)
            have n2_ := Aside0.mk (Kd.V_elder' (by (with_reducible repeat (first | apply Kd.V_alloc | apply Kd.V_drewN | apply Kd.V_drew)); exact HO837.out) (Kd.R_base ho39) hb)
            have n3_ := Aside0.mk (Kd.R_elder' (by (with_reducible repeat (first | apply Kd.R_alloc | apply Kd.R_drewN | apply Kd.R_drew)); exact HO818.out) (Kd.R_base ho39) hb)
            have n4_ := Aside0.mk (Kd.R_lower (Kd.R_new' (Kd.R_newM (M := fun k_ => (w.heap.size ≤ k_)) ho39 (below_size (by repeat (first | (with_reducible first | exact HB.out | apply below_alloc | apply pw_below_drewN | apply below_drew1) | exact HB.out))) (fun k_ h_ => h_)) (Kd.R_lt (by (with_reducible repeat (first | apply Kd.R_alloc | apply Kd.R_drewN | apply Kd.R_drew)); exact HO818.out))) (below_size (by repeat (first | (with_reducible first | exact HB.out | apply below_alloc | apply pw_below_drewN | apply below_drew1) | exact HB.out))))
            have n5_ := Aside0.mk (below_step (by repeat (first | (with_reducible first | exact HB.out | apply below_alloc | apply pw_below_drewN | apply below_drew1) | exact HB.out)) hb)
            clear HO_0
            clear HO823
            clear HO837
            clear HO818
            clear HB
            have HO_0 := n0_
            have HO823 := n1_
            have HO837 := n2_
            have HO818 := n3_
            have HO829 := n4_
            have HB := n5_
            clear n0_ n1_ n2_ n3_ n4_ n5_
            clear hb ho39
            refine hK.out _ _ trivial (fun hHeld => ?_)
            clear hK K
            refine norm_ (a' := ?_) ?_ ?_
            rotate_left
            ·
             show Act.put _ (some 39) _ = _
             simp only [Act.put, List.setIfInBounds_toArray, List.set_cons_zero, List.set_cons_succ, i64_w, i32_w]
             rfl
            refine one_ (i := 4) (N := some 37) #[true, true, true, true, true, true, true, false, true, true, true, false, false] rfl rfl (one_of HT_.out (by kernel_rfl)) (by decide) (fun K hK => ?_)
            refine Kd.R_append_rows_step (Kd.int .i64) (w0 := w) w.heap.size (by rfl) (.tmp 33) (.tmp 36) 25 3 (.int .i64 0) 8 rfl Tryd.underlying25 info3 rfl (by decide) (by omega) v817 y816 y819 _ _ _ (fun k_ => (w.heap.size ≤ k_) ∧ some k_ ≠ (v828 : Value).ownBlock) (fun _ => False) rfl rfl ?aO ?aR (fun _ _ h => h) (fun _ h => h.elim) ?aF ?aB ?aS ?aL ?_
            (case aR => repeat (first | exact (Kd.V_reads' HO823.out).2.2 | (with_reducible refine Kd.C_alloc ?_ _) | (with_reducible refine Kd.C_drewN ?_ _) | (with_reducible refine Kd.C_drew ?_)))
            (case aB => exact (by repeat (first | (with_reducible first | exact HB.out | apply below_alloc | apply pw_below_drewN | apply below_drew1) | exact HB.out)))
            (case aF => exact (fun k_ hk => ⟨(Nat.le_trans (below_size (by repeat (first | (with_reducible first | exact HB.out | apply below_alloc | apply pw_below_drewN | apply below_drew1) | exact HB.out))) hk), Kd.fresh' (Kd.R_lt (by (with_reducible repeat (first | apply Kd.R_alloc | apply Kd.R_drewN | apply Kd.R_drew)); exact HO829.out)) k_ hk⟩))
            (case aO => exact (by (with_reducible repeat (first | apply Kd.R_alloc | apply Kd.R_drewN | apply Kd.R_drew)); exact Kd.R_mono HO818.out (fun _ hk => ⟨hk.1.1, hk.2⟩)))
            (case aS => exact (below_size (by repeat (first | (with_reducible first | exact HB.out | apply below_alloc | apply pw_below_drewN | apply below_drew1) | exact HB.out))))
            (case aL => have := LMc28.out; omega)
            intro v825 w40 ho hb hg hat
            rw [← Ny824.out] at ho
            have n0_ := Aside0.mk (Kd.V_afterv (ok := (fun k_ => (P0_ k_ ∨ w.heap.size ≤ k_) ∧ some k_ ≠ (v828 : Value).ownBlock)) (by (with_reducible repeat (first | apply Kd.V_alloc | apply Kd.V_drewN | apply Kd.V_drew)); exact Kd.V_mono HO_0.out (fun _ hk => ⟨⟨hk.1.1, hk.2⟩, hk.1.2⟩)) hg hat)
            have n1_ := Aside0.mk (Kd.V_afterv (ok := (fun k_ => (P0_ k_ ∨ w.heap.size ≤ k_) ∧ some k_ ≠ (v828 : Value).ownBlock)) (by (with_reducible repeat (first | apply Kd.V_alloc | apply Kd.V_drewN | apply Kd.V_drew)); exact Kd.V_mono HO823.out (fun _ hk => ⟨⟨hk.1.1, hk.2⟩, hk.1.2⟩)) hg hat)
            have n2_ := Aside0.mk (Kd.V_afterv (ok := (fun k_ => (P0_ k_ ∨ w.heap.size ≤ k_) ∧ some k_ ≠ (v828 : Value).ownBlock)) (by (with_reducible repeat (first | apply Kd.V_alloc | apply Kd.V_drewN | apply Kd.V_drew)); exact Kd.V_mono HO837.out (fun _ hk => ⟨⟨hk.1.1, hk.2⟩, hk.1.2⟩)) hg hat)
            have n3_ := Aside0.mk (Kd.R_after (ok := (fun k_ => (w.heap.size ≤ k_))) (by (with_reducible repeat (first | apply Kd.R_alloc | apply Kd.R_drewN | apply Kd.R_drew)); exact Kd.R_mono HO829.out (fun _ hk => ⟨hk.1.1, hk.2⟩)) hg hat)
            have n4_ := Aside0.mk (hb)
            have n5_ := Aside0.mk (ho)
            clear HO_0
            clear HO823
            clear HO837
            clear HO829
            clear HB
            clear HO818
            have HO_0 := n0_
            have HO823 := n1_
            have HO837 := n2_
            have HO829 := n3_
            have HB := n4_
            have HO826 := n5_
            clear n0_ n1_ n2_ n3_ n4_ n5_
            clear ho hb hg hat
            refine hK.out _ _ trivial (fun hHeld => ?_)
            clear hK K
            refine norm_ (a' := ?_) ?_ ?_
            rotate_left
            ·
             show Act.put _ (some 37) _ = _
             simp only [Act.put, List.setIfInBounds_toArray, List.set_cons_zero, List.set_cons_succ, i64_w, i32_w]
             rfl
            exact norm_ (by simp only [putAll, Act.put, List.setIfInBounds_toArray, List.set_cons_zero, List.set_cons_succ]) (hCont (v817, v825, v828) _ ⟨(by (with_reducible repeat (first | apply Kd.V_alloc | apply Kd.V_drewN | apply Kd.V_drew)); exact Kd.V_mono HO823.out (fun _ hk => ⟨hk.1.1, ⟨hk.2, hk.1.2⟩⟩)), (by (with_reducible repeat (first | apply Kd.R_alloc | apply Kd.R_drewN | apply Kd.R_drew)); exact HO826.out), (by (with_reducible repeat (first | apply Kd.R_alloc | apply Kd.R_drewN | apply Kd.R_drew)); exact HO829.out), (by (with_reducible repeat (first | apply Kd.V_alloc | apply Kd.V_drewN | apply Kd.V_drew)); exact Kd.V_mono HO837.out (fun _ hk => ⟨hk.1.1, ⟨hk.2, hk.1.2⟩⟩)), (by (with_reducible repeat (first | apply Kd.V_alloc | apply Kd.V_drewN | apply Kd.V_drew)); exact Kd.V_mono HO_0.out (fun _ hk => ⟨hk.1.1, ⟨hk.2, hk.1.2⟩⟩)), (by repeat (first | (with_reducible first | exact HB.out | apply below_alloc | apply pw_below_drewN | apply below_drew1) | exact HB.out))⟩)
          ·
           skip
           refine Kd.R_lit_step (Kd.int .i64) _ 3 ?hg (N := 39) ?hd (xs := ([a1] : List Int)) (inner := [.int .i64 a1]) (ok := fun _ => True) (okp := fun _ => True) ?hr ?hp (fun _ hk => hk) trivial (Below.refl _ _) (Nat.le_refl _) (by simp) ?_; (case hd => rfl); (case hg => rfl); (case hr => first | (go_simp; done) | (go_simp; rfl)); (case hp => exact (Reps.one (show Kd.M (Kd.int .i64) _ _ _ a1 [.int .i64 a1] from rfl) (Reps.none _ _)))
           intro v828 w36 ho37 hb hg_ hnew_
           clear hg_ hnew_
           (first | rw [← Ny827.out] at ho37 | (simp only [Int.reduceToNat] at ho37; rw [← Ny827.out] at ho37))
           have n0_ := Aside0.mk (Kd.V_elder' (by (with_reducible repeat (first | apply Kd.V_alloc | apply Kd.V_drewN | apply Kd.V_drew)); exact HO_0.out) (Kd.R_base ho37) hb)
           have n1_ := Aside0.mk (Kd.V_elder' (by (with_reducible repeat (first | apply Kd.V_alloc | apply Kd.V_drewN | apply Kd.V_drew)); exact HO823.out) (Kd.R_base ho37) hb)
           have n2_ := Aside0.mk (Kd.V_elder' (by (with_reducible repeat (first | apply Kd.V_alloc | apply Kd.V_drewN | apply Kd.V_drew)); exact HO837.out) (Kd.R_base ho37) hb)
           have n3_ := Aside0.mk (Kd.R_lower (Kd.R_newM (M := fun k_ => (w.heap.size ≤ k_)) ho37 (below_size (by repeat (first | (with_reducible first | exact HB.out | apply below_alloc | apply pw_below_drewN | apply below_drew1) | exact HB.out))) (fun k_ h_ => h_)) (below_size (by repeat (first | (with_reducible first | exact HB.out | apply below_alloc | apply pw_below_drewN | apply below_drew1) | exact HB.out))))
           have n4_ := Aside0.mk (below_step (by repeat (first | (with_reducible first | exact HB.out | apply below_alloc | apply pw_below_drewN | apply below_drew1) | exact HB.out)) hb)
           clear HO_0
           clear HO823
           clear HO837
           clear HB
           have HO_0 := n0_
           have HO823 := n1_
           have HO837 := n2_
           have HO829 := n3_
           have HB := n4_
           clear n0_ n1_ n2_ n3_ n4_
           clear hb ho37
           refine hK.out _ _ trivial (fun hHeld => ?_)
           clear hK K
           refine norm_ (a' := ?_) ?_ ?_
           rotate_left
           ·
            show Act.put _ (some 39) _ = _
            simp only [Act.put, List.setIfInBounds_toArray, List.set_cons_zero, List.set_cons_succ, i64_w, i32_w]
            rfl
           refine one_ (i := 0) (N := some 33) #[true, true, true, true, false, true, true, false, true, true, true, false, false] rfl rfl (one_of HT_.out (by kernel_rfl)) (by decide) (fun K hK => ?_)
           refine Kd.R_lit_step (Kd.int .i64) _ 3 ?hg (N := 33) ?hd (xs := ([] : List Int)) (inner := []) (ok := fun _ => True) (okp := fun _ => True) ?hr ?hp (fun _ hk => hk) trivial (Below.refl _ _) (Nat.le_refl _) (by simp) ?_; (case hd => rfl); (case hg => rfl); (case hr => first | (go_simp; done) | (go_simp; rfl)); (case hp => exact (Reps.none _ _))
           intro v817 w38 ho39 hb hg_ hnew_
           clear hg_ hnew_
           (first | rw [← Ny816.out] at ho39 | (simp only [Int.reduceToNat] at ho39; rw [← Ny816.out] at ho39))
           have n0_ := Aside0.mk (Kd.V_elder' (by (with_reducible repeat (first | apply Kd.V_alloc | apply Kd.V_drewN | apply Kd.V_drew)); exact HO_0.out) (Kd.R_base ho39) hb)
           have n1_ := Aside0.mk (Kd.V_elder' (by (with_reducible repeat (first | apply Kd.V_alloc | apply Kd.V_drewN | apply Kd.V_drew)); exact HO823.out) (Kd.R_base ho39) hb)
           have n2_ := Aside0.mk (Kd.V_elder' (by (with_reducible repeat (first | apply Kd.V_alloc | apply Kd.V_drewN | apply Kd.V_drew)); exact HO837.out) (Kd.R_base ho39) hb)
           have n3_ := Aside0.mk (Kd.R_elder' (by (with_reducible repeat (first | apply Kd.R_alloc | apply Kd.R_drewN | apply Kd.R_drew)); exact HO829.out) (Kd.R_base ho39) hb)
           have n4_ := Aside0.mk (Kd.R_lower (Kd.R_new' (Kd.R_newM (M := fun k_ => (w.heap.size ≤ k_)) ho39 (below_size (by repeat (first | (with_reducible first | exact HB.out | apply below_alloc | apply pw_below_drewN | apply below_drew1) | exact HB.out))) (fun k_ h_ => h_)) (Kd.R_lt (by (with_reducible repeat (first | apply Kd.R_alloc | apply Kd.R_drewN | apply Kd.R_drew)); exact HO829.out))) (below_size (by repeat (first | (with_reducible first | exact HB.out | apply below_alloc | apply pw_below_drewN | apply below_drew1) | exact HB.out))))
           have n5_ := Aside0.mk (below_step (by repeat (first | (with_reducible first | exact HB.out | apply below_alloc | apply pw_below_drewN | apply below_drew1) | exact HB.out)) hb)
           clear HO_0
           clear HO823
           clear HO837
           clear HO829
           clear HB
           have HO_0 := n0_
           have HO823 := n1_
           have HO837 := n2_
           have HO829 := n3_
           have HO818 := n4_
           have HB := n5_
           clear n0_ n1_ n2_ n3_ n4_ n5_
           clear hb ho39
           refine hK.out _ _ trivial (fun hHeld => ?_)
           clear hK K
           refine norm_ (a' := ?_) ?_ ?_
           rotate_left
           ·
            show Act.put _ (some 33) _ = _
            simp only [Act.put, List.setIfInBounds_toArray, List.set_cons_zero, List.set_cons_succ, i64_w, i32_w]
            rfl
           refine one_ (i := 4) (N := some 37) #[true, true, true, true, true, true, true, false, true, true, true, false, false] rfl rfl (one_of HT_.out (by kernel_rfl)) (by decide) (fun K hK => ?_)
           refine Kd.R_append_rows_step (Kd.int .i64) (w0 := w) w.heap.size (by rfl) (.tmp 33) (.tmp 36) 25 3 (.int .i64 0) 8 rfl Tryd.underlying25 info3 rfl (by decide) (by omega) v817 y816 y819 _ _ _ (fun k_ => (w.heap.size ≤ k_) ∧ some k_ ≠ (v828 : Value).ownBlock) (fun _ => False) rfl rfl ?aO ?aR (fun _ _ h => h) (fun _ h => h.elim) ?aF ?aB ?aS ?aL ?_
           (case aR => repeat (first | exact (Kd.V_reads' HO823.out).2.2 | (with_reducible refine Kd.C_alloc ?_ _) | (with_reducible refine Kd.C_drewN ?_ _) | (with_reducible refine Kd.C_drew ?_)))
           (case aB => exact (by repeat (first | (with_reducible first | exact HB.out | apply below_alloc | apply pw_below_drewN | apply below_drew1) | exact HB.out)))
           (case aF => exact (fun k_ hk => ⟨(Nat.le_trans (below_size (by repeat (first | (with_reducible first | exact HB.out | apply below_alloc | apply pw_below_drewN | apply below_drew1) | exact HB.out))) hk), Kd.fresh' (Kd.R_lt (by (with_reducible repeat (first | apply Kd.R_alloc | apply Kd.R_drewN | apply Kd.R_drew)); exact HO829.out)) k_ hk⟩))
           (case aO => exact (by (with_reducible repeat (first | apply Kd.R_alloc | apply Kd.R_drewN | apply Kd.R_drew)); exact Kd.R_mono HO818.out (fun _ hk => ⟨hk.1.1, hk.2⟩)))
           (case aS => exact (below_size (by repeat (first | (with_reducible first | exact HB.out | apply below_alloc | apply pw_below_drewN | apply below_drew1) | exact HB.out))))
           (case aL => have := LMc28.out; omega)
           intro v825 w40 ho hb hg hat
           rw [← Ny824.out] at ho
           have n0_ := Aside0.mk (Kd.V_afterv (ok := (fun k_ => (P0_ k_ ∨ w.heap.size ≤ k_) ∧ some k_ ≠ (v828 : Value).ownBlock)) (by (with_reducible repeat (first | apply Kd.V_alloc | apply Kd.V_drewN | apply Kd.V_drew)); exact HO_0.out) hg hat)
           have n1_ := Aside0.mk (Kd.V_afterv (ok := (fun k_ => (P0_ k_ ∨ w.heap.size ≤ k_) ∧ some k_ ≠ (v828 : Value).ownBlock)) (by (with_reducible repeat (first | apply Kd.V_alloc | apply Kd.V_drewN | apply Kd.V_drew)); exact HO823.out) hg hat)
           have n2_ := Aside0.mk (Kd.V_afterv (ok := (fun k_ => (P0_ k_ ∨ w.heap.size ≤ k_) ∧ some k_ ≠ (v828 : Value).ownBlock)) (by (with_reducible repeat (first | apply Kd.V_alloc | apply Kd.V_drewN | apply Kd.V_drew)); exact HO837.out) hg hat)
           have n3_ := Aside0.mk (Kd.R_after (ok := (fun k_ => (w.heap.size ≤ k_))) (by (with_reducible repeat (first | apply Kd.R_alloc | apply Kd.R_drewN | apply Kd.R_drew)); exact Kd.R_mono HO829.out (fun _ hk => ⟨hk.1.1, hk.2⟩)) hg hat)
           have n4_ := Aside0.mk (hb)
           have n5_ := Aside0.mk (ho)
           clear HO_0
           clear HO823
           clear HO837
           clear HO829
           clear HB
           clear HO818
           have HO_0 := n0_
           have HO823 := n1_
           have HO837 := n2_
           have HO829 := n3_
           have HB := n4_
           have HO826 := n5_
           clear n0_ n1_ n2_ n3_ n4_ n5_
           clear ho hb hg hat
           refine hK.out _ _ trivial (fun hHeld => ?_)
           clear hK K
           refine norm_ (a' := ?_) ?_ ?_
           rotate_left
           ·
            show Act.put _ (some 37) _ = _
            simp only [Act.put, List.setIfInBounds_toArray, List.set_cons_zero, List.set_cons_succ, i64_w, i32_w]
            rfl
           exact norm_ (by simp only [putAll, Act.put, List.setIfInBounds_toArray, List.set_cons_zero, List.set_cons_succ]) (hCont (v817, v825, v828) _ ⟨(by (with_reducible repeat (first | apply Kd.V_alloc | apply Kd.V_drewN | apply Kd.V_drew)); exact Kd.V_mono HO823.out (fun _ hk => ⟨hk.1.1, ⟨hk.2, hk.1.2⟩⟩)), (by (with_reducible repeat (first | apply Kd.R_alloc | apply Kd.R_drewN | apply Kd.R_drew)); exact HO826.out), (by (with_reducible repeat (first | apply Kd.R_alloc | apply Kd.R_drewN | apply Kd.R_drew)); exact HO829.out), (by (with_reducible repeat (first | apply Kd.V_alloc | apply Kd.V_drewN | apply Kd.V_drew)); exact Kd.V_mono HO837.out (fun _ hk => ⟨hk.1.1, ⟨hk.2, hk.1.2⟩⟩)), (by (with_reducible repeat (first | apply Kd.V_alloc | apply Kd.V_drewN | apply Kd.V_drew)); exact Kd.V_mono HO_0.out (fun _ hk => ⟨hk.1.1, ⟨hk.2, hk.1.2⟩⟩)), (by repeat (first | (with_reducible first | exact HB.out | apply below_alloc | apply pw_below_drewN | apply below_drew1) | exact HB.out))⟩)
         rintro ⟨v817, v825, v828⟩ w41 ⟨h0_, h1_, h2_, h3_, h4_, h5_⟩
         have n0_ : Aside0 (Kd.V (Kd.int .i64) 3 w41 w.heap.size (fun k_ => (P0_ k_ ∨ w.heap.size ≤ k_) ∧ some k_ ≠ (v825 : Value).ownBlock ∧ some k_ ≠ (v828 : Value).ownBlock) (.slice A0 y819.length c0) y819) := ⟨h0_⟩
         have n1_ : Aside0 (Kd.R (Kd.int .i64) 3 w41 w.heap.size (fun k_ => (w.heap.size ≤ k_) ∧ some k_ ≠ (v828 : Value).ownBlock) v825 y824) := ⟨h1_⟩
         have n2_ : Aside0 (Kd.R (Kd.int .i64) 3 w41 w.heap.size (fun k_ => (w.heap.size ≤ k_) ∧ some k_ ≠ (v825 : Value).ownBlock) v828 y827) := ⟨h2_⟩
         have n3_ : Aside0 (Kd.V (Kd.int .i64) 3 w41 w.heap.size (fun k_ => (P0_ k_ ∨ w.heap.size ≤ k_) ∧ some k_ ≠ (v825 : Value).ownBlock ∧ some k_ ≠ (v828 : Value).ownBlock) (.slice A35 y833.length c35) y833) := ⟨h3_⟩
         have n4_ : Aside0 (Kd.V (Kd.int .i64) 3 w41 w.heap.size (fun k_ => (P0_ k_ ∨ w.heap.size ≤ k_) ∧ some k_ ≠ (v825 : Value).ownBlock ∧ some k_ ≠ (v828 : Value).ownBlock) (.slice A0 l0.length c0) l0) := ⟨h4_⟩
         have n5_ : Aside0 (Below w.heap.size w w41) := ⟨h5_⟩
         clear HO_0
         clear HB
         clear h0_ h1_ h2_ h3_ h4_ h5_
         have HO823 := n0_
         have HO826 := n1_
         have HO829 := n2_
         have HO837 := n3_
         have HO_0 := n4_
         have HB := n5_
         clear n0_ n1_ n2_ n3_ n4_ n5_
         have hHeld := trivial
         obtain ⟨Ao43, co43, eo43⟩ := Kd.R_slice HO829.out
         (first | subst eo43 | (injection eo43 with f1_ f2_ f3_; have f4_ := f1_.symm; have f5_ := f3_.symm; clear f1_ f2_ f3_; subst f4_; subst f5_))
         refine norm_ (a' := ?_) ?_ ?_
         rotate_left
         ·
          simp only [putAll, Act.put, List.setIfInBounds_toArray, List.set_cons_zero, List.set_cons_succ]
          rfl
         refine one_ (i := 7) (N := some 40) #[true, true, true, true, true, true, true, true, true, true, true, false, false] rfl rfl (one_of HT_.out (by kernel_rfl)) (by decide) (fun K hK => ?_)
         refine Kd.R_append_rows_step (Kd.int .i64) (w0 := w) w.heap.size (by rfl) (.tmp 37) (.tmp 39) 25 3 (.int .i64 0) 8 rfl Tryd.underlying25 info3 rfl (by decide) (by omega) v825 y824 y827 _ _ _ (fun k_ => (w.heap.size ≤ k_) ∧ some k_ ≠ (.slice Ao43 y827.length co43 : Value).ownBlock) (fun _ => False) rfl rfl ?aO ?aR (fun _ _ h => h) (fun _ h => h.elim) ?aF ?aB ?aS ?aL ?_
         (case aR => repeat (first | exact (Kd.R_reads' HO829.out).2.2 | (with_reducible refine Kd.C_alloc ?_ _) | (with_reducible refine Kd.C_drewN ?_ _) | (with_reducible refine Kd.C_drew ?_)))
         (case aB => exact (by repeat (first | (with_reducible first | exact HB.out | apply below_alloc | apply pw_below_drewN | apply below_drew1) | exact HB.out)))
         (case aF => exact (fun k_ hk => ⟨(Nat.le_trans (below_size (by repeat (first | (with_reducible first | exact HB.out | apply below_alloc | apply pw_below_drewN | apply below_drew1) | exact HB.out))) hk), Kd.fresh' (Kd.R_lt (by (with_reducible repeat (first | apply Kd.R_alloc | apply Kd.R_drewN | apply Kd.R_drew)); exact HO829.out)) k_ hk⟩))
         (case aO => exact (by (with_reducible repeat (first | apply Kd.R_alloc | apply Kd.R_drewN | apply Kd.R_drew)); exact HO826.out))
         (case aS => exact (below_size (by repeat (first | (with_reducible first | exact HB.out | apply below_alloc | apply pw_below_drewN | apply below_drew1) | exact HB.out))))
         (case aL => have := LMc29.out; omega)
         intro v831 w42 ho hb hg hat
         rw [← Ny830.out] at ho
         have n0_ := Aside0.mk (Kd.V_afterv (ok := (fun k_ => (P0_ k_ ∨ w.heap.size ≤ k_) ∧ some k_ ≠ (.slice Ao43 y827.length co43 : Value).ownBlock)) (by (with_reducible repeat (first | apply Kd.V_alloc | apply Kd.V_drewN | apply Kd.V_drew)); exact Kd.V_mono HO_0.out (fun _ hk => ⟨⟨hk.1, hk.2.2⟩, hk.2.1⟩)) hg hat)
         have n1_ := Aside0.mk (Kd.V_afterv (ok := (fun k_ => (P0_ k_ ∨ w.heap.size ≤ k_) ∧ some k_ ≠ (.slice Ao43 y827.length co43 : Value).ownBlock)) (by (with_reducible repeat (first | apply Kd.V_alloc | apply Kd.V_drewN | apply Kd.V_drew)); exact Kd.V_mono HO823.out (fun _ hk => ⟨⟨hk.1, hk.2.2⟩, hk.2.1⟩)) hg hat)
         have n2_ := Aside0.mk (Kd.V_afterv (ok := (fun k_ => (P0_ k_ ∨ w.heap.size ≤ k_) ∧ some k_ ≠ (.slice Ao43 y827.length co43 : Value).ownBlock)) (by (with_reducible repeat (first | apply Kd.V_alloc | apply Kd.V_drewN | apply Kd.V_drew)); exact Kd.V_mono HO837.out (fun _ hk => ⟨⟨hk.1, hk.2.2⟩, hk.2.1⟩)) hg hat)
         have n3_ := Aside0.mk (Kd.R_after (ok := (fun k_ => (w.heap.size ≤ k_))) (by (with_reducible repeat (first | apply Kd.R_alloc | apply Kd.R_drewN | apply Kd.R_drew)); exact HO829.out) hg hat)
         have n4_ := Aside0.mk (hb)
         have n5_ := Aside0.mk (ho)
         clear HO_0
         clear HO823
         clear HO837
         clear HO829
         clear HB
         clear HO826
         have HO_0 := n0_
         have HO823 := n1_
         have HO837 := n2_
         have HO829 := n3_
         have HB := n4_
         have HO832 := n5_
         clear n0_ n1_ n2_ n3_ n4_ n5_
         clear ho hb hg hat
         refine hK.out _ _ trivial (fun hHeld => ?_)
         clear hK K
         refine norm_ (a' := ?_) ?_ ?_
         rotate_left
         ·
          show Act.put _ (some 40) _ = _
          simp only [Act.put, List.setIfInBounds_toArray, List.set_cons_zero, List.set_cons_succ, i64_w, i32_w]
          rfl
         refine one_ (i := 11) (N := some 44) #[true, true, true, true, true, true, true, true, true, true, true, true, false] rfl rfl (one_of HT_.out (by kernel_rfl)) (by decide) (fun K hK => ?_)
         refine Kd.R_append_rows_step (Kd.int .i64) (w0 := w) w.heap.size (by rfl) (.tmp 40) (.tmp 43) 25 3 (.int .i64 0) 8 rfl Tryd.underlying25 info3 rfl (by decide) (by omega) v831 y830 y833 _ _ _ (fun k_ => (w.heap.size ≤ k_) ∧ some k_ ≠ (.slice Ao43 y827.length co43 : Value).ownBlock) (fun _ => False) rfl rfl ?aO ?aR (fun _ _ h => h) (fun _ h => h.elim) ?aF ?aB ?aS ?aL ?_
         (case aR => repeat (first | exact (Kd.V_reads' HO837.out).2.2 | (with_reducible refine Kd.C_alloc ?_ _) | (with_reducible refine Kd.C_drewN ?_ _) | (with_reducible refine Kd.C_drew ?_)))
         (case aB => exact (by repeat (first | (with_reducible first | exact HB.out | apply below_alloc | apply pw_below_drewN | apply below_drew1) | exact HB.out)))
         (case aF => exact (fun k_ hk => ⟨(Nat.le_trans (below_size (by repeat (first | (with_reducible first | exact HB.out | apply below_alloc | apply pw_below_drewN | apply below_drew1) | exact HB.out))) hk), Kd.fresh' (Kd.R_lt (by (with_reducible repeat (first | apply Kd.R_alloc | apply Kd.R_drewN | apply Kd.R_drew)); exact HO829.out)) k_ hk⟩))
         (case aO => exact (by (with_reducible repeat (first | apply Kd.R_alloc | apply Kd.R_drewN | apply Kd.R_drew)); exact HO832.out))
         (case aS => exact (below_size (by repeat (first | (with_reducible first | exact HB.out | apply below_alloc | apply pw_below_drewN | apply below_drew1) | exact HB.out))))
         (case aL => have := LMc32.out; omega)
         intro v839 w44 ho hb hg hat
         rw [← Ny838.out] at ho
         have n0_ := Aside0.mk (Kd.V_afterv (ok := (fun k_ => (P0_ k_ ∨ w.heap.size ≤ k_) ∧ some k_ ≠ (.slice Ao43 y827.length co43 : Value).ownBlock)) (by (with_reducible repeat (first | apply Kd.V_alloc | apply Kd.V_drewN | apply Kd.V_drew)); exact HO_0.out) hg hat)
         have n1_ := Aside0.mk (Kd.V_afterv (ok := (fun k_ => (P0_ k_ ∨ w.heap.size ≤ k_) ∧ some k_ ≠ (.slice Ao43 y827.length co43 : Value).ownBlock)) (by (with_reducible repeat (first | apply Kd.V_alloc | apply Kd.V_drewN | apply Kd.V_drew)); exact HO823.out) hg hat)
         have n2_ := Aside0.mk (Kd.V_afterv (ok := (fun k_ => (P0_ k_ ∨ w.heap.size ≤ k_) ∧ some k_ ≠ (.slice Ao43 y827.length co43 : Value).ownBlock)) (by (with_reducible repeat (first | apply Kd.V_alloc | apply Kd.V_drewN | apply Kd.V_drew)); exact HO837.out) hg hat)
         have n3_ := Aside0.mk (Kd.R_after (ok := (fun k_ => (w.heap.size ≤ k_))) (by (with_reducible repeat (first | apply Kd.R_alloc | apply Kd.R_drewN | apply Kd.R_drew)); exact HO829.out) hg hat)
         have n4_ := Aside0.mk (hb)
         have n5_ := Aside0.mk (ho)
         clear HO_0
         clear HO823
         clear HO837
         clear HO829
         clear HB
         clear HO832
         have HO_0 := n0_
         have HO823 := n1_
         have HO837 := n2_
         have HO829 := n3_
         have HB := n4_
         have HO840 := n5_
         clear n0_ n1_ n2_ n3_ n4_ n5_
         clear ho hb hg hat
         refine hK.out _ _ trivial (fun hHeld => ?_)
         clear hK K
         refine norm_ (a' := ?_) ?_ ?_
         rotate_left
         ·
          show Act.put _ (some 44) _ = _
          simp only [Act.put, List.setIfInBounds_toArray, List.set_cons_zero, List.set_cons_succ, i64_w, i32_w]
          rfl
         refine pure_ (i := 12) (N := some 4) (v := ?_) (a' := ?_) #[true, true, true, true, true, true, true, true, true, true, true, true, true] rfl rfl (any_of HT_.out (by kernel_rfl)) (fun _ _ _ h => h) (Or.inl ⟨by rfl, ?_⟩) ?_ ?_
         rotate_left
         ·
          intro w'
          go_simp
          with_reducible rfl
         rotate_left
         ·
          simp only [Act.put, List.setIfInBounds_toArray, List.set_cons_zero, List.set_cons_succ, i64_w, i32_w]
          rfl
         refine done_ (done_of HT_.out (by kernel_rfl)) ?_
         try go_wp2
         go_ret
         exact ⟨_, by first | rfl | (simp [errW_none, errW_some] <;> rfl) | (simp [*, errW_none, errW_some] <;> rfl), Kd.V_mono (Kd.R_V (by (with_reducible repeat (first | apply Kd.R_alloc | apply Kd.R_drewN | apply Kd.R_drew)); exact Kd.R_mono HO840.out (fun _ hk => hk.1))) (fun k_ hk => by first | exact ⟨(.inr (hk.1)), hk.2⟩ | exact (.inr (hk))), by repeat (first | (with_reducible first | exact HB.out | apply below_alloc | apply pw_below_drewN | apply below_drew1) | exact HB.out)⟩
        ·
         rw [if_neg c32] at H
         exact absurd H (by simp)
       ·
        rw [if_neg c29] at H
        exact absurd H (by simp)
      ·
       rw [if_neg c28] at H
       exact absurd H (by simp)
     ·
      rw [if_neg c27] at H
      exact absurd H (by simp)
    ·
     rw [if_neg c26] at H
     exact absurd H (by simp)

def customsref24_Has.l0 : Nat → List Int → Int → Int → Option (Bool)
 | 0, _, _, _ => none
 | k + 1, x0, x1, x5 => if x5 < (x0.length : Int) then (if 0 ≤ x5 then (if (rd x0 x5) = x1 then (some true) else (customsref24_Has.l0 k x0 x1 (wrap64 (x5 + 1)))) else (none)) else (some false)
def customsref24_Has.f (k : Nat) (l0 : List Int) (a1 : Int) : Option (Bool) := customsref24_Has.l0 k l0 a1 0
set_option maxHeartbeats 8000000 in
set_option maxRecDepth 100000 in
theorem customsref24_Has.calls (k : Nat) (A0 : Option Addr) (c0 : Nat) (l0 : List Int) (a1 : Int) (r : Bool) (w : World) (hr0 : Kd.C (Kd.int .i64) w A0 l0.length l0) (hc0 : l0.length ≤ c0) (h : customsref24_Has.f k l0 a1 = some r) :
  Calls Tryd.prog 69 #[.slice A0 l0.length c0, .int .i64 a1] w fun e w' => e = .returned (.bool r) ∧ Drawn0 w w' := by
 have HR0 := Aside0.mk hr0
 have HC0 := Aside0.mk hc0
 clear hr0 hc0
 have H : (customsref24_Has.l0 k l0 a1 0) = some r := h
 clear h
 have H' := Aside0.mk H
 clear H
 go_enter Tryd.func69, Tryd.ntmps69
 go_wp2
 go_loopg [5] k (fun kq v5 w' => ∃ (x5_1 : Int), v5 = .int .i64 x5_1 ∧ Aside0 (customsref24_Has.l0 kq l0 a1 x5_1 = some r) ∧ Aside0 (kq ≤ k) ∧ Drawn0 w w')
 case atStart => exact ⟨(0), (by first | rfl | (simp; done) | (simp [*]; done)), H', ⟨Nat.le_refl _⟩, by repeat (first | exact Drawn0.refl _ | apply Drawn0.step)⟩
 case round =>
  clear H'
  try clear p2
  obtain ⟨x5_1, rfl, HA, HK1, ⟨m1, rfl⟩⟩ := hrel
  cases gk with
  | zero => exact absurd HA.out (by simp [customsref24_Has.l0])
  | succ k1 =>
   have H := HA.out
   clear HA
   simp only [customsref24_Has.l0] at H
   by_cases c3 : x5_1 < (l0.length : Int)
   ·
    rw [if_pos c3] at H
    have c3b0 : decide (x5_1 < (l0.length : Int)) = true := decide_eq_true c3
    clear c3
    by_cases c4 : 0 ≤ x5_1
    ·
     rw [if_pos c4] at H
     have c4b0 : decide (0 ≤ x5_1) = true := decide_eq_true c4
     clear c4
     by_cases c5 : (rd l0 x5_1) = a1
     ·
      rw [if_pos c5] at H
      have c5b0 : ((rd l0 x5_1) == a1) = true := beq_iff_eq.mpr c5
      have c5b1 : ((rd l0 x5_1) != a1) = false := bne_eq_false_iff_eq.mpr c5
      clear c5
      obtain rfl := Option.some.inj H
      have p841 : 0 ≤ (x5_1 : Int) := of_decide_eq_true (by first | (with_reducible assumption) | assumption)
      have q841 : x5_1 < (l0.length : Int) := of_decide_eq_true (by first | (with_reducible assumption) | assumption)
      obtain ⟨ad841, e841, hx841_0⟩ := Kd.at_int HR0.out x5_1 p841 q841
      cases e841
      replace p841 := eq_true p841
      replace q841 := eq_true q841
      go_wp2
      go_ret
      exact ⟨by first | rfl | (simp; done) | (simp [*]; done), by repeat (first | exact Drawn0.refl _ | apply Drawn0.step)⟩
     ·
      rw [if_neg c5] at H
      have c5b0 : ((rd l0 x5_1) == a1) = false := beq_eq_false_iff_ne.mpr c5
      have c5b1 : ((rd l0 x5_1) != a1) = true := bne_iff_ne.mpr c5
      have H' := Aside0.mk H
      clear H
      have p841 : 0 ≤ (x5_1 : Int) := of_decide_eq_true (by first | (with_reducible assumption) | assumption)
      have q841 : x5_1 < (l0.length : Int) := of_decide_eq_true (by first | (with_reducible assumption) | assumption)
      obtain ⟨ad841, e841, hx841_0⟩ := Kd.at_int HR0.out x5_1 p841 q841
      cases e841
      replace p841 := eq_true p841
      replace q841 := eq_true q841
      go_wp2
      go_roundg k1
      case measure => have := HK1.out; omega
      case rel => exact ⟨(wrap64 (x5_1 + 1)), (by first | rfl | (simp; done) | (simp [*]; done)), H', ⟨by have := HK1.out; omega⟩, by repeat (first | exact Drawn0.refl _ | apply Drawn0.step)⟩
    ·
     rw [if_neg c4] at H
     exact absurd H (by simp)
   ·
    rw [if_neg c3] at H
    have c3b0 : decide (x5_1 < (l0.length : Int)) = false := decide_eq_false c3
    clear c3
    obtain rfl := Option.some.inj H
    go_wp2
    go_ret
    exact ⟨by first | rfl | (simp; done) | (simp [*]; done), by repeat (first | exact Drawn0.refl _ | apply Drawn0.step)⟩

def customsref33_less.l0 : Nat → List Int → List Int → List Int → Int → Option (List Int)
 | 0, _, _, _, _ => none
 | k + 1, x0, x1, x5, x6 => if x6 < (x0.length : Int) then (if 0 ≤ x6 then ((customsref24_Has.f k x1 (rd x0 x6)).bind fun t843 => (if t843 = true then (customsref33_less.l0 k x0 x1 x5 (wrap64 (x6 + 1))) else ((customsref27_Rise.f k x5 (rd x0 x6)).bind fun t845 => (customsref33_less.l0 k x0 x1 t845 (wrap64 (x6 + 1)))))) else (none)) else (some x5)
def customsref33_less.f (k : Nat) (l0 : List Int) (l1 : List Int) : Option (List Int) := customsref33_less.l0 k l0 l1 ([] : List Int) 0
set_option maxHeartbeats 8000000 in
set_option maxRecDepth 100000 in
theorem customsref33_less.calls (k : Nat) (A0 : Option Addr) (c0 : Nat) (l0 : List Int) (A1 : Option Addr) (c1 : Nat) (l1 : List Int) (r : List Int) (w : World) (hr0 : Kd.C (Kd.int .i64) w A0 l0.length l0) (hc0 : l0.length ≤ c0) (hr1 : Kd.C (Kd.int .i64) w A1 l1.length l1) (hc1 : l1.length ≤ c1) (h : customsref33_less.f k l0 l1 = some r) :
  Calls Tryd.prog 57 #[.slice A0 l0.length c0, .slice A1 l1.length c1] w fun e w' => ∃ v0_ : Value, e = .returned (v0_) ∧ Kd.V (Kd.int .i64) 3 w' w.heap.size (fun k_ => (w.heap.size ≤ k_)) v0_ r ∧ Below w.heap.size w w' := by
 have HR0 := Aside0.mk hr0
 have HC0 := Aside0.mk hc0
 clear hr0 hc0
 have HR1 := Aside0.mk hr1
 have HC1 := Aside0.mk hc1
 clear hr1 hc1
 have HB := Aside0.mk (Below.refl w.heap.size w)
 have H : (customsref33_less.l0 k l0 l1 ([] : List Int) 0) = some r := h
 clear h
 have H' := Aside0.mk H
 clear H
 go_enter Tryd.func57, Tryd.ntmps57
 go_wp2
 go_loopg [5, 6] k (fun kq v5 v6 w' => ∃ (x5_1 : List Int) (x6_1 : Int), v6 = .int .i64 x6_1 ∧ Aside0 (customsref33_less.l0 kq l0 l1 x5_1 x6_1 = some r) ∧ Aside0 (kq ≤ k) ∧ Aside0 (Kd.V (Kd.int .i64) 3 w' w.heap.size (fun k_ => (w.heap.size ≤ k_)) v5 x5_1) ∧ Aside0 (Below w.heap.size w w'))
 case atStart => exact ⟨(([] : List Int)), (0), (by first | rfl | (simp; done) | (simp [*]; done)), H', ⟨Nat.le_refl _⟩, ⟨by first | exact Kd.R_nil _ _ _ _ _ | exact Kd.N_nil _ _ _ _ _ | exact Kd.V_nil _ _ _ _ _ | exact Kd.Q_nil _ _ _ _ _ | exact Kd.S_nil _ _ _ _ _⟩, ⟨by repeat (first | (with_reducible first | exact HB.out | apply below_alloc | apply pw_below_drewN | apply below_drew1) | exact HB.out)⟩⟩
 case round =>
  clear H'
  try clear c1
  try clear p2
  obtain ⟨x5_1, x6_1, rfl, HA, HK1, HO_5, HB⟩ := hrel
  cases gk with
  | zero => exact absurd HA.out (by simp [customsref33_less.l0])
  | succ k1 =>
   have H := HA.out
   clear HA
   simp only [customsref33_less.l0] at H
   by_cases c3 : x6_1 < (l0.length : Int)
   ·
    rw [if_pos c3] at H
    have c3b0 : decide (x6_1 < (l0.length : Int)) = true := decide_eq_true c3
    clear c3
    by_cases c4 : 0 ≤ x6_1
    ·
     rw [if_pos c4] at H
     have c4b0 : decide (0 ≤ x6_1) = true := decide_eq_true c4
     clear c4
     replace H := Option.bind_eq_some_iff.mp H
     obtain ⟨t843, A50, H⟩ := H
     replace H : (if t843 = true then (customsref33_less.l0 k1 l0 l1 x5_1 (wrap64 (x6_1 + 1))) else ((customsref27_Rise.f k1 x5_1 (rd l0 x6_1)).bind fun t845 => (customsref33_less.l0 k1 l0 l1 t845 (wrap64 (x6_1 + 1))))) = some r := H
     have A5 := Aside0.mk A50
     clear A50
     by_cases c6 : t843 = true
     ·
      subst c6
      have H1 : (customsref33_less.l0 k1 l0 l1 x5_1 (wrap64 (x6_1 + 1))) = some r := by rw [if_pos rfl] at H; exact H
      clear H
      have H := H1
      clear H1
      have H' := Aside0.mk H
      clear H
      have p842 : 0 ≤ (x6_1 : Int) := of_decide_eq_true (by first | (with_reducible assumption) | assumption)
      have q842 : x6_1 < (l0.length : Int) := of_decide_eq_true (by first | (with_reducible assumption) | assumption)
      obtain ⟨ad842, e842, hx842_0⟩ := Kd.at_int HR0.out x6_1 p842 q842
      cases e842
      replace hx842_0 := (HB.out.cell (World.block_lt_of_cell? w _ hx842_0)).trans hx842_0
      replace p842 := eq_true p842
      replace q842 := eq_true q842
      go_wp2_with (first | ((with_reducible refine gate_callee (f := 69) rfl ?_); refine goesL_ (some 18) rfl rfl Tryd.func69 (by kernel_rfl) rfl #[.slice A1 l1.length c1, .int .i64 (rd l0 x6_1)] rfl (by (try simp only [List.map_toArray, List.map_cons, List.map_nil]); first | done | rfl | (simp only [List.length_drop, List.length_take]; rfl)) ?_; (with_reducible refine (customsref24_Has.calls k1 _ _ l1 (rd l0 x6_1) true _ ?side1 ?side2 A5.out).mono ?_); (case side1 => repeat (first | exact (Kd.C_below HR1.out HB.out) | (with_reducible refine Kd.C_alloc ?_ _) | (with_reducible refine Kd.C_drewN ?_ _) | (with_reducible refine Kd.C_drew ?_))); (case side2 => exact HC1.out); rintro e w' ⟨rfl, ⟨nd, rfl⟩⟩; refine ⟨_, rfl, ?_⟩))
      go_roundg k1
      case measure => have := HK1.out; omega
      case rel => exact ⟨(x5_1), (wrap64 (x6_1 + 1)), (by first | rfl | (simp; done) | (simp [*]; done)), H', ⟨by have := HK1.out; omega⟩, ⟨by (with_reducible repeat (first | apply Kd.V_alloc | apply Kd.V_drewN | apply Kd.V_drew)); exact HO_5.out⟩, ⟨by repeat (first | (with_reducible first | exact HB.out | apply below_alloc | apply pw_below_drewN | apply below_drew1) | exact HB.out)⟩⟩
     ·
      replace c6 := Bool.eq_false_iff.mpr c6
      subst c6
      have H1 : ((customsref27_Rise.f k1 x5_1 (rd l0 x6_1)).bind fun t845 => (customsref33_less.l0 k1 l0 l1 t845 (wrap64 (x6_1 + 1)))) = some r := by rw [if_neg (show ¬ (false = true) by decide)] at H; exact H
      clear H
      have H := H1
      clear H1
      replace H := Option.bind_eq_some_iff.mp H
      obtain ⟨t845, A70, H⟩ := H
      replace H : (customsref33_less.l0 k1 l0 l1 t845 (wrap64 (x6_1 + 1))) = some r := H
      have A7 := Aside0.mk A70
      clear A70
      have H' := Aside0.mk H
      clear H
      have p842 : 0 ≤ (x6_1 : Int) := of_decide_eq_true (by first | (with_reducible assumption) | assumption)
      have q842 : x6_1 < (l0.length : Int) := of_decide_eq_true (by first | (with_reducible assumption) | assumption)
      obtain ⟨ad842, e842, hx842_0⟩ := Kd.at_int HR0.out x6_1 p842 q842
      cases e842
      replace hx842_0 := (HB.out.cell (World.block_lt_of_cell? w _ hx842_0)).trans hx842_0
      replace p842 := eq_true p842
      replace q842 := eq_true q842
      go_wp2_with (first | ((with_reducible refine gate_callee (f := 69) rfl ?_); refine goesL_ (some 18) rfl rfl Tryd.func69 (by kernel_rfl) rfl #[.slice A1 l1.length c1, .int .i64 (rd l0 x6_1)] rfl (by (try simp only [List.map_toArray, List.map_cons, List.map_nil]); first | done | rfl | (simp only [List.length_drop, List.length_take]; rfl)) ?_; (with_reducible refine (customsref24_Has.calls k1 _ _ l1 (rd l0 x6_1) false _ ?side1 ?side2 A5.out).mono ?_); (case side1 => repeat (first | exact (Kd.C_below HR1.out HB.out) | (with_reducible refine Kd.C_alloc ?_ _) | (with_reducible refine Kd.C_drewN ?_ _) | (with_reducible refine Kd.C_drew ?_))); (case side2 => exact HC1.out); rintro e w' ⟨rfl, ⟨nd, rfl⟩⟩; refine ⟨_, rfl, ?_⟩; have p844 : 0 ≤ (x6_1 : Int) := of_decide_eq_true (by first | (with_reducible assumption) | assumption); have q844 : x6_1 < (l0.length : Int) := of_decide_eq_true (by first | (with_reducible assumption) | assumption); obtain ⟨ad844, e844, hx844_0⟩ := Kd.at_int HR0.out x6_1 p844 q844; obtain rfl : ad842 = ad844 := (by injection e844); replace hx844_0 := (HB.out.cell (World.block_lt_of_cell? w _ hx844_0)).trans hx844_0; replace p844 := eq_true p844; replace q844 := eq_true q844; obtain ⟨Ao8, co8, eo8⟩ := Kd.V_slice HO_5.out; subst eo8) | ((with_reducible refine gate_callee (f := 59) rfl ?_); refine goesL_ (some 25) rfl rfl Tryd.func59 (by kernel_rfl) rfl #[.slice Ao8 x5_1.length co8, .int .i64 (rd l0 x6_1)] rfl (by (try simp only [List.map_toArray, List.map_cons, List.map_nil]); first | done | rfl | (simp only [List.length_drop, List.length_take]; rfl)) ?_; (with_reducible refine (customsref27_Rise.calls k1 (fun k_ => (w.heap.size ≤ k_)) _ _ x5_1 (rd l0 x6_1) t845 _ ?side1 A7.out).mono ?_); (case side1 => exact HO_5.out); rintro e w9 ⟨v846, rfl, ho0, hb⟩; refine ⟨_, rfl, ?_⟩; have n0_ := Aside0.mk (Kd.V_below (by (with_reducible repeat (first | apply Kd.V_alloc | apply Kd.V_drewN | apply Kd.V_drew)); exact HO_5.out) hb); have n1_ := Aside0.mk (Kd.V_lower (Kd.V_mono (ok' := fun k_ => (w.heap.size ≤ k_)) ho0 (fun k_ hk_ => Or.elim hk_ (fun hs_ => hs_) (fun hn_ => (Nat.le_trans (below_size (by repeat (first | (with_reducible first | exact HB.out | apply below_alloc | apply pw_below_drewN | apply below_drew1) | exact HB.out))) hn_)))) (below_size (by repeat (first | (with_reducible first | exact HB.out | apply below_alloc | apply pw_below_drewN | apply below_drew1) | exact HB.out)))); have n2_ := Aside0.mk (below_step (by repeat (first | (with_reducible first | exact HB.out | apply below_alloc | apply pw_below_drewN | apply below_drew1) | exact HB.out)) hb); clear HO_5; clear HB; have HO_5 := n0_; have HO847 := n1_; have HB := n2_; clear n0_ n1_ n2_; (try clear hb); (try clear hb2); (try clear hk); (try clear hi); (try clear ho0)))
      go_roundg k1
      case measure => have := HK1.out; omega
      case rel => exact ⟨(t845), (wrap64 (x6_1 + 1)), (by first | rfl | (simp; done) | (simp [*]; done)), H', ⟨by have := HK1.out; omega⟩, ⟨by (with_reducible repeat (first | apply Kd.V_alloc | apply Kd.V_drewN | apply Kd.V_drew)); exact HO847.out⟩, ⟨by repeat (first | (with_reducible first | exact HB.out | apply below_alloc | apply pw_below_drewN | apply below_drew1) | exact HB.out)⟩⟩
    ·
     rw [if_neg c4] at H
     exact absurd H (by simp)
   ·
    rw [if_neg c3] at H
    have c3b0 : decide (x6_1 < (l0.length : Int)) = false := decide_eq_false c3
    clear c3
    obtain rfl := Option.some.inj H
    go_wp2
    go_ret
    exact ⟨_, by first | rfl | (simp [errW_none, errW_some] <;> rfl) | (simp [*, errW_none, errW_some] <;> rfl), by (with_reducible repeat (first | apply Kd.V_alloc | apply Kd.V_drewN | apply Kd.V_drew)); exact HO_5.out, by repeat (first | (with_reducible first | exact HB.out | apply below_alloc | apply pw_below_drewN | apply below_drew1) | exact HB.out)⟩

def customsref33_Compare.f (k : Nat) (l0 : List Int) (l1 : List Int) : Option (List Int × List Int) := (customsref33_less.f k l0 l1).bind fun t848 => ((customsref33_less.f k l1 l0).bind fun t851 => (some (t848, t851)))
set_option maxHeartbeats 8000000 in
set_option maxRecDepth 100000 in
theorem customsref33_Compare.calls (k : Nat) (A0 : Option Addr) (c0 : Nat) (l0 : List Int) (A1 : Option Addr) (c1 : Nat) (l1 : List Int) (r1 : List Int) (r2 : List Int) (w : World) (hr0 : Kd.C (Kd.int .i64) w A0 l0.length l0) (hc0 : l0.length ≤ c0) (hr1 : Kd.C (Kd.int .i64) w A1 l1.length l1) (hc1 : l1.length ≤ c1) (h : customsref33_Compare.f k l0 l1 = some (r1, r2)) :
  Calls Tryd.prog 21 #[.slice A0 l0.length c0, .slice A1 l1.length c1] w fun e w' => ∃ v0_ v1_ : Value, e = .returned (.tuple #[v0_, v1_]) ∧ Kd.V (Kd.int .i64) 3 w' w.heap.size (fun k_ => (w.heap.size ≤ k_)) v0_ r1 ∧ Kd.V (Kd.int .i64) 3 w' w.heap.size (fun k_ => (w.heap.size ≤ k_)) v1_ r2 ∧ Below w.heap.size w w' := by
 have HR0 := Aside0.mk hr0
 have HC0 := Aside0.mk hc0
 clear hr0 hc0
 have HR1 := Aside0.mk hr1
 have HC1 := Aside0.mk hc1
 clear hr1 hc1
 have HB := Aside0.mk (Below.refl w.heap.size w)
 have H : ((customsref33_less.f k l0 l1).bind fun t848 => ((customsref33_less.f k l1 l0).bind fun t851 => (some (t848, t851)))) = some (r1, r2) := h
 clear h
 replace H := Option.bind_eq_some_iff.mp H
 obtain ⟨t848, A30, H⟩ := H
 replace H : ((customsref33_less.f k l1 l0).bind fun t851 => (some (t848, t851))) = some (r1, r2) := H
 have A3 := Aside0.mk A30
 clear A30
 replace H := Option.bind_eq_some_iff.mp H
 obtain ⟨t851, A40, H⟩ := H
 replace H : (some (t848, t851)) = some (r1, r2) := H
 have A4 := Aside0.mk A40
 clear A40
 simp only [Option.some.injEq, Prod.mk.injEq] at H
 obtain ⟨rfl, rfl⟩ := H
 go_enter Tryd.func21, Tryd.ntmps21
 go_wp2_with (first | ((with_reducible refine gate_callee (f := 57) rfl ?_); refine goesL_ (some 8) rfl rfl Tryd.func57 (by kernel_rfl) rfl #[.slice A0 l0.length c0, .slice A1 l1.length c1] rfl (by (try simp only [List.map_toArray, List.map_cons, List.map_nil]); first | done | rfl | (simp only [List.length_drop, List.length_take]; rfl)) ?_; (with_reducible refine (customsref33_less.calls k _ _ l0 _ _ l1 t848 _ ?side1 ?side2 ?side3 ?side4 A3.out).mono ?_); (case side1 => repeat (first | exact HR0.out | (with_reducible refine Kd.C_alloc ?_ _) | (with_reducible refine Kd.C_drewN ?_ _) | (with_reducible refine Kd.C_drew ?_))); (case side2 => exact HC0.out); (case side3 => repeat (first | exact HR1.out | (with_reducible refine Kd.C_alloc ?_ _) | (with_reducible refine Kd.C_drewN ?_ _) | (with_reducible refine Kd.C_drew ?_))); (case side4 => exact HC1.out); rintro e w5 ⟨v849, rfl, ho0, hb⟩; refine ⟨_, rfl, ?_⟩; have n0_ := Aside0.mk (Kd.V_lower (Kd.V_mono (ok' := fun k_ => (w.heap.size ≤ k_)) ho0 (fun k_ hk_ => (Nat.le_trans (below_size (by repeat (first | (with_reducible first | exact HB.out | apply below_alloc | apply pw_below_drewN | apply below_drew1) | exact HB.out))) hk_))) (below_size (by repeat (first | (with_reducible first | exact HB.out | apply below_alloc | apply pw_below_drewN | apply below_drew1) | exact HB.out)))); have n1_ := Aside0.mk (below_step (by repeat (first | (with_reducible first | exact HB.out | apply below_alloc | apply pw_below_drewN | apply below_drew1) | exact HB.out)) hb); clear HB; have HO850 := n0_; have HB := n1_; clear n0_ n1_; (try clear hb); (try clear hb2); (try clear hk); (try clear hi); (try clear ho0)) | ((with_reducible refine gate_callee (f := 57) rfl ?_); refine goesL_ (some 11) rfl rfl Tryd.func57 (by kernel_rfl) rfl #[.slice A1 l1.length c1, .slice A0 l0.length c0] rfl (by (try simp only [List.map_toArray, List.map_cons, List.map_nil]); first | done | rfl | (simp only [List.length_drop, List.length_take]; rfl)) ?_; (with_reducible refine (customsref33_less.calls k _ _ l1 _ _ l0 t851 _ ?side1 ?side2 ?side3 ?side4 A4.out).mono ?_); (case side1 => repeat (first | exact (Kd.C_below HR1.out HB.out) | (with_reducible refine Kd.C_alloc ?_ _) | (with_reducible refine Kd.C_drewN ?_ _) | (with_reducible refine Kd.C_drew ?_))); (case side2 => exact HC1.out); (case side3 => repeat (first | exact (Kd.C_below HR0.out HB.out) | (with_reducible refine Kd.C_alloc ?_ _) | (with_reducible refine Kd.C_drewN ?_ _) | (with_reducible refine Kd.C_drew ?_))); (case side4 => exact HC0.out); rintro e w6 ⟨v852, rfl, ho0, hb⟩; refine ⟨_, rfl, ?_⟩; have n0_ := Aside0.mk (Kd.V_below (by (with_reducible repeat (first | apply Kd.V_alloc | apply Kd.V_drewN | apply Kd.V_drew)); exact HO850.out) hb); have n1_ := Aside0.mk (Kd.V_lower (Kd.V_mono (ok' := fun k_ => (w.heap.size ≤ k_)) ho0 (fun k_ hk_ => (Nat.le_trans (below_size (by repeat (first | (with_reducible first | exact HB.out | apply below_alloc | apply pw_below_drewN | apply below_drew1) | exact HB.out))) hk_))) (below_size (by repeat (first | (with_reducible first | exact HB.out | apply below_alloc | apply pw_below_drewN | apply below_drew1) | exact HB.out)))); have n2_ := Aside0.mk (below_step (by repeat (first | (with_reducible first | exact HB.out | apply below_alloc | apply pw_below_drewN | apply below_drew1) | exact HB.out)) hb); clear HO850; clear HB; have HO850 := n0_; have HO853 := n1_; have HB := n2_; clear n0_ n1_ n2_; (try clear hb); (try clear hb2); (try clear hk); (try clear hi); (try clear ho0)))
 go_ret2
 exact ⟨_, _, by first | rfl | (simp [errW_none, errW_some] <;> rfl) | (simp [*, errW_none, errW_some] <;> rfl), by (with_reducible repeat (first | apply Kd.V_alloc | apply Kd.V_drewN | apply Kd.V_drew)); exact HO850.out, by (with_reducible repeat (first | apply Kd.V_alloc | apply Kd.V_drewN | apply Kd.V_drew)); exact HO853.out, by repeat (first | (with_reducible first | exact HB.out | apply below_alloc | apply pw_below_drewN | apply below_drew1) | exact HB.out)⟩

mutual
def customsref33_Seals.l0 : Nat → List Int → Int → List (S53) → List Int → Int → Option (List Int)
 | 0, _, _, _, _, _ => none
 | k + 1, x0, x1, x2, x7, x9 => if x9 < (x0.length : Int) then (if 0 ≤ x9 then ((customsref27_Rise.f k x7 (rd x0 x9)).bind fun t855 => (customsref33_Seals.l0 k x0 x1 x2 t855 (wrap64 (x9 + 1)))) else (none)) else (customsref33_Seals.l1 k x1 x2 x7 0)
def customsref33_Seals.l1 : Nat → Int → List (S53) → List Int → Int → Option (List Int)
 | 0, _, _, _, _ => none
 | k + 1, x1, x2, x7, x10 => if x10 < (x2.length : Int) then (if 0 ≤ x10 then (if ((rd_T53 x2 x10).f2) = x1 then ((customsref27_Rise.f k x7 ((rd_T53 x2 x10).f4)).bind fun t860 => (customsref33_Seals.l1 k x1 x2 t860 (wrap64 (x10 + 1)))) else (customsref33_Seals.l1 k x1 x2 x7 (wrap64 (x10 + 1)))) else (none)) else (customsref33_Seals.l2 k x1 x2 x7 ([] : List Int) 0)
def customsref33_Seals.l2 : Nat → Int → List (S53) → List Int → List Int → Int → Option (List Int)
 | 0, _, _, _, _, _ => none
 | k + 1, x1, x2, x7, x8, x11 => if x11 < (x7.length : Int) then (if 0 ≤ x11 then (customsref33_Seals.l3 k x1 x2 x7 x8 x11 (decide ((rd x7 x11) < 1)) 0) else (none)) else (some x8)
def customsref33_Seals.l3 : Nat → Int → List (S53) → List Int → List Int → Int → Bool → Int → Option (List Int)
 | 0, _, _, _, _, _, _, _ => none
 | k + 1, x1, x2, x7, x8, x11, x12, x13 => if x13 < (x2.length : Int) then (if x12 = true then (customsref33_Seals.l3 k x1 x2 x7 x8 x11 true (wrap64 (x13 + 1))) else (if 0 ≤ x13 then (if ((rd_T53 x2 x13).f2) = x1 then (if 0 ≤ x11 then (if x11 < (x7.length : Int) then (customsref33_Seals.l3 k x1 x2 x7 x8 x11 (((rd_T53 x2 x13).f3) == (rd x7 x11)) (wrap64 (x13 + 1))) else (none)) else (none)) else (customsref33_Seals.l3 k x1 x2 x7 x8 x11 false (wrap64 (x13 + 1)))) else (none))) else (if x12 = true then (customsref33_Seals.l2 k x1 x2 x7 x8 (wrap64 (x11 + 1))) else (if 0 ≤ x11 then (if x11 < (x7.length : Int) then (if x8.length < 17592186044416 then (customsref33_Seals.l2 k x1 x2 x7 (x8 ++ [rd x7 x11]) (wrap64 (x11 + 1))) else (none)) else (none)) else (none)))
end
def customsref33_Seals.f (k : Nat) (l0 : List Int) (a1 : Int) (l2 : List (S53)) : Option (List Int) := customsref33_Seals.l0 k l0 a1 l2 ([] : List Int) 0
set_option maxHeartbeats 8000000 in
set_option maxRecDepth 100000 in
theorem customsref33_Seals.calls (k : Nat) (A0 : Option Addr) (c0 : Nat) (l0 : List Int) (a1 : Int) (A2 : Option Addr) (c2 : Nat) (l2 : List (S53)) (r : List Int) (w : World) (hr0 : Kd.C (Kd.int .i64) w A0 l0.length l0) (hc0 : l0.length ≤ c0) (hr2 : Kd.C k53 w A2 l2.length l2) (hc2 : l2.length ≤ c2) (h : customsref33_Seals.f k l0 a1 l2 = some r) :
  Calls Tryd.prog 24 #[.slice A0 l0.length c0, .int .i64 a1, .slice A2 l2.length c2] w fun e w' => ∃ v0_ : Value, e = .returned (v0_) ∧ Kd.R (Kd.int .i64) 3 w' w.heap.size (fun _ => True) v0_ r ∧ Below w.heap.size w w' := by
 have HR0 := Aside0.mk hr0
 have HC0 := Aside0.mk hc0
 clear hr0 hc0
 have HR2 := Aside0.mk hr2
 have HC2 := Aside0.mk hc2
 clear hr2 hc2
 have HB := Aside0.mk (Below.refl w.heap.size w)
 have H : (customsref33_Seals.l0 k l0 a1 l2 ([] : List Int) 0) = some r := h
 clear h
 have H' := Aside0.mk H
 clear H
 go_enter Tryd.func24, Tryd.ntmps24
 go_wp2
 repeat (go_quiet (fail); try go_wp2)
 go_loopg [7, 9] k (fun kq v7 v9 w' => ∃ (x7_1 : List Int) (x9_1 : Int), v9 = .int .i64 x9_1 ∧ Aside0 (customsref33_Seals.l0 kq l0 a1 l2 x7_1 x9_1 = some r) ∧ Aside0 (kq ≤ k) ∧ Aside0 (Kd.V (Kd.int .i64) 3 w' w.heap.size (fun _ => True) v7 x7_1) ∧ Aside0 (Below w.heap.size w w'))
 case atStart => exact ⟨(([] : List Int)), (0), (by first | rfl | (simp; done) | (simp [*]; done)), H', ⟨Nat.le_refl _⟩, ⟨by first | exact Kd.R_nil _ _ _ _ _ | exact Kd.N_nil _ _ _ _ _ | exact Kd.V_nil _ _ _ _ _ | exact Kd.Q_nil _ _ _ _ _ | exact Kd.S_nil _ _ _ _ _⟩, ⟨by repeat (first | (with_reducible first | exact HB.out | apply below_alloc | apply pw_below_drewN | apply below_drew1) | exact HB.out)⟩⟩
 case round =>
  clear H'
  try clear c2
  try clear p2
  obtain ⟨x7_1, x9_1, rfl, HA, HK1, HO_7, HB⟩ := hrel
  cases gk with
  | zero => exact absurd HA.out (by simp [customsref33_Seals.l0])
  | succ k1 =>
   have H := HA.out
   clear HA
   simp only [customsref33_Seals.l0] at H
   by_cases c4 : x9_1 < (l0.length : Int)
   ·
    rw [if_pos c4] at H
    have c4b0 : decide (x9_1 < (l0.length : Int)) = true := decide_eq_true c4
    clear c4
    by_cases c5 : 0 ≤ x9_1
    ·
     rw [if_pos c5] at H
     have c5b0 : decide (0 ≤ x9_1) = true := decide_eq_true c5
     clear c5
     replace H := Option.bind_eq_some_iff.mp H
     obtain ⟨t855, A60, H⟩ := H
     replace H : (customsref33_Seals.l0 k1 l0 a1 l2 t855 (wrap64 (x9_1 + 1))) = some r := H
     have A6 := Aside0.mk A60
     clear A60
     have H' := Aside0.mk H
     clear H
     have p854 : 0 ≤ (x9_1 : Int) := of_decide_eq_true (by first | (with_reducible assumption) | assumption)
     have q854 : x9_1 < (l0.length : Int) := of_decide_eq_true (by first | (with_reducible assumption) | assumption)
     obtain ⟨ad854, e854, hx854_0⟩ := Kd.at_int HR0.out x9_1 p854 q854
     cases e854
     replace hx854_0 := (HB.out.cell (World.block_lt_of_cell? w _ hx854_0)).trans hx854_0
     replace p854 := eq_true p854
     replace q854 := eq_true q854
     obtain ⟨Ao7, co7, eo7⟩ := Kd.V_slice HO_7.out
     subst eo7
     go_wp2_with (first | (go_at_call 59; (with_reducible refine (customsref27_Rise.calls k1 (fun k_ => True) _ _ x7_1 (rd l0 x9_1) t855 _ ?side1 A6.out).mono ?_); (case side1 => exact HO_7.out); rintro e w8 ⟨v856, rfl, ho0, hb⟩; have n0_ := Aside0.mk (Kd.V_below (by (with_reducible repeat (first | apply Kd.V_alloc | apply Kd.V_drewN | apply Kd.V_drew)); exact HO_7.out) hb); have n1_ := Aside0.mk (Kd.V_lower (Kd.V_mono (ok' := fun k_ => True) ho0 (fun k_ hk_ => trivial)) (below_size (by repeat (first | (with_reducible first | exact HB.out | apply below_alloc | apply pw_below_drewN | apply below_drew1) | exact HB.out)))); have n2_ := Aside0.mk (below_step (by repeat (first | (with_reducible first | exact HB.out | apply below_alloc | apply pw_below_drewN | apply below_drew1) | exact HB.out)) hb); clear HO_7; clear HB; have HO_7 := n0_; have HO857 := n1_; have HB := n2_; clear n0_ n1_ n2_; (try clear hb); (try clear hb2); (try clear hk); (try clear hi); (try clear ho0)))
     repeat (go_quiet (first | (go_at_call 59; (with_reducible refine (customsref27_Rise.calls k1 (fun k_ => True) _ _ x7_1 (rd l0 x9_1) t855 _ ?side1 A6.out).mono ?_); (case side1 => exact HO_7.out); rintro e w8 ⟨v856, rfl, ho0, hb⟩; have n0_ := Aside0.mk (Kd.V_below (by (with_reducible repeat (first | apply Kd.V_alloc | apply Kd.V_drewN | apply Kd.V_drew)); exact HO_7.out) hb); have n1_ := Aside0.mk (Kd.V_lower (Kd.V_mono (ok' := fun k_ => True) ho0 (fun k_ hk_ => trivial)) (below_size (by repeat (first | (with_reducible first | exact HB.out | apply below_alloc | apply pw_below_drewN | apply below_drew1) | exact HB.out)))); have n2_ := Aside0.mk (below_step (by repeat (first | (with_reducible first | exact HB.out | apply below_alloc | apply pw_below_drewN | apply below_drew1) | exact HB.out)) hb); clear HO_7; clear HB; have HO_7 := n0_; have HO857 := n1_; have HB := n2_; clear n0_ n1_ n2_; (try clear hb); (try clear hb2); (try clear hk); (try clear hi); (try clear ho0))); try go_wp2_with (first | (go_at_call 59; (with_reducible refine (customsref27_Rise.calls k1 (fun k_ => True) _ _ x7_1 (rd l0 x9_1) t855 _ ?side1 A6.out).mono ?_); (case side1 => exact HO_7.out); rintro e w8 ⟨v856, rfl, ho0, hb⟩; have n0_ := Aside0.mk (Kd.V_below (by (with_reducible repeat (first | apply Kd.V_alloc | apply Kd.V_drewN | apply Kd.V_drew)); exact HO_7.out) hb); have n1_ := Aside0.mk (Kd.V_lower (Kd.V_mono (ok' := fun k_ => True) ho0 (fun k_ hk_ => trivial)) (below_size (by repeat (first | (with_reducible first | exact HB.out | apply below_alloc | apply pw_below_drewN | apply below_drew1) | exact HB.out)))); have n2_ := Aside0.mk (below_step (by repeat (first | (with_reducible first | exact HB.out | apply below_alloc | apply pw_below_drewN | apply below_drew1) | exact HB.out)) hb); clear HO_7; clear HB; have HO_7 := n0_; have HO857 := n1_; have HB := n2_; clear n0_ n1_ n2_; (try clear hb); (try clear hb2); (try clear hk); (try clear hi); (try clear ho0))))
     go_roundg k1
     case measure => have := HK1.out; omega
     case rel => exact ⟨(t855), (wrap64 (x9_1 + 1)), (by first | rfl | (simp; done) | (simp [*]; done)), H', ⟨by have := HK1.out; omega⟩, ⟨by (with_reducible repeat (first | apply Kd.V_alloc | apply Kd.V_drewN | apply Kd.V_drew)); exact HO857.out⟩, ⟨by repeat (first | (with_reducible first | exact HB.out | apply below_alloc | apply pw_below_drewN | apply below_drew1) | exact HB.out)⟩⟩
    ·
     rw [if_neg c5] at H
     exact absurd H (by simp)
   ·
    rw [if_neg c4] at H
    have c4b0 : decide (x9_1 < (l0.length : Int)) = false := decide_eq_false c4
    clear c4
    have H' := Aside0.mk H
    clear H
    go_wp2
    repeat (go_quiet (fail); try go_wp2)
    go_loopg [7, 10] k1 (fun kq v7 v10 w' => ∃ (x7_2 : List Int) (x10_2 : Int), v10 = .int .i64 x10_2 ∧ Aside0 (customsref33_Seals.l1 kq a1 l2 x7_2 x10_2 = some r) ∧ Aside0 (kq ≤ k1) ∧ Aside0 (Kd.V (Kd.int .i64) 3 w' w.heap.size (fun _ => True) v7 x7_2) ∧ Aside0 (Below w.heap.size w w'))
    case atStart => exact ⟨(x7_1), (0), (by first | rfl | (simp; done) | (simp [*]; done)), H', ⟨Nat.le_refl _⟩, ⟨by (with_reducible repeat (first | apply Kd.V_alloc | apply Kd.V_drewN | apply Kd.V_drew)); exact HO_7.out⟩, ⟨by repeat (first | (with_reducible first | exact HB.out | apply below_alloc | apply pw_below_drewN | apply below_drew1) | exact HB.out)⟩⟩
    case round =>
     clear H'
     try clear c2
     try clear p2
     try clear c4
     try clear c4b0
     try clear c5
     try clear c5b0
     try clear p6
     try clear p8
     try clear q8
     try clear hx8
     try clear hx854_0
     try clear p2
     try clear p854
     try clear q854
     obtain ⟨x7_2, x10_2, rfl, HA, HK2, HO_7, HB⟩ := hrel
     cases gk with
     | zero => exact absurd HA.out (by simp [customsref33_Seals.l1])
     | succ k2 =>
      have H := HA.out
      clear HA
      simp only [customsref33_Seals.l1] at H
      by_cases c9 : x10_2 < (l2.length : Int)
      ·
       rw [if_pos c9] at H
       have c9b0 : decide (x10_2 < (l2.length : Int)) = true := decide_eq_true c9
       clear c9
       by_cases c10 : 0 ≤ x10_2
       ·
        rw [if_pos c10] at H
        have c10b0 : decide (0 ≤ x10_2) = true := decide_eq_true c10
        clear c10
        by_cases c11 : ((rd_T53 l2 x10_2).f2) = a1
        ·
         rw [if_pos c11] at H
         have c11b0 : (((rd_T53 l2 x10_2).f2) == a1) = true := beq_iff_eq.mpr c11
         have c11b1 : (((rd_T53 l2 x10_2).f2) != a1) = false := bne_eq_false_iff_eq.mpr c11
         clear c11
         replace H := Option.bind_eq_some_iff.mp H
         obtain ⟨t860, A120, H⟩ := H
         replace H : (customsref33_Seals.l1 k2 a1 l2 t860 (wrap64 (x10_2 + 1))) = some r := H
         have A12 := Aside0.mk A120
         clear A120
         have H' := Aside0.mk H
         clear H
         have p858 : 0 ≤ (x10_2 : Int) := of_decide_eq_true (by first | (with_reducible assumption) | assumption)
         have q858 : x10_2 < (l2.length : Int) := of_decide_eq_true (by first | (with_reducible assumption) | assumption)
         obtain ⟨ad858, e858, hx858_0, hx858_1, hx858_2, hx858_3, hx858_4⟩ := at_T53 HR2.out x10_2 p858 q858
         cases e858
         replace hx858_0 := (HB.out.cell (World.block_lt_of_cell? w _ hx858_0)).trans hx858_0
         replace hx858_1 := (HB.out.cell (World.block_lt_of_cell? w _ hx858_1)).trans hx858_1
         replace hx858_2 := (HB.out.cell (World.block_lt_of_cell? w _ hx858_2)).trans hx858_2
         replace hx858_3 := (HB.out.cell (World.block_lt_of_cell? w _ hx858_3)).trans hx858_3
         replace hx858_4 := (HB.out.cell (World.block_lt_of_cell? w _ hx858_4)).trans hx858_4
         replace p858 := eq_true p858
         replace q858 := eq_true q858
         have p859 : 0 ≤ (x10_2 : Int) := of_decide_eq_true (by first | (with_reducible assumption) | assumption)
         have q859 : x10_2 < (l2.length : Int) := of_decide_eq_true (by first | (with_reducible assumption) | assumption)
         obtain ⟨ad859, e859, hx859_0, hx859_1, hx859_2, hx859_3, hx859_4⟩ := at_T53 HR2.out x10_2 p859 q859
         obtain rfl : ad858 = ad859 := (by injection e859)
         replace hx859_0 := (HB.out.cell (World.block_lt_of_cell? w _ hx859_0)).trans hx859_0
         replace hx859_1 := (HB.out.cell (World.block_lt_of_cell? w _ hx859_1)).trans hx859_1
         replace hx859_2 := (HB.out.cell (World.block_lt_of_cell? w _ hx859_2)).trans hx859_2
         replace hx859_3 := (HB.out.cell (World.block_lt_of_cell? w _ hx859_3)).trans hx859_3
         replace hx859_4 := (HB.out.cell (World.block_lt_of_cell? w _ hx859_4)).trans hx859_4
         replace p859 := eq_true p859
         replace q859 := eq_true q859
         obtain ⟨Ao13, co13, eo13⟩ := Kd.V_slice HO_7.out
         subst eo13
         go_wp2_with (first | (go_at_call 59; (with_reducible refine (customsref27_Rise.calls k2 (fun k_ => True) _ _ x7_2 ((rd_T53 l2 x10_2).f4) t860 _ ?side1 A12.out).mono ?_); (case side1 => exact HO_7.out); rintro e w14 ⟨v861, rfl, ho0, hb⟩; have n0_ := Aside0.mk (Kd.V_below (by (with_reducible repeat (first | apply Kd.V_alloc | apply Kd.V_drewN | apply Kd.V_drew)); exact HO_7.out) hb); have n1_ := Aside0.mk (Kd.V_lower (Kd.V_mono (ok' := fun k_ => True) ho0 (fun k_ hk_ => trivial)) (below_size (by repeat (first | (with_reducible first | exact HB.out | apply below_alloc | apply pw_below_drewN | apply below_drew1) | exact HB.out)))); have n2_ := Aside0.mk (below_step (by repeat (first | (with_reducible first | exact HB.out | apply below_alloc | apply pw_below_drewN | apply below_drew1) | exact HB.out)) hb); clear HO_7; clear HB; have HO_7 := n0_; have HO862 := n1_; have HB := n2_; clear n0_ n1_ n2_; (try clear hb); (try clear hb2); (try clear hk); (try clear hi); (try clear ho0)))
         repeat (go_quiet (first | (go_at_call 59; (with_reducible refine (customsref27_Rise.calls k2 (fun k_ => True) _ _ x7_2 ((rd_T53 l2 x10_2).f4) t860 _ ?side1 A12.out).mono ?_); (case side1 => exact HO_7.out); rintro e w14 ⟨v861, rfl, ho0, hb⟩; have n0_ := Aside0.mk (Kd.V_below (by (with_reducible repeat (first | apply Kd.V_alloc | apply Kd.V_drewN | apply Kd.V_drew)); exact HO_7.out) hb); have n1_ := Aside0.mk (Kd.V_lower (Kd.V_mono (ok' := fun k_ => True) ho0 (fun k_ hk_ => trivial)) (below_size (by repeat (first | (with_reducible first | exact HB.out | apply below_alloc | apply pw_below_drewN | apply below_drew1) | exact HB.out)))); have n2_ := Aside0.mk (below_step (by repeat (first | (with_reducible first | exact HB.out | apply below_alloc | apply pw_below_drewN | apply below_drew1) | exact HB.out)) hb); clear HO_7; clear HB; have HO_7 := n0_; have HO862 := n1_; have HB := n2_; clear n0_ n1_ n2_; (try clear hb); (try clear hb2); (try clear hk); (try clear hi); (try clear ho0))); try go_wp2_with (first | (go_at_call 59; (with_reducible refine (customsref27_Rise.calls k2 (fun k_ => True) _ _ x7_2 ((rd_T53 l2 x10_2).f4) t860 _ ?side1 A12.out).mono ?_); (case side1 => exact HO_7.out); rintro e w14 ⟨v861, rfl, ho0, hb⟩; have n0_ := Aside0.mk (Kd.V_below (by (with_reducible repeat (first | apply Kd.V_alloc | apply Kd.V_drewN | apply Kd.V_drew)); exact HO_7.out) hb); have n1_ := Aside0.mk (Kd.V_lower (Kd.V_mono (ok' := fun k_ => True) ho0 (fun k_ hk_ => trivial)) (below_size (by repeat (first | (with_reducible first | exact HB.out | apply below_alloc | apply pw_below_drewN | apply below_drew1) | exact HB.out)))); have n2_ := Aside0.mk (below_step (by repeat (first | (with_reducible first | exact HB.out | apply below_alloc | apply pw_below_drewN | apply below_drew1) | exact HB.out)) hb); clear HO_7; clear HB; have HO_7 := n0_; have HO862 := n1_; have HB := n2_; clear n0_ n1_ n2_; (try clear hb); (try clear hb2); (try clear hk); (try clear hi); (try clear ho0))))
         go_roundg k2
         case measure => have := HK1.out; have := HK2.out; omega
         case rel => exact ⟨(t860), (wrap64 (x10_2 + 1)), (by first | rfl | (simp; done) | (simp [*]; done)), H', ⟨by have := HK1.out; have := HK2.out; omega⟩, ⟨by (with_reducible repeat (first | apply Kd.V_alloc | apply Kd.V_drewN | apply Kd.V_drew)); exact HO862.out⟩, ⟨by repeat (first | (with_reducible first | exact HB.out | apply below_alloc | apply pw_below_drewN | apply below_drew1) | exact HB.out)⟩⟩
        ·
         rw [if_neg c11] at H
         have c11b0 : (((rd_T53 l2 x10_2).f2) == a1) = false := beq_eq_false_iff_ne.mpr c11
         have c11b1 : (((rd_T53 l2 x10_2).f2) != a1) = true := bne_iff_ne.mpr c11
         have H' := Aside0.mk H
         clear H
         have p858 : 0 ≤ (x10_2 : Int) := of_decide_eq_true (by first | (with_reducible assumption) | assumption)
         have q858 : x10_2 < (l2.length : Int) := of_decide_eq_true (by first | (with_reducible assumption) | assumption)
         obtain ⟨ad858, e858, hx858_0, hx858_1, hx858_2, hx858_3, hx858_4⟩ := at_T53 HR2.out x10_2 p858 q858
         cases e858
         replace hx858_0 := (HB.out.cell (World.block_lt_of_cell? w _ hx858_0)).trans hx858_0
         replace hx858_1 := (HB.out.cell (World.block_lt_of_cell? w _ hx858_1)).trans hx858_1
         replace hx858_2 := (HB.out.cell (World.block_lt_of_cell? w _ hx858_2)).trans hx858_2
         replace hx858_3 := (HB.out.cell (World.block_lt_of_cell? w _ hx858_3)).trans hx858_3
         replace hx858_4 := (HB.out.cell (World.block_lt_of_cell? w _ hx858_4)).trans hx858_4
         replace p858 := eq_true p858
         replace q858 := eq_true q858
         go_wp2
         repeat (go_quiet (fail); try go_wp2)
         go_roundg k2
         case measure => have := HK1.out; have := HK2.out; omega
         case rel => exact ⟨(x7_2), (wrap64 (x10_2 + 1)), (by first | rfl | (simp; done) | (simp [*]; done)), H', ⟨by have := HK1.out; have := HK2.out; omega⟩, ⟨by (with_reducible repeat (first | apply Kd.V_alloc | apply Kd.V_drewN | apply Kd.V_drew)); exact HO_7.out⟩, ⟨by repeat (first | (with_reducible first | exact HB.out | apply below_alloc | apply pw_below_drewN | apply below_drew1) | exact HB.out)⟩⟩
       ·
        rw [if_neg c10] at H
        exact absurd H (by simp)
      ·
       rw [if_neg c9] at H
       have c9b0 : decide (x10_2 < (l2.length : Int)) = false := decide_eq_false c9
       clear c9
       have H' := Aside0.mk H
       clear H
       go_wp2
       repeat (go_quiet (fail); try go_wp2)
       go_loopg [8, 11] k2 (fun kq v8 v11 w' => ∃ (x8_3 : List Int) (x11_3 : Int), v11 = .int .i64 x11_3 ∧ Aside0 (customsref33_Seals.l2 kq a1 l2 x7_2 x8_3 x11_3 = some r) ∧ Aside0 (kq ≤ k2) ∧ Aside0 (Kd.V (Kd.int .i64) 3 w' w.heap.size (fun k_ => some k_ ≠ (v8 : Value).ownBlock) u7 x7_2) ∧ Aside0 (Kd.R (Kd.int .i64) 3 w' w.heap.size (fun _ => True) v8 x8_3) ∧ Aside0 (Below w.heap.size w w'))
       case atStart => exact ⟨(([] : List Int)), (0), (by first | rfl | (simp; done) | (simp [*]; done)), H', ⟨Nat.le_refl _⟩, ⟨by (with_reducible repeat (first | apply Kd.V_alloc | apply Kd.V_drewN | apply Kd.V_drew)); exact Kd.V_mono HO_7.out (fun _ hk => (by simp [Value.ownBlock]))⟩, ⟨by first | exact Kd.R_nil _ _ _ _ _ | exact Kd.N_nil _ _ _ _ _ | exact Kd.V_nil _ _ _ _ _ | exact Kd.Q_nil _ _ _ _ _ | exact Kd.S_nil _ _ _ _ _⟩, ⟨by repeat (first | (with_reducible first | exact HB.out | apply below_alloc | apply pw_below_drewN | apply below_drew1) | exact HB.out)⟩⟩
       case round =>
        clear H'
        try clear c1
        try clear c2
        try clear p2
        try clear c4
        try clear c4b0
        try clear c5
        try clear c5b0
        try clear p6
        try clear p8
        try clear q8
        try clear hx8
        try clear c9
        try clear c9b0
        try clear c10
        try clear c10b0
        try clear c11
        try clear c11b0
        try clear c11b1
        try clear hx854_0
        try clear hx858_0
        try clear hx858_1
        try clear hx858_2
        try clear hx858_3
        try clear hx858_4
        try clear hx859_0
        try clear hx859_1
        try clear hx859_2
        try clear hx859_3
        try clear hx859_4
        try clear p2
        try clear p6
        try clear p8
        try clear p854
        try clear p858
        try clear p859
        try clear q8
        try clear q854
        try clear q858
        try clear q859
        obtain ⟨x8_3, x11_3, rfl, HA, HK3, HO_7, HO_8, HB⟩ := hrel
        cases gk with
        | zero => exact absurd HA.out (by simp [customsref33_Seals.l2])
        | succ k3 =>
         have H := HA.out
         clear HA
         simp only [customsref33_Seals.l2] at H
         by_cases c15 : x11_3 < (x7_2.length : Int)
         ·
          rw [if_pos c15] at H
          have c15b0 : decide (x11_3 < (x7_2.length : Int)) = true := decide_eq_true c15
          clear c15
          by_cases c16 : 0 ≤ x11_3
          ·
           rw [if_pos c16] at H
           have c16b0 : decide (0 ≤ x11_3) = true := decide_eq_true c16
           clear c16
           have H' := Aside0.mk H
           clear H
           obtain ⟨Ao17, co17, eo17⟩ := Kd.V_slice HO_7.out
           subst eo17
           have p863 : 0 ≤ (x11_3 : Int) := of_decide_eq_true (by first | (with_reducible assumption) | assumption)
           have q863 : x11_3 < (x7_2.length : Int) := of_decide_eq_true (by first | (with_reducible assumption) | assumption)
           obtain ⟨ad863, e863, hx863_0⟩ := Kd.at_int (Kd.V_reads' HO_7.out).2.2 x11_3 p863 q863
           cases e863
           replace p863 := eq_true p863
           replace q863 := eq_true q863
           go_wp2
           repeat (go_quiet (fail); try go_wp2)
           go_loopg [12, 13] k3 (fun kq v12 v13 w' => ∃ (x12_4 : Bool) (x13_4 : Int), v12 = .bool x12_4 ∧ v13 = .int .i64 x13_4 ∧ Aside0 (customsref33_Seals.l3 kq a1 l2 x7_2 x8_3 x11_3 x12_4 x13_4 = some r) ∧ Aside0 (kq ≤ k3) ∧ Aside0 (Kd.V (Kd.int .i64) 3 w' w.heap.size (fun k_ => some k_ ≠ (u8 : Value).ownBlock) (.slice (some ad863) x7_2.length co17) x7_2) ∧ Aside0 (Kd.R (Kd.int .i64) 3 w' w.heap.size (fun _ => True) u8 x8_3) ∧ Aside0 (Below w.heap.size w w'))
           case atStart => exact ⟨(decide ((rd x7_2 x11_3) < 1)), (0), (by first | rfl | (simp; done) | (simp [*]; done)), (by first | rfl | (simp; done) | (simp [*]; done)), H', ⟨Nat.le_refl _⟩, ⟨by (with_reducible repeat (first | apply Kd.V_alloc | apply Kd.V_drewN | apply Kd.V_drew)); exact HO_7.out⟩, ⟨by (with_reducible repeat (first | apply Kd.R_alloc | apply Kd.R_drewN | apply Kd.R_drew)); exact HO_8.out⟩, ⟨by repeat (first | (with_reducible first | exact HB.out | apply below_alloc | apply pw_below_drewN | apply below_drew1) | exact HB.out)⟩⟩
           case round =>
            clear H'
            try clear c1
            try clear c2
            try clear p2
            try clear c4
            try clear c4b0
            try clear c5
            try clear c5b0
            try clear p6
            try clear p8
            try clear q8
            try clear hx8
            try clear c9
            try clear c9b0
            try clear c10
            try clear c10b0
            try clear c11
            try clear c11b0
            try clear c11b1
            try clear c15
            try clear c15b0
            try clear c16
            try clear c16b0
            try clear hx854_0
            try clear hx858_0
            try clear hx858_1
            try clear hx858_2
            try clear hx858_3
            try clear hx858_4
            try clear hx859_0
            try clear hx859_1
            try clear hx859_2
            try clear hx859_3
            try clear hx859_4
            try clear hx863_0
            try clear p2
            try clear p6
            try clear p8
            try clear p854
            try clear p858
            try clear p859
            try clear p863
            try clear q8
            try clear q854
            try clear q858
            try clear q859
            try clear q863
            obtain ⟨x12_4, x13_4, rfl, rfl, HA, HK4, HO_7, HO_8, HB⟩ := hrel
            cases gk with
            | zero => exact absurd HA.out (by simp [customsref33_Seals.l3])
            | succ k4 =>
             have H := HA.out
             clear HA
             simp only [customsref33_Seals.l3] at H
             by_cases c18 : x13_4 < (l2.length : Int)
             ·
              rw [if_pos c18] at H
              have c18b0 : decide (x13_4 < (l2.length : Int)) = true := decide_eq_true c18
              clear c18
              by_cases c19 : x12_4 = true
              ·
               subst c19
               have H1 : (customsref33_Seals.l3 k4 a1 l2 x7_2 x8_3 x11_3 true (wrap64 (x13_4 + 1))) = some r := by rw [if_pos rfl] at H; exact H
               clear H
               have H := H1
               clear H1
               have H' := Aside0.mk H
               clear H
               go_wp2
               repeat (go_quiet (fail); try go_wp2)
               go_roundg k4
               case measure => have := HK1.out; have := HK2.out; have := HK3.out; have := HK4.out; omega
               case rel => exact ⟨(true), (wrap64 (x13_4 + 1)), (by first | rfl | (simp; done) | (simp [*]; done)), (by first | rfl | (simp; done) | (simp [*]; done)), H', ⟨by have := HK1.out; have := HK2.out; have := HK3.out; have := HK4.out; omega⟩, ⟨by (with_reducible repeat (first | apply Kd.V_alloc | apply Kd.V_drewN | apply Kd.V_drew)); exact HO_7.out⟩, ⟨by (with_reducible repeat (first | apply Kd.R_alloc | apply Kd.R_drewN | apply Kd.R_drew)); exact HO_8.out⟩, ⟨by repeat (first | (with_reducible first | exact HB.out | apply below_alloc | apply pw_below_drewN | apply below_drew1) | exact HB.out)⟩⟩
              ·
               replace c19 := Bool.eq_false_iff.mpr c19
               subst c19
               have H1 : (if 0 ≤ x13_4 then (if ((rd_T53 l2 x13_4).f2) = a1 then (if 0 ≤ x11_3 then (if x11_3 < (x7_2.length : Int) then (customsref33_Seals.l3 k4 a1 l2 x7_2 x8_3 x11_3 (((rd_T53 l2 x13_4).f3) == (rd x7_2 x11_3)) (wrap64 (x13_4 + 1))) else (none)) else (none)) else (customsref33_Seals.l3 k4 a1 l2 x7_2 x8_3 x11_3 false (wrap64 (x13_4 + 1)))) else (none)) = some r := by rw [if_neg (show ¬ (false = true) by decide)] at H; exact H
               clear H
               have H := H1
               clear H1
               by_cases c20 : 0 ≤ x13_4
               ·
                rw [if_pos c20] at H
                have c20b0 : decide (0 ≤ x13_4) = true := decide_eq_true c20
                clear c20
                by_cases c21 : ((rd_T53 l2 x13_4).f2) = a1
                ·
                 rw [if_pos c21] at H
                 have c21b0 : (((rd_T53 l2 x13_4).f2) == a1) = true := beq_iff_eq.mpr c21
                 have c21b1 : (((rd_T53 l2 x13_4).f2) != a1) = false := bne_eq_false_iff_eq.mpr c21
                 clear c21
                 by_cases c22 : 0 ≤ x11_3
                 ·
                  rw [if_pos c22] at H
                  have c22b0 : decide (0 ≤ x11_3) = true := decide_eq_true c22
                  clear c22
                  by_cases c23 : x11_3 < (x7_2.length : Int)
                  ·
                   rw [if_pos c23] at H
                   have c23b0 : decide (x11_3 < (x7_2.length : Int)) = true := decide_eq_true c23
                   clear c23
                   have H' := Aside0.mk H
                   clear H
                   have p864 : 0 ≤ (x13_4 : Int) := of_decide_eq_true (by first | (with_reducible assumption) | assumption)
                   have q864 : x13_4 < (l2.length : Int) := of_decide_eq_true (by first | (with_reducible assumption) | assumption)
                   obtain ⟨ad864, e864, hx864_0, hx864_1, hx864_2, hx864_3, hx864_4⟩ := at_T53 HR2.out x13_4 p864 q864
                   cases e864
                   replace hx864_0 := (HB.out.cell (World.block_lt_of_cell? w _ hx864_0)).trans hx864_0
                   replace hx864_1 := (HB.out.cell (World.block_lt_of_cell? w _ hx864_1)).trans hx864_1
                   replace hx864_2 := (HB.out.cell (World.block_lt_of_cell? w _ hx864_2)).trans hx864_2
                   replace hx864_3 := (HB.out.cell (World.block_lt_of_cell? w _ hx864_3)).trans hx864_3
                   replace hx864_4 := (HB.out.cell (World.block_lt_of_cell? w _ hx864_4)).trans hx864_4
                   replace p864 := eq_true p864
                   replace q864 := eq_true q864
                   have p865 : 0 ≤ (x13_4 : Int) := of_decide_eq_true (by first | (with_reducible assumption) | assumption)
                   have q865 : x13_4 < (l2.length : Int) := of_decide_eq_true (by first | (with_reducible assumption) | assumption)
                   obtain ⟨ad865, e865, hx865_0, hx865_1, hx865_2, hx865_3, hx865_4⟩ := at_T53 HR2.out x13_4 p865 q865
                   obtain rfl : ad864 = ad865 := (by injection e865)
                   replace hx865_0 := (HB.out.cell (World.block_lt_of_cell? w _ hx865_0)).trans hx865_0
                   replace hx865_1 := (HB.out.cell (World.block_lt_of_cell? w _ hx865_1)).trans hx865_1
                   replace hx865_2 := (HB.out.cell (World.block_lt_of_cell? w _ hx865_2)).trans hx865_2
                   replace hx865_3 := (HB.out.cell (World.block_lt_of_cell? w _ hx865_3)).trans hx865_3
                   replace hx865_4 := (HB.out.cell (World.block_lt_of_cell? w _ hx865_4)).trans hx865_4
                   replace p865 := eq_true p865
                   replace q865 := eq_true q865
                   have p866 : 0 ≤ (x11_3 : Int) := of_decide_eq_true (by first | (with_reducible assumption) | assumption)
                   have q866 : x11_3 < (x7_2.length : Int) := of_decide_eq_true (by first | (with_reducible assumption) | assumption)
                   obtain ⟨ad866, e866, hx866_0⟩ := Kd.at_int (Kd.V_reads' HO_7.out).2.2 x11_3 p866 q866
                   obtain rfl : ad863 = ad866 := (by injection e866)
                   replace p866 := eq_true p866
                   replace q866 := eq_true q866
                   go_wp2
                   repeat (go_quiet (fail); try go_wp2)
                   go_roundg k4
                   case measure => have := HK1.out; have := HK2.out; have := HK3.out; have := HK4.out; omega
                   case rel => exact ⟨((((rd_T53 l2 x13_4).f3) == (rd x7_2 x11_3))), (wrap64 (x13_4 + 1)), (by first | rfl | (simp; done) | (simp [*]; done)), (by first | rfl | (simp; done) | (simp [*]; done)), H', ⟨by have := HK1.out; have := HK2.out; have := HK3.out; have := HK4.out; omega⟩, ⟨by (with_reducible repeat (first | apply Kd.V_alloc | apply Kd.V_drewN | apply Kd.V_drew)); exact HO_7.out⟩, ⟨by (with_reducible repeat (first | apply Kd.R_alloc | apply Kd.R_drewN | apply Kd.R_drew)); exact HO_8.out⟩, ⟨by repeat (first | (with_reducible first | exact HB.out | apply below_alloc | apply pw_below_drewN | apply below_drew1) | exact HB.out)⟩⟩
                  ·
                   rw [if_neg c23] at H
                   exact absurd H (by simp)
                 ·
                  rw [if_neg c22] at H
                  exact absurd H (by simp)
                ·
                 rw [if_neg c21] at H
                 have c21b0 : (((rd_T53 l2 x13_4).f2) == a1) = false := beq_eq_false_iff_ne.mpr c21
                 have c21b1 : (((rd_T53 l2 x13_4).f2) != a1) = true := bne_iff_ne.mpr c21
                 have H' := Aside0.mk H
                 clear H
                 have p864 : 0 ≤ (x13_4 : Int) := of_decide_eq_true (by first | (with_reducible assumption) | assumption)
                 have q864 : x13_4 < (l2.length : Int) := of_decide_eq_true (by first | (with_reducible assumption) | assumption)
                 obtain ⟨ad864, e864, hx864_0, hx864_1, hx864_2, hx864_3, hx864_4⟩ := at_T53 HR2.out x13_4 p864 q864
                 cases e864
                 replace hx864_0 := (HB.out.cell (World.block_lt_of_cell? w _ hx864_0)).trans hx864_0
                 replace hx864_1 := (HB.out.cell (World.block_lt_of_cell? w _ hx864_1)).trans hx864_1
                 replace hx864_2 := (HB.out.cell (World.block_lt_of_cell? w _ hx864_2)).trans hx864_2
                 replace hx864_3 := (HB.out.cell (World.block_lt_of_cell? w _ hx864_3)).trans hx864_3
                 replace hx864_4 := (HB.out.cell (World.block_lt_of_cell? w _ hx864_4)).trans hx864_4
                 replace p864 := eq_true p864
                 replace q864 := eq_true q864
                 go_wp2
                 repeat (go_quiet (fail); try go_wp2)
                 go_roundg k4
                 case measure => have := HK1.out; have := HK2.out; have := HK3.out; have := HK4.out; omega
                 case rel => exact ⟨(false), (wrap64 (x13_4 + 1)), (by first | rfl | (simp; done) | (simp [*]; done)), (by first | rfl | (simp; done) | (simp [*]; done)), H', ⟨by have := HK1.out; have := HK2.out; have := HK3.out; have := HK4.out; omega⟩, ⟨by (with_reducible repeat (first | apply Kd.V_alloc | apply Kd.V_drewN | apply Kd.V_drew)); exact HO_7.out⟩, ⟨by (with_reducible repeat (first | apply Kd.R_alloc | apply Kd.R_drewN | apply Kd.R_drew)); exact HO_8.out⟩, ⟨by repeat (first | (with_reducible first | exact HB.out | apply below_alloc | apply pw_below_drewN | apply below_drew1) | exact HB.out)⟩⟩
               ·
                rw [if_neg c20] at H
                exact absurd H (by simp)
             ·
              rw [if_neg c18] at H
              have c18b0 : decide (x13_4 < (l2.length : Int)) = false := decide_eq_false c18
              clear c18
              by_cases c24 : x12_4 = true
              ·
               subst c24
               have H1 : (customsref33_Seals.l2 k4 a1 l2 x7_2 x8_3 (wrap64 (x11_3 + 1))) = some r := by rw [if_pos rfl] at H; exact H
               clear H
               have H := H1
               clear H1
               have H' := Aside0.mk H
               clear H
               go_wp2
               repeat (go_quiet (fail); try go_wp2)
               go_roundg k4
               case measure => have := HK1.out; have := HK2.out; have := HK3.out; have := HK4.out; omega
               case rel => exact ⟨(x8_3), (wrap64 (x11_3 + 1)), (by first | rfl | (simp; done) | (simp [*]; done)), H', ⟨by have := HK1.out; have := HK2.out; have := HK3.out; have := HK4.out; omega⟩, ⟨by (with_reducible repeat (first | apply Kd.V_alloc | apply Kd.V_drewN | apply Kd.V_drew)); exact HO_7.out⟩, ⟨by (with_reducible repeat (first | apply Kd.R_alloc | apply Kd.R_drewN | apply Kd.R_drew)); exact HO_8.out⟩, ⟨by repeat (first | (with_reducible first | exact HB.out | apply below_alloc | apply pw_below_drewN | apply below_drew1) | exact HB.out)⟩⟩
              ·
               replace c24 := Bool.eq_false_iff.mpr c24
               subst c24
               have H1 : (if 0 ≤ x11_3 then (if x11_3 < (x7_2.length : Int) then (if x8_3.length < 17592186044416 then (customsref33_Seals.l2 k4 a1 l2 x7_2 (x8_3 ++ [rd x7_2 x11_3]) (wrap64 (x11_3 + 1))) else (none)) else (none)) else (none)) = some r := by rw [if_neg (show ¬ (false = true) by decide)] at H; exact H
               clear H
               have H := H1
               clear H1
               by_cases c25 : 0 ≤ x11_3
               ·
                rw [if_pos c25] at H
                have c25b0 : decide (0 ≤ x11_3) = true := decide_eq_true c25
                clear c25
                by_cases c26 : x11_3 < (x7_2.length : Int)
                ·
                 rw [if_pos c26] at H
                 have c26b0 : decide (x11_3 < (x7_2.length : Int)) = true := decide_eq_true c26
                 clear c26
                 by_cases c27 : x8_3.length < 17592186044416
                 ·
                  rw [if_pos c27] at H
                  have LMc27 := Aside0.mk c27
                  clear c27
                  obtain ⟨y868, hy868⟩ : ∃ y_ : List Int, y_ = (x8_3 ++ [rd x7_2 x11_3]) := ⟨_, rfl⟩
                  replace H : (customsref33_Seals.l2 k4 a1 l2 x7_2 y868 (wrap64 (x11_3 + 1))) = some r := by first | (rw [hy868]; with_reducible exact H) | (have H2_ := (Option.bind_some _ _).symm.trans H; rw [hy868]; with_reducible exact H2_) | (have H2_ := (Option.bind_some _ _).symm.trans H; with_reducible exact H2_) | with_reducible exact H | (rw [hy868]; exact H) | exact H
                  have Ny868 := Aside0.mk hy868
                  clear hy868
                  have H' := Aside0.mk H
                  clear H
                  have p867 : 0 ≤ (x11_3 : Int) := of_decide_eq_true (by first | (with_reducible assumption) | assumption)
                  have q867 : x11_3 < (x7_2.length : Int) := of_decide_eq_true (by first | (with_reducible assumption) | assumption)
                  obtain ⟨ad867, e867, hx867_0⟩ := Kd.at_int (Kd.V_reads' HO_7.out).2.2 x11_3 p867 q867
                  obtain rfl : ad863 = ad867 := (by injection e867)
                  replace p867 := eq_true p867
                  replace q867 := eq_true q867
                  go_wp2_with (first | ((with_reducible refine gate_builtin (b := .append) (xs := #[.tmp 87, .tmp 92]) rfl ?_); at_builtin; refine Kd.R_append (Kd.int .i64) (w0 := w) w.heap.size rfl (.tmp 87) (.tmp 92) 25 3 (.int .i64 0) 8 rfl Tryd.underlying25 info3 rfl (by decide) (by omega) u8 x8_3 (rd x7_2 x11_3) [.int .i64 (rd x7_2 x11_3)] (fun _ => True) (fun _ => False) rfl rfl ?aP (fun _ hk => hk.elim) ?aF ?aO ?aB ?aS ?aL ?_; (case aP => exact rfl); (case aB => exact (by repeat (first | (with_reducible first | exact HB.out | apply below_alloc | apply pw_below_drewN | apply below_drew1) | exact HB.out))); (case aF => exact (fun _ _ => trivial)); (case aO => exact (by (with_reducible repeat (first | apply Kd.R_alloc | apply Kd.R_drewN | apply Kd.R_drew)); exact HO_8.out)); (case aS => exact (below_size (by repeat (first | (with_reducible first | exact HB.out | apply below_alloc | apply pw_below_drewN | apply below_drew1) | exact HB.out)))); (case aL => have := LMc27.out; omega); intro v869 w28 ho hb hg hat; rw [← Ny868.out] at ho; have n0_ := Aside0.mk (Kd.V_afterv (ok := (fun _ => True)) (by (with_reducible repeat (first | apply Kd.V_alloc | apply Kd.V_drewN | apply Kd.V_drew)); exact Kd.V_mono HO_7.out (fun _ hk => ⟨trivial, hk⟩)) hg hat); have n1_ := Aside0.mk (hb); have n2_ := Aside0.mk (ho); clear HO_7; clear HB; clear HO_8; have HO_7 := n0_; have HB := n1_; have HO870 := n2_; clear n0_ n1_ n2_; clear ho hb hg hat))
                  repeat (go_quiet (first | ((with_reducible refine gate_builtin (b := .append) (xs := #[.tmp 87, .tmp 92]) rfl ?_); at_builtin; refine Kd.R_append (Kd.int .i64) (w0 := w) w.heap.size rfl (.tmp 87) (.tmp 92) 25 3 (.int .i64 0) 8 rfl Tryd.underlying25 info3 rfl (by decide) (by omega) u8 x8_3 (rd x7_2 x11_3) [.int .i64 (rd x7_2 x11_3)] (fun _ => True) (fun _ => False) rfl rfl ?aP (fun _ hk => hk.elim) ?aF ?aO ?aB ?aS ?aL ?_; (case aP => exact rfl); (case aB => exact (by repeat (first | (with_reducible first | exact HB.out | apply below_alloc | apply pw_below_drewN | apply below_drew1) | exact HB.out))); (case aF => exact (fun _ _ => trivial)); (case aO => exact (by (with_reducible repeat (first | apply Kd.R_alloc | apply Kd.R_drewN | apply Kd.R_drew)); exact HO_8.out)); (case aS => exact (below_size (by repeat (first | (with_reducible first | exact HB.out | apply below_alloc | apply pw_below_drewN | apply below_drew1) | exact HB.out)))); (case aL => have := LMc27.out; omega); intro v869 w28 ho hb hg hat; rw [← Ny868.out] at ho; have n0_ := Aside0.mk (Kd.V_afterv (ok := (fun _ => True)) (by (with_reducible repeat (first | apply Kd.V_alloc | apply Kd.V_drewN | apply Kd.V_drew)); exact Kd.V_mono HO_7.out (fun _ hk => ⟨trivial, hk⟩)) hg hat); have n1_ := Aside0.mk (hb); have n2_ := Aside0.mk (ho); clear HO_7; clear HB; clear HO_8; have HO_7 := n0_; have HB := n1_; have HO870 := n2_; clear n0_ n1_ n2_; clear ho hb hg hat)); try go_wp2_with (first | ((with_reducible refine gate_builtin (b := .append) (xs := #[.tmp 87, .tmp 92]) rfl ?_); at_builtin; refine Kd.R_append (Kd.int .i64) (w0 := w) w.heap.size rfl (.tmp 87) (.tmp 92) 25 3 (.int .i64 0) 8 rfl Tryd.underlying25 info3 rfl (by decide) (by omega) u8 x8_3 (rd x7_2 x11_3) [.int .i64 (rd x7_2 x11_3)] (fun _ => True) (fun _ => False) rfl rfl ?aP (fun _ hk => hk.elim) ?aF ?aO ?aB ?aS ?aL ?_; (case aP => exact rfl); (case aB => exact (by repeat (first | (with_reducible first | exact HB.out | apply below_alloc | apply pw_below_drewN | apply below_drew1) | exact HB.out))); (case aF => exact (fun _ _ => trivial)); (case aO => exact (by (with_reducible repeat (first | apply Kd.R_alloc | apply Kd.R_drewN | apply Kd.R_drew)); exact HO_8.out)); (case aS => exact (below_size (by repeat (first | (with_reducible first | exact HB.out | apply below_alloc | apply pw_below_drewN | apply below_drew1) | exact HB.out)))); (case aL => have := LMc27.out; omega); intro v869 w28 ho hb hg hat; rw [← Ny868.out] at ho; have n0_ := Aside0.mk (Kd.V_afterv (ok := (fun _ => True)) (by (with_reducible repeat (first | apply Kd.V_alloc | apply Kd.V_drewN | apply Kd.V_drew)); exact Kd.V_mono HO_7.out (fun _ hk => ⟨trivial, hk⟩)) hg hat); have n1_ := Aside0.mk (hb); have n2_ := Aside0.mk (ho); clear HO_7; clear HB; clear HO_8; have HO_7 := n0_; have HB := n1_; have HO870 := n2_; clear n0_ n1_ n2_; clear ho hb hg hat)))
                  go_roundg k4
                  case measure => have := HK1.out; have := HK2.out; have := HK3.out; have := HK4.out; omega
                  case rel => exact ⟨(y868), (wrap64 (x11_3 + 1)), (by first | rfl | (simp; done) | (simp [*]; done)), H', ⟨by have := HK1.out; have := HK2.out; have := HK3.out; have := HK4.out; omega⟩, ⟨by (with_reducible repeat (first | apply Kd.V_alloc | apply Kd.V_drewN | apply Kd.V_drew)); exact Kd.V_mono HO_7.out (fun _ hk => hk.2)⟩, ⟨by (with_reducible repeat (first | apply Kd.R_alloc | apply Kd.R_drewN | apply Kd.R_drew)); exact HO870.out⟩, ⟨by repeat (first | (with_reducible first | exact HB.out | apply below_alloc | apply pw_below_drewN | apply below_drew1) | exact HB.out)⟩⟩
                 ·
                  rw [if_neg c27] at H
                  exact absurd H (by simp)
                ·
                 rw [if_neg c26] at H
                 exact absurd H (by simp)
               ·
                rw [if_neg c25] at H
                exact absurd H (by simp)
          ·
           rw [if_neg c16] at H
           exact absurd H (by simp)
         ·
          rw [if_neg c15] at H
          have c15b0 : decide (x11_3 < (x7_2.length : Int)) = false := decide_eq_false c15
          clear c15
          obtain rfl := Option.some.inj H
          obtain ⟨Ao29, co29, eo29⟩ := Kd.V_slice HO_7.out
          subst eo29
          go_wp2
          repeat (go_quiet (fail); try go_wp2)
          go_ret
          exact ⟨_, by first | rfl | (simp [errW_none, errW_some] <;> rfl) | (simp [*, errW_none, errW_some] <;> rfl), by (with_reducible repeat (first | apply Kd.R_alloc | apply Kd.R_drewN | apply Kd.R_drew)); exact HO_8.out, by repeat (first | (with_reducible first | exact HB.out | apply below_alloc | apply pw_below_drewN | apply below_drew1) | exact HB.out)⟩

/-- A state of type 76 at block g of W; what its slices lead to came in by w0. -/
def IsS76 (w0 W : World) (g : Nat) (f0 : List Int) (f1 : Int) : Prop := ∃ A0 c0, W.heap[g]? = some (.cells #[.slice A0 f0.length c0, .int .i64 f1] 76 (0, 0)) ∧ w0.heap.size ≤ g ∧ Kd.C (Kd.int .i64) w0 A0 f0.length f0
theorem IsS76.grown {w0 W : World} {g : Nat} {f0 : List Int} {f1 : Int} {W1 : World} {row : Option Nat} (h : IsS76 w0 W g f0 f1) (hw : W.grownBy W1 row) (hne : some g ≠ row) : IsS76 w0 W1 g f0 f1 := by
 obtain ⟨A0, c0, hb, hg, hr0⟩ := h
 exact ⟨A0, c0, blk_grown hb hw hne, hg, hr0⟩
theorem IsS76.kept {w0 W : World} {g : Nat} {f0 : List Int} {f1 : Int} {W1 : World} {S : Nat → Prop} (h : IsS76 w0 W g f0 f1) (hk : Kept W W1 S) (hne : ¬ S g) : IsS76 w0 W1 g f0 f1 := by
 obtain ⟨A0, c0, hb, hg, hr0⟩ := h
 exact ⟨A0, c0, blk_kept hb hk hne, hg, hr0⟩
theorem IsS76.below {w0 W : World} {g : Nat} {f0 : List Int} {f1 : Int} {W1 : World} (h : IsS76 w0 W g f0 f1) (hw : Below W.heap.size W W1) : IsS76 w0 W1 g f0 f1 := h.grown (grown_of_below hw none) (by simp)
theorem IsS76.alloc {w0 W : World} {g : Nat} {f0 : List Int} {f1 : Int} (h : IsS76 w0 W g f0 f1) (o : Obj) : IsS76 w0 (W.alloc o) g f0 f1 := h.below (below_alloc (Below.refl _ _) o)
theorem IsS76.drewN {w0 W : World} {g : Nat} {f0 : List Int} {f1 : Int} (h : IsS76 w0 W g f0 f1) (m : Nat) : IsS76 w0 (W.drewN m) g f0 f1 := h
theorem IsS76.drew {w0 W : World} {g : Nat} {f0 : List Int} {f1 : Int} (h : IsS76 w0 W g f0 f1) : IsS76 w0 W.drew g f0 f1 := h
theorem IsS76.at_ {w0 W : World} {g : Nat} {f0 : List Int} {f1 : Int} {w' : World} {m : Nat} (hq : W.drewN m = w') (h : IsS76 w0 W g f0 f1) : IsS76 w0 w' g f0 f1 := by subst hq; exact IsS76.drewN h m
theorem IsS76.apart {w0 W : World} {g : Nat} {f0 : List Int} {f1 : Int} {α : Type} {d : Kd α} {e : Nat} {base : Nat} {ok : Nat → Prop} {v : Value} {xs : List α} (h : IsS76 w0 W g f0 f1) (ho : d.R e W base ok v xs) (ht : ∀ q, q ∈ e :: d.E → q ≠ 76) : d.R e W base (fun k => ok k ∧ k ≠ g) v xs := by
 obtain ⟨A0, c0, hb, hg, hr0⟩ := h
 exact Kd.R_types ho hb ht
theorem IsS76.own_ne {w0 W : World} {g : Nat} {f0 : List Int} {f1 : Int} {α : Type} {d : Kd α} {e : Nat} {base : Nat} {ok : Nat → Prop} {v : Value} {xs : List α} (h : IsS76 w0 W g f0 f1) (ho : d.R e W base ok v xs) (ht : e ≠ 76) : some g ≠ v.ownBlock := by
 obtain ⟨A0, c0, hb, hg, hr0⟩ := h
 exact Kd.R_ne ho hb ht
theorem IsS76.lt {w0 W : World} {g : Nat} {f0 : List Int} {f1 : Int} (h : IsS76 w0 W g f0 f1) : g < W.heap.size := by
 obtain ⟨A0, c0, hb, hg, hr0⟩ := h
 exact blk_lt hb
theorem IsS76.ge {w0 W : World} {g : Nat} {f0 : List Int} {f1 : Int} (h : IsS76 w0 W g f0 f1) : w0.heap.size ≤ g := by
 obtain ⟨A0, c0, hb, hg, hr0⟩ := h
 exact hg
theorem IsS76.far {w0 W : World} {g : Nat} {f0 : List Int} {f1 : Int} {p : Addr} (h : IsS76 w0 W g f0 f1) (hne : g ≠ p.block) (u : Value) : IsS76 w0 (W.setCell p u) g f0 f1 := by
 obtain ⟨A0, c0, hb, hg, hr0⟩ := h
 exact ⟨A0, c0, blk_far hb hne u, hg, hr0⟩
theorem cellS76_0 {W : World} {g : Nat} {A0 : Option Addr} {c0 : Nat} {f0 : List Int} {f1 : Int} (h : W.heap[g]? = some (.cells #[.slice A0 f0.length c0, .int .i64 f1] 76 (0, 0))) : W.cell? ⟨g, 0, none⟩ = some (.slice A0 f0.length c0) := (blk_cell h 0).trans rfl
theorem cellS76_1 {W : World} {g : Nat} {A0 : Option Addr} {c0 : Nat} {f0 : List Int} {f1 : Int} (h : W.heap[g]? = some (.cells #[.slice A0 f0.length c0, .int .i64 f1] 76 (0, 0))) : W.cell? ⟨g, 1, none⟩ = some (.int .i64 f1) := (blk_cell h 1).trans rfl
theorem IsS76.set_1 {w0 W : World} {g : Nat} {f0 : List Int} {f1 : Int} (h : IsS76 w0 W g f0 f1) (x : Int) : IsS76 w0 (W.setCell ⟨g, 1, none⟩ (.int .i64 x)) g f0 x := by
 obtain ⟨A0, c0, hb, hg, hr0⟩ := h
 exact ⟨A0, c0, by simpa using blk_set hb 1 (.int .i64 x), hg, hr0⟩
theorem IsS76.new (w0 W : World) (A0 : Option Addr) (c0 : Nat) (f0 : List Int) (f1 : Int) (hB : Below w0.heap.size w0 W) (hr0 : Kd.C (Kd.int .i64) w0 A0 f0.length f0) : IsS76 w0 (W.alloc (.cells #[.slice A0 f0.length c0, .int .i64 f1] 76)) W.heap.size f0 f1 := ⟨A0, c0, by simpa using heap_alloc_new W _, hB.size, hr0⟩

def customsmade_Source_Left.f (s0_0 : List Int) (s0_1 : Int) : Option (Bool × Int) := some (decide (s0_1 < (s0_0.length : Int)), s0_1)
set_option maxHeartbeats 8000000 in
set_option maxRecDepth 100000 in
theorem customsmade_Source_Left.calls (g : Nat) (s0_0 : List Int) (s0_1 : Int) (r1 : Bool) (r2 : Int) (w0 w : World) (hI : IsS76 w0 w g s0_0 s0_1) (hB : Below w0.heap.size w0 w) (h : customsmade_Source_Left.f s0_0 s0_1 = some (r1, r2)) :
  Calls Tryd.prog 50 #[.pointer (some ⟨g, 0, none⟩)] w fun e w' => e = .returned (.bool r1) ∧ IsS76 w0 w' g s0_0 r2 ∧ Below w0.heap.size w0 w' ∧ KeepBut w w' g none := by
 have HI0 := Aside0.mk hI
 have HK := Aside0.mk (KeepBut.refl w g none)
 have HL := Aside0.mk hB.size
 clear hI
 have HW0 := Aside0.mk hB.size
 have HB := Aside0.mk hB
 clear hB
 have H : (some (decide (s0_1 < (s0_0.length : Int)), s0_1)) = some (r1, r2) := h
 clear h
 simp only [Option.some.injEq, Prod.mk.injEq] at H
 obtain ⟨rfl, rfl⟩ := H
 obtain ⟨ASz2_0, cSz2_0, HGz2, hgz2, HSz2_0⟩ := HI0.out
 have hcz2_0 := cellS76_0 HGz2
 have hcz2_1 := cellS76_1 HGz2
 have hfz2_1 := blk_frozen HGz2 1
 clear HGz2 hgz2
 go_enter Tryd.func50, Tryd.ntmps50
 go_wp2
 repeat (go_quiet (fail); try go_wp2)
 go_ret
 exact ⟨by first | rfl | (simp [errW_none, errW_some] <;> rfl) | (simp [*, errW_none, errW_some] <;> rfl), by repeat (first | (with_reducible first | exact HI0.out | apply IsS76.alloc | apply IsS76.drewN | apply IsS76.drew | apply IsS76.set_1) | exact HI0.out), by repeat (first | (with_reducible first | exact HB.out | apply below_alloc | apply pw_below_drewN | apply below_drew1 | refine below_set ?_ (IsS76.ge HI0.out)) | exact HB.out), by repeat (first | (with_reducible first | exact HK.out | apply KeepBut.set_ | apply keep_drewN | apply keep_drew | apply keep_alloc) | exact HK.out)⟩

def customsmade_Source_Next.f (s0_0 : List Int) (s0_1 : Int) (a1 : Int) : Option (Int × Int) := if s0_1 ≥ (s0_0.length : Int) then (some (0, s0_1)) else (if 0 ≤ (wrap64 ((wrap64 (s0_1 + 1)) - 1)) then (if (wrap64 ((wrap64 (s0_1 + 1)) - 1)) < (s0_0.length : Int) then ((customsmade_Within.f (rd s0_0 (wrap64 ((wrap64 (s0_1 + 1)) - 1))) a1).bind fun t772 => (some (t772, wrap64 (s0_1 + 1)))) else (none)) else (none))
set_option maxHeartbeats 8000000 in
set_option maxRecDepth 100000 in
theorem customsmade_Source_Next.calls (g : Nat) (s0_0 : List Int) (s0_1 : Int) (a1 : Int) (r1 : Int) (r2 : Int) (w0 w : World) (hI : IsS76 w0 w g s0_0 s0_1) (hB : Below w0.heap.size w0 w) (h : customsmade_Source_Next.f s0_0 s0_1 a1 = some (r1, r2)) :
  Calls Tryd.prog 51 #[.pointer (some ⟨g, 0, none⟩), .int .i64 a1] w fun e w' => e = .returned (.int .i64 r1) ∧ IsS76 w0 w' g s0_0 r2 ∧ Below w0.heap.size w0 w' ∧ KeepBut w w' g none := by
 have HI0 := Aside0.mk hI
 have HK := Aside0.mk (KeepBut.refl w g none)
 have HL := Aside0.mk hB.size
 clear hI
 have HW0 := Aside0.mk hB.size
 have HB := Aside0.mk hB
 clear hB
 have H : (if s0_1 ≥ (s0_0.length : Int) then (some (0, s0_1)) else (if 0 ≤ (wrap64 ((wrap64 (s0_1 + 1)) - 1)) then (if (wrap64 ((wrap64 (s0_1 + 1)) - 1)) < (s0_0.length : Int) then ((customsmade_Within.f (rd s0_0 (wrap64 ((wrap64 (s0_1 + 1)) - 1))) a1).bind fun t772 => (some (t772, wrap64 (s0_1 + 1)))) else (none)) else (none))) = some (r1, r2) := h
 clear h
 by_cases c3 : s0_1 ≥ (s0_0.length : Int)
 ·
  rw [if_pos c3] at H
  have c3b0 : decide ((s0_0.length : Int) ≤ s0_1) = true := decide_eq_true c3
  clear c3
  simp only [Option.some.injEq, Prod.mk.injEq] at H
  obtain ⟨rfl, rfl⟩ := H
  obtain ⟨ASz4_0, cSz4_0, HGz4, hgz4, HSz4_0⟩ := HI0.out
  have hcz4_0 := cellS76_0 HGz4
  have hcz4_1 := cellS76_1 HGz4
  have hfz4_1 := blk_frozen HGz4 1
  clear HGz4 hgz4
  go_enter Tryd.func51, Tryd.ntmps51
  go_wp2
  repeat (go_quiet (fail); try go_wp2)
  go_ret
  exact ⟨by first | rfl | (simp [errW_none, errW_some] <;> rfl) | (simp [*, errW_none, errW_some] <;> rfl), by repeat (first | (with_reducible first | exact HI0.out | apply IsS76.alloc | apply IsS76.drewN | apply IsS76.drew | apply IsS76.set_1) | exact HI0.out), by repeat (first | (with_reducible first | exact HB.out | apply below_alloc | apply pw_below_drewN | apply below_drew1 | refine below_set ?_ (IsS76.ge HI0.out)) | exact HB.out), by repeat (first | (with_reducible first | exact HK.out | apply KeepBut.set_ | apply keep_drewN | apply keep_drew | apply keep_alloc) | exact HK.out)⟩
 ·
  rw [if_neg c3] at H
  have c3b0 : decide ((s0_0.length : Int) ≤ s0_1) = false := decide_eq_false c3
  clear c3
  obtain ⟨ji5, hji5⟩ : ∃ j_ : Int, (wrap64 ((wrap64 (s0_1 + 1)) - 1)) = j_ := ⟨_, rfl⟩
  replace H : (if 0 ≤ (ji5) then (if (ji5) < (s0_0.length : Int) then ((customsmade_Within.f (rd s0_0 (ji5)) a1).bind fun t772 => (some (t772, wrap64 (s0_1 + 1)))) else (none)) else (none)) = some (r1, r2) := by first | (rw [hji5] at H; exact H) | (simp only [hji5] at H ⊢; exact H)
  have hji5w : (IntKind.i64.wrap ((wrap64 (s0_1 + 1)) - 1)) = ji5 := (i64_w _).trans hji5
  by_cases c6 : 0 ≤ (ji5)
  ·
   rw [if_pos c6] at H
   have c6b0 : decide (0 ≤ (ji5)) = true := decide_eq_true c6
   clear c6
   by_cases c7 : (ji5) < (s0_0.length : Int)
   ·
    rw [if_pos c7] at H
    have c7b0 : decide ((ji5) < (s0_0.length : Int)) = true := decide_eq_true c7
    clear c7
    replace H := Option.bind_eq_some_iff.mp H
    obtain ⟨t772, A80, H⟩ := H
    replace H : (some (t772, wrap64 (s0_1 + 1))) = some (r1, r2) := H
    have A8 := Aside0.mk A80
    clear A80
    simp only [Option.some.injEq, Prod.mk.injEq] at H
    obtain ⟨rfl, rfl⟩ := H
    obtain ⟨ASz9_0, cSz9_0, HGz9, hgz9, HSz9_0⟩ := HI0.out
    have hcz9_0 := cellS76_0 HGz9
    have hcz9_1 := cellS76_1 HGz9
    have hfz9_1 := blk_frozen HGz9 1
    clear HGz9 hgz9
    have p771 : 0 ≤ ((ji5) : Int) := of_decide_eq_true (by first | (with_reducible assumption) | assumption)
    have q771 : (ji5) < (s0_0.length : Int) := of_decide_eq_true (by first | (with_reducible assumption) | assumption)
    obtain ⟨ad771, e771, hx771_0⟩ := Kd.at_int HSz9_0 (ji5) p771 q771
    cases e771
    have hn771_0 : ad771.block ≠ g := Nat.ne_of_lt (Nat.lt_of_lt_of_le (by have := World.block_lt_of_cell? _ _ hx771_0; first | rwa [add_block] at this | exact this) (IsS76.ge HI0.out))
    replace hx771_0 := pw_cell_below HB.out hx771_0
    replace hx771_0 := (cell_far (p := ⟨g, 1, none⟩) (by first | (rw [add_block]; exact hn771_0) | (show (Addr.add _ _).block ≠ _; rw [add_block]; exact hn771_0) | exact hn771_0) (.int .i64 (wrap64 (s0_1 + 1)))).trans hx771_0
    (try have hy771_0 := fun (n_ : Nat) => (show (((w.drewN n_).setCell ⟨g, 1, none⟩ (.int .i64 (wrap64 (s0_1 + 1))))).cell? _ = some _ from hx771_0))
    clear hn771_0
    replace p771 := eq_true p771
    replace q771 := eq_true q771
    go_enter Tryd.func51, Tryd.ntmps51
    go_wp2_with (first | (go_at_call 8; (with_reducible refine (customsmade_Within.calls (rd s0_0 (ji5)) a1 t772 _ A8.out).mono ?_); rintro e w' ⟨rfl, ⟨nd, rfl⟩⟩; (try first | exact ⟨rfl, _, World.drewN_drewN _ _ _⟩ | exact ⟨rfl, _, Eq.trans (World.drewN_drewN _ _ _) (congrArg (World.drewN _) (Nat.add_assoc _ _ _))⟩)))
    repeat (go_quiet (first | (go_at_call 8; (with_reducible refine (customsmade_Within.calls (rd s0_0 (ji5)) a1 t772 _ A8.out).mono ?_); rintro e w' ⟨rfl, ⟨nd, rfl⟩⟩; (try first | exact ⟨rfl, _, World.drewN_drewN _ _ _⟩ | exact ⟨rfl, _, Eq.trans (World.drewN_drewN _ _ _) (congrArg (World.drewN _) (Nat.add_assoc _ _ _))⟩))); try go_wp2_with (first | (go_at_call 8; (with_reducible refine (customsmade_Within.calls (rd s0_0 (ji5)) a1 t772 _ A8.out).mono ?_); rintro e w' ⟨rfl, ⟨nd, rfl⟩⟩; (try first | exact ⟨rfl, _, World.drewN_drewN _ _ _⟩ | exact ⟨rfl, _, Eq.trans (World.drewN_drewN _ _ _) (congrArg (World.drewN _) (Nat.add_assoc _ _ _))⟩))))
    go_ret
    exact ⟨by first | rfl | (simp [errW_none, errW_some] <;> rfl) | (simp only [← hji5]; first | rfl | (simp [errW_none, errW_some] <;> rfl)) | (simp [*, errW_none, errW_some] <;> rfl), by repeat (first | (with_reducible first | exact HI0.out | apply IsS76.alloc | apply IsS76.drewN | apply IsS76.drew | apply IsS76.set_1) | exact HI0.out), by repeat (first | (with_reducible first | exact HB.out | apply below_alloc | apply pw_below_drewN | apply below_drew1 | refine below_set ?_ (IsS76.ge HI0.out)) | exact HB.out), by repeat (first | (with_reducible first | exact HK.out | apply KeepBut.set_ | apply keep_drewN | apply keep_drew | apply keep_alloc) | exact HK.out)⟩
   ·
    rw [if_neg c7] at H
    exact absurd H (by simp)
  ·
   rw [if_neg c6] at H
   exact absurd H (by simp)

def customslaw35_incidents.l0 : Nat → List (S53) → List Int → Int → Option ((List (S53)))
 | 0, _, _, _ => none
 | k + 1, x4, x776000, x776001 => (customsmade_Source_Left.f x776000 x776001).bind fun bt776 => (if bt776.1 = true then ((customsmade_Source_Next.f x776000 bt776.2 2).bind fun bt778 => ((customsmade_Source_Next.f x776000 bt778.2 2).bind fun bt780 => ((customsmade_Source_Next.f x776000 bt780.2 6).bind fun bt782 => ((customsmade_Source_Next.f x776000 bt782.2 6).bind fun bt784 => (if x4.length < 3518437208883 then (customslaw35_incidents.l0 k (x4 ++ [(⟨wrap64 (100 + bt778.1), wrap64 ((x4.length : Int) + 1), wrap64 (1 + bt780.1), bt782.1, bt784.1⟩ : S53)]) x776000 bt784.2) else (none)))))) else (some x4))
def customslaw35_incidents.f (k : Nat) (l0 : List Int) : Option ((List (S53))) := (customsmade_Cut.f l0 60).bind fun t773 => (customslaw35_incidents.l0 k ([] : List (S53)) t773 0)
set_option maxHeartbeats 8000000 in
set_option maxRecDepth 100000 in
theorem customslaw35_incidents.calls (k : Nat) (A0 : Option Addr) (c0 : Nat) (l0 : List Int) (r : List (S53)) (w : World) (hr0 : Kd.C (Kd.int .i64) w A0 l0.length l0) (hc0 : l0.length ≤ c0) (h : customslaw35_incidents.f k l0 = some r) :
  Calls Tryd.prog 19 #[.slice A0 l0.length c0] w fun e w' => ∃ v0_ : Value, e = .returned (v0_) ∧ Kd.R k53 53 w' w.heap.size (fun _ => True) v0_ r ∧ Below w.heap.size w w' := by
 have hu76 := Tryd.underlying76
 have hu53 := Tryd.underlying53
 have HR0 := Aside0.mk hr0
 have HC0 := Aside0.mk hc0
 clear hr0 hc0
 have HB := Aside0.mk (Below.refl w.heap.size w)
 have H : ((customsmade_Cut.f l0 60).bind fun t773 => (customslaw35_incidents.l0 k ([] : List (S53)) t773 0)) = some r := h
 clear h
 replace H := Option.bind_eq_some_iff.mp H
 obtain ⟨t773, A20, H⟩ := H
 replace H : (customslaw35_incidents.l0 k ([] : List (S53)) t773 0) = some r := H
 have A2 := Aside0.mk A20
 clear A20
 have H' := Aside0.mk H
 clear H
 go_enter Tryd.func19, Tryd.ntmps19
 go_wp2_with (first | ((with_reducible refine gate_callee (f := 26) rfl ?_); refine goesL_ (some 6) rfl rfl Tryd.func26 (by kernel_rfl) rfl #[.slice A0 l0.length c0, .int .i64 60] rfl (by (try simp only [List.map_toArray, List.map_cons, List.map_nil]); first | done | rfl | (simp only [List.length_drop, List.length_take]; rfl)) ?_; (with_reducible refine (customsmade_Cut.reads _ _ l0 60 t773 _ ?side1 ?side2 A2.out).mono ?_); (case side1 => repeat (first | exact HR0.out | (with_reducible refine Kd.C_alloc ?_ _) | (with_reducible refine Kd.C_drewN ?_ _) | (with_reducible refine Kd.C_drew ?_))); (case side2 => exact HC0.out); rintro e w3 ⟨AR774, cR774, rfl, hr, hc, hb⟩; refine ⟨_, rfl, ?_⟩; have n0_ := Aside0.mk (below_step (by repeat (first | (with_reducible first | exact HB.out | apply below_alloc | apply pw_below_drewN | apply below_drew1) | exact HB.out)) hb); have n1_ := Aside0.mk (hr _ HR0.out); have n2_ := Aside0.mk (hc); clear HB; have HB := n0_; have HR774 := n1_; have HC774 := n2_; clear n0_ n1_ n2_; (try clear hb); (try clear hr); (try clear hc)) | ((with_reducible refine gate_dst (N := 8) rfl ?_); refine box_event ?hg (N := 8) ?hd (cs := #[.slice AR774 t773.length cR774, .int .i64 0]) (t := 76) ?hr ?_; (case hd => rfl); (case hg => rfl); (case hr => first | (go_simp; done) | (go_simp; rfl)); intro gb775 hg w4 hbox hb; have n0_ := Aside0.mk (below_step (by repeat (first | (with_reducible first | exact HB.out | apply below_alloc | apply pw_below_drewN | apply below_drew1) | exact HB.out)) hb); have n1_ := Aside0.mk ((⟨_, _, hbox, (by rw [hg]; exact (below_size (by repeat (first | (with_reducible first | exact HB.out | apply below_alloc | apply pw_below_drewN | apply below_drew1) | exact HB.out))) : w.heap.size ≤ gb775), HR774.out⟩ : IsS76 w w4 gb775 t773 0)); clear HB; have HB := n0_; have HI775 := n1_; clear n0_ n1_; clear hb hbox hg))
 go_loopg [4] k (fun kq v4 w' => ∃ (x4_1 : List (S53)) (x776001_1 : Int), Aside0 (customslaw35_incidents.l0 kq x4_1 t773 x776001_1 = some r) ∧ Aside0 (kq ≤ k) ∧ Aside0 (Kd.R k53 53 w' w.heap.size (fun _ => True) v4 x4_1) ∧ Aside0 (IsS76 w w' gb775 t773 x776001_1) ∧ Aside0 (Below w.heap.size w w'))
 case atStart => exact ⟨(([] : List (S53))), (0), H', ⟨Nat.le_refl _⟩, ⟨by first | exact Kd.R_nil _ _ _ _ _ | exact Kd.N_nil _ _ _ _ _ | exact Kd.V_nil _ _ _ _ _ | exact Kd.Q_nil _ _ _ _ _ | exact Kd.S_nil _ _ _ _ _⟩, ⟨by repeat (first | (with_reducible first | exact HI775.out | apply IsS76.alloc | apply IsS76.drewN | apply IsS76.drew | apply IsS76.set_1) | exact HI775.out)⟩, ⟨by repeat (first | (with_reducible first | exact HB.out | apply below_alloc | apply pw_below_drewN | apply below_drew1 | refine below_set ?_ (IsS76.ge HI775.out)) | exact HB.out)⟩⟩
 case round =>
  clear H'
  try clear c1
  try clear c2
  try clear p2
  obtain ⟨x4_1, x776001_1, HA, HK1, HO_4, HI775, HB⟩ := hrel
  cases gk with
  | zero => exact absurd HA.out (by simp [customslaw35_incidents.l0])
  | succ k1 =>
   have H := HA.out
   clear HA
   simp only [customslaw35_incidents.l0] at H
   replace H := Option.bind_eq_some_iff.mp H
   obtain ⟨⟨t776, t777⟩, A50, H⟩ := H
   replace H : (if t776 = true then ((customsmade_Source_Next.f t773 t777 2).bind fun bt778 => ((customsmade_Source_Next.f t773 bt778.2 2).bind fun bt780 => ((customsmade_Source_Next.f t773 bt780.2 6).bind fun bt782 => ((customsmade_Source_Next.f t773 bt782.2 6).bind fun bt784 => (if x4_1.length < 3518437208883 then (customslaw35_incidents.l0 k1 (x4_1 ++ [(⟨wrap64 (100 + bt778.1), wrap64 ((x4_1.length : Int) + 1), wrap64 (1 + bt780.1), bt782.1, bt784.1⟩ : S53)]) t773 bt784.2) else (none)))))) else (some x4_1)) = some r := H
   have A5 := Aside0.mk A50
   clear A50
   by_cases c6 : t776 = true
   ·
    subst c6
    have H1 : ((customsmade_Source_Next.f t773 t777 2).bind fun bt778 => ((customsmade_Source_Next.f t773 bt778.2 2).bind fun bt780 => ((customsmade_Source_Next.f t773 bt780.2 6).bind fun bt782 => ((customsmade_Source_Next.f t773 bt782.2 6).bind fun bt784 => (if x4_1.length < 3518437208883 then (customslaw35_incidents.l0 k1 (x4_1 ++ [(⟨wrap64 (100 + bt778.1), wrap64 ((x4_1.length : Int) + 1), wrap64 (1 + bt780.1), bt782.1, bt784.1⟩ : S53)]) t773 bt784.2) else (none)))))) = some r := by rw [if_pos rfl] at H; exact H
    clear H
    have H := H1
    clear H1
    replace H := Option.bind_eq_some_iff.mp H
    obtain ⟨⟨t778, t779⟩, A70, H⟩ := H
    replace H : ((customsmade_Source_Next.f t773 t779 2).bind fun bt780 => ((customsmade_Source_Next.f t773 bt780.2 6).bind fun bt782 => ((customsmade_Source_Next.f t773 bt782.2 6).bind fun bt784 => (if x4_1.length < 3518437208883 then (customslaw35_incidents.l0 k1 (x4_1 ++ [(⟨wrap64 (100 + t778), wrap64 ((x4_1.length : Int) + 1), wrap64 (1 + bt780.1), bt782.1, bt784.1⟩ : S53)]) t773 bt784.2) else (none))))) = some r := H
    have A7 := Aside0.mk A70
    clear A70
    replace H := Option.bind_eq_some_iff.mp H
    obtain ⟨⟨t780, t781⟩, A80, H⟩ := H
    replace H : ((customsmade_Source_Next.f t773 t781 6).bind fun bt782 => ((customsmade_Source_Next.f t773 bt782.2 6).bind fun bt784 => (if x4_1.length < 3518437208883 then (customslaw35_incidents.l0 k1 (x4_1 ++ [(⟨wrap64 (100 + t778), wrap64 ((x4_1.length : Int) + 1), wrap64 (1 + t780), bt782.1, bt784.1⟩ : S53)]) t773 bt784.2) else (none)))) = some r := H
    have A8 := Aside0.mk A80
    clear A80
    replace H := Option.bind_eq_some_iff.mp H
    obtain ⟨⟨t782, t783⟩, A90, H⟩ := H
    replace H : ((customsmade_Source_Next.f t773 t783 6).bind fun bt784 => (if x4_1.length < 3518437208883 then (customslaw35_incidents.l0 k1 (x4_1 ++ [(⟨wrap64 (100 + t778), wrap64 ((x4_1.length : Int) + 1), wrap64 (1 + t780), t782, bt784.1⟩ : S53)]) t773 bt784.2) else (none))) = some r := H
    have A9 := Aside0.mk A90
    clear A90
    replace H := Option.bind_eq_some_iff.mp H
    obtain ⟨⟨t784, t785⟩, A100, H⟩ := H
    replace H : (if x4_1.length < 3518437208883 then (customslaw35_incidents.l0 k1 (x4_1 ++ [(⟨wrap64 (100 + t778), wrap64 ((x4_1.length : Int) + 1), wrap64 (1 + t780), t782, t784⟩ : S53)]) t773 t785) else (none)) = some r := H
    have A10 := Aside0.mk A100
    clear A100
    by_cases c11 : x4_1.length < 3518437208883
    ·
     rw [if_pos c11] at H
     have LMc11 := Aside0.mk c11
     clear c11
     obtain ⟨y786, hy786⟩ : ∃ y_ : List (S53), y_ = (x4_1 ++ [(⟨wrap64 (100 + t778), wrap64 ((x4_1.length : Int) + 1), wrap64 (1 + t780), t782, t784⟩ : S53)]) := ⟨_, rfl⟩
     replace H : (customslaw35_incidents.l0 k1 y786 t773 t785) = some r := by first | (rw [hy786]; with_reducible exact H) | (have H2_ := (Option.bind_some _ _).symm.trans H; rw [hy786]; with_reducible exact H2_) | (have H2_ := (Option.bind_some _ _).symm.trans H; with_reducible exact H2_) | with_reducible exact H | (rw [hy786]; exact H) | exact H
     have Ny786 := Aside0.mk hy786
     clear hy786
     have H' := Aside0.mk H
     clear H
     go_wp2_with (first | ((with_reducible refine gate_callee (f := 50) rfl ?_); refine goesL_ (some 10) rfl rfl Tryd.func50 (by kernel_rfl) rfl #[.pointer (some ⟨gb775, 0, none⟩)] rfl (by (try simp only [List.map_toArray, List.map_cons, List.map_nil]); first | done | rfl | (simp only [List.length_drop, List.length_take]; rfl)) ?_; (with_reducible refine (customsmade_Source_Left.calls gb775 t773 x776001_1 true t777 w _ ?side1 ?side2 A5.out).mono ?_); (case side1 => repeat (first | (with_reducible first | exact HI775.out | apply IsS76.alloc | apply IsS76.drewN | apply IsS76.drew | apply IsS76.set_1) | exact HI775.out)); (case side2 => repeat (first | (with_reducible first | exact HB.out | apply below_alloc | apply pw_below_drewN | apply below_drew1 | refine below_set ?_ (IsS76.ge HI775.out)) | exact HB.out)); rintro e w12 ⟨rfl, hi, hb, hk⟩; refine ⟨_, rfl, ?_⟩; have n0_ := Aside0.mk (Kd.R_mono (Kd.R_keep (IsS76.apart (show IsS76 w _ gb775 t773 x776001_1 from by repeat (first | (with_reducible first | exact HI775.out | apply IsS76.alloc | apply IsS76.drewN | apply IsS76.drew | apply IsS76.set_1) | exact HI775.out)) (by (with_reducible repeat (first | apply Kd.R_alloc | apply Kd.R_drewN | apply Kd.R_drew)); exact HO_4.out) (by decide)) hk (fun _ h => h.2)) (fun _ h => h.1)); have n1_ := Aside0.mk (hb); have n2_ := Aside0.mk (hi); clear HO_4; clear HB; clear HI775; have HO_4 := n0_; have HB := n1_; have HI775 := n2_; clear n0_ n1_ n2_; (try clear hb); (try clear hb2); (try clear hk); (try clear hi)) | ((with_reducible refine gate_callee (f := 51) rfl ?_); refine goesL_ (some 13) rfl rfl Tryd.func51 (by kernel_rfl) rfl #[.pointer (some ⟨gb775, 0, none⟩), .int .i64 2] rfl (by (try simp only [List.map_toArray, List.map_cons, List.map_nil]); first | done | rfl | (simp only [List.length_drop, List.length_take]; rfl)) ?_; (with_reducible refine (customsmade_Source_Next.calls gb775 t773 t777 2 t778 t779 w _ ?side1 ?side2 A7.out).mono ?_); (case side1 => repeat (first | (with_reducible first | exact HI775.out | apply IsS76.alloc | apply IsS76.drewN | apply IsS76.drew | apply IsS76.set_1) | exact HI775.out)); (case side2 => repeat (first | (with_reducible first | exact HB.out | apply below_alloc | apply pw_below_drewN | apply below_drew1 | refine below_set ?_ (IsS76.ge HI775.out)) | exact HB.out)); rintro e w13 ⟨rfl, hi, hb, hk⟩; refine ⟨_, rfl, ?_⟩; have n0_ := Aside0.mk (Kd.R_mono (Kd.R_keep (IsS76.apart (show IsS76 w _ gb775 t773 t777 from by repeat (first | (with_reducible first | exact HI775.out | apply IsS76.alloc | apply IsS76.drewN | apply IsS76.drew | apply IsS76.set_1) | exact HI775.out)) (by (with_reducible repeat (first | apply Kd.R_alloc | apply Kd.R_drewN | apply Kd.R_drew)); exact HO_4.out) (by decide)) hk (fun _ h => h.2)) (fun _ h => h.1)); have n1_ := Aside0.mk (hb); have n2_ := Aside0.mk (hi); clear HO_4; clear HB; clear HI775; have HO_4 := n0_; have HB := n1_; have HI775 := n2_; clear n0_ n1_ n2_; (try clear hb); (try clear hb2); (try clear hk); (try clear hi); obtain ⟨Ao14, co14, eo14⟩ := Kd.R_slice HO_4.out; subst eo14) | ((with_reducible refine gate_callee (f := 51) rfl ?_); refine goesL_ (some 19) rfl rfl Tryd.func51 (by kernel_rfl) rfl #[.pointer (some ⟨gb775, 0, none⟩), .int .i64 2] rfl (by (try simp only [List.map_toArray, List.map_cons, List.map_nil]); first | done | rfl | (simp only [List.length_drop, List.length_take]; rfl)) ?_; (with_reducible refine (customsmade_Source_Next.calls gb775 t773 t779 2 t780 t781 w _ ?side1 ?side2 A8.out).mono ?_); (case side1 => repeat (first | (with_reducible first | exact HI775.out | apply IsS76.alloc | apply IsS76.drewN | apply IsS76.drew | apply IsS76.set_1) | exact HI775.out)); (case side2 => repeat (first | (with_reducible first | exact HB.out | apply below_alloc | apply pw_below_drewN | apply below_drew1 | refine below_set ?_ (IsS76.ge HI775.out)) | exact HB.out)); rintro e w15 ⟨rfl, hi, hb, hk⟩; refine ⟨_, rfl, ?_⟩; have n0_ := Aside0.mk (Kd.R_mono (Kd.R_keep (IsS76.apart (show IsS76 w _ gb775 t773 t779 from by repeat (first | (with_reducible first | exact HI775.out | apply IsS76.alloc | apply IsS76.drewN | apply IsS76.drew | apply IsS76.set_1) | exact HI775.out)) (by (with_reducible repeat (first | apply Kd.R_alloc | apply Kd.R_drewN | apply Kd.R_drew)); exact HO_4.out) (by decide)) hk (fun _ h => h.2)) (fun _ h => h.1)); have n1_ := Aside0.mk (hb); have n2_ := Aside0.mk (hi); clear HO_4; clear HB; clear HI775; have HO_4 := n0_; have HB := n1_; have HI775 := n2_; clear n0_ n1_ n2_; (try clear hb); (try clear hb2); (try clear hk); (try clear hi)) | ((with_reducible refine gate_callee (f := 51) rfl ?_); refine goesL_ (some 22) rfl rfl Tryd.func51 (by kernel_rfl) rfl #[.pointer (some ⟨gb775, 0, none⟩), .int .i64 6] rfl (by (try simp only [List.map_toArray, List.map_cons, List.map_nil]); first | done | rfl | (simp only [List.length_drop, List.length_take]; rfl)) ?_; (with_reducible refine (customsmade_Source_Next.calls gb775 t773 t781 6 t782 t783 w _ ?side1 ?side2 A9.out).mono ?_); (case side1 => repeat (first | (with_reducible first | exact HI775.out | apply IsS76.alloc | apply IsS76.drewN | apply IsS76.drew | apply IsS76.set_1) | exact HI775.out)); (case side2 => repeat (first | (with_reducible first | exact HB.out | apply below_alloc | apply pw_below_drewN | apply below_drew1 | refine below_set ?_ (IsS76.ge HI775.out)) | exact HB.out)); rintro e w16 ⟨rfl, hi, hb, hk⟩; refine ⟨_, rfl, ?_⟩; have n0_ := Aside0.mk (Kd.R_mono (Kd.R_keep (IsS76.apart (show IsS76 w _ gb775 t773 t781 from by repeat (first | (with_reducible first | exact HI775.out | apply IsS76.alloc | apply IsS76.drewN | apply IsS76.drew | apply IsS76.set_1) | exact HI775.out)) (by (with_reducible repeat (first | apply Kd.R_alloc | apply Kd.R_drewN | apply Kd.R_drew)); exact HO_4.out) (by decide)) hk (fun _ h => h.2)) (fun _ h => h.1)); have n1_ := Aside0.mk (hb); have n2_ := Aside0.mk (hi); clear HO_4; clear HB; clear HI775; have HO_4 := n0_; have HB := n1_; have HI775 := n2_; clear n0_ n1_ n2_; (try clear hb); (try clear hb2); (try clear hk); (try clear hi)) | ((with_reducible refine gate_callee (f := 51) rfl ?_); refine goesL_ (some 24) rfl rfl Tryd.func51 (by kernel_rfl) rfl #[.pointer (some ⟨gb775, 0, none⟩), .int .i64 6] rfl (by (try simp only [List.map_toArray, List.map_cons, List.map_nil]); first | done | rfl | (simp only [List.length_drop, List.length_take]; rfl)) ?_; (with_reducible refine (customsmade_Source_Next.calls gb775 t773 t783 6 t784 t785 w _ ?side1 ?side2 A10.out).mono ?_); (case side1 => repeat (first | (with_reducible first | exact HI775.out | apply IsS76.alloc | apply IsS76.drewN | apply IsS76.drew | apply IsS76.set_1) | exact HI775.out)); (case side2 => repeat (first | (with_reducible first | exact HB.out | apply below_alloc | apply pw_below_drewN | apply below_drew1 | refine below_set ?_ (IsS76.ge HI775.out)) | exact HB.out)); rintro e w17 ⟨rfl, hi, hb, hk⟩; refine ⟨_, rfl, ?_⟩; have n0_ := Aside0.mk (Kd.R_mono (Kd.R_keep (IsS76.apart (show IsS76 w _ gb775 t773 t783 from by repeat (first | (with_reducible first | exact HI775.out | apply IsS76.alloc | apply IsS76.drewN | apply IsS76.drew | apply IsS76.set_1) | exact HI775.out)) (by (with_reducible repeat (first | apply Kd.R_alloc | apply Kd.R_drewN | apply Kd.R_drew)); exact HO_4.out) (by decide)) hk (fun _ h => h.2)) (fun _ h => h.1)); have n1_ := Aside0.mk (hb); have n2_ := Aside0.mk (hi); clear HO_4; clear HB; clear HI775; have HO_4 := n0_; have HB := n1_; have HI775 := n2_; clear n0_ n1_ n2_; (try clear hb); (try clear hb2); (try clear hk); (try clear hi)) | ((with_reducible refine gate_builtin (b := .append) (xs := #[.tmp 11, .tmp 26]) rfl ?_); at_builtin; refine Kd.R_append k53 (w0 := w) w.heap.size rfl (.tmp 11) (.tmp 26) 44 53 (.agg #[(.int .i64 0), (.int .i64 0), (.int .i64 0), (.int .i64 0), (.int .i64 0)]) 40 rfl Tryd.underlying44 info53 rfl (by decide) (by omega) (.slice Ao14 x4_1.length co14) x4_1 (⟨wrap64 (100 + t778), wrap64 ((x4_1.length : Int) + 1), wrap64 (1 + t780), t782, t784⟩ : S53) [.int .i64 (wrap64 (100 + t778)), .int .i64 (wrap64 ((x4_1.length : Int) + 1)), .int .i64 (wrap64 (1 + t780)), .int .i64 t782, .int .i64 t784] (fun _ => True) (fun _ => False) rfl rfl ?aP (fun _ hk => hk.elim) ?aF ?aO ?aB ?aS ?aL ?_; (case aP => exact k53_mkM _ _ _ (⟨wrap64 (100 + t778), wrap64 ((x4_1.length : Int) + 1), wrap64 (1 + t780), t782, t784⟩ : S53)); (case aB => exact (by repeat (first | (with_reducible first | exact HB.out | apply below_alloc | apply pw_below_drewN | apply below_drew1 | refine below_set ?_ (IsS76.ge HI775.out)) | exact HB.out))); (case aF => exact (fun _ _ => trivial)); (case aO => exact (by (with_reducible repeat (first | apply Kd.R_alloc | apply Kd.R_drewN | apply Kd.R_drew)); exact HO_4.out)); (case aS => exact (below_size (by repeat (first | (with_reducible first | exact HB.out | apply below_alloc | apply pw_below_drewN | apply below_drew1 | refine below_set ?_ (IsS76.ge HI775.out)) | exact HB.out)))); (case aL => have := LMc11.out; omega); intro v787 w18 ho hb hg hat; rw [← Ny786.out] at ho; have n0_ := Aside0.mk (IsS76.grown (by repeat (first | (with_reducible first | exact HI775.out | apply IsS76.alloc | apply IsS76.drewN | apply IsS76.drew | apply IsS76.set_1) | exact HI775.out)) hg (IsS76.own_ne HI775.out HO_4.out (by decide))); have n1_ := Aside0.mk (hb); have n2_ := Aside0.mk (ho); clear HI775; clear HB; clear HO_4; have HI775 := n0_; have HB := n1_; have HO788 := n2_; clear n0_ n1_ n2_; clear ho hb hg hat))
     go_roundg k1
     case measure => have := HK1.out; omega
     case rel => exact ⟨(y786), (t785), H', ⟨by have := HK1.out; omega⟩, ⟨by (with_reducible repeat (first | apply Kd.R_alloc | apply Kd.R_drewN | apply Kd.R_drew)); exact HO788.out⟩, ⟨by repeat (first | (with_reducible first | exact HI775.out | apply IsS76.alloc | apply IsS76.drewN | apply IsS76.drew | apply IsS76.set_1) | exact HI775.out)⟩, ⟨by repeat (first | (with_reducible first | exact HB.out | apply below_alloc | apply pw_below_drewN | apply below_drew1 | refine below_set ?_ (IsS76.ge HI775.out)) | exact HB.out)⟩⟩
    ·
     rw [if_neg c11] at H
     exact absurd H (by simp)
   ·
    replace c6 := Bool.eq_false_iff.mpr c6
    subst c6
    have H1 : (some x4_1) = some r := by rw [if_neg (show ¬ (false = true) by decide)] at H; exact H
    clear H
    have H := H1
    clear H1
    obtain rfl := Option.some.inj H
    go_wp2_with (first | ((with_reducible refine gate_callee (f := 50) rfl ?_); refine goesL_ (some 10) rfl rfl Tryd.func50 (by kernel_rfl) rfl #[.pointer (some ⟨gb775, 0, none⟩)] rfl (by (try simp only [List.map_toArray, List.map_cons, List.map_nil]); first | done | rfl | (simp only [List.length_drop, List.length_take]; rfl)) ?_; (with_reducible refine (customsmade_Source_Left.calls gb775 t773 x776001_1 false t777 w _ ?side1 ?side2 A5.out).mono ?_); (case side1 => repeat (first | (with_reducible first | exact HI775.out | apply IsS76.alloc | apply IsS76.drewN | apply IsS76.drew | apply IsS76.set_1) | exact HI775.out)); (case side2 => repeat (first | (with_reducible first | exact HB.out | apply below_alloc | apply pw_below_drewN | apply below_drew1 | refine below_set ?_ (IsS76.ge HI775.out)) | exact HB.out)); rintro e w19 ⟨rfl, hi, hb, hk⟩; refine ⟨_, rfl, ?_⟩; have n0_ := Aside0.mk (Kd.R_mono (Kd.R_keep (IsS76.apart (show IsS76 w _ gb775 t773 x776001_1 from by repeat (first | (with_reducible first | exact HI775.out | apply IsS76.alloc | apply IsS76.drewN | apply IsS76.drew | apply IsS76.set_1) | exact HI775.out)) (by (with_reducible repeat (first | apply Kd.R_alloc | apply Kd.R_drewN | apply Kd.R_drew)); exact HO_4.out) (by decide)) hk (fun _ h => h.2)) (fun _ h => h.1)); have n1_ := Aside0.mk (hb); have n2_ := Aside0.mk (hi); clear HO_4; clear HB; clear HI775; have HO_4 := n0_; have HB := n1_; have HI775 := n2_; clear n0_ n1_ n2_; (try clear hb); (try clear hb2); (try clear hk); (try clear hi)))
    go_ret
    exact ⟨_, by first | rfl | (simp [errW_none, errW_some] <;> rfl) | (simp [*, errW_none, errW_some] <;> rfl), by (with_reducible repeat (first | apply Kd.R_alloc | apply Kd.R_drewN | apply Kd.R_drew)); exact HO_4.out, by repeat (first | (with_reducible first | exact HB.out | apply below_alloc | apply pw_below_drewN | apply below_drew1 | refine below_set ?_ (IsS76.ge HI775.out)) | exact HB.out)⟩

mutual
def customsmade_Order.l0 : Nat → Int → List Int → Int → List Int → Int → Option (List Int)
 | 0, _, _, _, _, _ => none
 | k + 1, x0, x6, x8, x955000, x955001 => if x8 < x0 then (if x6.length < 17592186044416 then (customsmade_Order.l0 k x0 (x6 ++ [x8]) (wrap64 (x8 + 1)) x955000 x955001) else (none)) else (customsmade_Order.l1 k x6 ([] : List Int) x955000 x955001)
def customsmade_Order.l1 : Nat → List Int → List Int → List Int → Int → Option (List Int)
 | 0, _, _, _, _ => none
 | k + 1, x6, x7, x955000, x955001 => if (x6.length : Int) > 0 then ((customsmade_Source_Next.f x955000 x955001 (x6.length : Int)).bind fun bt958 => (if 0 ≤ bt958.1 then (if bt958.1 < (x6.length : Int) then (if x7.length < 17592186044416 then ((some (([] : List Int) : List Int)).bind fun y964 => (if bt958.1 ≤ (x6.length : Int) then ((some (x6.take (bt958.1 : Int).toNat : List Int)).bind fun y967 => (if y964.length + y967.length < 17592186044416 then ((some (y964 ++ y967 : List Int)).bind fun y971 => (if 0 ≤ (wrap64 (bt958.1 + 1)) then (if (wrap64 (bt958.1 + 1)) ≤ (x6.length : Int) then ((some (x6.drop ((wrap64 (bt958.1 + 1)) : Int).toNat : List Int)).bind fun y974 => (if y971.length + y974.length < 17592186044416 then (customsmade_Order.l1 k (y971 ++ y974) (x7 ++ [rd x6 bt958.1]) x955000 bt958.2) else (none))) else (none)) else (none))) else (none))) else (none))) else (none)) else (none)) else (none))) else (some x7)
end
def customsmade_Order.f (k : Nat) (a0 : Int) (l1 : List Int) : Option (List Int) := customsmade_Order.l0 k a0 ([] : List Int) 0 l1 0
def customsmade_Order.T10 : Bool × List (List Nat × List Nat) := (true, [([], []), ([], []), ([], []), ([1, 2], [1, 2]), ([0, 3], [0, 3]), ([], []), ([], []), ([6], [6]), ([5, 7], [5, 7]), ([4, 8, 4], [4, 8]), ([9, 9, 0, 1, 2, 3, 4, 5, 6, 7, 8, 9], [1, 5, 9])])
def customsmade_Order.B10 : List Nat := [0, 0, 0, 6, 15, 0, 0, 64, 224, 511, 1023]
theorem customsmade_Order.tab10 : rtab .any (opsOf Tryd.f25 10) = customsmade_Order.T10 := by kernel_rfl
theorem customsmade_Order.bits10 : waitsOk customsmade_Order.T10.2 customsmade_Order.B10 = true := by kernel_rfl
set_option maxHeartbeats 8000000 in
set_option maxRecDepth 100000 in
theorem customsmade_Order.calls (k : Nat) (a0 : Int) (A1 : Option Addr) (c1 : Nat) (l1 : List Int) (r : List Int) (w : World) (hr1 : Kd.C (Kd.int .i64) w A1 l1.length l1) (hc1 : l1.length ≤ c1) (h : customsmade_Order.f k a0 l1 = some r) :
  Calls Tryd.prog 25 #[.int .i64 a0, .slice A1 l1.length c1] w fun e w' => ∃ v0_ : Value, e = .returned (v0_) ∧ Kd.R (Kd.int .i64) 3 w' w.heap.size (fun _ => True) v0_ r ∧ Below w.heap.size w w' := by
 have hu76 := Tryd.underlying76
 have HR1 := Aside0.mk hr1
 have HC1 := Aside0.mk hc1
 clear hr1 hc1
 have HB := Aside0.mk (Below.refl w.heap.size w)
 have H : (customsmade_Order.l0 k a0 ([] : List Int) 0 l1 0) = some r := h
 clear h
 have H' := Aside0.mk H
 clear H
 go_enter Tryd.func25, Tryd.ntmps25
 go_wp2_with (first | ((with_reducible refine gate_dst (N := 12) rfl ?_); refine box_event ?hg (N := 12) ?hd (cs := #[.slice A1 l1.length c1, .int .i64 0]) (t := 76) ?hr ?_; (case hd => rfl); (case hg => rfl); (case hr => first | (go_simp; done) | (go_simp; rfl)); intro gb954 hg w3 hbox hb; have n0_ := Aside0.mk (below_step (by repeat (first | (with_reducible first | exact HB.out | apply below_alloc | apply pw_below_drewN | apply below_drew1) | exact HB.out)) hb); have n1_ := Aside0.mk ((⟨_, _, hbox, (by rw [hg]; exact (below_size (by repeat (first | (with_reducible first | exact HB.out | apply below_alloc | apply pw_below_drewN | apply below_drew1) | exact HB.out))) : w.heap.size ≤ gb954), HR1.out⟩ : IsS76 w w3 gb954 l1 0)); clear HB; have HB := n0_; have HI954 := n1_; clear n0_ n1_; clear hb hbox hg))
 go_loopg [6, 8] k (fun kq v6 v8 w' => ∃ (x6_1 : List Int) (x8_1 : Int), v8 = .int .i64 x8_1 ∧ Aside0 (customsmade_Order.l0 kq a0 x6_1 x8_1 l1 0 = some r) ∧ Aside0 (kq ≤ k) ∧ Aside0 (Kd.R (Kd.int .i64) 3 w' w.heap.size (fun _ => True) v6 x6_1) ∧ Aside0 (IsS76 w w' gb954 l1 0) ∧ Aside0 (Below w.heap.size w w'))
 case atStart => exact ⟨(([] : List Int)), (0), (by first | rfl | (simp; done) | (simp [*]; done)), H', ⟨Nat.le_refl _⟩, ⟨by first | exact Kd.R_nil _ _ _ _ _ | exact Kd.N_nil _ _ _ _ _ | exact Kd.V_nil _ _ _ _ _ | exact Kd.Q_nil _ _ _ _ _ | exact Kd.S_nil _ _ _ _ _⟩, ⟨by repeat (first | (with_reducible first | exact HI954.out | apply IsS76.alloc | apply IsS76.drewN | apply IsS76.drew | apply IsS76.set_1) | exact HI954.out)⟩, ⟨by repeat (first | (with_reducible first | exact HB.out | apply below_alloc | apply pw_below_drewN | apply below_drew1 | refine below_set ?_ (IsS76.ge HI954.out)) | exact HB.out)⟩⟩
 case round =>
  clear H'
  try clear c1
  try clear c2
  try clear p2
  obtain ⟨x6_1, x8_1, rfl, HA, HK1, HO_6, HI954, HB⟩ := hrel
  cases gk with
  | zero => exact absurd HA.out (by simp [customsmade_Order.l0])
  | succ k1 =>
   have H := HA.out
   clear HA
   simp only [customsmade_Order.l0] at H
   by_cases c4 : x8_1 < a0
   ·
    rw [if_pos c4] at H
    have c4b0 : decide (x8_1 < a0) = true := decide_eq_true c4
    clear c4
    by_cases c5 : x6_1.length < 17592186044416
    ·
     rw [if_pos c5] at H
     have LMc5 := Aside0.mk c5
     clear c5
     obtain ⟨y955, hy955⟩ : ∃ y_ : List Int, y_ = (x6_1 ++ [x8_1]) := ⟨_, rfl⟩
     replace H : (customsmade_Order.l0 k1 a0 y955 (wrap64 (x8_1 + 1)) l1 0) = some r := by first | (rw [hy955]; with_reducible exact H) | (have H2_ := (Option.bind_some _ _).symm.trans H; rw [hy955]; with_reducible exact H2_) | (have H2_ := (Option.bind_some _ _).symm.trans H; with_reducible exact H2_) | with_reducible exact H | (rw [hy955]; exact H) | exact H
     have Ny955 := Aside0.mk hy955
     clear hy955
     have H' := Aside0.mk H
     clear H
     go_wp2_with (first | ((with_reducible refine gate_builtin (b := .append) (xs := #[.tmp 18, .tmp 20]) rfl ?_); at_builtin; refine Kd.R_append (Kd.int .i64) (w0 := w) w.heap.size rfl (.tmp 18) (.tmp 20) 25 3 (.int .i64 0) 8 rfl Tryd.underlying25 info3 rfl (by decide) (by omega) u6 x6_1 x8_1 [.int .i64 x8_1] (fun _ => True) (fun _ => False) rfl rfl ?aP (fun _ hk => hk.elim) ?aF ?aO ?aB ?aS ?aL ?_; (case aP => exact rfl); (case aB => exact (by repeat (first | (with_reducible first | exact HB.out | apply below_alloc | apply pw_below_drewN | apply below_drew1 | refine below_set ?_ (IsS76.ge HI954.out)) | exact HB.out))); (case aF => exact (fun _ _ => trivial)); (case aO => exact (by (with_reducible repeat (first | apply Kd.R_alloc | apply Kd.R_drewN | apply Kd.R_drew)); exact HO_6.out)); (case aS => exact (below_size (by repeat (first | (with_reducible first | exact HB.out | apply below_alloc | apply pw_below_drewN | apply below_drew1 | refine below_set ?_ (IsS76.ge HI954.out)) | exact HB.out)))); (case aL => have := LMc5.out; omega); intro v956 w6 ho hb hg hat; rw [← Ny955.out] at ho; have n0_ := Aside0.mk (IsS76.grown (by repeat (first | (with_reducible first | exact HI954.out | apply IsS76.alloc | apply IsS76.drewN | apply IsS76.drew | apply IsS76.set_1) | exact HI954.out)) hg (IsS76.own_ne HI954.out HO_6.out (by decide))); have n1_ := Aside0.mk (hb); have n2_ := Aside0.mk (ho); clear HI954; clear HB; clear HO_6; have HI954 := n0_; have HB := n1_; have HO957 := n2_; clear n0_ n1_ n2_; clear ho hb hg hat))
     go_roundg k1
     case measure => have := HK1.out; omega
     case rel => exact ⟨(y955), (wrap64 (x8_1 + 1)), (by first | rfl | (simp; done) | (simp [*]; done)), H', ⟨by have := HK1.out; omega⟩, ⟨by (with_reducible repeat (first | apply Kd.R_alloc | apply Kd.R_drewN | apply Kd.R_drew)); exact HO957.out⟩, ⟨by repeat (first | (with_reducible first | exact HI954.out | apply IsS76.alloc | apply IsS76.drewN | apply IsS76.drew | apply IsS76.set_1) | exact HI954.out)⟩, ⟨by repeat (first | (with_reducible first | exact HB.out | apply below_alloc | apply pw_below_drewN | apply below_drew1 | refine below_set ?_ (IsS76.ge HI954.out)) | exact HB.out)⟩⟩
    ·
     rw [if_neg c5] at H
     exact absurd H (by simp)
   ·
    rw [if_neg c4] at H
    have c4b0 : decide (x8_1 < a0) = false := decide_eq_false c4
    clear c4
    have H' := Aside0.mk H
    clear H
    go_wp2
    go_loopg [6, 7] k1 (fun kq v6 v7 w' => ∃ (x6_2 : List Int) (x7_2 : List Int) (x955001_2 : Int), Aside0 (customsmade_Order.l1 kq x6_2 x7_2 l1 x955001_2 = some r) ∧ Aside0 (kq ≤ k1) ∧ Aside0 (Kd.R (Kd.int .i64) 3 w' w.heap.size (fun k_ => some k_ ≠ (v7 : Value).ownBlock) v6 x6_2) ∧ Aside0 (Kd.R (Kd.int .i64) 3 w' w.heap.size (fun k_ => some k_ ≠ (v6 : Value).ownBlock) v7 x7_2) ∧ Aside0 (IsS76 w w' gb954 l1 x955001_2) ∧ Aside0 (Below w.heap.size w w'))
    case atStart => exact ⟨(x6_1), (([] : List Int)), (0), H', ⟨Nat.le_refl _⟩, ⟨by (with_reducible repeat (first | apply Kd.R_alloc | apply Kd.R_drewN | apply Kd.R_drew)); exact Kd.R_mono HO_6.out (fun _ hk => (by simp [Value.ownBlock]))⟩, ⟨by first | exact Kd.R_nil _ _ _ _ _ | exact Kd.N_nil _ _ _ _ _ | exact Kd.V_nil _ _ _ _ _ | exact Kd.Q_nil _ _ _ _ _ | exact Kd.S_nil _ _ _ _ _⟩, ⟨by repeat (first | (with_reducible first | exact HI954.out | apply IsS76.alloc | apply IsS76.drewN | apply IsS76.drew | apply IsS76.set_1) | exact HI954.out)⟩, ⟨by repeat (first | (with_reducible first | exact HB.out | apply below_alloc | apply pw_below_drewN | apply below_drew1 | refine below_set ?_ (IsS76.ge HI954.out)) | exact HB.out)⟩⟩
    case round =>
     clear H'
     try clear c1
     try clear c2
     try clear p2
     try clear c4
     try clear c4b0
     try clear c5
     try clear p6
     try clear p2
     obtain ⟨x6_2, x7_2, x955001_2, HA, HK2, HO_6, HO_7, HI954, HB⟩ := hrel
     cases gk with
     | zero => exact absurd HA.out (by simp [customsmade_Order.l1])
     | succ k2 =>
      have H := HA.out
      clear HA
      simp only [customsmade_Order.l1] at H
      by_cases c7 : (x6_2.length : Int) > 0
      ·
       rw [if_pos c7] at H
       have c7b0 : decide (0 < (x6_2.length : Int)) = true := decide_eq_true c7
       have c7b1 : decide (0 < x6_2.length) = true := decide_eq_true (by omega)
       clear c7
       replace H := Option.bind_eq_some_iff.mp H
       obtain ⟨⟨t958, t959⟩, A80, H⟩ := H
       replace H : (if 0 ≤ t958 then (if t958 < (x6_2.length : Int) then (if x7_2.length < 17592186044416 then ((some (([] : List Int) : List Int)).bind fun y964 => (if t958 ≤ (x6_2.length : Int) then ((some (x6_2.take (t958 : Int).toNat : List Int)).bind fun y967 => (if y964.length + y967.length < 17592186044416 then ((some (y964 ++ y967 : List Int)).bind fun y971 => (if 0 ≤ (wrap64 (t958 + 1)) then (if (wrap64 (t958 + 1)) ≤ (x6_2.length : Int) then ((some (x6_2.drop ((wrap64 (t958 + 1)) : Int).toNat : List Int)).bind fun y974 => (if y971.length + y974.length < 17592186044416 then (customsmade_Order.l1 k2 (y971 ++ y974) (x7_2 ++ [rd x6_2 t958]) l1 t959) else (none))) else (none)) else (none))) else (none))) else (none))) else (none)) else (none)) else (none)) = some r := H
       have A8 := Aside0.mk A80
       clear A80
       by_cases c9 : 0 ≤ t958
       ·
        rw [if_pos c9] at H
        have c9b0 : decide (0 ≤ t958) = true := decide_eq_true c9
        clear c9
        by_cases c10 : t958 < (x6_2.length : Int)
        ·
         rw [if_pos c10] at H
         have c10b0 : decide (t958 < (x6_2.length : Int)) = true := decide_eq_true c10
         clear c10
         by_cases c11 : x7_2.length < 17592186044416
         ·
          rw [if_pos c11] at H
          have LMc11 := Aside0.mk c11
          clear c11
          obtain ⟨y961, hy961⟩ : ∃ y_ : List Int, y_ = (x7_2 ++ [rd x6_2 t958]) := ⟨_, rfl⟩
          replace H : ((some (([] : List Int) : List Int)).bind fun y964 => (if t958 ≤ (x6_2.length : Int) then ((some (x6_2.take (t958 : Int).toNat : List Int)).bind fun y967 => (if y964.length + y967.length < 17592186044416 then ((some (y964 ++ y967 : List Int)).bind fun y971 => (if 0 ≤ (wrap64 (t958 + 1)) then (if (wrap64 (t958 + 1)) ≤ (x6_2.length : Int) then ((some (x6_2.drop ((wrap64 (t958 + 1)) : Int).toNat : List Int)).bind fun y974 => (if y971.length + y974.length < 17592186044416 then (customsmade_Order.l1 k2 (y971 ++ y974) y961 l1 t959) else (none))) else (none)) else (none))) else (none))) else (none))) = some r := by first | (rw [hy961]; with_reducible exact H) | (have H2_ := (Option.bind_some _ _).symm.trans H; rw [hy961]; with_reducible exact H2_) | (have H2_ := (Option.bind_some _ _).symm.trans H; with_reducible exact H2_) | with_reducible exact H | (rw [hy961]; exact H) | exact H
          have Ny961 := Aside0.mk hy961
          clear hy961
          obtain ⟨y964, hy964⟩ : ∃ y_ : List Int, y_ = (([] : List Int)) := ⟨_, rfl⟩
          replace H : (if t958 ≤ (x6_2.length : Int) then ((some (x6_2.take (t958 : Int).toNat : List Int)).bind fun y967 => (if y964.length + y967.length < 17592186044416 then ((some (y964 ++ y967 : List Int)).bind fun y971 => (if 0 ≤ (wrap64 (t958 + 1)) then (if (wrap64 (t958 + 1)) ≤ (x6_2.length : Int) then ((some (x6_2.drop ((wrap64 (t958 + 1)) : Int).toNat : List Int)).bind fun y974 => (if y971.length + y974.length < 17592186044416 then (customsmade_Order.l1 k2 (y971 ++ y974) y961 l1 t959) else (none))) else (none)) else (none))) else (none))) else (none)) = some r := by first | (rw [hy964]; with_reducible exact H) | (have H2_ := (Option.bind_some _ _).symm.trans H; rw [hy964]; with_reducible exact H2_) | (have H2_ := (Option.bind_some _ _).symm.trans H; with_reducible exact H2_) | with_reducible exact H | (rw [hy964]; exact H) | exact H
          have Ny964 := Aside0.mk hy964
          clear hy964
          have c12b0 := eq_true (of_decide_eq_true (by first | (with_reducible assumption) | assumption) : 0 ≤ t958)
          by_cases c13 : t958 ≤ (x6_2.length : Int)
          ·
           rw [if_pos c13] at H
           have c13b0 := eq_true c13
           have c13b1 : decide (t958 ≤ (x6_2.length : Int)) = true := decide_eq_true c13
           clear c13
           obtain ⟨y967, hy967⟩ : ∃ y_ : List Int, y_ = (x6_2.take (t958 : Int).toNat) := ⟨_, rfl⟩
           replace H : (if y964.length + y967.length < 17592186044416 then ((some (y964 ++ y967 : List Int)).bind fun y971 => (if 0 ≤ (wrap64 (t958 + 1)) then (if (wrap64 (t958 + 1)) ≤ (x6_2.length : Int) then ((some (x6_2.drop ((wrap64 (t958 + 1)) : Int).toNat : List Int)).bind fun y974 => (if y971.length + y974.length < 17592186044416 then (customsmade_Order.l1 k2 (y971 ++ y974) y961 l1 t959) else (none))) else (none)) else (none))) else (none)) = some r := by first | (rw [hy967]; with_reducible exact H) | (have H2_ := (Option.bind_some _ _).symm.trans H; rw [hy967]; with_reducible exact H2_) | (have H2_ := (Option.bind_some _ _).symm.trans H; with_reducible exact H2_) | with_reducible exact H | (rw [hy967]; exact H) | exact H
           have Ny967 := Aside0.mk hy967
           clear hy967
           by_cases c14 : y964.length + y967.length < 17592186044416
           ·
            rw [if_pos c14] at H
            have LMc14 := Aside0.mk c14
            clear c14
            obtain ⟨y971, hy971⟩ : ∃ y_ : List Int, y_ = (y964 ++ y967) := ⟨_, rfl⟩
            replace H : (if 0 ≤ (wrap64 (t958 + 1)) then (if (wrap64 (t958 + 1)) ≤ (x6_2.length : Int) then ((some (x6_2.drop ((wrap64 (t958 + 1)) : Int).toNat : List Int)).bind fun y974 => (if y971.length + y974.length < 17592186044416 then (customsmade_Order.l1 k2 (y971 ++ y974) y961 l1 t959) else (none))) else (none)) else (none)) = some r := by first | (rw [hy971]; with_reducible exact H) | (have H2_ := (Option.bind_some _ _).symm.trans H; rw [hy971]; with_reducible exact H2_) | (have H2_ := (Option.bind_some _ _).symm.trans H; with_reducible exact H2_) | with_reducible exact H | (rw [hy971]; exact H) | exact H
            have Ny971 := Aside0.mk hy971
            clear hy971
            obtain ⟨ji15, hji15⟩ : ∃ j_ : Int, (wrap64 (t958 + 1)) = j_ := ⟨_, rfl⟩
            replace H : (if 0 ≤ (ji15) then (if (ji15) ≤ (x6_2.length : Int) then ((some (x6_2.drop ((ji15) : Int).toNat : List Int)).bind fun y974 => (if y971.length + y974.length < 17592186044416 then (customsmade_Order.l1 k2 (y971 ++ y974) y961 l1 t959) else (none))) else (none)) else (none)) = some r := by first | (rw [hji15] at H; exact H) | (simp only [hji15] at H ⊢; exact H)
            (try rw [hji15] at A8)
            have hji15w : (IntKind.i64.wrap (t958 + 1)) = ji15 := (i64_w _).trans hji15
            by_cases c16 : 0 ≤ (ji15)
            ·
             rw [if_pos c16] at H
             have c16b0 := eq_true c16
             have c16b1 : decide (0 ≤ (ji15)) = true := decide_eq_true c16
             clear c16
             by_cases c17 : (ji15) ≤ (x6_2.length : Int)
             ·
              rw [if_pos c17] at H
              have c17b0 := eq_true c17
              have c17b1 : decide ((ji15) ≤ (x6_2.length : Int)) = true := decide_eq_true c17
              clear c17
              obtain ⟨y974, hy974⟩ : ∃ y_ : List Int, y_ = (x6_2.drop ((ji15) : Int).toNat) := ⟨_, rfl⟩
              replace H : (if y971.length + y974.length < 17592186044416 then (customsmade_Order.l1 k2 (y971 ++ y974) y961 l1 t959) else (none)) = some r := by first | (rw [hy974]; with_reducible exact H) | (have H2_ := (Option.bind_some _ _).symm.trans H; rw [hy974]; with_reducible exact H2_) | (have H2_ := (Option.bind_some _ _).symm.trans H; with_reducible exact H2_) | with_reducible exact H | (rw [hy974]; exact H) | exact H
              have Ny974 := Aside0.mk hy974
              clear hy974
              by_cases c18 : y971.length + y974.length < 17592186044416
              ·
               rw [if_pos c18] at H
               have LMc18 := Aside0.mk c18
               clear c18
               obtain ⟨y978, hy978⟩ : ∃ y_ : List Int, y_ = (y971 ++ y974) := ⟨_, rfl⟩
               replace H : (customsmade_Order.l1 k2 y978 y961 l1 t959) = some r := by first | (rw [hy978]; with_reducible exact H) | (have H2_ := (Option.bind_some _ _).symm.trans H; rw [hy978]; with_reducible exact H2_) | (have H2_ := (Option.bind_some _ _).symm.trans H; with_reducible exact H2_) | with_reducible exact H | (rw [hy978]; exact H) | exact H
               have Ny978 := Aside0.mk hy978
               clear hy978
               have H' := Aside0.mk H
               clear H
               obtain ⟨Ao19, co19, eo19⟩ := Kd.R_slice HO_6.out
               subst eo19
               try go_wp2_with (first | ((with_reducible refine gate_callee (f := 51) rfl ?_); refine goesL_ (some 28) rfl rfl Tryd.func51 (by kernel_rfl) rfl #[.pointer (some ⟨gb954, 0, none⟩), .int .i64 (x6_2.length : Int)] rfl (by (try simp only [List.map_toArray, List.map_cons, List.map_nil]); first | done | rfl | (simp only [List.length_drop, List.length_take]; rfl)) ?_; (with_reducible refine (customsmade_Source_Next.calls gb954 l1 x955001_2 (x6_2.length : Int) t958 t959 w _ ?side1 ?side2 A8.out).mono ?_); (case side1 => repeat (first | (with_reducible first | exact HI954.out | apply IsS76.alloc | apply IsS76.drewN | apply IsS76.drew | apply IsS76.set_1) | exact HI954.out)); (case side2 => repeat (first | (with_reducible first | exact HB.out | apply below_alloc | apply pw_below_drewN | apply below_drew1 | refine below_set ?_ (IsS76.ge HI954.out)) | exact HB.out)); rintro e w20 ⟨rfl, hi, hb, hk⟩; refine ⟨_, rfl, ?_⟩; have n0_ := Aside0.mk (Kd.R_mono (Kd.R_keep (IsS76.apart (show IsS76 w _ gb954 l1 x955001_2 from by repeat (first | (with_reducible first | exact HI954.out | apply IsS76.alloc | apply IsS76.drewN | apply IsS76.drew | apply IsS76.set_1) | exact HI954.out)) (by (with_reducible repeat (first | apply Kd.R_alloc | apply Kd.R_drewN | apply Kd.R_drew)); exact HO_6.out) (by decide)) hk (fun _ h => h.2)) (fun _ h => h.1)); have n1_ := Aside0.mk (Kd.R_mono (Kd.R_keep (IsS76.apart (show IsS76 w _ gb954 l1 x955001_2 from by repeat (first | (with_reducible first | exact HI954.out | apply IsS76.alloc | apply IsS76.drewN | apply IsS76.drew | apply IsS76.set_1) | exact HI954.out)) (by (with_reducible repeat (first | apply Kd.R_alloc | apply Kd.R_drewN | apply Kd.R_drew)); exact HO_7.out) (by decide)) hk (fun _ h => h.2)) (fun _ h => h.1)); have n2_ := Aside0.mk (hb); have n3_ := Aside0.mk (hi); clear HO_6; clear HO_7; clear HB; clear HI954; have HO_6 := n0_; have HO_7 := n1_; have HB := n2_; have HI954 := n3_; clear n0_ n1_ n2_ n3_; (try clear hb); (try clear hb2); (try clear hk); (try clear hi); have p960 : 0 ≤ (t958 : Int) := of_decide_eq_true (by first | (with_reducible assumption) | assumption); have q960 : t958 < (x6_2.length : Int) := of_decide_eq_true (by first | (with_reducible assumption) | assumption); obtain ⟨ad960, e960, hx960_0⟩ := Kd.at_int (Kd.R_reads' HO_6.out).2.2 t958 p960 q960; cases e960; replace p960 := eq_true p960; replace q960 := eq_true q960) | ((with_reducible refine gate_builtin (b := .append) (xs := #[.tmp 29, .tmp 34]) rfl ?_); at_builtin; refine Kd.R_append (Kd.int .i64) (w0 := w) w.heap.size rfl (.tmp 29) (.tmp 34) 25 3 (.int .i64 0) 8 rfl Tryd.underlying25 info3 rfl (by decide) (by omega) u7 x7_2 (rd x6_2 t958) [.int .i64 (rd x6_2 t958)] (fun k_ => some k_ ≠ (.slice (some ad960) x6_2.length co19 : Value).ownBlock) (fun _ => False) rfl rfl ?aP (fun _ hk => hk.elim) ?aF ?aO ?aB ?aS ?aL ?_; (case aP => exact rfl); (case aB => exact (by repeat (first | (with_reducible first | exact HB.out | apply below_alloc | apply pw_below_drewN | apply below_drew1 | refine below_set ?_ (IsS76.ge HI954.out)) | exact HB.out))); (case aF => exact (fun k_ hk => Kd.fresh' (Kd.R_lt (by (with_reducible repeat (first | apply Kd.R_alloc | apply Kd.R_drewN | apply Kd.R_drew)); exact HO_6.out)) k_ hk)); (case aO => exact (by (with_reducible repeat (first | apply Kd.R_alloc | apply Kd.R_drewN | apply Kd.R_drew)); exact HO_7.out)); (case aS => exact (below_size (by repeat (first | (with_reducible first | exact HB.out | apply below_alloc | apply pw_below_drewN | apply below_drew1 | refine below_set ?_ (IsS76.ge HI954.out)) | exact HB.out)))); (case aL => have := LMc11.out; omega); intro v962 w21 ho hb hg hat; rw [← Ny961.out] at ho; have n0_ := Aside0.mk (Kd.R_after (ok := (fun _ => True)) (by (with_reducible repeat (first | apply Kd.R_alloc | apply Kd.R_drewN | apply Kd.R_drew)); exact Kd.R_mono HO_6.out (fun _ hk => ⟨trivial, hk⟩)) hg hat); have n1_ := Aside0.mk (IsS76.grown (by repeat (first | (with_reducible first | exact HI954.out | apply IsS76.alloc | apply IsS76.drewN | apply IsS76.drew | apply IsS76.set_1) | exact HI954.out)) hg (IsS76.own_ne HI954.out HO_7.out (by decide))); have n2_ := Aside0.mk (hb); have n3_ := Aside0.mk (ho); clear HO_6; clear HI954; clear HB; clear HO_7; have HO_6 := n0_; have HI954 := n1_; have HB := n2_; have HO963 := n3_; clear n0_ n1_ n2_ n3_; clear ho hb hg hat))
               have n0_ := Aside0.mk (Kd.R_drew HO_6.out)
               have n1_ := Aside0.mk (Kd.R_drew HO963.out)
               have n2_ := Aside0.mk (IsS76.drew HI954.out)
               have n3_ := Aside0.mk (below_drew1 HB.out)
               clear HO_6
               clear HO963
               clear HI954
               clear HB
               have HO_6 := n0_
               have HO963 := n1_
               have HI954 := n2_
               have HB := n3_
               clear n0_ n1_ n2_ n3_
               have q23 : (t958 : Int) ≤ ((x6_2.length : Int) : Int) := of_decide_eq_true (by first | (with_reducible assumption) | assumption)
               obtain ⟨i023, hi023, _, hsz23, _⟩ := info_parts info3
               have hroom23 : x6_2.length ≤ co19 := (Kd.R_reads' HO_6.out).2.1
               have hC23 : Kd.C (Kd.int .i64) _ (some ad960) x6_2.length x6_2 := (Kd.R_reads' HO_6.out).2.2
               have hcut23 := cut_to (P := Tryd.prog) 25 3 .i64 Tryd.underlying25 hi023 (some ad960) x6_2.length co19 t958 (of_decide_eq_true (by first | (with_reducible assumption) | assumption)) q23 hroom23
               have hr23 := Kd.C_take (m := (t958 : Int).toNat) hC23 (by omega)
               have hy23 : y967.length = (t958 : Int).toNat := (by rw [Ny967.out, List.length_take]; omega)
               rw [← Ny967.out] at hr23
               rw [← hy23] at hcut23
               have HR970 := Aside0.mk hr23
               have HC970 := Aside0.mk (show y967.length ≤ co19 from by omega)
               clear hr23 hC23 hroom23 hi023 hsz23
               have KY23 := Aside0.mk hy23
               clear hy23
               have KL23 := Aside0.mk (show (t958 : Int).toNat ≤ x6_2.length from by omega)
               replace q23 := eq_true q23
               have q24 : ((ji15) : Int) ≤ ((x6_2.length : Int) : Int) := of_decide_eq_true (by first | (with_reducible assumption) | assumption)
               obtain ⟨i024, hi024, _, hsz24, _⟩ := info_parts info3
               have hroom24 : x6_2.length ≤ co19 := (Kd.R_reads' HO_6.out).2.1
               have hC24 : Kd.C (Kd.int .i64) _ (some ad960) x6_2.length x6_2 := (Kd.R_reads' HO_6.out).2.2
               have q024 : (0 : Int) ≤ ((ji15) : Int) := of_decide_eq_true (by first | (with_reducible assumption) | assumption)
               have hcut24 := cut_from (P := Tryd.prog) 25 3 .i64 Tryd.underlying25 hi024 1 hsz24 (some ad960) x6_2.length co19 (ji15) q024 q24
               have hr24 := Kd.C_drop (m := ((ji15) : Int).toNat) (c := co19) hC24 (by omega) hroom24
               obtain ⟨A24, hA24⟩ : ∃ A1, A1 = (if co19 = ((ji15) : Int).toNat then (some ad960) else ((some ad960) : Option Addr).map (·.add (((ji15) : Int).toNat * 1))) := ⟨_, rfl⟩
               obtain ⟨c24, hc24⟩ : ∃ c1, c1 = co19 - ((ji15) : Int).toNat := ⟨_, rfl⟩
               have hy24 : y974.length = x6_2.length - ((ji15) : Int).toNat := (by rw [Ny974.out, List.length_drop] <;> omega)
               rw [show (x6_2).drop ((ji15) : Int).toNat = y974 from Ny974.out.symm] at hr24
               replace hr24 : Kd.C (Kd.int .i64) _ A24 y974.length y974 := (by rw [hA24]; exact hr24)
               rw [← hy24, ← hA24, ← hc24] at hcut24
               have HR977 := Aside0.mk hr24
               have HC977 := Aside0.mk (show y974.length ≤ c24 from by rw [hy24, hc24]; exact Nat.sub_le_sub_right hroom24 _)
               clear hr24 hC24 hroom24 hi024 hsz24 hc24
               have KY24 := Aside0.mk hy24
               have KA24 := Aside0.mk hA24
               clear hy24 hA24
               have KL24 := Aside0.mk (show ((ji15) : Int).toNat ≤ x6_2.length from by omega)
               replace q24 := eq_true q24
               refine start_ (n := 11) (S := fun w' => True) (ds := []) #[false, false, false, false, false, false, false, false, false, false, false] (by kernel_rfl) rfl rfl trivial (fun hHeld => ?_); refine with_tabW customsmade_Order.tab10 customsmade_Order.bits10 (fun HT_ HW_ => ?_)
               generalize w21.drew = w22 at HO_6 HO963 HI954 HB HR970 HR977 hHeld ⊢
               refine pure_ (i := 1) (N := some 37) (v := ?_) (a' := ?_) #[false, true, false, false, false, false, false, false, false, false, false] rfl rfl (any_of HT_.out (by kernel_rfl)) (fun _ _ _ h => h) (Or.inl ⟨by rfl, ?_⟩) ?_ ?_
               rotate_left
               ·
                intro w'
                go_simp
                with_reducible rfl
               rotate_left
               ·
                simp only [Act.put, List.setIfInBounds_toArray, List.set_cons_zero, List.set_cons_succ, i64_w, i32_w]
                rfl
               refine pure_ (i := 2) (N := some 38) (v := ?_) (a' := ?_) #[false, true, true, false, false, false, false, false, false, false, false] rfl rfl (any_of HT_.out (by kernel_rfl)) (fun _ _ _ h => h) (Or.inl ⟨by rfl, ?_⟩) ?_ ?_
               rotate_left
               ·
                intro w'
                go_simp
                with_reducible rfl
               rotate_left
               ·
                simp only [Act.put, List.setIfInBounds_toArray, List.set_cons_zero, List.set_cons_succ, i64_w, i32_w]
                rfl
               refine pure_ (i := 3) (N := some 39) (v := ?_) (a' := ?_) #[false, true, true, true, false, false, false, false, false, false, false] rfl rfl (any_of HT_.out (by kernel_rfl)) (fun _ _ _ h => h) (Or.inl ⟨by rfl, ?_⟩) ?_ ?_
               rotate_left
               ·
                intro w'
                go_simp
                with_reducible rfl
               rotate_left
               ·
                simp only [Act.put, List.setIfInBounds_toArray, List.set_cons_zero, List.set_cons_succ, i64_w, i32_w]
                rfl
               refine pure_ (i := 5) (N := some 41) (v := ?_) (a' := ?_) #[false, true, true, true, false, true, false, false, false, false, false] rfl rfl (any_of HT_.out (by kernel_rfl)) (fun _ _ _ h => h) (Or.inl ⟨by rfl, ?_⟩) ?_ ?_
               rotate_left
               ·
                intro w'
                go_simp
                with_reducible rfl
               rotate_left
               ·
                simp only [Act.put, List.setIfInBounds_toArray, List.set_cons_zero, List.set_cons_succ, i64_w, i32_w]
                rfl
               refine pure_ (i := 6) (N := some 42) (v := ?_) (a' := ?_) #[false, true, true, true, false, true, true, false, false, false, false] rfl rfl (any_of HT_.out (by kernel_rfl)) (fun _ _ _ h => h) (Or.inl ⟨by rfl, ?_⟩) ?_ ?_
               rotate_left
               ·
                intro w'
                go_simp
                with_reducible rfl
               rotate_left
               ·
                simp only [Act.put, List.setIfInBounds_toArray, List.set_cons_zero, List.set_cons_succ, i64_w, i32_w]
                rfl
               refine pure_ (i := 7) (N := some 43) (v := ?_) (a' := ?_) #[false, true, true, true, false, true, true, true, false, false, false] rfl rfl (any_of HT_.out (by kernel_rfl)) (fun _ _ _ h => h) (Or.inl ⟨by rfl, ?_⟩) ?_ ?_
               rotate_left
               ·
                intro w'
                go_simp
                with_reducible rfl
               rotate_left
               ·
                simp only [Act.put, List.setIfInBounds_toArray, List.set_cons_zero, List.set_cons_succ, i64_w, i32_w]
                rfl
               refine pure_ (i := 8) (N := some 44) (v := ?_) (a' := ?_) #[false, true, true, true, false, true, true, true, true, false, false] rfl rfl (any_of HT_.out (by kernel_rfl)) (fun _ _ _ h => h) (Or.inl ⟨by rfl, ?_⟩) ?_ ?_
               rotate_left
               ·
                intro w'
                go_simp
                with_reducible rfl
               rotate_left
               ·
                simp only [Act.put, List.setIfInBounds_toArray, List.set_cons_zero, List.set_cons_succ, i64_w, i32_w]
                rfl
               refine one_ (i := 0) (N := some 36) #[true, true, true, true, false, true, true, true, true, false, false] rfl rfl (one_of HT_.out (by kernel_rfl)) (by decide) (fun K hK => ?_)
               refine Kd.R_lit_step (Kd.int .i64) _ 3 ?hg (N := 36) ?hd (xs := ([] : List Int)) (inner := []) (ok := fun _ => True) (okp := fun _ => True) ?hr ?hp (fun _ hk => hk) trivial (Below.refl _ _) (Nat.le_refl _) (by simp) ?_; (case hd => rfl); (case hg => rfl); (case hr => first | (go_simp; done) | (go_simp; rfl)); (case hp => exact (Reps.none _ _))
               intro v965 w25 ho26 hb hg_ hnew_
               clear hg_ hnew_
               (first | rw [← Ny964.out] at ho26 | (simp only [Int.reduceToNat] at ho26; rw [← Ny964.out] at ho26))
               have n0_ := Aside0.mk (Kd.R_elder' (by (with_reducible repeat (first | apply Kd.R_alloc | apply Kd.R_drewN | apply Kd.R_drew)); exact HO_6.out) (Kd.R_base ho26) hb)
               have n1_ := Aside0.mk (Kd.R_elder' (by (with_reducible repeat (first | apply Kd.R_alloc | apply Kd.R_drewN | apply Kd.R_drew)); exact HO963.out) (Kd.R_base ho26) hb)
               have n2_ := Aside0.mk (Kd.R_lower (Kd.R_new' (Kd.R_new' ho26 (Kd.R_lt (by (with_reducible repeat (first | apply Kd.R_alloc | apply Kd.R_drewN | apply Kd.R_drew)); exact HO_6.out))) (Kd.R_lt (by (with_reducible repeat (first | apply Kd.R_alloc | apply Kd.R_drewN | apply Kd.R_drew)); exact HO963.out))) (below_size (by repeat (first | (with_reducible first | exact HB.out | apply below_alloc | apply pw_below_drewN | apply below_drew1 | refine below_set ?_ (IsS76.ge HI954.out)) | exact HB.out))))
               have n3_ := Aside0.mk (IsS76.below (by repeat (first | (with_reducible first | exact HI954.out | apply IsS76.alloc | apply IsS76.drewN | apply IsS76.drew | apply IsS76.set_1) | exact HI954.out)) hb)
               have n4_ := Aside0.mk (Kd.C_below (by repeat (first | (with_reducible exact HR970.out) | (with_reducible refine Kd.C_alloc ?_ _) | (with_reducible refine Kd.C_drewN ?_ _) | (with_reducible refine Kd.C_drew ?_) | exact HR970.out)) hb)
               have n5_ := Aside0.mk (Kd.C_below (by repeat (first | (with_reducible exact HR977.out) | (with_reducible refine Kd.C_alloc ?_ _) | (with_reducible refine Kd.C_drewN ?_ _) | (with_reducible refine Kd.C_drew ?_) | exact HR977.out)) hb)
               have n6_ := Aside0.mk (below_step (by repeat (first | (with_reducible first | exact HB.out | apply below_alloc | apply pw_below_drewN | apply below_drew1 | refine below_set ?_ (IsS76.ge HI954.out)) | exact HB.out)) hb)
               clear HO_6
               clear HO963
               clear HI954
               clear HR970
               clear HR977
               clear HB
               have HO_6 := n0_
               have HO963 := n1_
               have HO966 := n2_
               have HI954 := n3_
               have HR970 := n4_
               have HR977 := n5_
               have HB := n6_
               clear n0_ n1_ n2_ n3_ n4_ n5_ n6_
               clear hb ho26
               refine hK.out _ _ trivial (fun hHeld => ?_)
               clear hK K
               refine norm_ (a' := ?_) ?_ ?_
               rotate_left
               ·
                show Act.put _ (some 36) _ = _
                simp only [Act.put, List.setIfInBounds_toArray, List.set_cons_zero, List.set_cons_succ, i64_w, i32_w]
                rfl
               refine one_ (i := 4) (N := some 40) #[true, true, true, true, true, true, true, true, true, false, false] rfl rfl (one_of HT_.out (by kernel_rfl)) (by decide) (fun K hK => ?_)
               refine Kd.R_append_rows_step (Kd.int .i64) (w0 := w) w.heap.size (by rfl) (.tmp 36) (.tmp 39) 25 3 (.int .i64 0) 8 rfl Tryd.underlying25 info3 rfl (by decide) (by omega) v965 y964 y967 _ _ _ (fun k_ => some k_ ≠ (.slice (some ad960) x6_2.length co19 : Value).ownBlock ∧ some k_ ≠ (v962 : Value).ownBlock) (fun _ => False) rfl rfl ?aO ?aR (fun _ _ h => h) (fun _ h => h.elim) ?aF ?aB ?aS ?aL ?_
               (case aR => repeat (first | exact (by repeat (first | (with_reducible exact HR970.out) | (with_reducible refine Kd.C_alloc ?_ _) | (with_reducible refine Kd.C_drewN ?_ _) | (with_reducible refine Kd.C_drew ?_) | exact HR970.out)) | (with_reducible refine Kd.C_alloc ?_ _) | (with_reducible refine Kd.C_drewN ?_ _) | (with_reducible refine Kd.C_drew ?_)))
               (case aB => exact (by repeat (first | (with_reducible first | exact HB.out | apply below_alloc | apply pw_below_drewN | apply below_drew1 | refine below_set ?_ (IsS76.ge HI954.out)) | exact HB.out)))
               (case aF => exact (fun k_ hk => ⟨Kd.fresh' (Kd.R_lt (by (with_reducible repeat (first | apply Kd.R_alloc | apply Kd.R_drewN | apply Kd.R_drew)); exact HO_6.out)) k_ hk, Kd.fresh' (Kd.R_lt (by (with_reducible repeat (first | apply Kd.R_alloc | apply Kd.R_drewN | apply Kd.R_drew)); exact HO963.out)) k_ hk⟩))
               (case aO => exact (by (with_reducible repeat (first | apply Kd.R_alloc | apply Kd.R_drewN | apply Kd.R_drew)); exact Kd.R_mono HO966.out (fun _ hk => ⟨hk.1.2, hk.2⟩)))
               (case aS => exact (below_size (by repeat (first | (with_reducible first | exact HB.out | apply below_alloc | apply pw_below_drewN | apply below_drew1 | refine below_set ?_ (IsS76.ge HI954.out)) | exact HB.out))))
               (case aL => have := LMc14.out; omega)
               intro v972 w27 ho hb hg hat
               rw [← Ny971.out] at ho
               have n0_ := Aside0.mk (Kd.R_after (ok := (fun k_ => some k_ ≠ (v962 : Value).ownBlock)) (by (with_reducible repeat (first | apply Kd.R_alloc | apply Kd.R_drewN | apply Kd.R_drew)); exact Kd.R_mono HO_6.out (fun _ hk => ⟨hk.1.2, hk.2⟩)) hg hat)
               have n1_ := Aside0.mk (IsS76.grown (by repeat (first | (with_reducible first | exact HI954.out | apply IsS76.alloc | apply IsS76.drewN | apply IsS76.drew | apply IsS76.set_1) | exact HI954.out)) hg (IsS76.own_ne HI954.out HO966.out (by decide)))
               have n2_ := Aside0.mk (Kd.R_after (ok := (fun k_ => some k_ ≠ (.slice (some ad960) x6_2.length co19 : Value).ownBlock)) (by (with_reducible repeat (first | apply Kd.R_alloc | apply Kd.R_drewN | apply Kd.R_drew)); exact HO963.out) hg hat)
               have n3_ := Aside0.mk (hb)
               have n4_ := Aside0.mk ((show Kd.C (Kd.int .i64) w27 (some ad960) y967.length y967 from by rw [Ny967.out]; exact Kd.C_take (m := (t958 : Int).toNat) ((Kd.R_reads' (Kd.R_after (ok := (fun k_ => some k_ ≠ (v962 : Value).ownBlock)) (by (with_reducible repeat (first | apply Kd.R_alloc | apply Kd.R_drewN | apply Kd.R_drew)); exact Kd.R_mono HO_6.out (fun _ hk => ⟨hk.1.2, hk.2⟩)) hg hat)).2.2) KL23.out))
               have n5_ := Aside0.mk ((show Kd.C (Kd.int .i64) w27 A24 y974.length y974 from by rw [Ny974.out, KA24.out]; exact Kd.C_drop (m := ((ji15) : Int).toNat) (c := co19) ((Kd.R_reads' (Kd.R_after (ok := (fun k_ => some k_ ≠ (v962 : Value).ownBlock)) (by (with_reducible repeat (first | apply Kd.R_alloc | apply Kd.R_drewN | apply Kd.R_drew)); exact Kd.R_mono HO_6.out (fun _ hk => ⟨hk.1.2, hk.2⟩)) hg hat)).2.2) KL24.out ((Kd.R_reads' (Kd.R_after (ok := (fun k_ => some k_ ≠ (v962 : Value).ownBlock)) (by (with_reducible repeat (first | apply Kd.R_alloc | apply Kd.R_drewN | apply Kd.R_drew)); exact Kd.R_mono HO_6.out (fun _ hk => ⟨hk.1.2, hk.2⟩)) hg hat)).2.1)))
               have n6_ := Aside0.mk (ho)
               clear HO_6
               clear HI954
               clear HO963
               clear HB
               clear HR970
               clear HR977
               clear HO966
               have HO_6 := n0_
               have HI954 := n1_
               have HO963 := n2_
               have HB := n3_
               have HR970 := n4_
               have HR977 := n5_
               have HO973 := n6_
               clear n0_ n1_ n2_ n3_ n4_ n5_ n6_
               clear ho hb hg hat
               refine hK.out _ _ trivial (fun hHeld => ?_)
               clear hK K
               refine norm_ (a' := ?_) ?_ ?_
               rotate_left
               ·
                show Act.put _ (some 40) _ = _
                simp only [Act.put, List.setIfInBounds_toArray, List.set_cons_zero, List.set_cons_succ, i64_w, i32_w]
                rfl
               refine one_ (i := 9) (N := some 45) #[true, true, true, true, true, true, true, true, true, true, false] rfl rfl (one_of HT_.out (by kernel_rfl)) (by decide) (fun K hK => ?_)
               refine Kd.R_append_rows_step (Kd.int .i64) (w0 := w) w.heap.size (by rfl) (.tmp 40) (.tmp 44) 25 3 (.int .i64 0) 8 rfl Tryd.underlying25 info3 rfl (by decide) (by omega) v972 y971 y974 _ _ _ (fun k_ => some k_ ≠ (.slice (some ad960) x6_2.length co19 : Value).ownBlock ∧ some k_ ≠ (v962 : Value).ownBlock) (fun _ => False) rfl rfl ?aO ?aR (fun _ _ h => h) (fun _ h => h.elim) ?aF ?aB ?aS ?aL ?_
               (case aR => repeat (first | exact (by repeat (first | (with_reducible exact HR977.out) | (with_reducible refine Kd.C_alloc ?_ _) | (with_reducible refine Kd.C_drewN ?_ _) | (with_reducible refine Kd.C_drew ?_) | exact HR977.out)) | (with_reducible refine Kd.C_alloc ?_ _) | (with_reducible refine Kd.C_drewN ?_ _) | (with_reducible refine Kd.C_drew ?_)))
               (case aB => exact (by repeat (first | (with_reducible first | exact HB.out | apply below_alloc | apply pw_below_drewN | apply below_drew1 | refine below_set ?_ (IsS76.ge HI954.out)) | exact HB.out)))
               (case aF => exact (fun k_ hk => ⟨Kd.fresh' (Kd.R_lt (by (with_reducible repeat (first | apply Kd.R_alloc | apply Kd.R_drewN | apply Kd.R_drew)); exact HO_6.out)) k_ hk, Kd.fresh' (Kd.R_lt (by (with_reducible repeat (first | apply Kd.R_alloc | apply Kd.R_drewN | apply Kd.R_drew)); exact HO963.out)) k_ hk⟩))
               (case aO => exact (by (with_reducible repeat (first | apply Kd.R_alloc | apply Kd.R_drewN | apply Kd.R_drew)); exact HO973.out))
               (case aS => exact (below_size (by repeat (first | (with_reducible first | exact HB.out | apply below_alloc | apply pw_below_drewN | apply below_drew1 | refine below_set ?_ (IsS76.ge HI954.out)) | exact HB.out))))
               (case aL => have := LMc18.out; omega)
               intro v979 w28 ho hb hg hat
               rw [← Ny978.out] at ho
               have n0_ := Aside0.mk (Kd.R_after (ok := (fun k_ => some k_ ≠ (v962 : Value).ownBlock)) (by (with_reducible repeat (first | apply Kd.R_alloc | apply Kd.R_drewN | apply Kd.R_drew)); exact HO_6.out) hg hat)
               have n1_ := Aside0.mk (IsS76.grown (by repeat (first | (with_reducible first | exact HI954.out | apply IsS76.alloc | apply IsS76.drewN | apply IsS76.drew | apply IsS76.set_1) | exact HI954.out)) hg (IsS76.own_ne HI954.out HO973.out (by decide)))
               have n2_ := Aside0.mk (Kd.R_after (ok := (fun k_ => some k_ ≠ (.slice (some ad960) x6_2.length co19 : Value).ownBlock)) (by (with_reducible repeat (first | apply Kd.R_alloc | apply Kd.R_drewN | apply Kd.R_drew)); exact HO963.out) hg hat)
               have n3_ := Aside0.mk (hb)
               have n4_ := Aside0.mk ((show Kd.C (Kd.int .i64) w28 (some ad960) y967.length y967 from by rw [Ny967.out]; exact Kd.C_take (m := (t958 : Int).toNat) ((Kd.R_reads' (Kd.R_after (ok := (fun k_ => some k_ ≠ (v962 : Value).ownBlock)) (by (with_reducible repeat (first | apply Kd.R_alloc | apply Kd.R_drewN | apply Kd.R_drew)); exact HO_6.out) hg hat)).2.2) KL23.out))
               have n5_ := Aside0.mk ((show Kd.C (Kd.int .i64) w28 A24 y974.length y974 from by rw [Ny974.out, KA24.out]; exact Kd.C_drop (m := ((ji15) : Int).toNat) (c := co19) ((Kd.R_reads' (Kd.R_after (ok := (fun k_ => some k_ ≠ (v962 : Value).ownBlock)) (by (with_reducible repeat (first | apply Kd.R_alloc | apply Kd.R_drewN | apply Kd.R_drew)); exact HO_6.out) hg hat)).2.2) KL24.out ((Kd.R_reads' (Kd.R_after (ok := (fun k_ => some k_ ≠ (v962 : Value).ownBlock)) (by (with_reducible repeat (first | apply Kd.R_alloc | apply Kd.R_drewN | apply Kd.R_drew)); exact HO_6.out) hg hat)).2.1)))
               have n6_ := Aside0.mk (ho)
               clear HO_6
               clear HI954
               clear HO963
               clear HB
               clear HR970
               clear HR977
               clear HO973
               have HO_6 := n0_
               have HI954 := n1_
               have HO963 := n2_
               have HB := n3_
               have HR970 := n4_
               have HR977 := n5_
               have HO980 := n6_
               clear n0_ n1_ n2_ n3_ n4_ n5_ n6_
               clear ho hb hg hat
               refine hK.out _ _ trivial (fun hHeld => ?_)
               clear hK K
               refine norm_ (a' := ?_) ?_ ?_
               rotate_left
               ·
                show Act.put _ (some 45) _ = _
                simp only [Act.put, List.setIfInBounds_toArray, List.set_cons_zero, List.set_cons_succ, i64_w, i32_w]
                rfl
               refine pure_ (i := 10) (N := some 6) (v := ?_) (a' := ?_) #[true, true, true, true, true, true, true, true, true, true, true] rfl rfl (any_of HT_.out (by kernel_rfl)) (fun _ _ _ h => h) (Or.inl ⟨by rfl, ?_⟩) ?_ ?_
               rotate_left
               ·
                intro w'
                go_simp
                with_reducible rfl
               rotate_left
               ·
                simp only [Act.put, List.setIfInBounds_toArray, List.set_cons_zero, List.set_cons_succ, i64_w, i32_w]
                rfl
               refine done_ (done_of HT_.out (by kernel_rfl)) ?_
               try go_wp2
               go_roundg k2
               case measure => have := HK1.out; have := HK2.out; omega
               case rel => exact ⟨(y978), (y961), (t959), H', ⟨by have := HK1.out; have := HK2.out; omega⟩, ⟨by (with_reducible repeat (first | apply Kd.R_alloc | apply Kd.R_drewN | apply Kd.R_drew)); exact Kd.R_mono HO980.out (fun _ hk => hk.2)⟩, ⟨by (with_reducible repeat (first | apply Kd.R_alloc | apply Kd.R_drewN | apply Kd.R_drew)); exact Kd.R_mono HO963.out (fun _ hk => hk.2)⟩, ⟨by repeat (first | (with_reducible first | exact HI954.out | apply IsS76.alloc | apply IsS76.drewN | apply IsS76.drew | apply IsS76.set_1) | exact HI954.out)⟩, ⟨by repeat (first | (with_reducible first | exact HB.out | apply below_alloc | apply pw_below_drewN | apply below_drew1 | refine below_set ?_ (IsS76.ge HI954.out)) | exact HB.out)⟩⟩
              ·
               rw [if_neg c18] at H
               exact absurd H (by simp)
             ·
              rw [if_neg c17] at H
              exact absurd H (by simp)
            ·
             rw [if_neg c16] at H
             exact absurd H (by simp)
           ·
            rw [if_neg c14] at H
            exact absurd H (by simp)
          ·
           rw [if_neg c13] at H
           exact absurd H (by simp)
         ·
          rw [if_neg c11] at H
          exact absurd H (by simp)
        ·
         rw [if_neg c10] at H
         exact absurd H (by simp)
       ·
        rw [if_neg c9] at H
        exact absurd H (by simp)
      ·
       rw [if_neg c7] at H
       have c7b0 : decide (0 < (x6_2.length : Int)) = false := decide_eq_false c7
       have c7b1 : decide (0 < x6_2.length) = false := decide_eq_false (by omega)
       clear c7
       obtain rfl := Option.some.inj H
       obtain ⟨Ao29, co29, eo29⟩ := Kd.R_slice HO_6.out
       subst eo29
       go_wp2
       go_ret
       exact ⟨_, by first | rfl | (simp [errW_none, errW_some] <;> rfl) | (simp [*, errW_none, errW_some] <;> rfl), by (with_reducible repeat (first | apply Kd.R_alloc | apply Kd.R_drewN | apply Kd.R_drew)); exact Kd.R_mono HO_7.out (fun _ hk => trivial), by repeat (first | (with_reducible first | exact HB.out | apply below_alloc | apply pw_below_drewN | apply below_drew1 | refine below_set ?_ (IsS76.ge HI954.out)) | exact HB.out)⟩

def transit_Compare.f (l0 : List Int) (l1 : List Int) : Option (List Int × List Int) := if l0.length < 5000000000000 ∧ l1.length < 5000000000000 then some (lessL l0 l1, lessL l1 l0) else none
theorem transit_Compare.calls (A0 : Option Addr) (c0 : Nat) (l0 : List Int) (A1 : Option Addr) (c1 : Nat) (l1 : List Int) (r1 : List Int) (r2 : List Int) (w : World) (hr0 : Kd.C (Kd.int .i64) w A0 l0.length l0) (hc0 : l0.length ≤ c0) (hr1 : Kd.C (Kd.int .i64) w A1 l1.length l1) (hc1 : l1.length ≤ c1) (h : transit_Compare.f l0 l1 = some (r1, r2)) :
  Calls Tryd.prog 20 #[.slice A0 l0.length c0, .slice A1 l1.length c1] w fun e w' => ∃ v0_ v1_ : Value, e = .returned (.tuple #[v0_, v1_]) ∧ Kd.R (Kd.int .i64) 3 w' w.heap.size (fun k_ => some k_ ≠ (v1_ : Value).ownBlock) v0_ r1 ∧ Kd.R (Kd.int .i64) 3 w' w.heap.size (fun k_ => some k_ ≠ (v0_ : Value).ownBlock) v1_ r2 ∧ Below w.heap.size w w' := by
 unfold transit_Compare.f at h
 by_cases c : l0.length < 5000000000000 ∧ l1.length < 5000000000000
 ·
  rw [if_pos c] at h
  obtain ⟨rfl, rfl⟩ := Prod.mk.inj (Option.some.inj h)
  exact compare_calls A0 c0 l0 A1 c1 l1 w hr0 hc0 hr1 hc1 c.1 c.2
 ·
  rw [if_neg c] at h
  cases h


def customslaw35_awake.f : Option Bool := some true
theorem customslaw35_awake.calls (r1 : Bool) (w : World) (hG_changes : GL_changes w) (h : customslaw35_awake.f = some r1) : Calls Tryd.prog 16 #[] w fun e w' => e = .returned (.bool r1) ∧ Below w.heap.size w w' := by
 obtain rfl : true = r1 := Option.some.inj h
 exact awake_calls w hG_changes


end Go.Proofs.YtbndoihcejieoaaDoor.G
