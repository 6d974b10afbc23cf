/-
  Functions of the program and of the references as plain Lean functions, each with a proof that the machine's call comes to what it answers. Conditions: what each contract states.
-/
import Derived.Test.YtbndoihcejieoaaDoorQCorew1
import Derived.Test.YtbndoihcejieoaaDoorQCorev1
import Derived.Test.YtbndoihcejieoaaDoorQCorea1
import Derived.Test.YtbndoihcejieoaaDoorQCorea2
import Derived.Test.YtbndoihcejieoaaDoorQCorea3
namespace Go.Proofs.YtbndoihcejieoaaDoor.G
open Go.RowKit Go.Proofs.YtbndoihcejieoaaDoorW.PrintWords Go.Proofs.YtbndoihcejieoaaDoorW.PrintLast Go.Proofs.YtbndoihcejieoaaDoorW.PrintMore
attribute [local go_sem] max2_int min2_int max_two min_two max_three min_three max_four min_four   -- for this text's walks alone
set_option linter.unusedVariables false
set_option linter.unusedSimpArgs false

def customsref33_Start.f (a0 : Int) (a1 : Int) (a2 : Int) (a3 : Int) (a4 : Int) (a5 : Int) (l6 : List Int) : Option (Int × Int × Int × Int × Int × Int × Int × Int × Int × Int × List Int) := some (a0, a4, a1, a2, a3, 1, a4, a5, 0, 0, l6)
set_option maxHeartbeats 8000000 in
set_option maxRecDepth 100000 in
theorem customsref33_Start.calls (a0 : Int) (a1 : Int) (a2 : Int) (a3 : Int) (a4 : Int) (a5 : Int) (P6_ : Nat → Prop) (A6 : Option Addr) (c6 : Nat) (l6 : List Int) (r1 : Int) (r2 : Int) (r3 : Int) (r4 : Int) (r5 : Int) (r6 : Int) (r7 : Int) (r8 : Int) (r9 : Int) (r10 : Int) (r11 : List Int) (w : World) (hs6 : Kd.V (Kd.int .i64) 3 w w.heap.size (fun k_ => P6_ k_) (.slice A6 l6.length c6) l6) (h : customsref33_Start.f a0 a1 a2 a3 a4 a5 l6 = some (r1, r2, r3, r4, r5, r6, r7, r8, r9, r10, r11)) :
  Calls Tryd.prog 39 #[.int .i64 a0, .int .i64 a1, .int .i64 a2, .int .i64 a3, .int .i64 a4, .int .i64 a5, .slice A6 l6.length c6] w fun e w' => ∃ v10_ : Value, e = .returned (.agg #[.int .i64 r1, .int .i64 r2, .int .i64 r3, .int .i64 r4, .int .i64 r5, .int .i64 r6, .int .i64 r7, .int .i64 r8, .int .i64 r9, .int .i64 r10, v10_]) ∧ Kd.V (Kd.int .i64) 3 w' w.heap.size (fun k_ => (P6_ k_ ∨ w.heap.size ≤ k_)) v10_ r11 ∧ Below w.heap.size w w' := by
 have hu38 := Tryd.underlying38
 have HO6 := Aside0.mk (show Kd.V (Kd.int .i64) 3 w w.heap.size (fun k_ => (P6_ k_ ∨ w.heap.size ≤ k_)) (.slice A6 l6.length c6) l6 from Kd.V_mono hs6 (fun k_ hk => .inl hk))
 have HB := Aside0.mk (Below.refl w.heap.size w)
 have H : (some (a0, a4, a1, a2, a3, 1, a4, a5, 0, 0, l6)) = some (r1, r2, r3, r4, r5, r6, r7, r8, r9, r10, r11) := h
 clear h
 simp only [Option.some.injEq, Prod.mk.injEq] at H
 obtain ⟨rfl, rfl, rfl, rfl, rfl, rfl, rfl, rfl, rfl, rfl, rfl⟩ := H
 go_enter Tryd.func39, Tryd.ntmps39
 go_wp2_with (first | ((with_reducible refine gate_dst (N := 14) rfl ?_); refine box_event ?hg (N := 14) ?hd (cs := #[.int .i64 0, .int .i64 0, .int .i64 0, .int .i64 0, .int .i64 0, .int .i64 0, .int .i64 0, .int .i64 0, .int .i64 0, .int .i64 0, .slice none 0 0]) (t := 38) ?hr ?_; (case hd => rfl); (case hg => rfl); (case hr => first | (go_simp; done) | (go_simp; rfl)); intro gb1130 hg w8 hbox hb; have n0_ := Aside0.mk (Kd.V_below (Kd.V_elderB (by (with_reducible repeat (first | apply Kd.V_alloc | apply Kd.V_drewN | apply Kd.V_drew)); exact HO6.out) gb1130 (Nat.le_of_eq hg.symm)) hb); have n1_ := Aside0.mk (below_step (by repeat (first | (with_reducible first | exact HB.out | apply below_alloc | apply pw_below_drewN | apply below_drew1) | exact HB.out)) hb); have n2_ := Aside0.mk (hbox); have n3_ := Aside0.mk ((by rw [hg]; exact (below_size (by repeat (first | (with_reducible first | exact HB.out | apply below_alloc | apply pw_below_drewN | apply below_drew1) | exact HB.out))) : w.heap.size ≤ gb1130)); have n4_ := Aside0.mk ((by rw [hg]; exact (below_size (by repeat (first | (with_reducible first | exact HB.out | apply below_alloc | apply pw_below_drewN | apply below_drew1) | exact HB.out))) : w.heap.size ≤ gb1130)); clear HO6; clear HB; have HO6 := n0_; have HB := n1_; have BK1130 := n2_; have GW1130 := n3_; have GE1130 := n4_; clear n0_ n1_ n2_ n3_ n4_; clear hb hbox hg; have hcz9_0 : w8.cell? ⟨gb1130, 0, none⟩ = some (.int .i64 0) := (blk_cell BK1130.out 0).trans rfl; have hcz9_1 : w8.cell? ⟨gb1130, 1, none⟩ = some (.int .i64 0) := (blk_cell BK1130.out 1).trans rfl; have hcz9_2 : w8.cell? ⟨gb1130, 2, none⟩ = some (.int .i64 0) := (blk_cell BK1130.out 2).trans rfl; have hcz9_3 : w8.cell? ⟨gb1130, 3, none⟩ = some (.int .i64 0) := (blk_cell BK1130.out 3).trans rfl; have hcz9_4 : w8.cell? ⟨gb1130, 4, none⟩ = some (.int .i64 0) := (blk_cell BK1130.out 4).trans rfl; have hcz9_5 : w8.cell? ⟨gb1130, 5, none⟩ = some (.int .i64 0) := (blk_cell BK1130.out 5).trans rfl; have hcz9_6 : w8.cell? ⟨gb1130, 6, none⟩ = some (.int .i64 0) := (blk_cell BK1130.out 6).trans rfl; have hcz9_7 : w8.cell? ⟨gb1130, 7, none⟩ = some (.int .i64 0) := (blk_cell BK1130.out 7).trans rfl; have hcz9_8 : w8.cell? ⟨gb1130, 8, none⟩ = some (.int .i64 0) := (blk_cell BK1130.out 8).trans rfl; have hcz9_9 : w8.cell? ⟨gb1130, 9, none⟩ = some (.int .i64 0) := (blk_cell BK1130.out 9).trans rfl; have hcz9_10 : w8.cell? ⟨gb1130, 10, none⟩ = some (.slice none 0 0) := (blk_cell BK1130.out 10).trans rfl; have hfz9_0 := blk_frozen BK1130.out 0; have hfz9_1 := blk_frozen BK1130.out 1; have hfz9_2 := blk_frozen BK1130.out 2; have hfz9_3 := blk_frozen BK1130.out 3; have hfz9_4 := blk_frozen BK1130.out 4; have hfz9_5 := blk_frozen BK1130.out 5; have hfz9_6 := blk_frozen BK1130.out 6; have hfz9_7 := blk_frozen BK1130.out 7; have hfz9_8 := blk_frozen BK1130.out 8; have hfz9_9 := blk_frozen BK1130.out 9; have hfz9_10 := blk_frozen BK1130.out 10))
 refine bodyPost_ret (results_cell_row rfl _ _ gb1130 38 #[.int .i64 a0, .int .i64 a4, .int .i64 a1, .int .i64 a2, .int .i64 a3, .int .i64 1, .int .i64 a4, .int .i64 a5, .int .i64 0, .int .i64 0, .slice A6 l6.length c6] (0, 0) _ rfl (by (with_reducible repeat (first | refine blk_drewN ?_ _ | refine blk_drew ?_ | refine blk_alloc ?_ _)); refine blk_put (cs := #[.int .i64 a0, .int .i64 a4, .int .i64 a1, .int .i64 a2, .int .i64 a3, .int .i64 1, .int .i64 a4, .int .i64 a5, .int .i64 0, .int .i64 0, .slice none 0 0]) ?_ 10 _ rfl; (with_reducible repeat (first | refine blk_drewN ?_ _ | refine blk_drew ?_ | refine blk_alloc ?_ _)); refine blk_put (cs := #[.int .i64 a0, .int .i64 a4, .int .i64 a1, .int .i64 a2, .int .i64 a3, .int .i64 1, .int .i64 a4, .int .i64 a5, .int .i64 0, .int .i64 0, .slice none 0 0]) ?_ 9 _ rfl; (with_reducible repeat (first | refine blk_drewN ?_ _ | refine blk_drew ?_ | refine blk_alloc ?_ _)); refine blk_put (cs := #[.int .i64 a0, .int .i64 a4, .int .i64 a1, .int .i64 a2, .int .i64 a3, .int .i64 1, .int .i64 a4, .int .i64 a5, .int .i64 0, .int .i64 0, .slice none 0 0]) ?_ 8 _ rfl; (with_reducible repeat (first | refine blk_drewN ?_ _ | refine blk_drew ?_ | refine blk_alloc ?_ _)); refine blk_put (cs := #[.int .i64 a0, .int .i64 a4, .int .i64 a1, .int .i64 a2, .int .i64 a3, .int .i64 1, .int .i64 a4, .int .i64 0, .int .i64 0, .int .i64 0, .slice none 0 0]) ?_ 7 _ rfl; (with_reducible repeat (first | refine blk_drewN ?_ _ | refine blk_drew ?_ | refine blk_alloc ?_ _)); refine blk_put (cs := #[.int .i64 a0, .int .i64 a4, .int .i64 a1, .int .i64 a2, .int .i64 a3, .int .i64 1, .int .i64 0, .int .i64 0, .int .i64 0, .int .i64 0, .slice none 0 0]) ?_ 6 _ rfl; (with_reducible repeat (first | refine blk_drewN ?_ _ | refine blk_drew ?_ | refine blk_alloc ?_ _)); refine blk_put (cs := #[.int .i64 a0, .int .i64 a4, .int .i64 a1, .int .i64 a2, .int .i64 a3, .int .i64 0, .int .i64 0, .int .i64 0, .int .i64 0, .int .i64 0, .slice none 0 0]) ?_ 5 _ rfl; (with_reducible repeat (first | refine blk_drewN ?_ _ | refine blk_drew ?_ | refine blk_alloc ?_ _)); refine blk_put (cs := #[.int .i64 a0, .int .i64 a4, .int .i64 a1, .int .i64 a2, .int .i64 0, .int .i64 0, .int .i64 0, .int .i64 0, .int .i64 0, .int .i64 0, .slice none 0 0]) ?_ 4 _ rfl; (with_reducible repeat (first | refine blk_drewN ?_ _ | refine blk_drew ?_ | refine blk_alloc ?_ _)); refine blk_put (cs := #[.int .i64 a0, .int .i64 a4, .int .i64 a1, .int .i64 0, .int .i64 0, .int .i64 0, .int .i64 0, .int .i64 0, .int .i64 0, .int .i64 0, .slice none 0 0]) ?_ 3 _ rfl; (with_reducible repeat (first | refine blk_drewN ?_ _ | refine blk_drew ?_ | refine blk_alloc ?_ _)); refine blk_put (cs := #[.int .i64 a0, .int .i64 a4, .int .i64 0, .int .i64 0, .int .i64 0, .int .i64 0, .int .i64 0, .int .i64 0, .int .i64 0, .int .i64 0, .slice none 0 0]) ?_ 2 _ rfl; (with_reducible repeat (first | refine blk_drewN ?_ _ | refine blk_drew ?_ | refine blk_alloc ?_ _)); refine blk_put (cs := #[.int .i64 a0, .int .i64 0, .int .i64 0, .int .i64 0, .int .i64 0, .int .i64 0, .int .i64 0, .int .i64 0, .int .i64 0, .int .i64 0, .slice none 0 0]) ?_ 1 _ rfl; (with_reducible repeat (first | refine blk_drewN ?_ _ | refine blk_drew ?_ | refine blk_alloc ?_ _)); refine blk_put (cs := #[.int .i64 0, .int .i64 0, .int .i64 0, .int .i64 0, .int .i64 0, .int .i64 0, .int .i64 0, .int .i64 0, .int .i64 0, .int .i64 0, .slice none 0 0]) ?_ 0 _ rfl; (with_reducible repeat (first | refine blk_drewN ?_ _ | refine blk_drew ?_ | refine blk_alloc ?_ _)); exact BK1130.out) Tryd.underlying38 rfl (by kernel_rfl)) rfl ?_
 exact ⟨_, by first | rfl | (simp [errW_none, errW_some] <;> rfl) | (simp [*, errW_none, errW_some] <;> rfl), by (with_reducible repeat (first | apply Kd.V_alloc | apply Kd.V_drewN | apply Kd.V_drew)); exact Kd.V_mono (Kd.V_far (p := ⟨gb1130, 10, none⟩) (Kd.V_far (p := ⟨gb1130, 9, none⟩) (Kd.V_far (p := ⟨gb1130, 8, none⟩) (Kd.V_far (p := ⟨gb1130, 7, none⟩) (Kd.V_far (p := ⟨gb1130, 6, none⟩) (Kd.V_far (p := ⟨gb1130, 5, none⟩) (Kd.V_far (p := ⟨gb1130, 4, none⟩) (Kd.V_far (p := ⟨gb1130, 3, none⟩) (Kd.V_far (p := ⟨gb1130, 2, none⟩) (Kd.V_far (p := ⟨gb1130, 1, none⟩) (Kd.V_far (p := ⟨gb1130, 0, none⟩) (Kd.V_mono HO6.out (fun k_ hk => (⟨hk, hk.2⟩ : _ ∧ k_ ≠ gb1130))) (fun _ hk => hk.2) (.int .i64 a0)) (fun _ hk => hk.2) (.int .i64 a4)) (fun _ hk => hk.2) (.int .i64 a1)) (fun _ hk => hk.2) (.int .i64 a2)) (fun _ hk => hk.2) (.int .i64 a3)) (fun _ hk => hk.2) (.int .i64 1)) (fun _ hk => hk.2) (.int .i64 a4)) (fun _ hk => hk.2) (.int .i64 a5)) (fun _ hk => hk.2) (.int .i64 0)) (fun _ hk => hk.2) (.int .i64 0)) (fun _ hk => hk.2) (.slice A6 l6.length c6)) (fun _ hk => hk.1.1), by repeat (first | (with_reducible first | exact HB.out | apply below_alloc | apply pw_below_drewN | apply below_drew1 | refine below_set ?_ GE1130.out) | exact HB.out)⟩

def customsref04_Day.f (a0 : Int) : Option (Bool) := if a0 ≥ 0 then (some (decide (a0 ≤ 36524))) else (some false)
set_option maxHeartbeats 8000000 in
set_option maxRecDepth 100000 in
theorem customsref04_Day.calls (a0 : Int) (r : Bool) (w : World) (h : customsref04_Day.f a0 = some r) :
  Calls Tryd.prog 81 #[.int .i64 a0] w fun e w' => e = .returned (.bool r) ∧ Drawn0 w w' := by
 have H : (if a0 ≥ 0 then (some (decide (a0 ≤ 36524))) else (some false)) = some r := h
 clear h
 by_cases c2 : a0 ≥ 0
 ·
  rw [if_pos c2] at H
  have c2b0 : decide (0 ≤ a0) = true := decide_eq_true c2
  clear c2
  obtain rfl := Option.some.inj H
  go_enter Tryd.func81, Tryd.ntmps81
  go_wp2
  go_ret
  exact ⟨by first | rfl | (simp; done) | (simp [*]; done), by repeat (first | exact Drawn0.refl _ | apply Drawn0.step)⟩
 ·
  rw [if_neg c2] at H
  have c2b0 : decide (0 ≤ a0) = false := decide_eq_false c2
  clear c2
  obtain rfl := Option.some.inj H
  go_enter Tryd.func81, Tryd.ntmps81
  go_wp2
  go_ret
  exact ⟨by first | rfl | (simp; done) | (simp [*]; done), by repeat (first | exact Drawn0.refl _ | apply Drawn0.step)⟩

def customsref04_Valid.l0 : Nat → List Int → Int → Option (Int)
 | 0, _, _ => none
 | k + 1, x0, x3 => if x3 < (x0.length : Int) then (if 0 ≤ x3 then ((customsref04_Day.f (rd x0 x3)).bind fun t1073 => (if t1073 = true then (if x3 > 0 then (if 0 ≤ (wrap64 (x3 - 1)) then (if (wrap64 (x3 - 1)) < (x0.length : Int) then (if (rd x0 x3) ≤ (rd x0 (wrap64 (x3 - 1))) then (some 9) else (customsref04_Valid.l0 k x0 (wrap64 (x3 + 1)))) else (none)) else (none)) else (customsref04_Valid.l0 k x0 (wrap64 (x3 + 1)))) else (some 2))) else (none)) else (some 0)
def customsref04_Valid.f (k : Nat) (l0 : List Int) : Option (Int) := if (l0.length : Int) > 2000 then (some 8) else (customsref04_Valid.l0 k l0 0)
set_option maxHeartbeats 8000000 in
set_option maxRecDepth 100000 in
theorem customsref04_Valid.calls (k : Nat) (A0 : Option Addr) (c0 : Nat) (l0 : List Int) (r : Int) (w : World) (hr0 : Kd.C (Kd.int .i64) w A0 l0.length l0) (hc0 : l0.length ≤ c0) (h : customsref04_Valid.f k l0 = some r) :
  Calls Tryd.prog 80 #[.slice A0 l0.length c0] w fun e w' => e = .returned (.int .i64 r) ∧ Drawn0 w w' := by
 have HR0 := Aside0.mk hr0
 have HC0 := Aside0.mk hc0
 clear hr0 hc0
 have H : (if (l0.length : Int) > 2000 then (some 8) else (customsref04_Valid.l0 k l0 0)) = some r := h
 clear h
 by_cases c2 : (l0.length : Int) > 2000
 ·
  rw [if_pos c2] at H
  have c2b0 : decide (2000 < (l0.length : Int)) = true := decide_eq_true c2
  have c2b1 : decide (2000 < l0.length) = true := decide_eq_true (by omega)
  clear c2
  obtain rfl := Option.some.inj H
  go_enter Tryd.func80, Tryd.ntmps80
  go_wp2
  repeat (go_quiet (fail); try go_wp2)
  go_ret
  exact ⟨by first | rfl | (simp; done) | (simp [*]; done), by repeat (first | exact Drawn0.refl _ | apply Drawn0.step)⟩
 ·
  rw [if_neg c2] at H
  have c2b0 : decide (2000 < (l0.length : Int)) = false := decide_eq_false c2
  have c2b1 : decide (2000 < l0.length) = false := decide_eq_false (by omega)
  clear c2
  have H' := Aside0.mk H
  clear H
  go_enter Tryd.func80, Tryd.ntmps80
  go_wp2
  repeat (go_quiet (fail); try go_wp2)
  go_loopg [3] k (fun kq v3 w' => ∃ (x3_1 : Int), v3 = .int .i64 x3_1 ∧ Aside0 (customsref04_Valid.l0 kq l0 x3_1 = some r) ∧ Aside0 (kq ≤ k) ∧ Drawn0 w w')
  case atStart => exact ⟨(0), (by first | rfl | (simp; done) | (simp [*]; done)), H', ⟨Nat.le_refl _⟩, by repeat (first | exact Drawn0.refl _ | apply Drawn0.step)⟩
  case round =>
   clear H'
   try clear c2
   try clear c2b0
   try clear c2b1
   try clear p2
   obtain ⟨x3_1, rfl, HA, HK1, ⟨m1, rfl⟩⟩ := hrel
   cases gk with
   | zero => exact absurd HA.out (by simp [customsref04_Valid.l0])
   | succ k1 =>
    have H := HA.out
    clear HA
    simp only [customsref04_Valid.l0] at H
    by_cases c3 : x3_1 < (l0.length : Int)
    ·
     rw [if_pos c3] at H
     have c3b0 : decide (x3_1 < (l0.length : Int)) = true := decide_eq_true c3
     clear c3
     by_cases c4 : 0 ≤ x3_1
     ·
      rw [if_pos c4] at H
      have c4b0 : decide (0 ≤ x3_1) = true := decide_eq_true c4
      clear c4
      replace H := Option.bind_eq_some_iff.mp H
      obtain ⟨t1073, A50, H⟩ := H
      replace H : (if t1073 = true then (if x3_1 > 0 then (if 0 ≤ (wrap64 (x3_1 - 1)) then (if (wrap64 (x3_1 - 1)) < (l0.length : Int) then (if (rd l0 x3_1) ≤ (rd l0 (wrap64 (x3_1 - 1))) then (some 9) else (customsref04_Valid.l0 k1 l0 (wrap64 (x3_1 + 1)))) else (none)) else (none)) else (customsref04_Valid.l0 k1 l0 (wrap64 (x3_1 + 1)))) else (some 2)) = some r := H
      have A5 := Aside0.mk A50
      clear A50
      by_cases c6 : t1073 = true
      ·
       subst c6
       have H1 : (if x3_1 > 0 then (if 0 ≤ (wrap64 (x3_1 - 1)) then (if (wrap64 (x3_1 - 1)) < (l0.length : Int) then (if (rd l0 x3_1) ≤ (rd l0 (wrap64 (x3_1 - 1))) then (some 9) else (customsref04_Valid.l0 k1 l0 (wrap64 (x3_1 + 1)))) else (none)) else (none)) else (customsref04_Valid.l0 k1 l0 (wrap64 (x3_1 + 1)))) = some r := by rw [if_pos rfl] at H; exact H
       clear H
       have H := H1
       clear H1
       by_cases c7 : x3_1 > 0
       ·
        rw [if_pos c7] at H
        have c7b0 : decide (0 < x3_1) = true := decide_eq_true c7
        clear c7
        obtain ⟨ji8, hji8⟩ : ∃ j_ : Int, (wrap64 (x3_1 - 1)) = j_ := ⟨_, rfl⟩
        replace H : (if 0 ≤ (ji8) then (if (ji8) < (l0.length : Int) then (if (rd l0 x3_1) ≤ (rd l0 (ji8)) then (some 9) else (customsref04_Valid.l0 k1 l0 (wrap64 (x3_1 + 1)))) else (none)) else (none)) = some r := by first | (rw [hji8] at H; exact H) | (simp only [hji8] at H ⊢; exact H)
        (try rw [hji8] at A5)
        have hji8w : (IntKind.i64.wrap (x3_1 - 1)) = ji8 := (i64_w _).trans hji8
        by_cases c9 : 0 ≤ (ji8)
        ·
         rw [if_pos c9] at H
         have c9b0 : decide (0 ≤ (ji8)) = true := decide_eq_true c9
         clear c9
         by_cases c10 : (ji8) < (l0.length : Int)
         ·
          rw [if_pos c10] at H
          have c10b0 : decide ((ji8) < (l0.length : Int)) = true := decide_eq_true c10
          clear c10
          by_cases c11 : (rd l0 x3_1) ≤ (rd l0 (ji8))
          ·
           rw [if_pos c11] at H
           have c11b0 : decide ((rd l0 x3_1) ≤ (rd l0 (ji8))) = true := decide_eq_true c11
           clear c11
           obtain rfl := Option.some.inj H
           have p1072 : 0 ≤ (x3_1 : Int) := of_decide_eq_true (by first | (with_reducible assumption) | assumption)
           have q1072 : x3_1 < (l0.length : Int) := of_decide_eq_true (by first | (with_reducible assumption) | assumption)
           obtain ⟨ad1072, e1072, hx1072_0⟩ := Kd.at_int HR0.out x3_1 p1072 q1072
           cases e1072
           replace p1072 := eq_true p1072
           replace q1072 := eq_true q1072
           go_wp2_with (first | (go_at_call 81; (with_reducible refine (customsref04_Day.calls (rd l0 x3_1) true _ A5.out).mono ?_); rintro e w' ⟨rfl, ⟨nd, rfl⟩⟩; (try first | exact ⟨rfl, _, World.drewN_drewN _ _ _⟩ | exact ⟨rfl, _, Eq.trans (World.drewN_drewN _ _ _) (congrArg (World.drewN _) (Nat.add_assoc _ _ _))⟩); have p1074 : 0 ≤ (x3_1 : Int) := of_decide_eq_true (by first | (with_reducible assumption) | assumption); have q1074 : x3_1 < (l0.length : Int) := of_decide_eq_true (by first | (with_reducible assumption) | assumption); obtain ⟨ad1074, e1074, hx1074_0⟩ := Kd.at_int HR0.out x3_1 p1074 q1074; obtain rfl : ad1072 = ad1074 := (by injection e1074); replace p1074 := eq_true p1074; replace q1074 := eq_true q1074; have p1075 : 0 ≤ ((ji8) : Int) := of_decide_eq_true (by first | (with_reducible assumption) | assumption); have q1075 : (ji8) < (l0.length : Int) := of_decide_eq_true (by first | (with_reducible assumption) | assumption); obtain ⟨ad1075, e1075, hx1075_0⟩ := Kd.at_int HR0.out (ji8) p1075 q1075; obtain rfl : ad1072 = ad1075 := (by injection e1075); replace p1075 := eq_true p1075; replace q1075 := eq_true q1075))
           repeat (go_quiet (first | (go_at_call 81; (with_reducible refine (customsref04_Day.calls (rd l0 x3_1) true _ A5.out).mono ?_); rintro e w' ⟨rfl, ⟨nd, rfl⟩⟩; (try first | exact ⟨rfl, _, World.drewN_drewN _ _ _⟩ | exact ⟨rfl, _, Eq.trans (World.drewN_drewN _ _ _) (congrArg (World.drewN _) (Nat.add_assoc _ _ _))⟩); have p1074 : 0 ≤ (x3_1 : Int) := of_decide_eq_true (by first | (with_reducible assumption) | assumption); have q1074 : x3_1 < (l0.length : Int) := of_decide_eq_true (by first | (with_reducible assumption) | assumption); obtain ⟨ad1074, e1074, hx1074_0⟩ := Kd.at_int HR0.out x3_1 p1074 q1074; obtain rfl : ad1072 = ad1074 := (by injection e1074); replace p1074 := eq_true p1074; replace q1074 := eq_true q1074; have p1075 : 0 ≤ ((ji8) : Int) := of_decide_eq_true (by first | (with_reducible assumption) | assumption); have q1075 : (ji8) < (l0.length : Int) := of_decide_eq_true (by first | (with_reducible assumption) | assumption); obtain ⟨ad1075, e1075, hx1075_0⟩ := Kd.at_int HR0.out (ji8) p1075 q1075; obtain rfl : ad1072 = ad1075 := (by injection e1075); replace p1075 := eq_true p1075; replace q1075 := eq_true q1075)); try go_wp2_with (first | (go_at_call 81; (with_reducible refine (customsref04_Day.calls (rd l0 x3_1) true _ A5.out).mono ?_); rintro e w' ⟨rfl, ⟨nd, rfl⟩⟩; (try first | exact ⟨rfl, _, World.drewN_drewN _ _ _⟩ | exact ⟨rfl, _, Eq.trans (World.drewN_drewN _ _ _) (congrArg (World.drewN _) (Nat.add_assoc _ _ _))⟩); have p1074 : 0 ≤ (x3_1 : Int) := of_decide_eq_true (by first | (with_reducible assumption) | assumption); have q1074 : x3_1 < (l0.length : Int) := of_decide_eq_true (by first | (with_reducible assumption) | assumption); obtain ⟨ad1074, e1074, hx1074_0⟩ := Kd.at_int HR0.out x3_1 p1074 q1074; obtain rfl : ad1072 = ad1074 := (by injection e1074); replace p1074 := eq_true p1074; replace q1074 := eq_true q1074; have p1075 : 0 ≤ ((ji8) : Int) := of_decide_eq_true (by first | (with_reducible assumption) | assumption); have q1075 : (ji8) < (l0.length : Int) := of_decide_eq_true (by first | (with_reducible assumption) | assumption); obtain ⟨ad1075, e1075, hx1075_0⟩ := Kd.at_int HR0.out (ji8) p1075 q1075; obtain rfl : ad1072 = ad1075 := (by injection e1075); replace p1075 := eq_true p1075; replace q1075 := eq_true q1075)))
           go_ret
           exact ⟨by first | rfl | (simp; done) | (simp only [← hji8] <;> (first | rfl | simp)) | (simp [*]; done), by repeat (first | exact Drawn0.refl _ | apply Drawn0.step)⟩
          ·
           rw [if_neg c11] at H
           have c11b0 : decide ((rd l0 x3_1) ≤ (rd l0 (ji8))) = false := decide_eq_false c11
           clear c11
           have H' := Aside0.mk H
           clear H
           have p1072 : 0 ≤ (x3_1 : Int) := of_decide_eq_true (by first | (with_reducible assumption) | assumption)
           have q1072 : x3_1 < (l0.length : Int) := of_decide_eq_true (by first | (with_reducible assumption) | assumption)
           obtain ⟨ad1072, e1072, hx1072_0⟩ := Kd.at_int HR0.out x3_1 p1072 q1072
           cases e1072
           replace p1072 := eq_true p1072
           replace q1072 := eq_true q1072
           go_wp2_with (first | (go_at_call 81; (with_reducible refine (customsref04_Day.calls (rd l0 x3_1) true _ A5.out).mono ?_); rintro e w' ⟨rfl, ⟨nd, rfl⟩⟩; (try first | exact ⟨rfl, _, World.drewN_drewN _ _ _⟩ | exact ⟨rfl, _, Eq.trans (World.drewN_drewN _ _ _) (congrArg (World.drewN _) (Nat.add_assoc _ _ _))⟩); have p1074 : 0 ≤ (x3_1 : Int) := of_decide_eq_true (by first | (with_reducible assumption) | assumption); have q1074 : x3_1 < (l0.length : Int) := of_decide_eq_true (by first | (with_reducible assumption) | assumption); obtain ⟨ad1074, e1074, hx1074_0⟩ := Kd.at_int HR0.out x3_1 p1074 q1074; obtain rfl : ad1072 = ad1074 := (by injection e1074); replace p1074 := eq_true p1074; replace q1074 := eq_true q1074; have p1075 : 0 ≤ ((ji8) : Int) := of_decide_eq_true (by first | (with_reducible assumption) | assumption); have q1075 : (ji8) < (l0.length : Int) := of_decide_eq_true (by first | (with_reducible assumption) | assumption); obtain ⟨ad1075, e1075, hx1075_0⟩ := Kd.at_int HR0.out (ji8) p1075 q1075; obtain rfl : ad1072 = ad1075 := (by injection e1075); replace p1075 := eq_true p1075; replace q1075 := eq_true q1075))
           repeat (go_quiet (first | (go_at_call 81; (with_reducible refine (customsref04_Day.calls (rd l0 x3_1) true _ A5.out).mono ?_); rintro e w' ⟨rfl, ⟨nd, rfl⟩⟩; (try first | exact ⟨rfl, _, World.drewN_drewN _ _ _⟩ | exact ⟨rfl, _, Eq.trans (World.drewN_drewN _ _ _) (congrArg (World.drewN _) (Nat.add_assoc _ _ _))⟩); have p1074 : 0 ≤ (x3_1 : Int) := of_decide_eq_true (by first | (with_reducible assumption) | assumption); have q1074 : x3_1 < (l0.length : Int) := of_decide_eq_true (by first | (with_reducible assumption) | assumption); obtain ⟨ad1074, e1074, hx1074_0⟩ := Kd.at_int HR0.out x3_1 p1074 q1074; obtain rfl : ad1072 = ad1074 := (by injection e1074); replace p1074 := eq_true p1074; replace q1074 := eq_true q1074; have p1075 : 0 ≤ ((ji8) : Int) := of_decide_eq_true (by first | (with_reducible assumption) | assumption); have q1075 : (ji8) < (l0.length : Int) := of_decide_eq_true (by first | (with_reducible assumption) | assumption); obtain ⟨ad1075, e1075, hx1075_0⟩ := Kd.at_int HR0.out (ji8) p1075 q1075; obtain rfl : ad1072 = ad1075 := (by injection e1075); replace p1075 := eq_true p1075; replace q1075 := eq_true q1075)); try go_wp2_with (first | (go_at_call 81; (with_reducible refine (customsref04_Day.calls (rd l0 x3_1) true _ A5.out).mono ?_); rintro e w' ⟨rfl, ⟨nd, rfl⟩⟩; (try first | exact ⟨rfl, _, World.drewN_drewN _ _ _⟩ | exact ⟨rfl, _, Eq.trans (World.drewN_drewN _ _ _) (congrArg (World.drewN _) (Nat.add_assoc _ _ _))⟩); have p1074 : 0 ≤ (x3_1 : Int) := of_decide_eq_true (by first | (with_reducible assumption) | assumption); have q1074 : x3_1 < (l0.length : Int) := of_decide_eq_true (by first | (with_reducible assumption) | assumption); obtain ⟨ad1074, e1074, hx1074_0⟩ := Kd.at_int HR0.out x3_1 p1074 q1074; obtain rfl : ad1072 = ad1074 := (by injection e1074); replace p1074 := eq_true p1074; replace q1074 := eq_true q1074; have p1075 : 0 ≤ ((ji8) : Int) := of_decide_eq_true (by first | (with_reducible assumption) | assumption); have q1075 : (ji8) < (l0.length : Int) := of_decide_eq_true (by first | (with_reducible assumption) | assumption); obtain ⟨ad1075, e1075, hx1075_0⟩ := Kd.at_int HR0.out (ji8) p1075 q1075; obtain rfl : ad1072 = ad1075 := (by injection e1075); replace p1075 := eq_true p1075; replace q1075 := eq_true q1075)))
           go_roundg k1
           case measure => have := HK1.out; omega
           case rel => exact ⟨(wrap64 (x3_1 + 1)), (by first | rfl | (simp; done) | (simp [*]; done)), H', ⟨by have := HK1.out; omega⟩, by repeat (first | exact Drawn0.refl _ | apply Drawn0.step)⟩
         ·
          rw [if_neg c10] at H
          exact absurd H (by simp)
        ·
         rw [if_neg c9] at H
         exact absurd H (by simp)
       ·
        rw [if_neg c7] at H
        have c7b0 : decide (0 < x3_1) = false := decide_eq_false c7
        clear c7
        have H' := Aside0.mk H
        clear H
        have p1072 : 0 ≤ (x3_1 : Int) := of_decide_eq_true (by first | (with_reducible assumption) | assumption)
        have q1072 : x3_1 < (l0.length : Int) := of_decide_eq_true (by first | (with_reducible assumption) | assumption)
        obtain ⟨ad1072, e1072, hx1072_0⟩ := Kd.at_int HR0.out x3_1 p1072 q1072
        cases e1072
        replace p1072 := eq_true p1072
        replace q1072 := eq_true q1072
        go_wp2_with (first | (go_at_call 81; (with_reducible refine (customsref04_Day.calls (rd l0 x3_1) true _ A5.out).mono ?_); rintro e w' ⟨rfl, ⟨nd, rfl⟩⟩; (try first | exact ⟨rfl, _, World.drewN_drewN _ _ _⟩ | exact ⟨rfl, _, Eq.trans (World.drewN_drewN _ _ _) (congrArg (World.drewN _) (Nat.add_assoc _ _ _))⟩)))
        repeat (go_quiet (first | (go_at_call 81; (with_reducible refine (customsref04_Day.calls (rd l0 x3_1) true _ A5.out).mono ?_); rintro e w' ⟨rfl, ⟨nd, rfl⟩⟩; (try first | exact ⟨rfl, _, World.drewN_drewN _ _ _⟩ | exact ⟨rfl, _, Eq.trans (World.drewN_drewN _ _ _) (congrArg (World.drewN _) (Nat.add_assoc _ _ _))⟩))); try go_wp2_with (first | (go_at_call 81; (with_reducible refine (customsref04_Day.calls (rd l0 x3_1) true _ A5.out).mono ?_); rintro e w' ⟨rfl, ⟨nd, rfl⟩⟩; (try first | exact ⟨rfl, _, World.drewN_drewN _ _ _⟩ | exact ⟨rfl, _, Eq.trans (World.drewN_drewN _ _ _) (congrArg (World.drewN _) (Nat.add_assoc _ _ _))⟩))))
        go_roundg k1
        case measure => have := HK1.out; omega
        case rel => exact ⟨(wrap64 (x3_1 + 1)), (by first | rfl | (simp; done) | (simp [*]; done)), H', ⟨by have := HK1.out; omega⟩, by repeat (first | exact Drawn0.refl _ | apply Drawn0.step)⟩
      ·
       replace c6 := Bool.eq_false_iff.mpr c6
       subst c6
       have H1 : (some 2) = some r := by rw [if_neg (show ¬ (false = true) by decide)] at H; exact H
       clear H
       have H := H1
       clear H1
       obtain rfl := Option.some.inj H
       have p1072 : 0 ≤ (x3_1 : Int) := of_decide_eq_true (by first | (with_reducible assumption) | assumption)
       have q1072 : x3_1 < (l0.length : Int) := of_decide_eq_true (by first | (with_reducible assumption) | assumption)
       obtain ⟨ad1072, e1072, hx1072_0⟩ := Kd.at_int HR0.out x3_1 p1072 q1072
       cases e1072
       replace p1072 := eq_true p1072
       replace q1072 := eq_true q1072
       go_wp2_with (first | (go_at_call 81; (with_reducible refine (customsref04_Day.calls (rd l0 x3_1) false _ A5.out).mono ?_); rintro e w' ⟨rfl, ⟨nd, rfl⟩⟩; (try first | exact ⟨rfl, _, World.drewN_drewN _ _ _⟩ | exact ⟨rfl, _, Eq.trans (World.drewN_drewN _ _ _) (congrArg (World.drewN _) (Nat.add_assoc _ _ _))⟩)))
       repeat (go_quiet (first | (go_at_call 81; (with_reducible refine (customsref04_Day.calls (rd l0 x3_1) false _ A5.out).mono ?_); rintro e w' ⟨rfl, ⟨nd, rfl⟩⟩; (try first | exact ⟨rfl, _, World.drewN_drewN _ _ _⟩ | exact ⟨rfl, _, Eq.trans (World.drewN_drewN _ _ _) (congrArg (World.drewN _) (Nat.add_assoc _ _ _))⟩))); try go_wp2_with (first | (go_at_call 81; (with_reducible refine (customsref04_Day.calls (rd l0 x3_1) false _ A5.out).mono ?_); rintro e w' ⟨rfl, ⟨nd, rfl⟩⟩; (try first | exact ⟨rfl, _, World.drewN_drewN _ _ _⟩ | exact ⟨rfl, _, Eq.trans (World.drewN_drewN _ _ _) (congrArg (World.drewN _) (Nat.add_assoc _ _ _))⟩))))
       go_ret
       exact ⟨by first | rfl | (simp; done) | (simp [*]; done), by repeat (first | exact Drawn0.refl _ | apply Drawn0.step)⟩
     ·
      rw [if_neg c4] at H
      exact absurd H (by simp)
    ·
     rw [if_neg c3] at H
     have c3b0 : decide (x3_1 < (l0.length : Int)) = false := decide_eq_false c3
     clear c3
     obtain rfl := Option.some.inj H
     go_wp2
     repeat (go_quiet (fail); try go_wp2)
     go_ret
     exact ⟨by first | rfl | (simp; done) | (simp [*]; done), by repeat (first | exact Drawn0.refl _ | apply Drawn0.step)⟩

def customsref04_within.f (a0 : Int) : Option (Bool) := if a0 ≥ 0 then (some (decide (a0 ≤ 1000))) else (some false)
set_option maxHeartbeats 8000000 in
set_option maxRecDepth 100000 in
theorem customsref04_within.calls (a0 : Int) (r : Bool) (w : World) (h : customsref04_within.f a0 = some r) :
  Calls Tryd.prog 82 #[.int .i64 a0] w fun e w' => e = .returned (.bool r) ∧ Drawn0 w w' := by
 have H : (if a0 ≥ 0 then (some (decide (a0 ≤ 1000))) else (some false)) = some r := h
 clear h
 by_cases c2 : a0 ≥ 0
 ·
  rw [if_pos c2] at H
  have c2b0 : decide (0 ≤ a0) = true := decide_eq_true c2
  clear c2
  obtain rfl := Option.some.inj H
  go_enter Tryd.func82, Tryd.ntmps82
  go_wp2
  go_ret
  exact ⟨by first | rfl | (simp; done) | (simp [*]; done), by repeat (first | exact Drawn0.refl _ | apply Drawn0.step)⟩
 ·
  rw [if_neg c2] at H
  have c2b0 : decide (0 ≤ a0) = false := decide_eq_false c2
  clear c2
  obtain rfl := Option.some.inj H
  go_enter Tryd.func82, Tryd.ntmps82
  go_wp2
  go_ret
  exact ⟨by first | rfl | (simp; done) | (simp [*]; done), by repeat (first | exact Drawn0.refl _ | apply Drawn0.step)⟩

def customsref04_Long.f (a0 : Int) (a1 : Int) : Option (Int) := if a1 = 2 then (if (Int.tmod a0 4) = 0 then (if (Int.tmod a0 100) = 0 then (if (Int.tmod a0 400) = 0 then (some 29) else (some 28)) else (some 29)) else (some 28)) else (if a1 = 4 then (some 30) else (if a1 = 6 then (some 30) else (if a1 = 9 then (some 30) else (if a1 = 11 then (some 30) else (some 31)))))
set_option maxHeartbeats 8000000 in
set_option maxRecDepth 100000 in
theorem customsref04_Long.calls (a0 : Int) (a1 : Int) (r : Int) (w : World) (h : customsref04_Long.f a0 a1 = some r) :
  Calls Tryd.prog 102 #[.int .i64 a0, .int .i64 a1] w fun e w' => e = .returned (.int .i64 r) ∧ Drawn0 w w' := by
 have H : (if a1 = 2 then (if (Int.tmod a0 4) = 0 then (if (Int.tmod a0 100) = 0 then (if (Int.tmod a0 400) = 0 then (some 29) else (some 28)) else (some 29)) else (some 28)) else (if a1 = 4 then (some 30) else (if a1 = 6 then (some 30) else (if a1 = 9 then (some 30) else (if a1 = 11 then (some 30) else (some 31)))))) = some r := h
 clear h
 by_cases c3 : a1 = 2
 ·
  rw [if_pos c3] at H
  have c3b0 : (a1 == 2) = true := beq_iff_eq.mpr c3
  have c3b1 : (a1 != 2) = false := bne_eq_false_iff_eq.mpr c3
  clear c3
  by_cases c4 : (Int.tmod a0 4) = 0
  ·
   rw [if_pos c4] at H
   have c4b0 : ((Int.tmod a0 4) == 0) = true := beq_iff_eq.mpr c4
   have c4b1 : ((Int.tmod a0 4) != 0) = false := bne_eq_false_iff_eq.mpr c4
   clear c4
   by_cases c5 : (Int.tmod a0 100) = 0
   ·
    rw [if_pos c5] at H
    have c5b0 : ((Int.tmod a0 100) == 0) = true := beq_iff_eq.mpr c5
    have c5b1 : ((Int.tmod a0 100) != 0) = false := bne_eq_false_iff_eq.mpr c5
    clear c5
    by_cases c6 : (Int.tmod a0 400) = 0
    ·
     rw [if_pos c6] at H
     have c6b0 : ((Int.tmod a0 400) == 0) = true := beq_iff_eq.mpr c6
     have c6b1 : ((Int.tmod a0 400) != 0) = false := bne_eq_false_iff_eq.mpr c6
     clear c6
     obtain rfl := Option.some.inj H
     go_enter Tryd.func102, Tryd.ntmps102
     go_wp2
     go_ret
     exact ⟨by first | rfl | (simp; done) | (simp [*]; done), by repeat (first | exact Drawn0.refl _ | apply Drawn0.step)⟩
    ·
     rw [if_neg c6] at H
     have c6b0 : ((Int.tmod a0 400) == 0) = false := beq_eq_false_iff_ne.mpr c6
     have c6b1 : ((Int.tmod a0 400) != 0) = true := bne_iff_ne.mpr c6
     obtain rfl := Option.some.inj H
     go_enter Tryd.func102, Tryd.ntmps102
     go_wp2
     go_ret
     exact ⟨by first | rfl | (simp; done) | (simp [*]; done), by repeat (first | exact Drawn0.refl _ | apply Drawn0.step)⟩
   ·
    rw [if_neg c5] at H
    have c5b0 : ((Int.tmod a0 100) == 0) = false := beq_eq_false_iff_ne.mpr c5
    have c5b1 : ((Int.tmod a0 100) != 0) = true := bne_iff_ne.mpr c5
    obtain rfl := Option.some.inj H
    go_enter Tryd.func102, Tryd.ntmps102
    go_wp2
    go_ret
    exact ⟨by first | rfl | (simp; done) | (simp [*]; done), by repeat (first | exact Drawn0.refl _ | apply Drawn0.step)⟩
  ·
   rw [if_neg c4] at H
   have c4b0 : ((Int.tmod a0 4) == 0) = false := beq_eq_false_iff_ne.mpr c4
   have c4b1 : ((Int.tmod a0 4) != 0) = true := bne_iff_ne.mpr c4
   obtain rfl := Option.some.inj H
   go_enter Tryd.func102, Tryd.ntmps102
   go_wp2
   go_ret
   exact ⟨by first | rfl | (simp; done) | (simp [*]; done), by repeat (first | exact Drawn0.refl _ | apply Drawn0.step)⟩
 ·
  rw [if_neg c3] at H
  have c3b0 : (a1 == 2) = false := beq_eq_false_iff_ne.mpr c3
  have c3b1 : (a1 != 2) = true := bne_iff_ne.mpr c3
  by_cases c7 : a1 = 4
  ·
   rw [if_pos c7] at H
   have c7b0 : (a1 == 4) = true := beq_iff_eq.mpr c7
   have c7b1 : (a1 != 4) = false := bne_eq_false_iff_eq.mpr c7
   clear c7
   obtain rfl := Option.some.inj H
   go_enter Tryd.func102, Tryd.ntmps102
   go_wp2
   go_ret
   exact ⟨by first | rfl | (simp; done) | (simp [*]; done), by repeat (first | exact Drawn0.refl _ | apply Drawn0.step)⟩
  ·
   rw [if_neg c7] at H
   have c7b0 : (a1 == 4) = false := beq_eq_false_iff_ne.mpr c7
   have c7b1 : (a1 != 4) = true := bne_iff_ne.mpr c7
   by_cases c8 : a1 = 6
   ·
    rw [if_pos c8] at H
    have c8b0 : (a1 == 6) = true := beq_iff_eq.mpr c8
    have c8b1 : (a1 != 6) = false := bne_eq_false_iff_eq.mpr c8
    clear c8
    obtain rfl := Option.some.inj H
    go_enter Tryd.func102, Tryd.ntmps102
    go_wp2
    go_ret
    exact ⟨by first | rfl | (simp; done) | (simp [*]; done), by repeat (first | exact Drawn0.refl _ | apply Drawn0.step)⟩
   ·
    rw [if_neg c8] at H
    have c8b0 : (a1 == 6) = false := beq_eq_false_iff_ne.mpr c8
    have c8b1 : (a1 != 6) = true := bne_iff_ne.mpr c8
    by_cases c9 : a1 = 9
    ·
     rw [if_pos c9] at H
     have c9b0 : (a1 == 9) = true := beq_iff_eq.mpr c9
     have c9b1 : (a1 != 9) = false := bne_eq_false_iff_eq.mpr c9
     clear c9
     obtain rfl := Option.some.inj H
     go_enter Tryd.func102, Tryd.ntmps102
     go_wp2
     go_ret
     exact ⟨by first | rfl | (simp; done) | (simp [*]; done), by repeat (first | exact Drawn0.refl _ | apply Drawn0.step)⟩
    ·
     rw [if_neg c9] at H
     have c9b0 : (a1 == 9) = false := beq_eq_false_iff_ne.mpr c9
     have c9b1 : (a1 != 9) = true := bne_iff_ne.mpr c9
     by_cases c10 : a1 = 11
     ·
      rw [if_pos c10] at H
      have c10b0 : (a1 == 11) = true := beq_iff_eq.mpr c10
      have c10b1 : (a1 != 11) = false := bne_eq_false_iff_eq.mpr c10
      clear c10
      obtain rfl := Option.some.inj H
      go_enter Tryd.func102, Tryd.ntmps102
      go_wp2
      go_ret
      exact ⟨by first | rfl | (simp; done) | (simp [*]; done), by repeat (first | exact Drawn0.refl _ | apply Drawn0.step)⟩
     ·
      rw [if_neg c10] at H
      have c10b0 : (a1 == 11) = false := beq_eq_false_iff_ne.mpr c10
      have c10b1 : (a1 != 11) = true := bne_iff_ne.mpr c10
      obtain rfl := Option.some.inj H
      go_enter Tryd.func102, Tryd.ntmps102
      go_wp2
      go_ret
      exact ⟨by first | rfl | (simp; done) | (simp [*]; done), by repeat (first | exact Drawn0.refl _ | apply Drawn0.step)⟩

def customsref04_Of.l0 : Nat → Int → Int → Int → Option (Int × Int × Int × Int)
 | 0, _, _, _ => none
 | k + 1, x0, x4, x5 => (customsref04_Long.f x4 x5).bind fun t1078 => (if x0 ≥ t1078 then ((customsref04_Long.f x4 x5).bind fun t1079 => (if (wrap64 (x5 + 1)) > 12 then (customsref04_Of.l0 k (wrap64 (x0 - t1079)) (wrap64 (x4 + 1)) 1) else (customsref04_Of.l0 k (wrap64 (x0 - t1079)) x4 (wrap64 (x5 + 1))))) else (some (x4, x5, wrap64 (x0 + 1), 0)))
def customsref04_Of.f (k : Nat) (a0 : Int) : Option (Int × Int × Int × Int) := (customsref04_Day.f a0).bind fun t1077 => (if t1077 = true then (customsref04_Of.l0 k a0 2000 1) else (some (0, 0, 0, 2)))
set_option maxHeartbeats 8000000 in
set_option maxRecDepth 100000 in
theorem customsref04_Of.calls (k : Nat) (a0 : Int) (r1 : Int) (r2 : Int) (r3 : Int) (r4 : Int) (w : World) (h : customsref04_Of.f k a0 = some (r1, r2, r3, r4)) :
  Calls Tryd.prog 101 #[.int .i64 a0] w fun e w' => e = .returned (.tuple #[.agg #[.int .i64 r1, .int .i64 r2, .int .i64 r3], .int .i64 r4]) ∧ Below w.heap.size w w' := by
 have hu122 := Tryd.underlying122
 have HB := Aside0.mk (Below.refl w.heap.size w)
 have H : ((customsref04_Day.f a0).bind fun t1077 => (if t1077 = true then (customsref04_Of.l0 k a0 2000 1) else (some (0, 0, 0, 2)))) = some (r1, r2, r3, r4) := h
 clear h
 replace H := Option.bind_eq_some_iff.mp H
 obtain ⟨t1077, A20, H⟩ := H
 replace H : (if t1077 = true then (customsref04_Of.l0 k a0 2000 1) else (some (0, 0, 0, 2))) = some (r1, r2, r3, r4) := H
 have A2 := Aside0.mk A20
 clear A20
 by_cases c3 : t1077 = true
 ·
  subst c3
  have H1 : (customsref04_Of.l0 k a0 2000 1) = some (r1, r2, r3, r4) := by rw [if_pos rfl] at H; exact H
  clear H
  have H := H1
  clear H1
  have H' := Aside0.mk H
  clear H
  go_enter Tryd.func101, Tryd.ntmps101
  go_wp2_with (first | ((with_reducible refine gate_dst (N := 2) rfl ?_); refine box_event ?hg (N := 2) ?hd (cs := #[.int .i64 0, .int .i64 0, .int .i64 0]) (t := 122) ?hr ?_; (case hd => rfl); (case hg => rfl); (case hr => first | (go_simp; done) | (go_simp; rfl)); intro gb1076 hg w4 hbox hb; have n0_ := Aside0.mk (below_step (by repeat (first | (with_reducible first | exact HB.out | apply below_alloc | apply pw_below_drewN | apply below_drew1) | exact HB.out)) hb); have n1_ := Aside0.mk (hbox); have n2_ := Aside0.mk ((by rw [hg]; exact (below_size (by repeat (first | (with_reducible first | exact HB.out | apply below_alloc | apply pw_below_drewN | apply below_drew1) | exact HB.out))) : w.heap.size ≤ gb1076)); have n3_ := Aside0.mk ((by rw [hg]; exact (below_size (by repeat (first | (with_reducible first | exact HB.out | apply below_alloc | apply pw_below_drewN | apply below_drew1) | exact HB.out))) : w.heap.size ≤ gb1076)); clear HB; have HB := n0_; have BK1076 := n1_; have GW1076 := n2_; have GE1076 := n3_; clear n0_ n1_ n2_ n3_; clear hb hbox hg) | ((with_reducible refine gate_callee (f := 81) rfl ?_); refine goesL_ (some 7) rfl rfl Tryd.func81 (by kernel_rfl) rfl #[.int .i64 a0] rfl (by (try simp only [List.map_toArray, List.map_cons, List.map_nil]); first | done | rfl | (simp only [List.length_drop, List.length_take]; rfl)) ?_; (with_reducible refine (customsref04_Day.calls a0 true _ A2.out).mono ?_); rintro e w' ⟨rfl, ⟨nd, rfl⟩⟩; refine ⟨_, rfl, ?_⟩))
  go_loopg [0, 4, 5] k (fun kq v0 v4 v5 w' => ∃ (x0_1 : Int) (x4_1 : Int) (x5_1 : Int), v0 = .int .i64 x0_1 ∧ v4 = .int .i64 x4_1 ∧ v5 = .int .i64 x5_1 ∧ Aside0 (customsref04_Of.l0 kq x0_1 x4_1 x5_1 = some (r1, r2, r3, r4)) ∧ Aside0 (kq ≤ k) ∧ Aside0 (w'.heap[gb1076]? = some (.cells #[.int .i64 0, .int .i64 0, .int .i64 0] 122 (0, 0))) ∧ Aside0 (Below w.heap.size w w'))
  case atStart => exact ⟨(a0), (2000), (1), (by first | rfl | (simp; done) | (simp [*]; done)), (by first | rfl | (simp; done) | (simp [*]; done)), (by first | rfl | (simp; done) | (simp [*]; done)), H', ⟨Nat.le_refl _⟩, ⟨by (with_reducible repeat (first | refine blk_drewN ?_ _ | refine blk_drew ?_ | refine blk_alloc ?_ _)); exact BK1076.out⟩, ⟨by repeat (first | (with_reducible first | exact HB.out | apply below_alloc | apply pw_below_drewN | apply below_drew1 | refine below_set ?_ GE1076.out) | exact HB.out)⟩⟩
  case round =>
   clear H'
   try clear c1
   try clear p2
   try clear c3
   obtain ⟨x0_1, x4_1, x5_1, rfl, rfl, rfl, HA, HK1, BK1076, HB⟩ := hrel
   cases gk with
   | zero => exact absurd HA.out (by simp [customsref04_Of.l0])
   | succ k1 =>
    have H := HA.out
    clear HA
    simp only [customsref04_Of.l0] at H
    replace H := Option.bind_eq_some_iff.mp H
    obtain ⟨t1078, A50, H⟩ := H
    replace H : (if x0_1 ≥ t1078 then ((customsref04_Long.f x4_1 x5_1).bind fun t1079 => (if (wrap64 (x5_1 + 1)) > 12 then (customsref04_Of.l0 k1 (wrap64 (x0_1 - t1079)) (wrap64 (x4_1 + 1)) 1) else (customsref04_Of.l0 k1 (wrap64 (x0_1 - t1079)) x4_1 (wrap64 (x5_1 + 1))))) else (some (x4_1, x5_1, wrap64 (x0_1 + 1), 0))) = some (r1, r2, r3, r4) := H
    have A5 := Aside0.mk A50
    clear A50
    by_cases c6 : x0_1 ≥ t1078
    ·
     rw [if_pos c6] at H
     have c6b0 : decide (t1078 ≤ x0_1) = true := decide_eq_true c6
     clear c6
     replace H := Option.bind_eq_some_iff.mp H
     obtain ⟨t1079, A70, H⟩ := H
     replace H : (if (wrap64 (x5_1 + 1)) > 12 then (customsref04_Of.l0 k1 (wrap64 (x0_1 - t1079)) (wrap64 (x4_1 + 1)) 1) else (customsref04_Of.l0 k1 (wrap64 (x0_1 - t1079)) x4_1 (wrap64 (x5_1 + 1)))) = some (r1, r2, r3, r4) := H
     have A7 := Aside0.mk A70
     clear A70
     by_cases c8 : (wrap64 (x5_1 + 1)) > 12
     ·
      rw [if_pos c8] at H
      have c8b0 : decide (12 < (wrap64 (x5_1 + 1))) = true := decide_eq_true c8
      clear c8
      have H' := Aside0.mk H
      clear H
      go_wp2_with (first | ((with_reducible refine gate_callee (f := 102) rfl ?_); refine goesL_ (some 13) rfl rfl Tryd.func102 (by kernel_rfl) rfl #[.int .i64 x4_1, .int .i64 x5_1] rfl (by (try simp only [List.map_toArray, List.map_cons, List.map_nil]); first | done | rfl | (simp only [List.length_drop, List.length_take]; rfl)) ?_; (with_reducible refine (customsref04_Long.calls x4_1 x5_1 t1078 _ A5.out).mono ?_); rintro e w' ⟨rfl, ⟨nd, rfl⟩⟩; clear A5; refine ⟨_, rfl, ?_⟩) | ((with_reducible refine gate_callee (f := 102) rfl ?_); refine goesL_ (some 18) rfl rfl Tryd.func102 (by kernel_rfl) rfl #[.int .i64 x4_1, .int .i64 x5_1] rfl (by (try simp only [List.map_toArray, List.map_cons, List.map_nil]); first | done | rfl | (simp only [List.length_drop, List.length_take]; rfl)) ?_; (with_reducible refine (customsref04_Long.calls x4_1 x5_1 t1079 _ A7.out).mono ?_); rintro e w' ⟨rfl, ⟨nd, rfl⟩⟩; refine ⟨_, rfl, ?_⟩))
      go_roundg k1
      case measure => have := HK1.out; omega
      case rel => exact ⟨(wrap64 (x0_1 - t1079)), (wrap64 (x4_1 + 1)), (1), (by first | rfl | (simp; done) | (simp [*]; done)), (by first | rfl | (simp; done) | (simp [*]; done)), (by first | rfl | (simp; done) | (simp [*]; done)), H', ⟨by have := HK1.out; omega⟩, ⟨by (with_reducible repeat (first | refine blk_drewN ?_ _ | refine blk_drew ?_ | refine blk_alloc ?_ _)); exact BK1076.out⟩, ⟨by repeat (first | (with_reducible first | exact HB.out | apply below_alloc | apply pw_below_drewN | apply below_drew1 | refine below_set ?_ GE1076.out) | exact HB.out)⟩⟩
     ·
      rw [if_neg c8] at H
      have c8b0 : decide (12 < (wrap64 (x5_1 + 1))) = false := decide_eq_false c8
      clear c8
      have H' := Aside0.mk H
      clear H
      go_wp2_with (first | ((with_reducible refine gate_callee (f := 102) rfl ?_); refine goesL_ (some 13) rfl rfl Tryd.func102 (by kernel_rfl) rfl #[.int .i64 x4_1, .int .i64 x5_1] rfl (by (try simp only [List.map_toArray, List.map_cons, List.map_nil]); first | done | rfl | (simp only [List.length_drop, List.length_take]; rfl)) ?_; (with_reducible refine (customsref04_Long.calls x4_1 x5_1 t1078 _ A5.out).mono ?_); rintro e w' ⟨rfl, ⟨nd, rfl⟩⟩; clear A5; refine ⟨_, rfl, ?_⟩) | ((with_reducible refine gate_callee (f := 102) rfl ?_); refine goesL_ (some 18) rfl rfl Tryd.func102 (by kernel_rfl) rfl #[.int .i64 x4_1, .int .i64 x5_1] rfl (by (try simp only [List.map_toArray, List.map_cons, List.map_nil]); first | done | rfl | (simp only [List.length_drop, List.length_take]; rfl)) ?_; (with_reducible refine (customsref04_Long.calls x4_1 x5_1 t1079 _ A7.out).mono ?_); rintro e w' ⟨rfl, ⟨nd, rfl⟩⟩; refine ⟨_, rfl, ?_⟩))
      go_roundg k1
      case measure => have := HK1.out; omega
      case rel => exact ⟨(wrap64 (x0_1 - t1079)), (x4_1), (wrap64 (x5_1 + 1)), (by first | rfl | (simp; done) | (simp [*]; done)), (by first | rfl | (simp; done) | (simp [*]; done)), (by first | rfl | (simp; done) | (simp [*]; done)), H', ⟨by have := HK1.out; omega⟩, ⟨by (with_reducible repeat (first | refine blk_drewN ?_ _ | refine blk_drew ?_ | refine blk_alloc ?_ _)); exact BK1076.out⟩, ⟨by repeat (first | (with_reducible first | exact HB.out | apply below_alloc | apply pw_below_drewN | apply below_drew1 | refine below_set ?_ GE1076.out) | exact HB.out)⟩⟩
    ·
     rw [if_neg c6] at H
     have c6b0 : decide (t1078 ≤ x0_1) = false := decide_eq_false c6
     clear c6
     simp only [Option.some.injEq, Prod.mk.injEq] at H
     obtain ⟨rfl, rfl, rfl, rfl⟩ := H
     go_wp2_with (first | ((with_reducible refine gate_callee (f := 102) rfl ?_); refine goesL_ (some 13) rfl rfl Tryd.func102 (by kernel_rfl) rfl #[.int .i64 x4_1, .int .i64 x5_1] rfl (by (try simp only [List.map_toArray, List.map_cons, List.map_nil]); first | done | rfl | (simp only [List.length_drop, List.length_take]; rfl)) ?_; (with_reducible refine (customsref04_Long.calls x4_1 x5_1 t1078 _ A5.out).mono ?_); rintro e w' ⟨rfl, ⟨nd, rfl⟩⟩; refine ⟨_, rfl, ?_⟩; (try (rw [drewN_self wr]; generalize hq_ : World.drewN wr _ = wr; have n0_ : Aside0 (wr.heap[gb1076]? = some (.cells #[.int .i64 0, .int .i64 0, .int .i64 0] 122 (0, 0))) := ⟨by rw [← hq_]; exact (by (with_reducible repeat (first | refine blk_drewN ?_ _ | refine blk_drew ?_ | refine blk_alloc ?_ _)); exact BK1076.out)⟩; have n1_ : Aside0 (Below w.heap.size w wr) := ⟨by rw [← hq_]; exact (by repeat (first | (with_reducible first | exact HB.out | apply below_alloc | apply pw_below_drewN | apply below_drew1 | refine below_set ?_ GE1076.out) | exact HB.out))⟩; clear BK1076 HB hq_; have BK1076 := n0_; have HB := n1_; clear n0_ n1_)); (try (have hcU1076_0 : wr.cell? ⟨gb1076, 0, none⟩ = some (.int .i64 0) := (blk_cell BK1076.out 0).trans rfl; have hfU1076_0 := blk_frozen BK1076.out 0; have hcU1076_1 : wr.cell? ⟨gb1076, 1, none⟩ = some (.int .i64 0) := (blk_cell BK1076.out 1).trans rfl; have hfU1076_1 := blk_frozen BK1076.out 1; have hcU1076_2 : wr.cell? ⟨gb1076, 2, none⟩ = some (.int .i64 0) := (blk_cell BK1076.out 2).trans rfl; have hfU1076_2 := blk_frozen BK1076.out 2)); have hcz9_0 : wr.cell? ⟨gb1076, 0, none⟩ = some (.int .i64 0) := (blk_cell BK1076.out 0).trans rfl; have hcz9_1 : wr.cell? ⟨gb1076, 1, none⟩ = some (.int .i64 0) := (blk_cell BK1076.out 1).trans rfl; have hcz9_2 : wr.cell? ⟨gb1076, 2, none⟩ = some (.int .i64 0) := (blk_cell BK1076.out 2).trans rfl; have hfz9_0 := blk_frozen BK1076.out 0; have hfz9_1 := blk_frozen BK1076.out 1; have hfz9_2 := blk_frozen BK1076.out 2; (try (have hpz9_1 : ∀ v0_ v1_ : Value, ((wr.setCell ⟨gb1076, 0, none⟩ v0_).setCell ⟨gb1076, 1, none⟩ v1_).cell? ⟨gb1076, 1, none⟩ = some v1_ := by (intros; go_simp))); (try (have hpz9_2 : ∀ v0_ v1_ v2_ : Value, (((wr.setCell ⟨gb1076, 0, none⟩ v0_).setCell ⟨gb1076, 1, none⟩ v1_).setCell ⟨gb1076, 2, none⟩ v2_).cell? ⟨gb1076, 2, none⟩ = some v2_ := by (intros; go_simp)))))
     refine bodyPost_ret (results_ct rfl _ _ gb1076 122 #[.int .i64 x4_1, .int .i64 x5_1, .int .i64 (wrap64 (x0_1 + 1))] (0, 0) _ rfl (by (with_reducible repeat (first | refine blk_drewN ?_ _ | refine blk_drew ?_ | refine blk_alloc ?_ _)); refine blk_put (cs := #[.int .i64 x4_1, .int .i64 x5_1, .int .i64 0]) ?_ 2 _ rfl; (with_reducible repeat (first | refine blk_drewN ?_ _ | refine blk_drew ?_ | refine blk_alloc ?_ _)); refine blk_put (cs := #[.int .i64 x4_1, .int .i64 0, .int .i64 0]) ?_ 1 _ rfl; (with_reducible repeat (first | refine blk_drewN ?_ _ | refine blk_drew ?_ | refine blk_alloc ?_ _)); refine blk_put (cs := #[.int .i64 0, .int .i64 0, .int .i64 0]) ?_ 0 _ rfl; (with_reducible repeat (first | refine blk_drewN ?_ _ | refine blk_drew ?_ | refine blk_alloc ?_ _)); exact BK1076.out) Tryd.underlying122 rfl (by kernel_rfl)) rfl ?_
     exact ⟨by first | rfl | (simp [errW_none, errW_some] <;> rfl) | (simp [*, errW_none, errW_some] <;> rfl), by repeat (first | (with_reducible first | exact HB.out | apply below_alloc | apply pw_below_drewN | apply below_drew1 | refine below_set ?_ GE1076.out) | exact HB.out)⟩
 ·
  replace c3 := Bool.eq_false_iff.mpr c3
  subst c3
  have H1 : (some (0, 0, 0, 2)) = some (r1, r2, r3, r4) := by rw [if_neg (show ¬ (false = true) by decide)] at H; exact H
  clear H
  have H := H1
  clear H1
  simp only [Option.some.injEq, Prod.mk.injEq] at H
  obtain ⟨rfl, rfl, rfl, rfl⟩ := H
  go_enter Tryd.func101, Tryd.ntmps101
  go_wp2_with (first | ((with_reducible refine gate_dst (N := 2) rfl ?_); refine box_event ?hg (N := 2) ?hd (cs := #[.int .i64 0, .int .i64 0, .int .i64 0]) (t := 122) ?hr ?_; (case hd => rfl); (case hg => rfl); (case hr => first | (go_simp; done) | (go_simp; rfl)); intro gb1076 hg w10 hbox hb; have n0_ := Aside0.mk (below_step (by repeat (first | (with_reducible first | exact HB.out | apply below_alloc | apply pw_below_drewN | apply below_drew1) | exact HB.out)) hb); have n1_ := Aside0.mk (hbox); have n2_ := Aside0.mk ((by rw [hg]; exact (below_size (by repeat (first | (with_reducible first | exact HB.out | apply below_alloc | apply pw_below_drewN | apply below_drew1) | exact HB.out))) : w.heap.size ≤ gb1076)); have n3_ := Aside0.mk ((by rw [hg]; exact (below_size (by repeat (first | (with_reducible first | exact HB.out | apply below_alloc | apply pw_below_drewN | apply below_drew1) | exact HB.out))) : w.heap.size ≤ gb1076)); clear HB; have HB := n0_; have BK1076 := n1_; have GW1076 := n2_; have GE1076 := n3_; clear n0_ n1_ n2_ n3_; clear hb hbox hg) | ((with_reducible refine gate_callee (f := 81) rfl ?_); refine goesL_ (some 7) rfl rfl Tryd.func81 (by kernel_rfl) rfl #[.int .i64 a0] rfl (by (try simp only [List.map_toArray, List.map_cons, List.map_nil]); first | done | rfl | (simp only [List.length_drop, List.length_take]; rfl)) ?_; (with_reducible refine (customsref04_Day.calls a0 false _ A2.out).mono ?_); rintro e w' ⟨rfl, ⟨nd, rfl⟩⟩; refine ⟨_, rfl, ?_⟩; (try (rw [drewN_self w10]; generalize hq_ : World.drewN w10 _ = w10; have n0_ : Aside0 (w10.heap[gb1076]? = some (.cells #[.int .i64 0, .int .i64 0, .int .i64 0] 122 (0, 0))) := ⟨by rw [← hq_]; exact (by (with_reducible repeat (first | refine blk_drewN ?_ _ | refine blk_drew ?_ | refine blk_alloc ?_ _)); exact BK1076.out)⟩; have n1_ : Aside0 (Below w.heap.size w w10) := ⟨by rw [← hq_]; exact (by repeat (first | (with_reducible first | exact HB.out | apply below_alloc | apply pw_below_drewN | apply below_drew1 | refine below_set ?_ GE1076.out) | exact HB.out))⟩; clear BK1076 HB hq_; have BK1076 := n0_; have HB := n1_; clear n0_ n1_)); (try (have hcU1076_0 : w10.cell? ⟨gb1076, 0, none⟩ = some (.int .i64 0) := (blk_cell BK1076.out 0).trans rfl; have hfU1076_0 := blk_frozen BK1076.out 0; have hcU1076_1 : w10.cell? ⟨gb1076, 1, none⟩ = some (.int .i64 0) := (blk_cell BK1076.out 1).trans rfl; have hfU1076_1 := blk_frozen BK1076.out 1; have hcU1076_2 : w10.cell? ⟨gb1076, 2, none⟩ = some (.int .i64 0) := (blk_cell BK1076.out 2).trans rfl; have hfU1076_2 := blk_frozen BK1076.out 2)); have hcz11_0 : w10.cell? ⟨gb1076, 0, none⟩ = some (.int .i64 0) := (blk_cell BK1076.out 0).trans rfl; have hcz11_1 : w10.cell? ⟨gb1076, 1, none⟩ = some (.int .i64 0) := (blk_cell BK1076.out 1).trans rfl; have hcz11_2 : w10.cell? ⟨gb1076, 2, none⟩ = some (.int .i64 0) := (blk_cell BK1076.out 2).trans rfl; have hfz11_0 := blk_frozen BK1076.out 0; have hfz11_1 := blk_frozen BK1076.out 1; have hfz11_2 := blk_frozen BK1076.out 2; (try (have hpz11_1 : ∀ v0_ v1_ : Value, ((w10.setCell ⟨gb1076, 0, none⟩ v0_).setCell ⟨gb1076, 1, none⟩ v1_).cell? ⟨gb1076, 1, none⟩ = some v1_ := by (intros; go_simp))); (try (have hpz11_2 : ∀ v0_ v1_ v2_ : Value, (((w10.setCell ⟨gb1076, 0, none⟩ v0_).setCell ⟨gb1076, 1, none⟩ v1_).setCell ⟨gb1076, 2, none⟩ v2_).cell? ⟨gb1076, 2, none⟩ = some v2_ := by (intros; go_simp)))))
  refine bodyPost_ret (results_ct rfl _ _ gb1076 122 #[.int .i64 0, .int .i64 0, .int .i64 0] (0, 0) _ rfl (by (with_reducible repeat (first | refine blk_drewN ?_ _ | refine blk_drew ?_ | refine blk_alloc ?_ _)); refine blk_put (cs := #[.int .i64 0, .int .i64 0, .int .i64 0]) ?_ 2 _ rfl; (with_reducible repeat (first | refine blk_drewN ?_ _ | refine blk_drew ?_ | refine blk_alloc ?_ _)); refine blk_put (cs := #[.int .i64 0, .int .i64 0, .int .i64 0]) ?_ 1 _ rfl; (with_reducible repeat (first | refine blk_drewN ?_ _ | refine blk_drew ?_ | refine blk_alloc ?_ _)); refine blk_put (cs := #[.int .i64 0, .int .i64 0, .int .i64 0]) ?_ 0 _ rfl; (with_reducible repeat (first | refine blk_drewN ?_ _ | refine blk_drew ?_ | refine blk_alloc ?_ _)); exact BK1076.out) Tryd.underlying122 rfl (by kernel_rfl)) rfl ?_
  exact ⟨by first | rfl | (simp [errW_none, errW_some] <;> rfl) | (simp [*, errW_none, errW_some] <;> rfl), by repeat (first | (with_reducible first | exact HB.out | apply below_alloc | apply pw_below_drewN | apply below_drew1 | refine below_set ?_ GE1076.out) | exact HB.out)⟩

mutual
def customsref04_Number.j0 : Nat → Bool → Int → Int → Int → Option (Int × Int)
 | 0, _, _, _, _ => none
 | k + 1, x39, x1081000, x1081001, x1081002 => if x39 = true then (some (0, 2)) else (customsref04_Number.l0 k (wrap64 (x1081002 - 1)) 2000 x1081000 x1081001 x1081002)
def customsref04_Number.l0 : Nat → Int → Int → Int → Int → Int → Option (Int × Int)
 | 0, _, _, _, _, _ => none
 | k + 1, x4, x5, x1081000, x1081001, x1081002 => if x5 < x1081000 then ((customsref04_Long.f x5 2).bind fun t1082 => (customsref04_Number.l0 k (wrap64 ((wrap64 (x4 + 337)) + t1082)) (wrap64 (x5 + 1)) x1081000 x1081001 x1081002)) else (customsref04_Number.l1 k x4 1 x1081000 x1081001 x1081002)
def customsref04_Number.l1 : Nat → Int → Int → Int → Int → Int → Option (Int × Int)
 | 0, _, _, _, _, _ => none
 | k + 1, x4, x6, x1081000, x1081001, x1081002 => if x6 < x1081001 then ((customsref04_Long.f x1081000 x6).bind fun t1083 => (customsref04_Number.l1 k (wrap64 (x4 + t1083)) (wrap64 (x6 + 1)) x1081000 x1081001 x1081002)) else (some (x4, 0))
end
def customsref04_Number.f (k : Nat) (a0_0 : Int) (a0_1 : Int) (a0_2 : Int) : Option (Int × Int) := if a0_0 < 2000 then (customsref04_Number.j0 k true a0_0 a0_1 a0_2) else (if a0_0 > 2099 then (customsref04_Number.j0 k true a0_0 a0_1 a0_2) else (if a0_1 < 1 then (customsref04_Number.j0 k true a0_0 a0_1 a0_2) else (if a0_1 > 12 then (customsref04_Number.j0 k true a0_0 a0_1 a0_2) else (if a0_2 < 1 then (customsref04_Number.j0 k true a0_0 a0_1 a0_2) else ((customsref04_Long.f a0_0 a0_1).bind fun t1081 => (customsref04_Number.j0 k (decide (a0_2 > t1081)) a0_0 a0_1 a0_2))))))
def customsref04_Number.T1 : Bool × List (List Nat × List Nat) := (true, [([], []), ([0], [0]), ([1], [1]), ([2], [2]), ([3], [3]), ([4, 3], [3, 4]), ([5, 3], [3, 5]), ([3, 6], [3, 6]), ([7, 3], [7]), ([8], [8]), ([9, 8], [8, 9]), ([10, 8], [8, 10]), ([8, 11], [8, 11]), ([12, 8], [12]), ([13], [13]), ([14, 13], [13, 14]), ([15, 13], [13, 15]), ([13, 16], [13, 16]), ([17, 13], [17]), ([18], [18]), ([19, 18], [18, 19]), ([20, 18], [18, 20]), ([18, 21], [18, 21]), ([22, 18], [22]), ([23], [23]), ([24, 23], [23, 24]), ([23], [23]), ([26, 23], [23, 26]), ([23], [23]), ([28, 23], [23, 28]), ([27, 29, 23, 23], [23, 27, 29]), ([25, 30, 23], [23, 25, 30]), ([23, 31], [23, 31])])
def customsref04_Number.B1 : List Nat := [0, 1, 3, 7, 15, 31, 63, 127, 255, 511, 1023, 2047, 4095, 8191, 16383, 32767, 65535, 131071, 262143, 524287, 1048575, 2097151, 4194303, 8388607, 16777215, 33554431, 16777215, 83886079, 16777215, 285212671, 1023410175, 2147483647, 4294967295]
theorem customsref04_Number.tab1 : rtab .any (opsOf Tryd.f103 1) = customsref04_Number.T1 := by kernel_rfl
theorem customsref04_Number.bits1 : waitsOk customsref04_Number.T1.2 customsref04_Number.B1 = true := by kernel_rfl
set_option maxHeartbeats 8000000 in
set_option maxRecDepth 100000 in
theorem customsref04_Number.calls (k : Nat) (a0_0 : Int) (a0_1 : Int) (a0_2 : Int) (r1 : Int) (r2 : Int) (w : World) (h : customsref04_Number.f k a0_0 a0_1 a0_2 = some (r1, r2)) :
  Calls Tryd.prog 103 #[.agg #[.int .i64 a0_0, .int .i64 a0_1, .int .i64 a0_2]] w fun e w' => e = .returned (.tuple #[.int .i64 r1, .int .i64 r2]) ∧ Below w.heap.size w w' := by
 have hu122 := Tryd.underlying122
 have HB := Aside0.mk (Below.refl w.heap.size w)
 have H : (if a0_0 < 2000 then (customsref04_Number.j0 k true a0_0 a0_1 a0_2) else (if a0_0 > 2099 then (customsref04_Number.j0 k true a0_0 a0_1 a0_2) else (if a0_1 < 1 then (customsref04_Number.j0 k true a0_0 a0_1 a0_2) else (if a0_1 > 12 then (customsref04_Number.j0 k true a0_0 a0_1 a0_2) else (if a0_2 < 1 then (customsref04_Number.j0 k true a0_0 a0_1 a0_2) else ((customsref04_Long.f a0_0 a0_1).bind fun t1081 => (customsref04_Number.j0 k (decide (a0_2 > t1081)) a0_0 a0_1 a0_2))))))) = some (r1, r2) := h
 clear h
 have HC2 := Aside0.mk H
 clear H
 go_enter Tryd.func103, Tryd.ntmps103
 go_upto_region 1 with (first | ((with_reducible refine gate_dst (N := 1) rfl ?_); refine box_event ?hg (N := 1) ?hd (cs := #[.int .i64 a0_0, .int .i64 a0_1, .int .i64 a0_2]) (t := 122) ?hr ?_; (case hd => rfl); (case hg => rfl); (case hr => first | (go_simp; done) | (go_simp; rfl)); intro gb1080 hg w3 hbox hb; have n0_ := Aside0.mk (below_step HB.out hb); have n1_ := Aside0.mk (hbox); have n2_ := Aside0.mk ((by rw [hg]; exact (below_size HB.out) : w.heap.size ≤ gb1080)); have n3_ := Aside0.mk ((by rw [hg]; exact (below_size HB.out) : w.heap.size ≤ gb1080)); clear HB; have HB := n0_; have BK1080 := n1_; have GW1080 := n2_; have GE1080 := n3_; clear n0_ n1_ n2_ n3_; clear hb hbox hg))
 (try simp only [Act.put, List.setIfInBounds_toArray, List.set_cons_zero, List.set_cons_succ])
 go_cut [39] (fun v39 wc => ∃ (kq : Nat) (x39_1 : Bool), v39 = .bool x39_1 ∧ Aside0 (customsref04_Number.j0 kq x39_1 a0_0 a0_1 a0_2 = some (r1, r2)) ∧ Aside0 (kq ≤ k) ∧ Aside0 (wc.heap[gb1080]? = some (.cells #[.int .i64 a0_0, .int .i64 a0_1, .int .i64 a0_2] 122 (0, 0))) ∧ Aside0 (Below w.heap.size w wc))
 case first =>
  have H := HC2.out
  clear HC2
  by_cases c4 : a0_0 < 2000
  ·
   rw [if_pos c4] at H
   have c4b0 : decide (a0_0 < 2000) = true := decide_eq_true c4
   clear c4
   (first | rw [c4b0] | (simp only [i64_w, i32_w]; rw [c4b0]) | skip)
   have H' := Aside0.mk H
   clear H
   try go_wp2
   have n0_ := Aside0.mk (blk_drew BK1080.out)
   have n1_ := Aside0.mk (below_drew1 HB.out)
   clear BK1080
   clear HB
   have BK1080 := n0_
   have HB := n1_
   clear n0_ n1_
   refine start_ (n := 33) (S := fun w' => w'.cell? ⟨gb1080, 0, none⟩ = some (.int .i64 a0_0) ∧ w'.cell? ⟨gb1080, 1, none⟩ = some (.int .i64 a0_1) ∧ w'.cell? ⟨gb1080, 2, none⟩ = some (.int .i64 a0_2)) (ds := []) (bmask 33 0) (by kernel_rfl) rfl (by kernel_rfl) ⟨(blk_cell BK1080.out 0).trans rfl, (blk_cell BK1080.out 1).trans rfl, (blk_cell BK1080.out 2).trans rfl⟩ (fun hHeld => ?_); refine with_tabW customsref04_Number.tab1 customsref04_Number.bits1 (fun HT_ HW_ => ?_)
   generalize w3.drew = w5 at BK1080 HB hHeld ⊢
   refine pure_ (i := 0) (N := some 7) (v := ?_) (a' := ?_) (bmask 33 1) rfl rfl (any_of HT_.out (by kernel_rfl)) (fun _ _ _ h => h) (Or.inl ⟨by rfl, ?_⟩) ?_ ?_
   rotate_left
   ·
    intro w'
    go_simp
    with_reducible rfl
   rotate_left
   ·
    simp only [Act.put, List.setIfInBounds_toArray, List.set_cons_zero, List.set_cons_succ, i64_w, i32_w]
    rfl
   refine take_ (i := 1) (N := some 8) (v := ?_) (a' := ?_) (bmask 33 3) rfl rfl (take_ofW HT_.out HW_.out (by kernel_rfl)) (fun _ _ _ h => h) (Or.inl ⟨by rfl, ?_⟩) hHeld ?_ ?_
   rotate_left
   ·
    rintro w' ⟨s0, s1, s2⟩
    go_simp
    with_reducible rfl
   rotate_left
   ·
    simp only [Act.put, List.setIfInBounds_toArray, List.set_cons_zero, List.set_cons_succ, i64_w, i32_w]
    rfl
   refine pure_ (i := 2) (N := some 9) (v := ?_) (a' := ?_) (bmask 33 7) rfl rfl (any_of HT_.out (by kernel_rfl)) (fun _ _ _ h => h) (Or.inl ⟨by rfl, ?_⟩) ?_ ?_
   rotate_left
   ·
    intro w'
    go_simp
    with_reducible rfl
   rotate_left
   ·
    simp only [Act.put, List.setIfInBounds_toArray, List.set_cons_zero, List.set_cons_succ, i64_w, i32_w]
    rfl
   refine pure_ (i := 3) (N := some 10) (v := ?_) (a' := ?_) (bmask 33 15) rfl rfl (any_of HT_.out (by kernel_rfl)) (fun _ _ _ h => h) (Or.inl ⟨by rfl, ?_⟩) ?_ ?_
   rotate_left
   ·
    intro w'
    go_simp
    with_reducible rfl
   rotate_left
   ·
    simp only [Act.put, List.setIfInBounds_toArray, List.set_cons_zero, List.set_cons_succ, i64_w, i32_w]
    rfl
   refine pure_ (i := 4) (N := some 11) (v := undef) (a' := ?_) (bmask 33 31) rfl rfl (any_of HT_.out (by kernel_rfl)) (fun _ _ _ h => h) (Or.inr ⟨by rfl, rfl⟩) ?_ ?_
   rotate_left
   ·
    simp only [Act.put, List.setIfInBounds_toArray, List.set_cons_zero, List.set_cons_succ, i64_w, i32_w]
    rfl
   refine pure_ (i := 5) (N := some 12) (v := undef) (a' := ?_) (bmask 33 63) rfl rfl (any_of HT_.out (by kernel_rfl)) (fun _ _ _ h => h) (Or.inr ⟨by rfl, rfl⟩) ?_ ?_
   rotate_left
   ·
    simp only [Act.put, List.setIfInBounds_toArray, List.set_cons_zero, List.set_cons_succ, i64_w, i32_w]
    rfl
   refine pure_ (i := 6) (N := some 13) (v := undef) (a' := ?_) (bmask 33 127) rfl rfl (any_of HT_.out (by kernel_rfl)) (fun _ _ _ h => h) (Or.inr ⟨by rfl, rfl⟩) ?_ ?_
   rotate_left
   ·
    simp only [Act.put, List.setIfInBounds_toArray, List.set_cons_zero, List.set_cons_succ, i64_w, i32_w]
    rfl
   refine pure_ (i := 7) (N := some 14) (v := ?_) (a' := ?_) (bmask 33 255) rfl rfl (any_of HT_.out (by kernel_rfl)) (fun _ _ _ h => h) (Or.inl ⟨by rfl, ?_⟩) ?_ ?_
   rotate_left
   ·
    intro w'
    go_simp
    with_reducible rfl
   rotate_left
   ·
    simp only [Act.put, List.setIfInBounds_toArray, List.set_cons_zero, List.set_cons_succ, i64_w, i32_w]
    rfl
   refine pure_ (i := 8) (N := some 15) (v := ?_) (a' := ?_) (bmask 33 511) rfl rfl (any_of HT_.out (by kernel_rfl)) (fun _ _ _ h => h) (Or.inl ⟨by rfl, ?_⟩) ?_ ?_
   rotate_left
   ·
    intro w'
    go_simp
    with_reducible rfl
   rotate_left
   ·
    simp only [Act.put, List.setIfInBounds_toArray, List.set_cons_zero, List.set_cons_succ, i64_w, i32_w]
    rfl
   refine pure_ (i := 9) (N := some 16) (v := undef) (a' := ?_) (bmask 33 1023) rfl rfl (any_of HT_.out (by kernel_rfl)) (fun _ _ _ h => h) (Or.inr ⟨by rfl, rfl⟩) ?_ ?_
   rotate_left
   ·
    simp only [Act.put, List.setIfInBounds_toArray, List.set_cons_zero, List.set_cons_succ, i64_w, i32_w]
    rfl
   refine pure_ (i := 10) (N := some 17) (v := undef) (a' := ?_) (bmask 33 2047) rfl rfl (any_of HT_.out (by kernel_rfl)) (fun _ _ _ h => h) (Or.inr ⟨by rfl, rfl⟩) ?_ ?_
   rotate_left
   ·
    simp only [Act.put, List.setIfInBounds_toArray, List.set_cons_zero, List.set_cons_succ, i64_w, i32_w]
    rfl
   refine pure_ (i := 11) (N := some 18) (v := undef) (a' := ?_) (bmask 33 4095) rfl rfl (any_of HT_.out (by kernel_rfl)) (fun _ _ _ h => h) (Or.inr ⟨by rfl, rfl⟩) ?_ ?_
   rotate_left
   ·
    simp only [Act.put, List.setIfInBounds_toArray, List.set_cons_zero, List.set_cons_succ, i64_w, i32_w]
    rfl
   refine pure_ (i := 12) (N := some 19) (v := ?_) (a' := ?_) (bmask 33 8191) rfl rfl (any_of HT_.out (by kernel_rfl)) (fun _ _ _ h => h) (Or.inl ⟨by rfl, ?_⟩) ?_ ?_
   rotate_left
   ·
    intro w'
    go_simp
    with_reducible rfl
   rotate_left
   ·
    simp only [Act.put, List.setIfInBounds_toArray, List.set_cons_zero, List.set_cons_succ, i64_w, i32_w]
    rfl
   refine pure_ (i := 13) (N := some 20) (v := ?_) (a' := ?_) (bmask 33 16383) rfl rfl (any_of HT_.out (by kernel_rfl)) (fun _ _ _ h => h) (Or.inl ⟨by rfl, ?_⟩) ?_ ?_
   rotate_left
   ·
    intro w'
    go_simp
    with_reducible rfl
   rotate_left
   ·
    simp only [Act.put, List.setIfInBounds_toArray, List.set_cons_zero, List.set_cons_succ, i64_w, i32_w]
    rfl
   refine pure_ (i := 14) (N := some 21) (v := undef) (a' := ?_) (bmask 33 32767) rfl rfl (any_of HT_.out (by kernel_rfl)) (fun _ _ _ h => h) (Or.inr ⟨by rfl, rfl⟩) ?_ ?_
   rotate_left
   ·
    simp only [Act.put, List.setIfInBounds_toArray, List.set_cons_zero, List.set_cons_succ, i64_w, i32_w]
    rfl
   refine pure_ (i := 15) (N := some 22) (v := undef) (a' := ?_) (bmask 33 65535) rfl rfl (any_of HT_.out (by kernel_rfl)) (fun _ _ _ h => h) (Or.inr ⟨by rfl, rfl⟩) ?_ ?_
   rotate_left
   ·
    simp only [Act.put, List.setIfInBounds_toArray, List.set_cons_zero, List.set_cons_succ, i64_w, i32_w]
    rfl
   refine pure_ (i := 16) (N := some 23) (v := undef) (a' := ?_) (bmask 33 131071) rfl rfl (any_of HT_.out (by kernel_rfl)) (fun _ _ _ h => h) (Or.inr ⟨by rfl, rfl⟩) ?_ ?_
   rotate_left
   ·
    simp only [Act.put, List.setIfInBounds_toArray, List.set_cons_zero, List.set_cons_succ, i64_w, i32_w]
    rfl
   refine pure_ (i := 17) (N := some 24) (v := ?_) (a' := ?_) (bmask 33 262143) rfl rfl (any_of HT_.out (by kernel_rfl)) (fun _ _ _ h => h) (Or.inl ⟨by rfl, ?_⟩) ?_ ?_
   rotate_left
   ·
    intro w'
    go_simp
    with_reducible rfl
   rotate_left
   ·
    simp only [Act.put, List.setIfInBounds_toArray, List.set_cons_zero, List.set_cons_succ, i64_w, i32_w]
    rfl
   refine pure_ (i := 18) (N := some 25) (v := ?_) (a' := ?_) (bmask 33 524287) rfl rfl (any_of HT_.out (by kernel_rfl)) (fun _ _ _ h => h) (Or.inl ⟨by rfl, ?_⟩) ?_ ?_
   rotate_left
   ·
    intro w'
    go_simp
    with_reducible rfl
   rotate_left
   ·
    simp only [Act.put, List.setIfInBounds_toArray, List.set_cons_zero, List.set_cons_succ, i64_w, i32_w]
    rfl
   refine pure_ (i := 19) (N := some 26) (v := undef) (a' := ?_) (bmask 33 1048575) rfl rfl (any_of HT_.out (by kernel_rfl)) (fun _ _ _ h => h) (Or.inr ⟨by rfl, rfl⟩) ?_ ?_
   rotate_left
   ·
    simp only [Act.put, List.setIfInBounds_toArray, List.set_cons_zero, List.set_cons_succ, i64_w, i32_w]
    rfl
   refine pure_ (i := 20) (N := some 27) (v := undef) (a' := ?_) (bmask 33 2097151) rfl rfl (any_of HT_.out (by kernel_rfl)) (fun _ _ _ h => h) (Or.inr ⟨by rfl, rfl⟩) ?_ ?_
   rotate_left
   ·
    simp only [Act.put, List.setIfInBounds_toArray, List.set_cons_zero, List.set_cons_succ, i64_w, i32_w]
    rfl
   refine pure_ (i := 21) (N := some 28) (v := undef) (a' := ?_) (bmask 33 4194303) rfl rfl (any_of HT_.out (by kernel_rfl)) (fun _ _ _ h => h) (Or.inr ⟨by rfl, rfl⟩) ?_ ?_
   rotate_left
   ·
    simp only [Act.put, List.setIfInBounds_toArray, List.set_cons_zero, List.set_cons_succ, i64_w, i32_w]
    rfl
   refine pure_ (i := 22) (N := some 29) (v := ?_) (a' := ?_) (bmask 33 8388607) rfl rfl (any_of HT_.out (by kernel_rfl)) (fun _ _ _ h => h) (Or.inl ⟨by rfl, ?_⟩) ?_ ?_
   rotate_left
   ·
    intro w'
    go_simp
    with_reducible rfl
   rotate_left
   ·
    simp only [Act.put, List.setIfInBounds_toArray, List.set_cons_zero, List.set_cons_succ, i64_w, i32_w]
    rfl
   refine pure_ (i := 23) (N := some 30) (v := ?_) (a' := ?_) (bmask 33 16777215) rfl rfl (any_of HT_.out (by kernel_rfl)) (fun _ _ _ h => h) (Or.inl ⟨by rfl, ?_⟩) ?_ ?_
   rotate_left
   ·
    intro w'
    go_simp
    with_reducible rfl
   rotate_left
   ·
    simp only [Act.put, List.setIfInBounds_toArray, List.set_cons_zero, List.set_cons_succ, i64_w, i32_w]
    rfl
   refine pure_ (i := 24) (N := some 31) (v := undef) (a' := ?_) (bmask 33 33554431) rfl rfl (any_of HT_.out (by kernel_rfl)) (fun _ _ _ h => h) (Or.inr ⟨by rfl, rfl⟩) ?_ ?_
   rotate_left
   ·
    simp only [Act.put, List.setIfInBounds_toArray, List.set_cons_zero, List.set_cons_succ, i64_w, i32_w]
    rfl
   refine pure_ (i := 25) (N := some 32) (v := undef) (a' := ?_) (bmask 33 67108863) rfl rfl (any_of HT_.out (by kernel_rfl)) (fun _ _ _ h => h) (Or.inr ⟨by rfl, rfl⟩) ?_ ?_
   rotate_left
   ·
    simp only [Act.put, List.setIfInBounds_toArray, List.set_cons_zero, List.set_cons_succ, i64_w, i32_w]
    rfl
   refine pure_ (i := 26) (N := some 33) (v := undef) (a' := ?_) (bmask 33 134217727) rfl rfl (any_of HT_.out (by kernel_rfl)) (fun _ _ _ h => h) (Or.inr ⟨by rfl, rfl⟩) ?_ ?_
   rotate_left
   ·
    simp only [Act.put, List.setIfInBounds_toArray, List.set_cons_zero, List.set_cons_succ, i64_w, i32_w]
    rfl
   refine pure_ (i := 27) (N := some 34) (v := undef) (a' := ?_) (bmask 33 268435455) rfl rfl (any_of HT_.out (by kernel_rfl)) (fun _ _ _ h => h) (Or.inr ⟨by rfl, rfl⟩) ?_ ?_
   rotate_left
   ·
    simp only [Act.put, List.setIfInBounds_toArray, List.set_cons_zero, List.set_cons_succ, i64_w, i32_w]
    rfl
   refine pure_ (i := 28) (N := some 35) (v := undef) (a' := ?_) (bmask 33 536870911) rfl rfl (any_of HT_.out (by kernel_rfl)) (fun _ _ _ h => h) (Or.inr ⟨by rfl, rfl⟩) ?_ ?_
   rotate_left
   ·
    simp only [Act.put, List.setIfInBounds_toArray, List.set_cons_zero, List.set_cons_succ, i64_w, i32_w]
    rfl
   refine pure_ (i := 29) (N := some 36) (v := undef) (a' := ?_) (bmask 33 1073741823) rfl rfl (any_of HT_.out (by kernel_rfl)) (fun _ _ _ h => h) (Or.inr ⟨by rfl, rfl⟩) ?_ ?_
   rotate_left
   ·
    simp only [Act.put, List.setIfInBounds_toArray, List.set_cons_zero, List.set_cons_succ, i64_w, i32_w]
    rfl
   refine pure_ (i := 30) (N := some 37) (v := undef) (a' := ?_) (bmask 33 2147483647) rfl rfl (any_of HT_.out (by kernel_rfl)) (fun _ _ _ h => h) (Or.inr ⟨by rfl, rfl⟩) ?_ ?_
   rotate_left
   ·
    simp only [Act.put, List.setIfInBounds_toArray, List.set_cons_zero, List.set_cons_succ, i64_w, i32_w]
    rfl
   refine pure_ (i := 31) (N := some 38) (v := undef) (a' := ?_) (bmask 33 4294967295) rfl rfl (any_of HT_.out (by kernel_rfl)) (fun _ _ _ h => h) (Or.inr ⟨by rfl, rfl⟩) ?_ ?_
   rotate_left
   ·
    simp only [Act.put, List.setIfInBounds_toArray, List.set_cons_zero, List.set_cons_succ, i64_w, i32_w]
    rfl
   refine pure_ (i := 32) (N := some 39) (v := ?_) (a' := ?_) (bmask 33 8589934591) rfl rfl (any_of HT_.out (by kernel_rfl)) (fun _ _ _ h => h) (Or.inl ⟨by rfl, ?_⟩) ?_ ?_
   rotate_left
   ·
    intro w'
    go_simp
    with_reducible rfl
   rotate_left
   ·
    simp only [Act.put, List.setIfInBounds_toArray, List.set_cons_zero, List.set_cons_succ, i64_w, i32_w]
    rfl
   refine done_ (done_of HT_.out (by kernel_rfl)) ?_
   try go_wp2
   go_meet
   case rel => exact ⟨_, (true), (by first | rfl | (simp; done) | (simp [*]; done)), H', ⟨by first | omega | exact Nat.le_refl _⟩, ⟨by (with_reducible repeat (first | refine blk_drewN ?_ _ | refine blk_drew ?_ | refine blk_alloc ?_ _)); exact BK1080.out⟩, ⟨by repeat (first | (with_reducible first | exact HB.out | apply below_alloc | apply pw_below_drewN | apply below_drew1 | refine below_set ?_ GE1080.out) | exact HB.out)⟩⟩
  ·
   rw [if_neg c4] at H
   have c4b0 : decide (a0_0 < 2000) = false := decide_eq_false c4
   clear c4
   (first | rw [c4b0] | (simp only [i64_w, i32_w]; rw [c4b0]) | skip)
   by_cases c6 : a0_0 > 2099
   ·
    rw [if_pos c6] at H
    have c6b0 : decide (2099 < a0_0) = true := decide_eq_true c6
    clear c6
    have H' := Aside0.mk H
    clear H
    try go_wp2
    have n0_ := Aside0.mk (blk_drew BK1080.out)
    have n1_ := Aside0.mk (below_drew1 HB.out)
    clear BK1080
    clear HB
    have BK1080 := n0_
    have HB := n1_
    clear n0_ n1_
    refine start_ (n := 33) (S := fun w' => w'.cell? ⟨gb1080, 0, none⟩ = some (.int .i64 a0_0) ∧ w'.cell? ⟨gb1080, 1, none⟩ = some (.int .i64 a0_1) ∧ w'.cell? ⟨gb1080, 2, none⟩ = some (.int .i64 a0_2)) (ds := []) (bmask 33 0) (by kernel_rfl) rfl (by kernel_rfl) ⟨(blk_cell BK1080.out 0).trans rfl, (blk_cell BK1080.out 1).trans rfl, (blk_cell BK1080.out 2).trans rfl⟩ (fun hHeld => ?_); refine with_tabW customsref04_Number.tab1 customsref04_Number.bits1 (fun HT_ HW_ => ?_)
    generalize w3.drew = w7 at BK1080 HB hHeld ⊢
    refine pure_ (i := 0) (N := some 7) (v := ?_) (a' := ?_) (bmask 33 1) rfl rfl (any_of HT_.out (by kernel_rfl)) (fun _ _ _ h => h) (Or.inl ⟨by rfl, ?_⟩) ?_ ?_
    rotate_left
    ·
     intro w'
     go_simp
     with_reducible rfl
    rotate_left
    ·
     simp only [Act.put, List.setIfInBounds_toArray, List.set_cons_zero, List.set_cons_succ, i64_w, i32_w]
     rfl
    refine take_ (i := 1) (N := some 8) (v := ?_) (a' := ?_) (bmask 33 3) rfl rfl (take_ofW HT_.out HW_.out (by kernel_rfl)) (fun _ _ _ h => h) (Or.inl ⟨by rfl, ?_⟩) hHeld ?_ ?_
    rotate_left
    ·
     rintro w' ⟨s0, s1, s2⟩
     go_simp
     with_reducible rfl
    rotate_left
    ·
     simp only [Act.put, List.setIfInBounds_toArray, List.set_cons_zero, List.set_cons_succ, i64_w, i32_w]
     rfl
    refine pure_ (i := 2) (N := some 9) (v := ?_) (a' := ?_) (bmask 33 7) rfl rfl (any_of HT_.out (by kernel_rfl)) (fun _ _ _ h => h) (Or.inl ⟨by rfl, ?_⟩) ?_ ?_
    rotate_left
    ·
     intro w'
     go_simp
     with_reducible rfl
    rotate_left
    ·
     simp only [Act.put, List.setIfInBounds_toArray, List.set_cons_zero, List.set_cons_succ, i64_w, i32_w]
     rfl
    refine pure_ (i := 3) (N := some 10) (v := ?_) (a' := ?_) (bmask 33 15) rfl rfl (any_of HT_.out (by kernel_rfl)) (fun _ _ _ h => h) (Or.inl ⟨by rfl, ?_⟩) ?_ ?_
    rotate_left
    ·
     intro w'
     go_simp
     with_reducible rfl
    rotate_left
    ·
     simp only [Act.put, List.setIfInBounds_toArray, List.set_cons_zero, List.set_cons_succ, i64_w, i32_w]
     rfl
    refine pure_ (i := 4) (N := some 11) (v := ?_) (a' := ?_) (bmask 33 31) rfl rfl (any_of HT_.out (by kernel_rfl)) (fun _ _ _ h => h) (Or.inl ⟨by rfl, ?_⟩) ?_ ?_
    rotate_left
    ·
     intro w'
     go_simp
     with_reducible rfl
    rotate_left
    ·
     simp only [Act.put, List.setIfInBounds_toArray, List.set_cons_zero, List.set_cons_succ, i64_w, i32_w]
     rfl
    refine take_ (i := 5) (N := some 12) (v := ?_) (a' := ?_) (bmask 33 63) rfl rfl (take_ofW HT_.out HW_.out (by kernel_rfl)) (fun _ _ _ h => h) (Or.inl ⟨by rfl, ?_⟩) hHeld ?_ ?_
    rotate_left
    ·
     rintro w' ⟨s0, s1, s2⟩
     go_simp
     with_reducible rfl
    rotate_left
    ·
     simp only [Act.put, List.setIfInBounds_toArray, List.set_cons_zero, List.set_cons_succ, i64_w, i32_w]
     rfl
    refine pure_ (i := 6) (N := some 13) (v := ?_) (a' := ?_) (bmask 33 127) rfl rfl (any_of HT_.out (by kernel_rfl)) (fun _ _ _ h => h) (Or.inl ⟨by rfl, ?_⟩) ?_ ?_
    rotate_left
    ·
     intro w'
     go_simp
     with_reducible rfl
    rotate_left
    ·
     simp only [Act.put, List.setIfInBounds_toArray, List.set_cons_zero, List.set_cons_succ, i64_w, i32_w]
     rfl
    refine pure_ (i := 7) (N := some 14) (v := ?_) (a' := ?_) (bmask 33 255) rfl rfl (any_of HT_.out (by kernel_rfl)) (fun _ _ _ h => h) (Or.inl ⟨by rfl, ?_⟩) ?_ ?_
    rotate_left
    ·
     intro w'
     go_simp
     with_reducible rfl
    rotate_left
    ·
     simp only [Act.put, List.setIfInBounds_toArray, List.set_cons_zero, List.set_cons_succ, i64_w, i32_w]
     rfl
    refine pure_ (i := 8) (N := some 15) (v := ?_) (a' := ?_) (bmask 33 511) rfl rfl (any_of HT_.out (by kernel_rfl)) (fun _ _ _ h => h) (Or.inl ⟨by rfl, ?_⟩) ?_ ?_
    rotate_left
    ·
     intro w'
     go_simp
     with_reducible rfl
    rotate_left
    ·
     simp only [Act.put, List.setIfInBounds_toArray, List.set_cons_zero, List.set_cons_succ, i64_w, i32_w]
     rfl
    refine pure_ (i := 9) (N := some 16) (v := undef) (a' := ?_) (bmask 33 1023) rfl rfl (any_of HT_.out (by kernel_rfl)) (fun _ _ _ h => h) (Or.inr ⟨by rfl, rfl⟩) ?_ ?_
    rotate_left
    ·
     simp only [Act.put, List.setIfInBounds_toArray, List.set_cons_zero, List.set_cons_succ, i64_w, i32_w]
     rfl
    refine pure_ (i := 10) (N := some 17) (v := undef) (a' := ?_) (bmask 33 2047) rfl rfl (any_of HT_.out (by kernel_rfl)) (fun _ _ _ h => h) (Or.inr ⟨by rfl, rfl⟩) ?_ ?_
    rotate_left
    ·
     simp only [Act.put, List.setIfInBounds_toArray, List.set_cons_zero, List.set_cons_succ, i64_w, i32_w]
     rfl
    refine pure_ (i := 11) (N := some 18) (v := undef) (a' := ?_) (bmask 33 4095) rfl rfl (any_of HT_.out (by kernel_rfl)) (fun _ _ _ h => h) (Or.inr ⟨by rfl, rfl⟩) ?_ ?_
    rotate_left
    ·
     simp only [Act.put, List.setIfInBounds_toArray, List.set_cons_zero, List.set_cons_succ, i64_w, i32_w]
     rfl
    refine pure_ (i := 12) (N := some 19) (v := ?_) (a' := ?_) (bmask 33 8191) rfl rfl (any_of HT_.out (by kernel_rfl)) (fun _ _ _ h => h) (Or.inl ⟨by rfl, ?_⟩) ?_ ?_
    rotate_left
    ·
     intro w'
     go_simp
     with_reducible rfl
    rotate_left
    ·
     simp only [Act.put, List.setIfInBounds_toArray, List.set_cons_zero, List.set_cons_succ, i64_w, i32_w]
     rfl
    refine pure_ (i := 13) (N := some 20) (v := ?_) (a' := ?_) (bmask 33 16383) rfl rfl (any_of HT_.out (by kernel_rfl)) (fun _ _ _ h => h) (Or.inl ⟨by rfl, ?_⟩) ?_ ?_
    rotate_left
    ·
     intro w'
     go_simp
     with_reducible rfl
    rotate_left
    ·
     simp only [Act.put, List.setIfInBounds_toArray, List.set_cons_zero, List.set_cons_succ, i64_w, i32_w]
     rfl
    refine pure_ (i := 14) (N := some 21) (v := undef) (a' := ?_) (bmask 33 32767) rfl rfl (any_of HT_.out (by kernel_rfl)) (fun _ _ _ h => h) (Or.inr ⟨by rfl, rfl⟩) ?_ ?_
    rotate_left
    ·
     simp only [Act.put, List.setIfInBounds_toArray, List.set_cons_zero, List.set_cons_succ, i64_w, i32_w]
     rfl
    refine pure_ (i := 15) (N := some 22) (v := undef) (a' := ?_) (bmask 33 65535) rfl rfl (any_of HT_.out (by kernel_rfl)) (fun _ _ _ h => h) (Or.inr ⟨by rfl, rfl⟩) ?_ ?_
    rotate_left
    ·
     simp only [Act.put, List.setIfInBounds_toArray, List.set_cons_zero, List.set_cons_succ, i64_w, i32_w]
     rfl
    refine pure_ (i := 16) (N := some 23) (v := undef) (a' := ?_) (bmask 33 131071) rfl rfl (any_of HT_.out (by kernel_rfl)) (fun _ _ _ h => h) (Or.inr ⟨by rfl, rfl⟩) ?_ ?_
    rotate_left
    ·
     simp only [Act.put, List.setIfInBounds_toArray, List.set_cons_zero, List.set_cons_succ, i64_w, i32_w]
     rfl
    refine pure_ (i := 17) (N := some 24) (v := ?_) (a' := ?_) (bmask 33 262143) rfl rfl (any_of HT_.out (by kernel_rfl)) (fun _ _ _ h => h) (Or.inl ⟨by rfl, ?_⟩) ?_ ?_
    rotate_left
    ·
     intro w'
     go_simp
     with_reducible rfl
    rotate_left
    ·
     simp only [Act.put, List.setIfInBounds_toArray, List.set_cons_zero, List.set_cons_succ, i64_w, i32_w]
     rfl
    refine pure_ (i := 18) (N := some 25) (v := ?_) (a' := ?_) (bmask 33 524287) rfl rfl (any_of HT_.out (by kernel_rfl)) (fun _ _ _ h => h) (Or.inl ⟨by rfl, ?_⟩) ?_ ?_
    rotate_left
    ·
     intro w'
     go_simp
     with_reducible rfl
    rotate_left
    ·
     simp only [Act.put, List.setIfInBounds_toArray, List.set_cons_zero, List.set_cons_succ, i64_w, i32_w]
     rfl
    refine pure_ (i := 19) (N := some 26) (v := undef) (a' := ?_) (bmask 33 1048575) rfl rfl (any_of HT_.out (by kernel_rfl)) (fun _ _ _ h => h) (Or.inr ⟨by rfl, rfl⟩) ?_ ?_
    rotate_left
    ·
     simp only [Act.put, List.setIfInBounds_toArray, List.set_cons_zero, List.set_cons_succ, i64_w, i32_w]
     rfl
    refine pure_ (i := 20) (N := some 27) (v := undef) (a' := ?_) (bmask 33 2097151) rfl rfl (any_of HT_.out (by kernel_rfl)) (fun _ _ _ h => h) (Or.inr ⟨by rfl, rfl⟩) ?_ ?_
    rotate_left
    ·
     simp only [Act.put, List.setIfInBounds_toArray, List.set_cons_zero, List.set_cons_succ, i64_w, i32_w]
     rfl
    refine pure_ (i := 21) (N := some 28) (v := undef) (a' := ?_) (bmask 33 4194303) rfl rfl (any_of HT_.out (by kernel_rfl)) (fun _ _ _ h => h) (Or.inr ⟨by rfl, rfl⟩) ?_ ?_
    rotate_left
    ·
     simp only [Act.put, List.setIfInBounds_toArray, List.set_cons_zero, List.set_cons_succ, i64_w, i32_w]
     rfl
    refine pure_ (i := 22) (N := some 29) (v := ?_) (a' := ?_) (bmask 33 8388607) rfl rfl (any_of HT_.out (by kernel_rfl)) (fun _ _ _ h => h) (Or.inl ⟨by rfl, ?_⟩) ?_ ?_
    rotate_left
    ·
     intro w'
     go_simp
     with_reducible rfl
    rotate_left
    ·
     simp only [Act.put, List.setIfInBounds_toArray, List.set_cons_zero, List.set_cons_succ, i64_w, i32_w]
     rfl
    refine pure_ (i := 23) (N := some 30) (v := ?_) (a' := ?_) (bmask 33 16777215) rfl rfl (any_of HT_.out (by kernel_rfl)) (fun _ _ _ h => h) (Or.inl ⟨by rfl, ?_⟩) ?_ ?_
    rotate_left
    ·
     intro w'
     go_simp
     with_reducible rfl
    rotate_left
    ·
     simp only [Act.put, List.setIfInBounds_toArray, List.set_cons_zero, List.set_cons_succ, i64_w, i32_w]
     rfl
    refine pure_ (i := 24) (N := some 31) (v := undef) (a' := ?_) (bmask 33 33554431) rfl rfl (any_of HT_.out (by kernel_rfl)) (fun _ _ _ h => h) (Or.inr ⟨by rfl, rfl⟩) ?_ ?_
    rotate_left
    ·
     simp only [Act.put, List.setIfInBounds_toArray, List.set_cons_zero, List.set_cons_succ, i64_w, i32_w]
     rfl
    refine pure_ (i := 25) (N := some 32) (v := undef) (a' := ?_) (bmask 33 67108863) rfl rfl (any_of HT_.out (by kernel_rfl)) (fun _ _ _ h => h) (Or.inr ⟨by rfl, rfl⟩) ?_ ?_
    rotate_left
    ·
     simp only [Act.put, List.setIfInBounds_toArray, List.set_cons_zero, List.set_cons_succ, i64_w, i32_w]
     rfl
    refine pure_ (i := 26) (N := some 33) (v := undef) (a' := ?_) (bmask 33 134217727) rfl rfl (any_of HT_.out (by kernel_rfl)) (fun _ _ _ h => h) (Or.inr ⟨by rfl, rfl⟩) ?_ ?_
    rotate_left
    ·
     simp only [Act.put, List.setIfInBounds_toArray, List.set_cons_zero, List.set_cons_succ, i64_w, i32_w]
     rfl
    refine pure_ (i := 27) (N := some 34) (v := undef) (a' := ?_) (bmask 33 268435455) rfl rfl (any_of HT_.out (by kernel_rfl)) (fun _ _ _ h => h) (Or.inr ⟨by rfl, rfl⟩) ?_ ?_
    rotate_left
    ·
     simp only [Act.put, List.setIfInBounds_toArray, List.set_cons_zero, List.set_cons_succ, i64_w, i32_w]
     rfl
    refine pure_ (i := 28) (N := some 35) (v := undef) (a' := ?_) (bmask 33 536870911) rfl rfl (any_of HT_.out (by kernel_rfl)) (fun _ _ _ h => h) (Or.inr ⟨by rfl, rfl⟩) ?_ ?_
    rotate_left
    ·
     simp only [Act.put, List.setIfInBounds_toArray, List.set_cons_zero, List.set_cons_succ, i64_w, i32_w]
     rfl
    refine pure_ (i := 29) (N := some 36) (v := undef) (a' := ?_) (bmask 33 1073741823) rfl rfl (any_of HT_.out (by kernel_rfl)) (fun _ _ _ h => h) (Or.inr ⟨by rfl, rfl⟩) ?_ ?_
    rotate_left
    ·
     simp only [Act.put, List.setIfInBounds_toArray, List.set_cons_zero, List.set_cons_succ, i64_w, i32_w]
     rfl
    refine pure_ (i := 30) (N := some 37) (v := undef) (a' := ?_) (bmask 33 2147483647) rfl rfl (any_of HT_.out (by kernel_rfl)) (fun _ _ _ h => h) (Or.inr ⟨by rfl, rfl⟩) ?_ ?_
    rotate_left
    ·
     simp only [Act.put, List.setIfInBounds_toArray, List.set_cons_zero, List.set_cons_succ, i64_w, i32_w]
     rfl
    refine pure_ (i := 31) (N := some 38) (v := undef) (a' := ?_) (bmask 33 4294967295) rfl rfl (any_of HT_.out (by kernel_rfl)) (fun _ _ _ h => h) (Or.inr ⟨by rfl, rfl⟩) ?_ ?_
    rotate_left
    ·
     simp only [Act.put, List.setIfInBounds_toArray, List.set_cons_zero, List.set_cons_succ, i64_w, i32_w]
     rfl
    refine pure_ (i := 32) (N := some 39) (v := ?_) (a' := ?_) (bmask 33 8589934591) rfl rfl (any_of HT_.out (by kernel_rfl)) (fun _ _ _ h => h) (Or.inl ⟨by rfl, ?_⟩) ?_ ?_
    rotate_left
    ·
     intro w'
     go_simp
     with_reducible rfl
    rotate_left
    ·
     simp only [Act.put, List.setIfInBounds_toArray, List.set_cons_zero, List.set_cons_succ, i64_w, i32_w]
     rfl
    refine done_ (done_of HT_.out (by kernel_rfl)) ?_
    try go_wp2
    go_meet
    case rel => exact ⟨_, (true), (by first | rfl | (simp; done) | (simp [*]; done)), H', ⟨by first | omega | exact Nat.le_refl _⟩, ⟨by (with_reducible repeat (first | refine blk_drewN ?_ _ | refine blk_drew ?_ | refine blk_alloc ?_ _)); exact BK1080.out⟩, ⟨by repeat (first | (with_reducible first | exact HB.out | apply below_alloc | apply pw_below_drewN | apply below_drew1 | refine below_set ?_ GE1080.out) | exact HB.out)⟩⟩
   ·
    rw [if_neg c6] at H
    have c6b0 : decide (2099 < a0_0) = false := decide_eq_false c6
    clear c6
    by_cases c8 : a0_1 < 1
    ·
     rw [if_pos c8] at H
     have c8b0 : decide (a0_1 < 1) = true := decide_eq_true c8
     clear c8
     have H' := Aside0.mk H
     clear H
     try go_wp2
     have n0_ := Aside0.mk (blk_drew BK1080.out)
     have n1_ := Aside0.mk (below_drew1 HB.out)
     clear BK1080
     clear HB
     have BK1080 := n0_
     have HB := n1_
     clear n0_ n1_
     refine start_ (n := 33) (S := fun w' => w'.cell? ⟨gb1080, 0, none⟩ = some (.int .i64 a0_0) ∧ w'.cell? ⟨gb1080, 1, none⟩ = some (.int .i64 a0_1) ∧ w'.cell? ⟨gb1080, 2, none⟩ = some (.int .i64 a0_2)) (ds := []) (bmask 33 0) (by kernel_rfl) rfl (by kernel_rfl) ⟨(blk_cell BK1080.out 0).trans rfl, (blk_cell BK1080.out 1).trans rfl, (blk_cell BK1080.out 2).trans rfl⟩ (fun hHeld => ?_); refine with_tabW customsref04_Number.tab1 customsref04_Number.bits1 (fun HT_ HW_ => ?_)
     generalize w3.drew = w9 at BK1080 HB hHeld ⊢
     refine pure_ (i := 0) (N := some 7) (v := ?_) (a' := ?_) (bmask 33 1) rfl rfl (any_of HT_.out (by kernel_rfl)) (fun _ _ _ h => h) (Or.inl ⟨by rfl, ?_⟩) ?_ ?_
     rotate_left
     ·
      intro w'
      go_simp
      with_reducible rfl
     rotate_left
     ·
      simp only [Act.put, List.setIfInBounds_toArray, List.set_cons_zero, List.set_cons_succ, i64_w, i32_w]
      rfl
     refine take_ (i := 1) (N := some 8) (v := ?_) (a' := ?_) (bmask 33 3) rfl rfl (take_ofW HT_.out HW_.out (by kernel_rfl)) (fun _ _ _ h => h) (Or.inl ⟨by rfl, ?_⟩) hHeld ?_ ?_
     rotate_left
     ·
      rintro w' ⟨s0, s1, s2⟩
      go_simp
      with_reducible rfl
     rotate_left
     ·
      simp only [Act.put, List.setIfInBounds_toArray, List.set_cons_zero, List.set_cons_succ, i64_w, i32_w]
      rfl
     refine pure_ (i := 2) (N := some 9) (v := ?_) (a' := ?_) (bmask 33 7) rfl rfl (any_of HT_.out (by kernel_rfl)) (fun _ _ _ h => h) (Or.inl ⟨by rfl, ?_⟩) ?_ ?_
     rotate_left
     ·
      intro w'
      go_simp
      with_reducible rfl
     rotate_left
     ·
      simp only [Act.put, List.setIfInBounds_toArray, List.set_cons_zero, List.set_cons_succ, i64_w, i32_w]
      rfl
     refine pure_ (i := 3) (N := some 10) (v := ?_) (a' := ?_) (bmask 33 15) rfl rfl (any_of HT_.out (by kernel_rfl)) (fun _ _ _ h => h) (Or.inl ⟨by rfl, ?_⟩) ?_ ?_
     rotate_left
     ·
      intro w'
      go_simp
      with_reducible rfl
     rotate_left
     ·
      simp only [Act.put, List.setIfInBounds_toArray, List.set_cons_zero, List.set_cons_succ, i64_w, i32_w]
      rfl
     refine pure_ (i := 4) (N := some 11) (v := ?_) (a' := ?_) (bmask 33 31) rfl rfl (any_of HT_.out (by kernel_rfl)) (fun _ _ _ h => h) (Or.inl ⟨by rfl, ?_⟩) ?_ ?_
     rotate_left
     ·
      intro w'
      go_simp
      with_reducible rfl
     rotate_left
     ·
      simp only [Act.put, List.setIfInBounds_toArray, List.set_cons_zero, List.set_cons_succ, i64_w, i32_w]
      rfl
     refine take_ (i := 5) (N := some 12) (v := ?_) (a' := ?_) (bmask 33 63) rfl rfl (take_ofW HT_.out HW_.out (by kernel_rfl)) (fun _ _ _ h => h) (Or.inl ⟨by rfl, ?_⟩) hHeld ?_ ?_
     rotate_left
     ·
      rintro w' ⟨s0, s1, s2⟩
      go_simp
      with_reducible rfl
     rotate_left
     ·
      simp only [Act.put, List.setIfInBounds_toArray, List.set_cons_zero, List.set_cons_succ, i64_w, i32_w]
      rfl
     refine pure_ (i := 6) (N := some 13) (v := ?_) (a' := ?_) (bmask 33 127) rfl rfl (any_of HT_.out (by kernel_rfl)) (fun _ _ _ h => h) (Or.inl ⟨by rfl, ?_⟩) ?_ ?_
     rotate_left
     ·
      intro w'
      go_simp
      with_reducible rfl
     rotate_left
     ·
      simp only [Act.put, List.setIfInBounds_toArray, List.set_cons_zero, List.set_cons_succ, i64_w, i32_w]
      rfl
     refine pure_ (i := 7) (N := some 14) (v := ?_) (a' := ?_) (bmask 33 255) rfl rfl (any_of HT_.out (by kernel_rfl)) (fun _ _ _ h => h) (Or.inl ⟨by rfl, ?_⟩) ?_ ?_
     rotate_left
     ·
      intro w'
      go_simp
      with_reducible rfl
     rotate_left
     ·
      simp only [Act.put, List.setIfInBounds_toArray, List.set_cons_zero, List.set_cons_succ, i64_w, i32_w]
      rfl
     refine pure_ (i := 8) (N := some 15) (v := ?_) (a' := ?_) (bmask 33 511) rfl rfl (any_of HT_.out (by kernel_rfl)) (fun _ _ _ h => h) (Or.inl ⟨by rfl, ?_⟩) ?_ ?_
     rotate_left
     ·
      intro w'
      go_simp
      with_reducible rfl
     rotate_left
     ·
      simp only [Act.put, List.setIfInBounds_toArray, List.set_cons_zero, List.set_cons_succ, i64_w, i32_w]
      rfl
     refine pure_ (i := 9) (N := some 16) (v := ?_) (a' := ?_) (bmask 33 1023) rfl rfl (any_of HT_.out (by kernel_rfl)) (fun _ _ _ h => h) (Or.inl ⟨by rfl, ?_⟩) ?_ ?_
     rotate_left
     ·
      intro w'
      go_simp
      with_reducible rfl
     rotate_left
     ·
      simp only [Act.put, List.setIfInBounds_toArray, List.set_cons_zero, List.set_cons_succ, i64_w, i32_w]
      rfl
     refine take_ (i := 10) (N := some 17) (v := ?_) (a' := ?_) (bmask 33 2047) rfl rfl (take_ofW HT_.out HW_.out (by kernel_rfl)) (fun _ _ _ h => h) (Or.inl ⟨by rfl, ?_⟩) hHeld ?_ ?_
     rotate_left
     ·
      rintro w' ⟨s0, s1, s2⟩
      go_simp
      with_reducible rfl
     rotate_left
     ·
      simp only [Act.put, List.setIfInBounds_toArray, List.set_cons_zero, List.set_cons_succ, i64_w, i32_w]
      rfl
     refine pure_ (i := 11) (N := some 18) (v := ?_) (a' := ?_) (bmask 33 4095) rfl rfl (any_of HT_.out (by kernel_rfl)) (fun _ _ _ h => h) (Or.inl ⟨by rfl, ?_⟩) ?_ ?_
     rotate_left
     ·
      intro w'
      go_simp
      with_reducible rfl
     rotate_left
     ·
      simp only [Act.put, List.setIfInBounds_toArray, List.set_cons_zero, List.set_cons_succ, i64_w, i32_w]
      rfl
     refine pure_ (i := 12) (N := some 19) (v := ?_) (a' := ?_) (bmask 33 8191) rfl rfl (any_of HT_.out (by kernel_rfl)) (fun _ _ _ h => h) (Or.inl ⟨by rfl, ?_⟩) ?_ ?_
     rotate_left
     ·
      intro w'
      go_simp
      with_reducible rfl
     rotate_left
     ·
      simp only [Act.put, List.setIfInBounds_toArray, List.set_cons_zero, List.set_cons_succ, i64_w, i32_w]
      rfl
     refine pure_ (i := 13) (N := some 20) (v := ?_) (a' := ?_) (bmask 33 16383) rfl rfl (any_of HT_.out (by kernel_rfl)) (fun _ _ _ h => h) (Or.inl ⟨by rfl, ?_⟩) ?_ ?_
     rotate_left
     ·
      intro w'
      go_simp
      with_reducible rfl
     rotate_left
     ·
      simp only [Act.put, List.setIfInBounds_toArray, List.set_cons_zero, List.set_cons_succ, i64_w, i32_w]
      rfl
     refine pure_ (i := 14) (N := some 21) (v := undef) (a' := ?_) (bmask 33 32767) rfl rfl (any_of HT_.out (by kernel_rfl)) (fun _ _ _ h => h) (Or.inr ⟨by rfl, rfl⟩) ?_ ?_
     rotate_left
     ·
      simp only [Act.put, List.setIfInBounds_toArray, List.set_cons_zero, List.set_cons_succ, i64_w, i32_w]
      rfl
     refine pure_ (i := 15) (N := some 22) (v := undef) (a' := ?_) (bmask 33 65535) rfl rfl (any_of HT_.out (by kernel_rfl)) (fun _ _ _ h => h) (Or.inr ⟨by rfl, rfl⟩) ?_ ?_
     rotate_left
     ·
      simp only [Act.put, List.setIfInBounds_toArray, List.set_cons_zero, List.set_cons_succ, i64_w, i32_w]
      rfl
     refine pure_ (i := 16) (N := some 23) (v := undef) (a' := ?_) (bmask 33 131071) rfl rfl (any_of HT_.out (by kernel_rfl)) (fun _ _ _ h => h) (Or.inr ⟨by rfl, rfl⟩) ?_ ?_
     rotate_left
     ·
      simp only [Act.put, List.setIfInBounds_toArray, List.set_cons_zero, List.set_cons_succ, i64_w, i32_w]
      rfl
     refine pure_ (i := 17) (N := some 24) (v := ?_) (a' := ?_) (bmask 33 262143) rfl rfl (any_of HT_.out (by kernel_rfl)) (fun _ _ _ h => h) (Or.inl ⟨by rfl, ?_⟩) ?_ ?_
     rotate_left
     ·
      intro w'
      go_simp
      with_reducible rfl
     rotate_left
     ·
      simp only [Act.put, List.setIfInBounds_toArray, List.set_cons_zero, List.set_cons_succ, i64_w, i32_w]
      rfl
     refine pure_ (i := 18) (N := some 25) (v := ?_) (a' := ?_) (bmask 33 524287) rfl rfl (any_of HT_.out (by kernel_rfl)) (fun _ _ _ h => h) (Or.inl ⟨by rfl, ?_⟩) ?_ ?_
     rotate_left
     ·
      intro w'
      go_simp
      with_reducible rfl
     rotate_left
     ·
      simp only [Act.put, List.setIfInBounds_toArray, List.set_cons_zero, List.set_cons_succ, i64_w, i32_w]
      rfl
     refine pure_ (i := 19) (N := some 26) (v := undef) (a' := ?_) (bmask 33 1048575) rfl rfl (any_of HT_.out (by kernel_rfl)) (fun _ _ _ h => h) (Or.inr ⟨by rfl, rfl⟩) ?_ ?_
     rotate_left
     ·
      simp only [Act.put, List.setIfInBounds_toArray, List.set_cons_zero, List.set_cons_succ, i64_w, i32_w]
      rfl
     refine pure_ (i := 20) (N := some 27) (v := undef) (a' := ?_) (bmask 33 2097151) rfl rfl (any_of HT_.out (by kernel_rfl)) (fun _ _ _ h => h) (Or.inr ⟨by rfl, rfl⟩) ?_ ?_
     rotate_left
     ·
      simp only [Act.put, List.setIfInBounds_toArray, List.set_cons_zero, List.set_cons_succ, i64_w, i32_w]
      rfl
     refine pure_ (i := 21) (N := some 28) (v := undef) (a' := ?_) (bmask 33 4194303) rfl rfl (any_of HT_.out (by kernel_rfl)) (fun _ _ _ h => h) (Or.inr ⟨by rfl, rfl⟩) ?_ ?_
     rotate_left
     ·
      simp only [Act.put, List.setIfInBounds_toArray, List.set_cons_zero, List.set_cons_succ, i64_w, i32_w]
      rfl
     refine pure_ (i := 22) (N := some 29) (v := ?_) (a' := ?_) (bmask 33 8388607) rfl rfl (any_of HT_.out (by kernel_rfl)) (fun _ _ _ h => h) (Or.inl ⟨by rfl, ?_⟩) ?_ ?_
     rotate_left
     ·
      intro w'
      go_simp
      with_reducible rfl
     rotate_left
     ·
      simp only [Act.put, List.setIfInBounds_toArray, List.set_cons_zero, List.set_cons_succ, i64_w, i32_w]
      rfl
     refine pure_ (i := 23) (N := some 30) (v := ?_) (a' := ?_) (bmask 33 16777215) rfl rfl (any_of HT_.out (by kernel_rfl)) (fun _ _ _ h => h) (Or.inl ⟨by rfl, ?_⟩) ?_ ?_
     rotate_left
     ·
      intro w'
      go_simp
      with_reducible rfl
     rotate_left
     ·
      simp only [Act.put, List.setIfInBounds_toArray, List.set_cons_zero, List.set_cons_succ, i64_w, i32_w]
      rfl
     refine pure_ (i := 24) (N := some 31) (v := undef) (a' := ?_) (bmask 33 33554431) rfl rfl (any_of HT_.out (by kernel_rfl)) (fun _ _ _ h => h) (Or.inr ⟨by rfl, rfl⟩) ?_ ?_
     rotate_left
     ·
      simp only [Act.put, List.setIfInBounds_toArray, List.set_cons_zero, List.set_cons_succ, i64_w, i32_w]
      rfl
     refine pure_ (i := 25) (N := some 32) (v := undef) (a' := ?_) (bmask 33 67108863) rfl rfl (any_of HT_.out (by kernel_rfl)) (fun _ _ _ h => h) (Or.inr ⟨by rfl, rfl⟩) ?_ ?_
     rotate_left
     ·
      simp only [Act.put, List.setIfInBounds_toArray, List.set_cons_zero, List.set_cons_succ, i64_w, i32_w]
      rfl
     refine pure_ (i := 26) (N := some 33) (v := undef) (a' := ?_) (bmask 33 134217727) rfl rfl (any_of HT_.out (by kernel_rfl)) (fun _ _ _ h => h) (Or.inr ⟨by rfl, rfl⟩) ?_ ?_
     rotate_left
     ·
      simp only [Act.put, List.setIfInBounds_toArray, List.set_cons_zero, List.set_cons_succ, i64_w, i32_w]
      rfl
     refine pure_ (i := 27) (N := some 34) (v := undef) (a' := ?_) (bmask 33 268435455) rfl rfl (any_of HT_.out (by kernel_rfl)) (fun _ _ _ h => h) (Or.inr ⟨by rfl, rfl⟩) ?_ ?_
     rotate_left
     ·
      simp only [Act.put, List.setIfInBounds_toArray, List.set_cons_zero, List.set_cons_succ, i64_w, i32_w]
      rfl
     refine pure_ (i := 28) (N := some 35) (v := undef) (a' := ?_) (bmask 33 536870911) rfl rfl (any_of HT_.out (by kernel_rfl)) (fun _ _ _ h => h) (Or.inr ⟨by rfl, rfl⟩) ?_ ?_
     rotate_left
     ·
      simp only [Act.put, List.setIfInBounds_toArray, List.set_cons_zero, List.set_cons_succ, i64_w, i32_w]
      rfl
     refine pure_ (i := 29) (N := some 36) (v := undef) (a' := ?_) (bmask 33 1073741823) rfl rfl (any_of HT_.out (by kernel_rfl)) (fun _ _ _ h => h) (Or.inr ⟨by rfl, rfl⟩) ?_ ?_
     rotate_left
     ·
      simp only [Act.put, List.setIfInBounds_toArray, List.set_cons_zero, List.set_cons_succ, i64_w, i32_w]
      rfl
     refine pure_ (i := 30) (N := some 37) (v := undef) (a' := ?_) (bmask 33 2147483647) rfl rfl (any_of HT_.out (by kernel_rfl)) (fun _ _ _ h => h) (Or.inr ⟨by rfl, rfl⟩) ?_ ?_
     rotate_left
     ·
      simp only [Act.put, List.setIfInBounds_toArray, List.set_cons_zero, List.set_cons_succ, i64_w, i32_w]
      rfl
     refine pure_ (i := 31) (N := some 38) (v := undef) (a' := ?_) (bmask 33 4294967295) rfl rfl (any_of HT_.out (by kernel_rfl)) (fun _ _ _ h => h) (Or.inr ⟨by rfl, rfl⟩) ?_ ?_
     rotate_left
     ·
      simp only [Act.put, List.setIfInBounds_toArray, List.set_cons_zero, List.set_cons_succ, i64_w, i32_w]
      rfl
     refine pure_ (i := 32) (N := some 39) (v := ?_) (a' := ?_) (bmask 33 8589934591) rfl rfl (any_of HT_.out (by kernel_rfl)) (fun _ _ _ h => h) (Or.inl ⟨by rfl, ?_⟩) ?_ ?_
     rotate_left
     ·
      intro w'
      go_simp
      with_reducible rfl
     rotate_left
     ·
      simp only [Act.put, List.setIfInBounds_toArray, List.set_cons_zero, List.set_cons_succ, i64_w, i32_w]
      rfl
     refine done_ (done_of HT_.out (by kernel_rfl)) ?_
     try go_wp2
     go_meet
     case rel => exact ⟨_, (true), (by first | rfl | (simp; done) | (simp [*]; done)), H', ⟨by first | omega | exact Nat.le_refl _⟩, ⟨by (with_reducible repeat (first | refine blk_drewN ?_ _ | refine blk_drew ?_ | refine blk_alloc ?_ _)); exact BK1080.out⟩, ⟨by repeat (first | (with_reducible first | exact HB.out | apply below_alloc | apply pw_below_drewN | apply below_drew1 | refine below_set ?_ GE1080.out) | exact HB.out)⟩⟩
    ·
     rw [if_neg c8] at H
     have c8b0 : decide (a0_1 < 1) = false := decide_eq_false c8
     clear c8
     by_cases c10 : a0_1 > 12
     ·
      rw [if_pos c10] at H
      have c10b0 : decide (12 < a0_1) = true := decide_eq_true c10
      clear c10
      have H' := Aside0.mk H
      clear H
      try go_wp2
      have n0_ := Aside0.mk (blk_drew BK1080.out)
      have n1_ := Aside0.mk (below_drew1 HB.out)
      clear BK1080
      clear HB
      have BK1080 := n0_
      have HB := n1_
      clear n0_ n1_
      refine start_ (n := 33) (S := fun w' => w'.cell? ⟨gb1080, 0, none⟩ = some (.int .i64 a0_0) ∧ w'.cell? ⟨gb1080, 1, none⟩ = some (.int .i64 a0_1) ∧ w'.cell? ⟨gb1080, 2, none⟩ = some (.int .i64 a0_2)) (ds := []) (bmask 33 0) (by kernel_rfl) rfl (by kernel_rfl) ⟨(blk_cell BK1080.out 0).trans rfl, (blk_cell BK1080.out 1).trans rfl, (blk_cell BK1080.out 2).trans rfl⟩ (fun hHeld => ?_); refine with_tabW customsref04_Number.tab1 customsref04_Number.bits1 (fun HT_ HW_ => ?_)
      generalize w3.drew = w11 at BK1080 HB hHeld ⊢
      refine pure_ (i := 0) (N := some 7) (v := ?_) (a' := ?_) (bmask 33 1) rfl rfl (any_of HT_.out (by kernel_rfl)) (fun _ _ _ h => h) (Or.inl ⟨by rfl, ?_⟩) ?_ ?_
      rotate_left
      ·
       intro w'
       go_simp
       with_reducible rfl
      rotate_left
      ·
       simp only [Act.put, List.setIfInBounds_toArray, List.set_cons_zero, List.set_cons_succ, i64_w, i32_w]
       rfl
      refine take_ (i := 1) (N := some 8) (v := ?_) (a' := ?_) (bmask 33 3) rfl rfl (take_ofW HT_.out HW_.out (by kernel_rfl)) (fun _ _ _ h => h) (Or.inl ⟨by rfl, ?_⟩) hHeld ?_ ?_
      rotate_left
      ·
       rintro w' ⟨s0, s1, s2⟩
       go_simp
       with_reducible rfl
      rotate_left
      ·
       simp only [Act.put, List.setIfInBounds_toArray, List.set_cons_zero, List.set_cons_succ, i64_w, i32_w]
       rfl
      refine pure_ (i := 2) (N := some 9) (v := ?_) (a' := ?_) (bmask 33 7) rfl rfl (any_of HT_.out (by kernel_rfl)) (fun _ _ _ h => h) (Or.inl ⟨by rfl, ?_⟩) ?_ ?_
      rotate_left
      ·
       intro w'
       go_simp
       with_reducible rfl
      rotate_left
      ·
       simp only [Act.put, List.setIfInBounds_toArray, List.set_cons_zero, List.set_cons_succ, i64_w, i32_w]
       rfl
      refine pure_ (i := 3) (N := some 10) (v := ?_) (a' := ?_) (bmask 33 15) rfl rfl (any_of HT_.out (by kernel_rfl)) (fun _ _ _ h => h) (Or.inl ⟨by rfl, ?_⟩) ?_ ?_
      rotate_left
      ·
       intro w'
       go_simp
       with_reducible rfl
      rotate_left
      ·
       simp only [Act.put, List.setIfInBounds_toArray, List.set_cons_zero, List.set_cons_succ, i64_w, i32_w]
       rfl
      refine pure_ (i := 4) (N := some 11) (v := ?_) (a' := ?_) (bmask 33 31) rfl rfl (any_of HT_.out (by kernel_rfl)) (fun _ _ _ h => h) (Or.inl ⟨by rfl, ?_⟩) ?_ ?_
      rotate_left
      ·
       intro w'
       go_simp
       with_reducible rfl
      rotate_left
      ·
       simp only [Act.put, List.setIfInBounds_toArray, List.set_cons_zero, List.set_cons_succ, i64_w, i32_w]
       rfl
      refine take_ (i := 5) (N := some 12) (v := ?_) (a' := ?_) (bmask 33 63) rfl rfl (take_ofW HT_.out HW_.out (by kernel_rfl)) (fun _ _ _ h => h) (Or.inl ⟨by rfl, ?_⟩) hHeld ?_ ?_
      rotate_left
      ·
       rintro w' ⟨s0, s1, s2⟩
       go_simp
       with_reducible rfl
      rotate_left
      ·
       simp only [Act.put, List.setIfInBounds_toArray, List.set_cons_zero, List.set_cons_succ, i64_w, i32_w]
       rfl
      refine pure_ (i := 6) (N := some 13) (v := ?_) (a' := ?_) (bmask 33 127) rfl rfl (any_of HT_.out (by kernel_rfl)) (fun _ _ _ h => h) (Or.inl ⟨by rfl, ?_⟩) ?_ ?_
      rotate_left
      ·
       intro w'
       go_simp
       with_reducible rfl
      rotate_left
      ·
       simp only [Act.put, List.setIfInBounds_toArray, List.set_cons_zero, List.set_cons_succ, i64_w, i32_w]
       rfl
      refine pure_ (i := 7) (N := some 14) (v := ?_) (a' := ?_) (bmask 33 255) rfl rfl (any_of HT_.out (by kernel_rfl)) (fun _ _ _ h => h) (Or.inl ⟨by rfl, ?_⟩) ?_ ?_
      rotate_left
      ·
       intro w'
       go_simp
       with_reducible rfl
      rotate_left
      ·
       simp only [Act.put, List.setIfInBounds_toArray, List.set_cons_zero, List.set_cons_succ, i64_w, i32_w]
       rfl
      refine pure_ (i := 8) (N := some 15) (v := ?_) (a' := ?_) (bmask 33 511) rfl rfl (any_of HT_.out (by kernel_rfl)) (fun _ _ _ h => h) (Or.inl ⟨by rfl, ?_⟩) ?_ ?_
      rotate_left
      ·
       intro w'
       go_simp
       with_reducible rfl
      rotate_left
      ·
       simp only [Act.put, List.setIfInBounds_toArray, List.set_cons_zero, List.set_cons_succ, i64_w, i32_w]
       rfl
      refine pure_ (i := 9) (N := some 16) (v := ?_) (a' := ?_) (bmask 33 1023) rfl rfl (any_of HT_.out (by kernel_rfl)) (fun _ _ _ h => h) (Or.inl ⟨by rfl, ?_⟩) ?_ ?_
      rotate_left
      ·
       intro w'
       go_simp
       with_reducible rfl
      rotate_left
      ·
       simp only [Act.put, List.setIfInBounds_toArray, List.set_cons_zero, List.set_cons_succ, i64_w, i32_w]
       rfl
      refine take_ (i := 10) (N := some 17) (v := ?_) (a' := ?_) (bmask 33 2047) rfl rfl (take_ofW HT_.out HW_.out (by kernel_rfl)) (fun _ _ _ h => h) (Or.inl ⟨by rfl, ?_⟩) hHeld ?_ ?_
      rotate_left
      ·
       rintro w' ⟨s0, s1, s2⟩
       go_simp
       with_reducible rfl
      rotate_left
      ·
       simp only [Act.put, List.setIfInBounds_toArray, List.set_cons_zero, List.set_cons_succ, i64_w, i32_w]
       rfl
      refine pure_ (i := 11) (N := some 18) (v := ?_) (a' := ?_) (bmask 33 4095) rfl rfl (any_of HT_.out (by kernel_rfl)) (fun _ _ _ h => h) (Or.inl ⟨by rfl, ?_⟩) ?_ ?_
      rotate_left
      ·
       intro w'
       go_simp
       with_reducible rfl
      rotate_left
      ·
       simp only [Act.put, List.setIfInBounds_toArray, List.set_cons_zero, List.set_cons_succ, i64_w, i32_w]
       rfl
      refine pure_ (i := 12) (N := some 19) (v := ?_) (a' := ?_) (bmask 33 8191) rfl rfl (any_of HT_.out (by kernel_rfl)) (fun _ _ _ h => h) (Or.inl ⟨by rfl, ?_⟩) ?_ ?_
      rotate_left
      ·
       intro w'
       go_simp
       with_reducible rfl
      rotate_left
      ·
       simp only [Act.put, List.setIfInBounds_toArray, List.set_cons_zero, List.set_cons_succ, i64_w, i32_w]
       rfl
      refine pure_ (i := 13) (N := some 20) (v := ?_) (a' := ?_) (bmask 33 16383) rfl rfl (any_of HT_.out (by kernel_rfl)) (fun _ _ _ h => h) (Or.inl ⟨by rfl, ?_⟩) ?_ ?_
      rotate_left
      ·
       intro w'
       go_simp
       with_reducible rfl
      rotate_left
      ·
       simp only [Act.put, List.setIfInBounds_toArray, List.set_cons_zero, List.set_cons_succ, i64_w, i32_w]
       rfl
      refine pure_ (i := 14) (N := some 21) (v := ?_) (a' := ?_) (bmask 33 32767) rfl rfl (any_of HT_.out (by kernel_rfl)) (fun _ _ _ h => h) (Or.inl ⟨by rfl, ?_⟩) ?_ ?_
      rotate_left
      ·
       intro w'
       go_simp
       with_reducible rfl
      rotate_left
      ·
       simp only [Act.put, List.setIfInBounds_toArray, List.set_cons_zero, List.set_cons_succ, i64_w, i32_w]
       rfl
      refine take_ (i := 15) (N := some 22) (v := ?_) (a' := ?_) (bmask 33 65535) rfl rfl (take_ofW HT_.out HW_.out (by kernel_rfl)) (fun _ _ _ h => h) (Or.inl ⟨by rfl, ?_⟩) hHeld ?_ ?_
      rotate_left
      ·
       rintro w' ⟨s0, s1, s2⟩
       go_simp
       with_reducible rfl
      rotate_left
      ·
       simp only [Act.put, List.setIfInBounds_toArray, List.set_cons_zero, List.set_cons_succ, i64_w, i32_w]
       rfl
      refine pure_ (i := 16) (N := some 23) (v := ?_) (a' := ?_) (bmask 33 131071) rfl rfl (any_of HT_.out (by kernel_rfl)) (fun _ _ _ h => h) (Or.inl ⟨by rfl, ?_⟩) ?_ ?_
      rotate_left
      ·
       intro w'
       go_simp
       with_reducible rfl
      rotate_left
      ·
       simp only [Act.put, List.setIfInBounds_toArray, List.set_cons_zero, List.set_cons_succ, i64_w, i32_w]
       rfl
      refine pure_ (i := 17) (N := some 24) (v := ?_) (a' := ?_) (bmask 33 262143) rfl rfl (any_of HT_.out (by kernel_rfl)) (fun _ _ _ h => h) (Or.inl ⟨by rfl, ?_⟩) ?_ ?_
      rotate_left
      ·
       intro w'
       go_simp
       with_reducible rfl
      rotate_left
      ·
       simp only [Act.put, List.setIfInBounds_toArray, List.set_cons_zero, List.set_cons_succ, i64_w, i32_w]
       rfl
      refine pure_ (i := 18) (N := some 25) (v := ?_) (a' := ?_) (bmask 33 524287) rfl rfl (any_of HT_.out (by kernel_rfl)) (fun _ _ _ h => h) (Or.inl ⟨by rfl, ?_⟩) ?_ ?_
      rotate_left
      ·
       intro w'
       go_simp
       with_reducible rfl
      rotate_left
      ·
       simp only [Act.put, List.setIfInBounds_toArray, List.set_cons_zero, List.set_cons_succ, i64_w, i32_w]
       rfl
      refine pure_ (i := 19) (N := some 26) (v := undef) (a' := ?_) (bmask 33 1048575) rfl rfl (any_of HT_.out (by kernel_rfl)) (fun _ _ _ h => h) (Or.inr ⟨by rfl, rfl⟩) ?_ ?_
      rotate_left
      ·
       simp only [Act.put, List.setIfInBounds_toArray, List.set_cons_zero, List.set_cons_succ, i64_w, i32_w]
       rfl
      refine pure_ (i := 20) (N := some 27) (v := undef) (a' := ?_) (bmask 33 2097151) rfl rfl (any_of HT_.out (by kernel_rfl)) (fun _ _ _ h => h) (Or.inr ⟨by rfl, rfl⟩) ?_ ?_
      rotate_left
      ·
       simp only [Act.put, List.setIfInBounds_toArray, List.set_cons_zero, List.set_cons_succ, i64_w, i32_w]
       rfl
      refine pure_ (i := 21) (N := some 28) (v := undef) (a' := ?_) (bmask 33 4194303) rfl rfl (any_of HT_.out (by kernel_rfl)) (fun _ _ _ h => h) (Or.inr ⟨by rfl, rfl⟩) ?_ ?_
      rotate_left
      ·
       simp only [Act.put, List.setIfInBounds_toArray, List.set_cons_zero, List.set_cons_succ, i64_w, i32_w]
       rfl
      refine pure_ (i := 22) (N := some 29) (v := ?_) (a' := ?_) (bmask 33 8388607) rfl rfl (any_of HT_.out (by kernel_rfl)) (fun _ _ _ h => h) (Or.inl ⟨by rfl, ?_⟩) ?_ ?_
      rotate_left
      ·
       intro w'
       go_simp
       with_reducible rfl
      rotate_left
      ·
       simp only [Act.put, List.setIfInBounds_toArray, List.set_cons_zero, List.set_cons_succ, i64_w, i32_w]
       rfl
      refine pure_ (i := 23) (N := some 30) (v := ?_) (a' := ?_) (bmask 33 16777215) rfl rfl (any_of HT_.out (by kernel_rfl)) (fun _ _ _ h => h) (Or.inl ⟨by rfl, ?_⟩) ?_ ?_
      rotate_left
      ·
       intro w'
       go_simp
       with_reducible rfl
      rotate_left
      ·
       simp only [Act.put, List.setIfInBounds_toArray, List.set_cons_zero, List.set_cons_succ, i64_w, i32_w]
       rfl
      refine pure_ (i := 24) (N := some 31) (v := undef) (a' := ?_) (bmask 33 33554431) rfl rfl (any_of HT_.out (by kernel_rfl)) (fun _ _ _ h => h) (Or.inr ⟨by rfl, rfl⟩) ?_ ?_
      rotate_left
      ·
       simp only [Act.put, List.setIfInBounds_toArray, List.set_cons_zero, List.set_cons_succ, i64_w, i32_w]
       rfl
      refine pure_ (i := 25) (N := some 32) (v := undef) (a' := ?_) (bmask 33 67108863) rfl rfl (any_of HT_.out (by kernel_rfl)) (fun _ _ _ h => h) (Or.inr ⟨by rfl, rfl⟩) ?_ ?_
      rotate_left
      ·
       simp only [Act.put, List.setIfInBounds_toArray, List.set_cons_zero, List.set_cons_succ, i64_w, i32_w]
       rfl
      refine pure_ (i := 26) (N := some 33) (v := undef) (a' := ?_) (bmask 33 134217727) rfl rfl (any_of HT_.out (by kernel_rfl)) (fun _ _ _ h => h) (Or.inr ⟨by rfl, rfl⟩) ?_ ?_
      rotate_left
      ·
       simp only [Act.put, List.setIfInBounds_toArray, List.set_cons_zero, List.set_cons_succ, i64_w, i32_w]
       rfl
      refine pure_ (i := 27) (N := some 34) (v := undef) (a' := ?_) (bmask 33 268435455) rfl rfl (any_of HT_.out (by kernel_rfl)) (fun _ _ _ h => h) (Or.inr ⟨by rfl, rfl⟩) ?_ ?_
      rotate_left
      ·
       simp only [Act.put, List.setIfInBounds_toArray, List.set_cons_zero, List.set_cons_succ, i64_w, i32_w]
       rfl
      refine pure_ (i := 28) (N := some 35) (v := undef) (a' := ?_) (bmask 33 536870911) rfl rfl (any_of HT_.out (by kernel_rfl)) (fun _ _ _ h => h) (Or.inr ⟨by rfl, rfl⟩) ?_ ?_
      rotate_left
      ·
       simp only [Act.put, List.setIfInBounds_toArray, List.set_cons_zero, List.set_cons_succ, i64_w, i32_w]
       rfl
      refine pure_ (i := 29) (N := some 36) (v := undef) (a' := ?_) (bmask 33 1073741823) rfl rfl (any_of HT_.out (by kernel_rfl)) (fun _ _ _ h => h) (Or.inr ⟨by rfl, rfl⟩) ?_ ?_
      rotate_left
      ·
       simp only [Act.put, List.setIfInBounds_toArray, List.set_cons_zero, List.set_cons_succ, i64_w, i32_w]
       rfl
      refine pure_ (i := 30) (N := some 37) (v := undef) (a' := ?_) (bmask 33 2147483647) rfl rfl (any_of HT_.out (by kernel_rfl)) (fun _ _ _ h => h) (Or.inr ⟨by rfl, rfl⟩) ?_ ?_
      rotate_left
      ·
       simp only [Act.put, List.setIfInBounds_toArray, List.set_cons_zero, List.set_cons_succ, i64_w, i32_w]
       rfl
      refine pure_ (i := 31) (N := some 38) (v := undef) (a' := ?_) (bmask 33 4294967295) rfl rfl (any_of HT_.out (by kernel_rfl)) (fun _ _ _ h => h) (Or.inr ⟨by rfl, rfl⟩) ?_ ?_
      rotate_left
      ·
       simp only [Act.put, List.setIfInBounds_toArray, List.set_cons_zero, List.set_cons_succ, i64_w, i32_w]
       rfl
      refine pure_ (i := 32) (N := some 39) (v := ?_) (a' := ?_) (bmask 33 8589934591) rfl rfl (any_of HT_.out (by kernel_rfl)) (fun _ _ _ h => h) (Or.inl ⟨by rfl, ?_⟩) ?_ ?_
      rotate_left
      ·
       intro w'
       go_simp
       with_reducible rfl
      rotate_left
      ·
       simp only [Act.put, List.setIfInBounds_toArray, List.set_cons_zero, List.set_cons_succ, i64_w, i32_w]
       rfl
      refine done_ (done_of HT_.out (by kernel_rfl)) ?_
      try go_wp2
      go_meet
      case rel => exact ⟨_, (true), (by first | rfl | (simp; done) | (simp [*]; done)), H', ⟨by first | omega | exact Nat.le_refl _⟩, ⟨by (with_reducible repeat (first | refine blk_drewN ?_ _ | refine blk_drew ?_ | refine blk_alloc ?_ _)); exact BK1080.out⟩, ⟨by repeat (first | (with_reducible first | exact HB.out | apply below_alloc | apply pw_below_drewN | apply below_drew1 | refine below_set ?_ GE1080.out) | exact HB.out)⟩⟩
     ·
      rw [if_neg c10] at H
      have c10b0 : decide (12 < a0_1) = false := decide_eq_false c10
      clear c10
      by_cases c12 : a0_2 < 1
      ·
       rw [if_pos c12] at H
       have c12b0 : decide (a0_2 < 1) = true := decide_eq_true c12
       clear c12
       have H' := Aside0.mk H
       clear H
       try go_wp2
       have n0_ := Aside0.mk (blk_drew BK1080.out)
       have n1_ := Aside0.mk (below_drew1 HB.out)
       clear BK1080
       clear HB
       have BK1080 := n0_
       have HB := n1_
       clear n0_ n1_
       refine start_ (n := 33) (S := fun w' => w'.cell? ⟨gb1080, 0, none⟩ = some (.int .i64 a0_0) ∧ w'.cell? ⟨gb1080, 1, none⟩ = some (.int .i64 a0_1) ∧ w'.cell? ⟨gb1080, 2, none⟩ = some (.int .i64 a0_2)) (ds := []) (bmask 33 0) (by kernel_rfl) rfl (by kernel_rfl) ⟨(blk_cell BK1080.out 0).trans rfl, (blk_cell BK1080.out 1).trans rfl, (blk_cell BK1080.out 2).trans rfl⟩ (fun hHeld => ?_); refine with_tabW customsref04_Number.tab1 customsref04_Number.bits1 (fun HT_ HW_ => ?_)
       generalize w3.drew = w13 at BK1080 HB hHeld ⊢
       refine pure_ (i := 0) (N := some 7) (v := ?_) (a' := ?_) (bmask 33 1) rfl rfl (any_of HT_.out (by kernel_rfl)) (fun _ _ _ h => h) (Or.inl ⟨by rfl, ?_⟩) ?_ ?_
       rotate_left
       ·
        intro w'
        go_simp
        with_reducible rfl
       rotate_left
       ·
        simp only [Act.put, List.setIfInBounds_toArray, List.set_cons_zero, List.set_cons_succ, i64_w, i32_w]
        rfl
       refine take_ (i := 1) (N := some 8) (v := ?_) (a' := ?_) (bmask 33 3) rfl rfl (take_ofW HT_.out HW_.out (by kernel_rfl)) (fun _ _ _ h => h) (Or.inl ⟨by rfl, ?_⟩) hHeld ?_ ?_
       rotate_left
       ·
        rintro w' ⟨s0, s1, s2⟩
        go_simp
        with_reducible rfl
       rotate_left
       ·
        simp only [Act.put, List.setIfInBounds_toArray, List.set_cons_zero, List.set_cons_succ, i64_w, i32_w]
        rfl
       refine pure_ (i := 2) (N := some 9) (v := ?_) (a' := ?_) (bmask 33 7) rfl rfl (any_of HT_.out (by kernel_rfl)) (fun _ _ _ h => h) (Or.inl ⟨by rfl, ?_⟩) ?_ ?_
       rotate_left
       ·
        intro w'
        go_simp
        with_reducible rfl
       rotate_left
       ·
        simp only [Act.put, List.setIfInBounds_toArray, List.set_cons_zero, List.set_cons_succ, i64_w, i32_w]
        rfl
       refine pure_ (i := 3) (N := some 10) (v := ?_) (a' := ?_) (bmask 33 15) rfl rfl (any_of HT_.out (by kernel_rfl)) (fun _ _ _ h => h) (Or.inl ⟨by rfl, ?_⟩) ?_ ?_
       rotate_left
       ·
        intro w'
        go_simp
        with_reducible rfl
       rotate_left
       ·
        simp only [Act.put, List.setIfInBounds_toArray, List.set_cons_zero, List.set_cons_succ, i64_w, i32_w]
        rfl
       refine pure_ (i := 4) (N := some 11) (v := ?_) (a' := ?_) (bmask 33 31) rfl rfl (any_of HT_.out (by kernel_rfl)) (fun _ _ _ h => h) (Or.inl ⟨by rfl, ?_⟩) ?_ ?_
       rotate_left
       ·
        intro w'
        go_simp
        with_reducible rfl
       rotate_left
       ·
        simp only [Act.put, List.setIfInBounds_toArray, List.set_cons_zero, List.set_cons_succ, i64_w, i32_w]
        rfl
       refine take_ (i := 5) (N := some 12) (v := ?_) (a' := ?_) (bmask 33 63) rfl rfl (take_ofW HT_.out HW_.out (by kernel_rfl)) (fun _ _ _ h => h) (Or.inl ⟨by rfl, ?_⟩) hHeld ?_ ?_
       rotate_left
       ·
        rintro w' ⟨s0, s1, s2⟩
        go_simp
        with_reducible rfl
       rotate_left
       ·
        simp only [Act.put, List.setIfInBounds_toArray, List.set_cons_zero, List.set_cons_succ, i64_w, i32_w]
        rfl
       refine pure_ (i := 6) (N := some 13) (v := ?_) (a' := ?_) (bmask 33 127) rfl rfl (any_of HT_.out (by kernel_rfl)) (fun _ _ _ h => h) (Or.inl ⟨by rfl, ?_⟩) ?_ ?_
       rotate_left
       ·
        intro w'
        go_simp
        with_reducible rfl
       rotate_left
       ·
        simp only [Act.put, List.setIfInBounds_toArray, List.set_cons_zero, List.set_cons_succ, i64_w, i32_w]
        rfl
       refine pure_ (i := 7) (N := some 14) (v := ?_) (a' := ?_) (bmask 33 255) rfl rfl (any_of HT_.out (by kernel_rfl)) (fun _ _ _ h => h) (Or.inl ⟨by rfl, ?_⟩) ?_ ?_
       rotate_left
       ·
        intro w'
        go_simp
        with_reducible rfl
       rotate_left
       ·
        simp only [Act.put, List.setIfInBounds_toArray, List.set_cons_zero, List.set_cons_succ, i64_w, i32_w]
        rfl
       refine pure_ (i := 8) (N := some 15) (v := ?_) (a' := ?_) (bmask 33 511) rfl rfl (any_of HT_.out (by kernel_rfl)) (fun _ _ _ h => h) (Or.inl ⟨by rfl, ?_⟩) ?_ ?_
       rotate_left
       ·
        intro w'
        go_simp
        with_reducible rfl
       rotate_left
       ·
        simp only [Act.put, List.setIfInBounds_toArray, List.set_cons_zero, List.set_cons_succ, i64_w, i32_w]
        rfl
       refine pure_ (i := 9) (N := some 16) (v := ?_) (a' := ?_) (bmask 33 1023) rfl rfl (any_of HT_.out (by kernel_rfl)) (fun _ _ _ h => h) (Or.inl ⟨by rfl, ?_⟩) ?_ ?_
       rotate_left
       ·
        intro w'
        go_simp
        with_reducible rfl
       rotate_left
       ·
        simp only [Act.put, List.setIfInBounds_toArray, List.set_cons_zero, List.set_cons_succ, i64_w, i32_w]
        rfl
       refine take_ (i := 10) (N := some 17) (v := ?_) (a' := ?_) (bmask 33 2047) rfl rfl (take_ofW HT_.out HW_.out (by kernel_rfl)) (fun _ _ _ h => h) (Or.inl ⟨by rfl, ?_⟩) hHeld ?_ ?_
       rotate_left
       ·
        rintro w' ⟨s0, s1, s2⟩
        go_simp
        with_reducible rfl
       rotate_left
       ·
        simp only [Act.put, List.setIfInBounds_toArray, List.set_cons_zero, List.set_cons_succ, i64_w, i32_w]
        rfl
       refine pure_ (i := 11) (N := some 18) (v := ?_) (a' := ?_) (bmask 33 4095) rfl rfl (any_of HT_.out (by kernel_rfl)) (fun _ _ _ h => h) (Or.inl ⟨by rfl, ?_⟩) ?_ ?_
       rotate_left
       ·
        intro w'
        go_simp
        with_reducible rfl
       rotate_left
       ·
        simp only [Act.put, List.setIfInBounds_toArray, List.set_cons_zero, List.set_cons_succ, i64_w, i32_w]
        rfl
       refine pure_ (i := 12) (N := some 19) (v := ?_) (a' := ?_) (bmask 33 8191) rfl rfl (any_of HT_.out (by kernel_rfl)) (fun _ _ _ h => h) (Or.inl ⟨by rfl, ?_⟩) ?_ ?_
       rotate_left
       ·
        intro w'
        go_simp
        with_reducible rfl
       rotate_left
       ·
        simp only [Act.put, List.setIfInBounds_toArray, List.set_cons_zero, List.set_cons_succ, i64_w, i32_w]
        rfl
       refine pure_ (i := 13) (N := some 20) (v := ?_) (a' := ?_) (bmask 33 16383) rfl rfl (any_of HT_.out (by kernel_rfl)) (fun _ _ _ h => h) (Or.inl ⟨by rfl, ?_⟩) ?_ ?_
       rotate_left
       ·
        intro w'
        go_simp
        with_reducible rfl
       rotate_left
       ·
        simp only [Act.put, List.setIfInBounds_toArray, List.set_cons_zero, List.set_cons_succ, i64_w, i32_w]
        rfl
       refine pure_ (i := 14) (N := some 21) (v := ?_) (a' := ?_) (bmask 33 32767) rfl rfl (any_of HT_.out (by kernel_rfl)) (fun _ _ _ h => h) (Or.inl ⟨by rfl, ?_⟩) ?_ ?_
       rotate_left
       ·
        intro w'
        go_simp
        with_reducible rfl
       rotate_left
       ·
        simp only [Act.put, List.setIfInBounds_toArray, List.set_cons_zero, List.set_cons_succ, i64_w, i32_w]
        rfl
       refine take_ (i := 15) (N := some 22) (v := ?_) (a' := ?_) (bmask 33 65535) rfl rfl (take_ofW HT_.out HW_.out (by kernel_rfl)) (fun _ _ _ h => h) (Or.inl ⟨by rfl, ?_⟩) hHeld ?_ ?_
       rotate_left
       ·
        rintro w' ⟨s0, s1, s2⟩
        go_simp
        with_reducible rfl
       rotate_left
       ·
        simp only [Act.put, List.setIfInBounds_toArray, List.set_cons_zero, List.set_cons_succ, i64_w, i32_w]
        rfl
       refine pure_ (i := 16) (N := some 23) (v := ?_) (a' := ?_) (bmask 33 131071) rfl rfl (any_of HT_.out (by kernel_rfl)) (fun _ _ _ h => h) (Or.inl ⟨by rfl, ?_⟩) ?_ ?_
       rotate_left
       ·
        intro w'
        go_simp
        with_reducible rfl
       rotate_left
       ·
        simp only [Act.put, List.setIfInBounds_toArray, List.set_cons_zero, List.set_cons_succ, i64_w, i32_w]
        rfl
       refine pure_ (i := 17) (N := some 24) (v := ?_) (a' := ?_) (bmask 33 262143) rfl rfl (any_of HT_.out (by kernel_rfl)) (fun _ _ _ h => h) (Or.inl ⟨by rfl, ?_⟩) ?_ ?_
       rotate_left
       ·
        intro w'
        go_simp
        with_reducible rfl
       rotate_left
       ·
        simp only [Act.put, List.setIfInBounds_toArray, List.set_cons_zero, List.set_cons_succ, i64_w, i32_w]
        rfl
       refine pure_ (i := 18) (N := some 25) (v := ?_) (a' := ?_) (bmask 33 524287) rfl rfl (any_of HT_.out (by kernel_rfl)) (fun _ _ _ h => h) (Or.inl ⟨by rfl, ?_⟩) ?_ ?_
       rotate_left
       ·
        intro w'
        go_simp
        with_reducible rfl
       rotate_left
       ·
        simp only [Act.put, List.setIfInBounds_toArray, List.set_cons_zero, List.set_cons_succ, i64_w, i32_w]
        rfl
       refine pure_ (i := 19) (N := some 26) (v := ?_) (a' := ?_) (bmask 33 1048575) rfl rfl (any_of HT_.out (by kernel_rfl)) (fun _ _ _ h => h) (Or.inl ⟨by rfl, ?_⟩) ?_ ?_
       rotate_left
       ·
        intro w'
        go_simp
        with_reducible rfl
       rotate_left
       ·
        simp only [Act.put, List.setIfInBounds_toArray, List.set_cons_zero, List.set_cons_succ, i64_w, i32_w]
        rfl
       refine take_ (i := 20) (N := some 27) (v := ?_) (a' := ?_) (bmask 33 2097151) rfl rfl (take_ofW HT_.out HW_.out (by kernel_rfl)) (fun _ _ _ h => h) (Or.inl ⟨by rfl, ?_⟩) hHeld ?_ ?_
       rotate_left
       ·
        rintro w' ⟨s0, s1, s2⟩
        go_simp
        with_reducible rfl
       rotate_left
       ·
        simp only [Act.put, List.setIfInBounds_toArray, List.set_cons_zero, List.set_cons_succ, i64_w, i32_w]
        rfl
       refine pure_ (i := 21) (N := some 28) (v := ?_) (a' := ?_) (bmask 33 4194303) rfl rfl (any_of HT_.out (by kernel_rfl)) (fun _ _ _ h => h) (Or.inl ⟨by rfl, ?_⟩) ?_ ?_
       rotate_left
       ·
        intro w'
        go_simp
        with_reducible rfl
       rotate_left
       ·
        simp only [Act.put, List.setIfInBounds_toArray, List.set_cons_zero, List.set_cons_succ, i64_w, i32_w]
        rfl
       refine pure_ (i := 22) (N := some 29) (v := ?_) (a' := ?_) (bmask 33 8388607) rfl rfl (any_of HT_.out (by kernel_rfl)) (fun _ _ _ h => h) (Or.inl ⟨by rfl, ?_⟩) ?_ ?_
       rotate_left
       ·
        intro w'
        go_simp
        with_reducible rfl
       rotate_left
       ·
        simp only [Act.put, List.setIfInBounds_toArray, List.set_cons_zero, List.set_cons_succ, i64_w, i32_w]
        rfl
       refine pure_ (i := 23) (N := some 30) (v := ?_) (a' := ?_) (bmask 33 16777215) rfl rfl (any_of HT_.out (by kernel_rfl)) (fun _ _ _ h => h) (Or.inl ⟨by rfl, ?_⟩) ?_ ?_
       rotate_left
       ·
        intro w'
        go_simp
        with_reducible rfl
       rotate_left
       ·
        simp only [Act.put, List.setIfInBounds_toArray, List.set_cons_zero, List.set_cons_succ, i64_w, i32_w]
        rfl
       refine pure_ (i := 24) (N := some 31) (v := undef) (a' := ?_) (bmask 33 33554431) rfl rfl (any_of HT_.out (by kernel_rfl)) (fun _ _ _ h => h) (Or.inr ⟨by rfl, rfl⟩) ?_ ?_
       rotate_left
       ·
        simp only [Act.put, List.setIfInBounds_toArray, List.set_cons_zero, List.set_cons_succ, i64_w, i32_w]
        rfl
       refine pure_ (i := 25) (N := some 32) (v := undef) (a' := ?_) (bmask 33 67108863) rfl rfl (any_of HT_.out (by kernel_rfl)) (fun _ _ _ h => h) (Or.inr ⟨by rfl, rfl⟩) ?_ ?_
       rotate_left
       ·
        simp only [Act.put, List.setIfInBounds_toArray, List.set_cons_zero, List.set_cons_succ, i64_w, i32_w]
        rfl
       refine pure_ (i := 26) (N := some 33) (v := undef) (a' := ?_) (bmask 33 134217727) rfl rfl (any_of HT_.out (by kernel_rfl)) (fun _ _ _ h => h) (Or.inr ⟨by rfl, rfl⟩) ?_ ?_
       rotate_left
       ·
        simp only [Act.put, List.setIfInBounds_toArray, List.set_cons_zero, List.set_cons_succ, i64_w, i32_w]
        rfl
       refine pure_ (i := 27) (N := some 34) (v := undef) (a' := ?_) (bmask 33 268435455) rfl rfl (any_of HT_.out (by kernel_rfl)) (fun _ _ _ h => h) (Or.inr ⟨by rfl, rfl⟩) ?_ ?_
       rotate_left
       ·
        simp only [Act.put, List.setIfInBounds_toArray, List.set_cons_zero, List.set_cons_succ, i64_w, i32_w]
        rfl
       refine pure_ (i := 28) (N := some 35) (v := undef) (a' := ?_) (bmask 33 536870911) rfl rfl (any_of HT_.out (by kernel_rfl)) (fun _ _ _ h => h) (Or.inr ⟨by rfl, rfl⟩) ?_ ?_
       rotate_left
       ·
        simp only [Act.put, List.setIfInBounds_toArray, List.set_cons_zero, List.set_cons_succ, i64_w, i32_w]
        rfl
       refine pure_ (i := 29) (N := some 36) (v := undef) (a' := ?_) (bmask 33 1073741823) rfl rfl (any_of HT_.out (by kernel_rfl)) (fun _ _ _ h => h) (Or.inr ⟨by rfl, rfl⟩) ?_ ?_
       rotate_left
       ·
        simp only [Act.put, List.setIfInBounds_toArray, List.set_cons_zero, List.set_cons_succ, i64_w, i32_w]
        rfl
       refine pure_ (i := 30) (N := some 37) (v := undef) (a' := ?_) (bmask 33 2147483647) rfl rfl (any_of HT_.out (by kernel_rfl)) (fun _ _ _ h => h) (Or.inr ⟨by rfl, rfl⟩) ?_ ?_
       rotate_left
       ·
        simp only [Act.put, List.setIfInBounds_toArray, List.set_cons_zero, List.set_cons_succ, i64_w, i32_w]
        rfl
       refine pure_ (i := 31) (N := some 38) (v := undef) (a' := ?_) (bmask 33 4294967295) rfl rfl (any_of HT_.out (by kernel_rfl)) (fun _ _ _ h => h) (Or.inr ⟨by rfl, rfl⟩) ?_ ?_
       rotate_left
       ·
        simp only [Act.put, List.setIfInBounds_toArray, List.set_cons_zero, List.set_cons_succ, i64_w, i32_w]
        rfl
       refine pure_ (i := 32) (N := some 39) (v := ?_) (a' := ?_) (bmask 33 8589934591) rfl rfl (any_of HT_.out (by kernel_rfl)) (fun _ _ _ h => h) (Or.inl ⟨by rfl, ?_⟩) ?_ ?_
       rotate_left
       ·
        intro w'
        go_simp
        with_reducible rfl
       rotate_left
       ·
        simp only [Act.put, List.setIfInBounds_toArray, List.set_cons_zero, List.set_cons_succ, i64_w, i32_w]
        rfl
       refine done_ (done_of HT_.out (by kernel_rfl)) ?_
       try go_wp2
       go_meet
       case rel => exact ⟨_, (true), (by first | rfl | (simp; done) | (simp [*]; done)), H', ⟨by first | omega | exact Nat.le_refl _⟩, ⟨by (with_reducible repeat (first | refine blk_drewN ?_ _ | refine blk_drew ?_ | refine blk_alloc ?_ _)); exact BK1080.out⟩, ⟨by repeat (first | (with_reducible first | exact HB.out | apply below_alloc | apply pw_below_drewN | apply below_drew1 | refine below_set ?_ GE1080.out) | exact HB.out)⟩⟩
      ·
       rw [if_neg c12] at H
       have c12b0 : decide (a0_2 < 1) = false := decide_eq_false c12
       clear c12
       replace H := Option.bind_eq_some_iff.mp H
       obtain ⟨t1081, A140, H⟩ := H
       replace H : (customsref04_Number.j0 k (decide (a0_2 > t1081)) a0_0 a0_1 a0_2) = some (r1, r2) := H
       have A14 := Aside0.mk A140
       clear A140
       have H' := Aside0.mk H
       clear H
       try go_wp2
       have n0_ := Aside0.mk (blk_drew BK1080.out)
       have n1_ := Aside0.mk (below_drew1 HB.out)
       clear BK1080
       clear HB
       have BK1080 := n0_
       have HB := n1_
       clear n0_ n1_
       refine start_ (n := 33) (S := fun w' => w'.cell? ⟨gb1080, 0, none⟩ = some (.int .i64 a0_0) ∧ w'.cell? ⟨gb1080, 1, none⟩ = some (.int .i64 a0_1) ∧ w'.cell? ⟨gb1080, 2, none⟩ = some (.int .i64 a0_2)) (ds := []) (bmask 33 0) (by kernel_rfl) rfl (by kernel_rfl) ⟨(blk_cell BK1080.out 0).trans rfl, (blk_cell BK1080.out 1).trans rfl, (blk_cell BK1080.out 2).trans rfl⟩ (fun hHeld => ?_); refine with_tabW customsref04_Number.tab1 customsref04_Number.bits1 (fun HT_ HW_ => ?_)
       generalize w3.drew = w15 at BK1080 HB hHeld ⊢
       refine pure_ (i := 0) (N := some 7) (v := ?_) (a' := ?_) (bmask 33 1) rfl rfl (any_of HT_.out (by kernel_rfl)) (fun _ _ _ h => h) (Or.inl ⟨by rfl, ?_⟩) ?_ ?_
       rotate_left
       ·
        intro w'
        go_simp
        with_reducible rfl
       rotate_left
       ·
        simp only [Act.put, List.setIfInBounds_toArray, List.set_cons_zero, List.set_cons_succ, i64_w, i32_w]
        rfl
       refine take_ (i := 1) (N := some 8) (v := ?_) (a' := ?_) (bmask 33 3) rfl rfl (take_ofW HT_.out HW_.out (by kernel_rfl)) (fun _ _ _ h => h) (Or.inl ⟨by rfl, ?_⟩) hHeld ?_ ?_
       rotate_left
       ·
        rintro w' ⟨s0, s1, s2⟩
        go_simp
        with_reducible rfl
       rotate_left
       ·
        simp only [Act.put, List.setIfInBounds_toArray, List.set_cons_zero, List.set_cons_succ, i64_w, i32_w]
        rfl
       refine pure_ (i := 2) (N := some 9) (v := ?_) (a' := ?_) (bmask 33 7) rfl rfl (any_of HT_.out (by kernel_rfl)) (fun _ _ _ h => h) (Or.inl ⟨by rfl, ?_⟩) ?_ ?_
       rotate_left
       ·
        intro w'
        go_simp
        with_reducible rfl
       rotate_left
       ·
        simp only [Act.put, List.setIfInBounds_toArray, List.set_cons_zero, List.set_cons_succ, i64_w, i32_w]
        rfl
       refine pure_ (i := 3) (N := some 10) (v := ?_) (a' := ?_) (bmask 33 15) rfl rfl (any_of HT_.out (by kernel_rfl)) (fun _ _ _ h => h) (Or.inl ⟨by rfl, ?_⟩) ?_ ?_
       rotate_left
       ·
        intro w'
        go_simp
        with_reducible rfl
       rotate_left
       ·
        simp only [Act.put, List.setIfInBounds_toArray, List.set_cons_zero, List.set_cons_succ, i64_w, i32_w]
        rfl
       refine pure_ (i := 4) (N := some 11) (v := ?_) (a' := ?_) (bmask 33 31) rfl rfl (any_of HT_.out (by kernel_rfl)) (fun _ _ _ h => h) (Or.inl ⟨by rfl, ?_⟩) ?_ ?_
       rotate_left
       ·
        intro w'
        go_simp
        with_reducible rfl
       rotate_left
       ·
        simp only [Act.put, List.setIfInBounds_toArray, List.set_cons_zero, List.set_cons_succ, i64_w, i32_w]
        rfl
       refine take_ (i := 5) (N := some 12) (v := ?_) (a' := ?_) (bmask 33 63) rfl rfl (take_ofW HT_.out HW_.out (by kernel_rfl)) (fun _ _ _ h => h) (Or.inl ⟨by rfl, ?_⟩) hHeld ?_ ?_
       rotate_left
       ·
        rintro w' ⟨s0, s1, s2⟩
        go_simp
        with_reducible rfl
       rotate_left
       ·
        simp only [Act.put, List.setIfInBounds_toArray, List.set_cons_zero, List.set_cons_succ, i64_w, i32_w]
        rfl
       refine pure_ (i := 6) (N := some 13) (v := ?_) (a' := ?_) (bmask 33 127) rfl rfl (any_of HT_.out (by kernel_rfl)) (fun _ _ _ h => h) (Or.inl ⟨by rfl, ?_⟩) ?_ ?_
       rotate_left
       ·
        intro w'
        go_simp
        with_reducible rfl
       rotate_left
       ·
        simp only [Act.put, List.setIfInBounds_toArray, List.set_cons_zero, List.set_cons_succ, i64_w, i32_w]
        rfl
       refine pure_ (i := 7) (N := some 14) (v := ?_) (a' := ?_) (bmask 33 255) rfl rfl (any_of HT_.out (by kernel_rfl)) (fun _ _ _ h => h) (Or.inl ⟨by rfl, ?_⟩) ?_ ?_
       rotate_left
       ·
        intro w'
        go_simp
        with_reducible rfl
       rotate_left
       ·
        simp only [Act.put, List.setIfInBounds_toArray, List.set_cons_zero, List.set_cons_succ, i64_w, i32_w]
        rfl
       refine pure_ (i := 8) (N := some 15) (v := ?_) (a' := ?_) (bmask 33 511) rfl rfl (any_of HT_.out (by kernel_rfl)) (fun _ _ _ h => h) (Or.inl ⟨by rfl, ?_⟩) ?_ ?_
       rotate_left
       ·
        intro w'
        go_simp
        with_reducible rfl
       rotate_left
       ·
        simp only [Act.put, List.setIfInBounds_toArray, List.set_cons_zero, List.set_cons_succ, i64_w, i32_w]
        rfl
       refine pure_ (i := 9) (N := some 16) (v := ?_) (a' := ?_) (bmask 33 1023) rfl rfl (any_of HT_.out (by kernel_rfl)) (fun _ _ _ h => h) (Or.inl ⟨by rfl, ?_⟩) ?_ ?_
       rotate_left
       ·
        intro w'
        go_simp
        with_reducible rfl
       rotate_left
       ·
        simp only [Act.put, List.setIfInBounds_toArray, List.set_cons_zero, List.set_cons_succ, i64_w, i32_w]
        rfl
       refine take_ (i := 10) (N := some 17) (v := ?_) (a' := ?_) (bmask 33 2047) rfl rfl (take_ofW HT_.out HW_.out (by kernel_rfl)) (fun _ _ _ h => h) (Or.inl ⟨by rfl, ?_⟩) hHeld ?_ ?_
       rotate_left
       ·
        rintro w' ⟨s0, s1, s2⟩
        go_simp
        with_reducible rfl
       rotate_left
       ·
        simp only [Act.put, List.setIfInBounds_toArray, List.set_cons_zero, List.set_cons_succ, i64_w, i32_w]
        rfl
       refine pure_ (i := 11) (N := some 18) (v := ?_) (a' := ?_) (bmask 33 4095) rfl rfl (any_of HT_.out (by kernel_rfl)) (fun _ _ _ h => h) (Or.inl ⟨by rfl, ?_⟩) ?_ ?_
       rotate_left
       ·
        intro w'
        go_simp
        with_reducible rfl
       rotate_left
       ·
        simp only [Act.put, List.setIfInBounds_toArray, List.set_cons_zero, List.set_cons_succ, i64_w, i32_w]
        rfl
       refine pure_ (i := 12) (N := some 19) (v := ?_) (a' := ?_) (bmask 33 8191) rfl rfl (any_of HT_.out (by kernel_rfl)) (fun _ _ _ h => h) (Or.inl ⟨by rfl, ?_⟩) ?_ ?_
       rotate_left
       ·
        intro w'
        go_simp
        with_reducible rfl
       rotate_left
       ·
        simp only [Act.put, List.setIfInBounds_toArray, List.set_cons_zero, List.set_cons_succ, i64_w, i32_w]
        rfl
       refine pure_ (i := 13) (N := some 20) (v := ?_) (a' := ?_) (bmask 33 16383) rfl rfl (any_of HT_.out (by kernel_rfl)) (fun _ _ _ h => h) (Or.inl ⟨by rfl, ?_⟩) ?_ ?_
       rotate_left
       ·
        intro w'
        go_simp
        with_reducible rfl
       rotate_left
       ·
        simp only [Act.put, List.setIfInBounds_toArray, List.set_cons_zero, List.set_cons_succ, i64_w, i32_w]
        rfl
       refine pure_ (i := 14) (N := some 21) (v := ?_) (a' := ?_) (bmask 33 32767) rfl rfl (any_of HT_.out (by kernel_rfl)) (fun _ _ _ h => h) (Or.inl ⟨by rfl, ?_⟩) ?_ ?_
       rotate_left
       ·
        intro w'
        go_simp
        with_reducible rfl
       rotate_left
       ·
        simp only [Act.put, List.setIfInBounds_toArray, List.set_cons_zero, List.set_cons_succ, i64_w, i32_w]
        rfl
       refine take_ (i := 15) (N := some 22) (v := ?_) (a' := ?_) (bmask 33 65535) rfl rfl (take_ofW HT_.out HW_.out (by kernel_rfl)) (fun _ _ _ h => h) (Or.inl ⟨by rfl, ?_⟩) hHeld ?_ ?_
       rotate_left
       ·
        rintro w' ⟨s0, s1, s2⟩
        go_simp
        with_reducible rfl
       rotate_left
       ·
        simp only [Act.put, List.setIfInBounds_toArray, List.set_cons_zero, List.set_cons_succ, i64_w, i32_w]
        rfl
       refine pure_ (i := 16) (N := some 23) (v := ?_) (a' := ?_) (bmask 33 131071) rfl rfl (any_of HT_.out (by kernel_rfl)) (fun _ _ _ h => h) (Or.inl ⟨by rfl, ?_⟩) ?_ ?_
       rotate_left
       ·
        intro w'
        go_simp
        with_reducible rfl
       rotate_left
       ·
        simp only [Act.put, List.setIfInBounds_toArray, List.set_cons_zero, List.set_cons_succ, i64_w, i32_w]
        rfl
       refine pure_ (i := 17) (N := some 24) (v := ?_) (a' := ?_) (bmask 33 262143) rfl rfl (any_of HT_.out (by kernel_rfl)) (fun _ _ _ h => h) (Or.inl ⟨by rfl, ?_⟩) ?_ ?_
       rotate_left
       ·
        intro w'
        go_simp
        with_reducible rfl
       rotate_left
       ·
        simp only [Act.put, List.setIfInBounds_toArray, List.set_cons_zero, List.set_cons_succ, i64_w, i32_w]
        rfl
       refine pure_ (i := 18) (N := some 25) (v := ?_) (a' := ?_) (bmask 33 524287) rfl rfl (any_of HT_.out (by kernel_rfl)) (fun _ _ _ h => h) (Or.inl ⟨by rfl, ?_⟩) ?_ ?_
       rotate_left
       ·
        intro w'
        go_simp
        with_reducible rfl
       rotate_left
       ·
        simp only [Act.put, List.setIfInBounds_toArray, List.set_cons_zero, List.set_cons_succ, i64_w, i32_w]
        rfl
       refine pure_ (i := 19) (N := some 26) (v := ?_) (a' := ?_) (bmask 33 1048575) rfl rfl (any_of HT_.out (by kernel_rfl)) (fun _ _ _ h => h) (Or.inl ⟨by rfl, ?_⟩) ?_ ?_
       rotate_left
       ·
        intro w'
        go_simp
        with_reducible rfl
       rotate_left
       ·
        simp only [Act.put, List.setIfInBounds_toArray, List.set_cons_zero, List.set_cons_succ, i64_w, i32_w]
        rfl
       refine take_ (i := 20) (N := some 27) (v := ?_) (a' := ?_) (bmask 33 2097151) rfl rfl (take_ofW HT_.out HW_.out (by kernel_rfl)) (fun _ _ _ h => h) (Or.inl ⟨by rfl, ?_⟩) hHeld ?_ ?_
       rotate_left
       ·
        rintro w' ⟨s0, s1, s2⟩
        go_simp
        with_reducible rfl
       rotate_left
       ·
        simp only [Act.put, List.setIfInBounds_toArray, List.set_cons_zero, List.set_cons_succ, i64_w, i32_w]
        rfl
       refine pure_ (i := 21) (N := some 28) (v := ?_) (a' := ?_) (bmask 33 4194303) rfl rfl (any_of HT_.out (by kernel_rfl)) (fun _ _ _ h => h) (Or.inl ⟨by rfl, ?_⟩) ?_ ?_
       rotate_left
       ·
        intro w'
        go_simp
        with_reducible rfl
       rotate_left
       ·
        simp only [Act.put, List.setIfInBounds_toArray, List.set_cons_zero, List.set_cons_succ, i64_w, i32_w]
        rfl
       refine pure_ (i := 22) (N := some 29) (v := ?_) (a' := ?_) (bmask 33 8388607) rfl rfl (any_of HT_.out (by kernel_rfl)) (fun _ _ _ h => h) (Or.inl ⟨by rfl, ?_⟩) ?_ ?_
       rotate_left
       ·
        intro w'
        go_simp
        with_reducible rfl
       rotate_left
       ·
        simp only [Act.put, List.setIfInBounds_toArray, List.set_cons_zero, List.set_cons_succ, i64_w, i32_w]
        rfl
       refine pure_ (i := 23) (N := some 30) (v := ?_) (a' := ?_) (bmask 33 16777215) rfl rfl (any_of HT_.out (by kernel_rfl)) (fun _ _ _ h => h) (Or.inl ⟨by rfl, ?_⟩) ?_ ?_
       rotate_left
       ·
        intro w'
        go_simp
        with_reducible rfl
       rotate_left
       ·
        simp only [Act.put, List.setIfInBounds_toArray, List.set_cons_zero, List.set_cons_succ, i64_w, i32_w]
        rfl
       refine pure_ (i := 24) (N := some 31) (v := ?_) (a' := ?_) (bmask 33 33554431) rfl rfl (any_of HT_.out (by kernel_rfl)) (fun _ _ _ h => h) (Or.inl ⟨by rfl, ?_⟩) ?_ ?_
       rotate_left
       ·
        intro w'
        go_simp
        with_reducible rfl
       rotate_left
       ·
        simp only [Act.put, List.setIfInBounds_toArray, List.set_cons_zero, List.set_cons_succ, i64_w, i32_w]
        rfl
       refine pure_ (i := 26) (N := some 33) (v := ?_) (a' := ?_) (bmask 33 100663295) rfl rfl (any_of HT_.out (by kernel_rfl)) (fun _ _ _ h => h) (Or.inl ⟨by rfl, ?_⟩) ?_ ?_
       rotate_left
       ·
        intro w'
        go_simp
        with_reducible rfl
       rotate_left
       ·
        simp only [Act.put, List.setIfInBounds_toArray, List.set_cons_zero, List.set_cons_succ, i64_w, i32_w]
        rfl
       refine pure_ (i := 28) (N := some 35) (v := ?_) (a' := ?_) (bmask 33 369098751) rfl rfl (any_of HT_.out (by kernel_rfl)) (fun _ _ _ h => h) (Or.inl ⟨by rfl, ?_⟩) ?_ ?_
       rotate_left
       ·
        intro w'
        go_simp
        with_reducible rfl
       rotate_left
       ·
        simp only [Act.put, List.setIfInBounds_toArray, List.set_cons_zero, List.set_cons_succ, i64_w, i32_w]
        rfl
       refine take_ (i := 25) (N := some 32) (v := ?_) (a' := ?_) (bmask 33 402653183) rfl rfl (take_ofW HT_.out HW_.out (by kernel_rfl)) (fun _ _ _ h => h) (Or.inl ⟨by rfl, ?_⟩) hHeld ?_ ?_
       rotate_left
       ·
        rintro w' ⟨s0, s1, s2⟩
        go_simp
        with_reducible rfl
       rotate_left
       ·
        simp only [Act.put, List.setIfInBounds_toArray, List.set_cons_zero, List.set_cons_succ, i64_w, i32_w]
        rfl
       refine take_ (i := 27) (N := some 34) (v := ?_) (a' := ?_) (bmask 33 536870911) rfl rfl (take_ofW HT_.out HW_.out (by kernel_rfl)) (fun _ _ _ h => h) (Or.inl ⟨by rfl, ?_⟩) hHeld ?_ ?_
       rotate_left
       ·
        rintro w' ⟨s0, s1, s2⟩
        go_simp
        with_reducible rfl
       rotate_left
       ·
        simp only [Act.put, List.setIfInBounds_toArray, List.set_cons_zero, List.set_cons_succ, i64_w, i32_w]
        rfl
       refine take_ (i := 29) (N := some 36) (v := ?_) (a' := ?_) (bmask 33 1073741823) rfl rfl (take_ofW HT_.out HW_.out (by kernel_rfl)) (fun _ _ _ h => h) (Or.inl ⟨by rfl, ?_⟩) hHeld ?_ ?_
       rotate_left
       ·
        rintro w' ⟨s0, s1, s2⟩
        go_simp
        with_reducible rfl
       rotate_left
       ·
        simp only [Act.put, List.setIfInBounds_toArray, List.set_cons_zero, List.set_cons_succ, i64_w, i32_w]
        rfl
       refine one_ (i := 30) (N := some 37) (bmask 33 2147483647) rfl rfl (one_of HT_.out (by kernel_rfl)) (by decide) (fun K hK => ?_)
       refine goes_ Tryd.func102 (by kernel_rfl) rfl #[.int .i64 a0_0, .int .i64 a0_1] (by rfl) rfl rfl (by (try simp only [List.map_toArray, List.map_cons, List.map_nil]); first | done | rfl | (simp only [List.length_drop, List.length_take]; rfl)) ?_
       with_reducible refine (customsref04_Long.calls a0_0 a0_1 t1081 _ A14.out).mono ?_
       rintro e w' ⟨rfl, ⟨nd, rfl⟩⟩
       refine ⟨_, rfl, ?_⟩
       refine hK.out _ _ ⟨(blk_cell BK1080.out 0).trans rfl, (blk_cell BK1080.out 1).trans rfl, (blk_cell BK1080.out 2).trans rfl⟩ (fun hHeld => ?_)
       clear hK K
       refine norm_ (a' := ?_) ?_ ?_
       rotate_left
       ·
        show Act.put _ (some 37) _ = _
        simp only [Act.put, List.setIfInBounds_toArray, List.set_cons_zero, List.set_cons_succ, i64_w, i32_w]
        rfl
       refine pure_ (i := 31) (N := some 38) (v := ?_) (a' := ?_) (bmask 33 4294967295) rfl rfl (any_of HT_.out (by kernel_rfl)) (fun _ _ _ h => h) (Or.inl ⟨by rfl, ?_⟩) ?_ ?_
       rotate_left
       ·
        intro w'
        go_simp
        with_reducible rfl
       rotate_left
       ·
        simp only [Act.put, List.setIfInBounds_toArray, List.set_cons_zero, List.set_cons_succ, i64_w, i32_w]
        rfl
       refine pure_ (i := 32) (N := some 39) (v := ?_) (a' := ?_) (bmask 33 8589934591) rfl rfl (any_of HT_.out (by kernel_rfl)) (fun _ _ _ h => h) (Or.inl ⟨by rfl, ?_⟩) ?_ ?_
       rotate_left
       ·
        intro w'
        go_simp
        with_reducible rfl
       rotate_left
       ·
        simp only [Act.put, List.setIfInBounds_toArray, List.set_cons_zero, List.set_cons_succ, i64_w, i32_w]
        rfl
       refine done_ (done_of HT_.out (by kernel_rfl)) ?_
       try go_wp2
       go_meet
       case rel => exact ⟨_, (decide (a0_2 > t1081)), (by first | rfl | (simp; done) | (simp [*]; done)), H', ⟨by first | omega | exact Nat.le_refl _⟩, ⟨by (with_reducible repeat (first | refine blk_drewN ?_ _ | refine blk_drew ?_ | refine blk_alloc ?_ _)); exact BK1080.out⟩, ⟨by repeat (first | (with_reducible first | exact HB.out | apply below_alloc | apply pw_below_drewN | apply below_drew1 | refine below_set ?_ GE1080.out) | exact HB.out)⟩⟩
 case rest =>
  clear HC2
  try clear c1
  try clear p2
  try clear c10
  try clear c10b0
  try clear c12
  try clear c12b0
  obtain ⟨kq, x39_1, rfl, HA, HJ1, BK1080, HB⟩ := hcut
  cases kq with
  | zero => exact absurd HA.out (by simp [customsref04_Number.j0])
  | succ kj1 =>
   have H := HA.out
   clear HA
   simp only [customsref04_Number.j0] at H
   by_cases c16 : x39_1 = true
   ·
    subst c16
    have H1 : (some (0, 2)) = some (r1, r2) := by rw [if_pos rfl] at H; exact H
    clear H
    have H := H1
    clear H1
    simp only [Option.some.injEq, Prod.mk.injEq] at H
    obtain ⟨rfl, rfl⟩ := H
    go_wp2
    go_ret2
    exact ⟨by first | rfl | (simp [errW_none, errW_some] <;> rfl) | (simp [*, errW_none, errW_some] <;> rfl), by repeat (first | (with_reducible first | exact HB.out | apply below_alloc | apply pw_below_drewN | apply below_drew1 | refine below_set ?_ GE1080.out) | exact HB.out)⟩
   ·
    replace c16 := Bool.eq_false_iff.mpr c16
    subst c16
    have H1 : (customsref04_Number.l0 kj1 (wrap64 (a0_2 - 1)) 2000 a0_0 a0_1 a0_2) = some (r1, r2) := by rw [if_neg (show ¬ (false = true) by decide)] at H; exact H
    clear H
    have H := H1
    clear H1
    have H' := Aside0.mk H
    clear H
    have hcz17_0 : wc.cell? ⟨gb1080, 0, none⟩ = some (.int .i64 a0_0) := (blk_cell BK1080.out 0).trans rfl
    have hcz17_1 : wc.cell? ⟨gb1080, 1, none⟩ = some (.int .i64 a0_1) := (blk_cell BK1080.out 1).trans rfl
    have hcz17_2 : wc.cell? ⟨gb1080, 2, none⟩ = some (.int .i64 a0_2) := (blk_cell BK1080.out 2).trans rfl
    have hfz17_0 := blk_frozen BK1080.out 0
    have hfz17_1 := blk_frozen BK1080.out 1
    have hfz17_2 := blk_frozen BK1080.out 2
    (try (have hpz17_1 : ∀ v0_ v1_ : Value, ((wc.setCell ⟨gb1080, 0, none⟩ v0_).setCell ⟨gb1080, 1, none⟩ v1_).cell? ⟨gb1080, 1, none⟩ = some v1_ := by (intros; go_simp)))
    (try (have hpz17_2 : ∀ v0_ v1_ v2_ : Value, (((wc.setCell ⟨gb1080, 0, none⟩ v0_).setCell ⟨gb1080, 1, none⟩ v1_).setCell ⟨gb1080, 2, none⟩ v2_).cell? ⟨gb1080, 2, none⟩ = some v2_ := by (intros; go_simp)))
    go_wp2
    go_loopg [4, 5] kj1 (fun kq v4 v5 w' => ∃ (x4_2 : Int) (x5_2 : Int), v4 = .int .i64 x4_2 ∧ v5 = .int .i64 x5_2 ∧ Aside0 (customsref04_Number.l0 kq x4_2 x5_2 a0_0 a0_1 a0_2 = some (r1, r2)) ∧ Aside0 (kq ≤ kj1) ∧ Aside0 (w'.heap[gb1080]? = some (.cells #[.int .i64 a0_0, .int .i64 a0_1, .int .i64 a0_2] 122 (0, 0))) ∧ Aside0 (Below w.heap.size w w'))
    case atStart => exact ⟨(wrap64 (a0_2 - 1)), (2000), (by first | rfl | (simp; done) | (simp [*]; done)), (by first | rfl | (simp; done) | (simp [*]; done)), H', ⟨Nat.le_refl _⟩, ⟨by (with_reducible repeat (first | refine blk_drewN ?_ _ | refine blk_drew ?_ | refine blk_alloc ?_ _)); exact BK1080.out⟩, ⟨by repeat (first | (with_reducible first | exact HB.out | apply below_alloc | apply pw_below_drewN | apply below_drew1 | refine below_set ?_ GE1080.out) | exact HB.out)⟩⟩
    case round =>
     clear H'
     try clear c1
     try clear p2
     try clear p6
     try clear c10
     try clear c10b0
     try clear c12
     try clear c12b0
     try clear c16
     try clear hcz17_0
     try clear hcz17_1
     try clear hcz17_2
     try clear hfz17_0
     try clear hfz17_1
     try clear hfz17_2
     try clear p2
     obtain ⟨x4_2, x5_2, rfl, rfl, HA, HK2, BK1080, HB⟩ := hrel
     cases gk with
     | zero => exact absurd HA.out (by simp [customsref04_Number.l0])
     | succ k2 =>
      have H := HA.out
      clear HA
      simp only [customsref04_Number.l0] at H
      by_cases c18 : x5_2 < a0_0
      ·
       rw [if_pos c18] at H
       have c18b0 : decide (x5_2 < a0_0) = true := decide_eq_true c18
       clear c18
       replace H := Option.bind_eq_some_iff.mp H
       obtain ⟨t1082, A190, H⟩ := H
       replace H : (customsref04_Number.l0 k2 (wrap64 ((wrap64 (x4_2 + 337)) + t1082)) (wrap64 (x5_2 + 1)) a0_0 a0_1 a0_2) = some (r1, r2) := H
       have A19 := Aside0.mk A190
       clear A190
       have H' := Aside0.mk H
       clear H
       have hcz20_0 : wr.cell? ⟨gb1080, 0, none⟩ = some (.int .i64 a0_0) := (blk_cell BK1080.out 0).trans rfl
       have hcz20_1 : wr.cell? ⟨gb1080, 1, none⟩ = some (.int .i64 a0_1) := (blk_cell BK1080.out 1).trans rfl
       have hcz20_2 : wr.cell? ⟨gb1080, 2, none⟩ = some (.int .i64 a0_2) := (blk_cell BK1080.out 2).trans rfl
       have hfz20_0 := blk_frozen BK1080.out 0
       have hfz20_1 := blk_frozen BK1080.out 1
       have hfz20_2 := blk_frozen BK1080.out 2
       (try (have hpz20_1 : ∀ v0_ v1_ : Value, ((wr.setCell ⟨gb1080, 0, none⟩ v0_).setCell ⟨gb1080, 1, none⟩ v1_).cell? ⟨gb1080, 1, none⟩ = some v1_ := by (intros; go_simp)))
       (try (have hpz20_2 : ∀ v0_ v1_ v2_ : Value, (((wr.setCell ⟨gb1080, 0, none⟩ v0_).setCell ⟨gb1080, 1, none⟩ v1_).setCell ⟨gb1080, 2, none⟩ v2_).cell? ⟨gb1080, 2, none⟩ = some v2_ := by (intros; go_simp)))
       go_wp2_with (first | ((with_reducible refine gate_callee (f := 102) rfl ?_); refine goesL_ (some 52) rfl rfl Tryd.func102 (by kernel_rfl) rfl #[.int .i64 x5_2, .int .i64 2] rfl (by (try simp only [List.map_toArray, List.map_cons, List.map_nil]); first | done | rfl | (simp only [List.length_drop, List.length_take]; rfl)) ?_; (with_reducible refine (customsref04_Long.calls x5_2 2 t1082 _ A19.out).mono ?_); rintro e w' ⟨rfl, ⟨nd, rfl⟩⟩; refine ⟨_, rfl, ?_⟩))
       go_roundg k2
       case measure => have := HJ1.out; have := HK2.out; omega
       case rel => exact ⟨(wrap64 ((wrap64 (x4_2 + 337)) + t1082)), (wrap64 (x5_2 + 1)), (by first | rfl | (simp; done) | (simp [*]; done)), (by first | rfl | (simp; done) | (simp [*]; done)), H', ⟨by have := HJ1.out; have := HK2.out; omega⟩, ⟨by (with_reducible repeat (first | refine blk_drewN ?_ _ | refine blk_drew ?_ | refine blk_alloc ?_ _)); exact BK1080.out⟩, ⟨by repeat (first | (with_reducible first | exact HB.out | apply below_alloc | apply pw_below_drewN | apply below_drew1 | refine below_set ?_ GE1080.out) | exact HB.out)⟩⟩
      ·
       rw [if_neg c18] at H
       have c18b0 : decide (x5_2 < a0_0) = false := decide_eq_false c18
       clear c18
       have H' := Aside0.mk H
       clear H
       have hcz21_0 : wr.cell? ⟨gb1080, 0, none⟩ = some (.int .i64 a0_0) := (blk_cell BK1080.out 0).trans rfl
       have hcz21_1 : wr.cell? ⟨gb1080, 1, none⟩ = some (.int .i64 a0_1) := (blk_cell BK1080.out 1).trans rfl
       have hcz21_2 : wr.cell? ⟨gb1080, 2, none⟩ = some (.int .i64 a0_2) := (blk_cell BK1080.out 2).trans rfl
       have hfz21_0 := blk_frozen BK1080.out 0
       have hfz21_1 := blk_frozen BK1080.out 1
       have hfz21_2 := blk_frozen BK1080.out 2
       (try (have hpz21_1 : ∀ v0_ v1_ : Value, ((wr.setCell ⟨gb1080, 0, none⟩ v0_).setCell ⟨gb1080, 1, none⟩ v1_).cell? ⟨gb1080, 1, none⟩ = some v1_ := by (intros; go_simp)))
       (try (have hpz21_2 : ∀ v0_ v1_ v2_ : Value, (((wr.setCell ⟨gb1080, 0, none⟩ v0_).setCell ⟨gb1080, 1, none⟩ v1_).setCell ⟨gb1080, 2, none⟩ v2_).cell? ⟨gb1080, 2, none⟩ = some v2_ := by (intros; go_simp)))
       go_wp2
       go_loopg [4, 6] k2 (fun kq v4 v6 w' => ∃ (x4_3 : Int) (x6_3 : Int), v4 = .int .i64 x4_3 ∧ v6 = .int .i64 x6_3 ∧ Aside0 (customsref04_Number.l1 kq x4_3 x6_3 a0_0 a0_1 a0_2 = some (r1, r2)) ∧ Aside0 (kq ≤ k2) ∧ Aside0 (w'.heap[gb1080]? = some (.cells #[.int .i64 a0_0, .int .i64 a0_1, .int .i64 a0_2] 122 (0, 0))) ∧ Aside0 (Below w.heap.size w w'))
       case atStart => exact ⟨(x4_2), (1), (by first | rfl | (simp; done) | (simp [*]; done)), (by first | rfl | (simp; done) | (simp [*]; done)), H', ⟨Nat.le_refl _⟩, ⟨by (with_reducible repeat (first | refine blk_drewN ?_ _ | refine blk_drew ?_ | refine blk_alloc ?_ _)); exact BK1080.out⟩, ⟨by repeat (first | (with_reducible first | exact HB.out | apply below_alloc | apply pw_below_drewN | apply below_drew1 | refine below_set ?_ GE1080.out) | exact HB.out)⟩⟩
       case round =>
        clear H'
        try clear c1
        try clear p2
        try clear p6
        try clear c10
        try clear c10b0
        try clear c12
        try clear c12b0
        try clear c16
        try clear c18
        try clear c18b0
        try clear hcz17_0
        try clear hcz17_1
        try clear hcz17_2
        try clear hcz20_0
        try clear hcz20_1
        try clear hcz20_2
        try clear hcz21_0
        try clear hcz21_1
        try clear hcz21_2
        try clear hfz17_0
        try clear hfz17_1
        try clear hfz17_2
        try clear hfz20_0
        try clear hfz20_1
        try clear hfz20_2
        try clear hfz21_0
        try clear hfz21_1
        try clear hfz21_2
        try clear p2
        try clear p6
        obtain ⟨x4_3, x6_3, rfl, rfl, HA, HK3, BK1080, HB⟩ := hrel
        cases gk with
        | zero => exact absurd HA.out (by simp [customsref04_Number.l1])
        | succ k3 =>
         have H := HA.out
         clear HA
         simp only [customsref04_Number.l1] at H
         by_cases c22 : x6_3 < a0_1
         ·
          rw [if_pos c22] at H
          have c22b0 : decide (x6_3 < a0_1) = true := decide_eq_true c22
          clear c22
          replace H := Option.bind_eq_some_iff.mp H
          obtain ⟨t1083, A230, H⟩ := H
          replace H : (customsref04_Number.l1 k3 (wrap64 (x4_3 + t1083)) (wrap64 (x6_3 + 1)) a0_0 a0_1 a0_2) = some (r1, r2) := H
          have A23 := Aside0.mk A230
          clear A230
          have H' := Aside0.mk H
          clear H
          have hcz24_0 : wr.cell? ⟨gb1080, 0, none⟩ = some (.int .i64 a0_0) := (blk_cell BK1080.out 0).trans rfl
          have hcz24_1 : wr.cell? ⟨gb1080, 1, none⟩ = some (.int .i64 a0_1) := (blk_cell BK1080.out 1).trans rfl
          have hcz24_2 : wr.cell? ⟨gb1080, 2, none⟩ = some (.int .i64 a0_2) := (blk_cell BK1080.out 2).trans rfl
          have hfz24_0 := blk_frozen BK1080.out 0
          have hfz24_1 := blk_frozen BK1080.out 1
          have hfz24_2 := blk_frozen BK1080.out 2
          (try (have hpz24_1 : ∀ v0_ v1_ : Value, ((wr.setCell ⟨gb1080, 0, none⟩ v0_).setCell ⟨gb1080, 1, none⟩ v1_).cell? ⟨gb1080, 1, none⟩ = some v1_ := by (intros; go_simp)))
          (try (have hpz24_2 : ∀ v0_ v1_ v2_ : Value, (((wr.setCell ⟨gb1080, 0, none⟩ v0_).setCell ⟨gb1080, 1, none⟩ v1_).setCell ⟨gb1080, 2, none⟩ v2_).cell? ⟨gb1080, 2, none⟩ = some v2_ := by (intros; go_simp)))
          go_wp2_with (first | ((with_reducible refine gate_callee (f := 102) rfl ?_); refine goesL_ (some 64) rfl rfl Tryd.func102 (by kernel_rfl) rfl #[.int .i64 a0_0, .int .i64 x6_3] rfl (by (try simp only [List.map_toArray, List.map_cons, List.map_nil]); first | done | rfl | (simp only [List.length_drop, List.length_take]; rfl)) ?_; (with_reducible refine (customsref04_Long.calls a0_0 x6_3 t1083 _ A23.out).mono ?_); rintro e w' ⟨rfl, ⟨nd, rfl⟩⟩; refine ⟨_, rfl, ?_⟩))
          go_roundg k3
          case measure => have := HJ1.out; have := HK2.out; have := HK3.out; omega
          case rel => exact ⟨(wrap64 (x4_3 + t1083)), (wrap64 (x6_3 + 1)), (by first | rfl | (simp; done) | (simp [*]; done)), (by first | rfl | (simp; done) | (simp [*]; done)), H', ⟨by have := HJ1.out; have := HK2.out; have := HK3.out; omega⟩, ⟨by (with_reducible repeat (first | refine blk_drewN ?_ _ | refine blk_drew ?_ | refine blk_alloc ?_ _)); exact BK1080.out⟩, ⟨by repeat (first | (with_reducible first | exact HB.out | apply below_alloc | apply pw_below_drewN | apply below_drew1 | refine below_set ?_ GE1080.out) | exact HB.out)⟩⟩
         ·
          rw [if_neg c22] at H
          have c22b0 : decide (x6_3 < a0_1) = false := decide_eq_false c22
          clear c22
          simp only [Option.some.injEq, Prod.mk.injEq] at H
          obtain ⟨rfl, rfl⟩ := H
          have hcz25_0 : wr.cell? ⟨gb1080, 0, none⟩ = some (.int .i64 a0_0) := (blk_cell BK1080.out 0).trans rfl
          have hcz25_1 : wr.cell? ⟨gb1080, 1, none⟩ = some (.int .i64 a0_1) := (blk_cell BK1080.out 1).trans rfl
          have hcz25_2 : wr.cell? ⟨gb1080, 2, none⟩ = some (.int .i64 a0_2) := (blk_cell BK1080.out 2).trans rfl
          have hfz25_0 := blk_frozen BK1080.out 0
          have hfz25_1 := blk_frozen BK1080.out 1
          have hfz25_2 := blk_frozen BK1080.out 2
          (try (have hpz25_1 : ∀ v0_ v1_ : Value, ((wr.setCell ⟨gb1080, 0, none⟩ v0_).setCell ⟨gb1080, 1, none⟩ v1_).cell? ⟨gb1080, 1, none⟩ = some v1_ := by (intros; go_simp)))
          (try (have hpz25_2 : ∀ v0_ v1_ v2_ : Value, (((wr.setCell ⟨gb1080, 0, none⟩ v0_).setCell ⟨gb1080, 1, none⟩ v1_).setCell ⟨gb1080, 2, none⟩ v2_).cell? ⟨gb1080, 2, none⟩ = some v2_ := by (intros; go_simp)))
          go_wp2
          go_ret2
          exact ⟨by first | rfl | (simp [errW_none, errW_some] <;> rfl) | (simp [*, errW_none, errW_some] <;> rfl), by repeat (first | (with_reducible first | exact HB.out | apply below_alloc | apply pw_below_drewN | apply below_drew1 | refine below_set ?_ GE1080.out) | exact HB.out)⟩

def customsref04_AddMonths.j0 : Nat → Int → Bool → Int → Int → Int → Option (Int × Int)
 | 0, _, _, _, _, _ => none
 | k + 1, x1, x24, x1089000, x1089001, x1089002 => if x24 = true then (some (0, 2)) else ((customsref04_Long.f (wrap64 (Int.tdiv (wrap64 ((wrap64 ((wrap64 ((wrap64 (12 * x1089000)) + x1089001)) - 1)) + x1)) 12)) (wrap64 ((Int.tmod (wrap64 ((wrap64 ((wrap64 ((wrap64 (12 * x1089000)) + x1089001)) - 1)) + x1)) 12) + 1))).bind fun t1089 => ((customsref04_Number.f k (wrap64 (Int.tdiv (wrap64 ((wrap64 ((wrap64 ((wrap64 (12 * x1089000)) + x1089001)) - 1)) + x1)) 12)) (wrap64 ((Int.tmod (wrap64 ((wrap64 ((wrap64 ((wrap64 (12 * x1089000)) + x1089001)) - 1)) + x1)) 12) + 1)) (mn x1089002 t1089)).bind fun bt1090 => (if bt1090.2 = 0 then (some (bt1090.1, 0)) else (some (0, 3)))))
def customsref04_AddMonths.f (k : Nat) (a0 : Int) (a1 : Int) : Option (Int × Int) := (customsref04_Of.f k a0).bind fun bt1084 => (if bt1084.2.2.2 = 0 then (if a1 < (-1200) then (customsref04_AddMonths.j0 k a1 true bt1084.1 bt1084.2.1 bt1084.2.2.1) else (customsref04_AddMonths.j0 k a1 (decide (a1 > 1200)) bt1084.1 bt1084.2.1 bt1084.2.2.1)) else (customsref04_AddMonths.j0 k a1 true bt1084.1 bt1084.2.1 bt1084.2.2.1))
def customsref04_AddMonths.T6 : Bool × List (List Nat × List Nat) := (true, [([], []), ([0], [0]), ([], []), ([2], [2]), ([], []), ([4], [4]), ([3, 5], [3, 5]), ([1, 6], [1, 6]), ([0, 1, 2, 3, 4, 5, 6, 7], []), ([8, 7, 6, 0, 1, 2, 3, 4, 5, 6, 7], [7, 8])])
def customsref04_AddMonths.B6 : List Nat := [0, 1, 0, 4, 0, 16, 60, 127, 255, 511]
theorem customsref04_AddMonths.tab6 : rtab .any (opsOf Tryd.f83 6) = customsref04_AddMonths.T6 := by kernel_rfl
theorem customsref04_AddMonths.bits6 : waitsOk customsref04_AddMonths.T6.2 customsref04_AddMonths.B6 = true := by kernel_rfl
set_option maxHeartbeats 8000000 in
set_option maxRecDepth 100000 in
theorem customsref04_AddMonths.calls (k : Nat) (a0 : Int) (a1 : Int) (r1 : Int) (r2 : Int) (w : World) (h : customsref04_AddMonths.f k a0 a1 = some (r1, r2)) :
  Calls Tryd.prog 83 #[.int .i64 a0, .int .i64 a1] w fun e w' => e = .returned (.tuple #[.int .i64 r1, .int .i64 r2]) ∧ Below w.heap.size w w' := by
 have hu122 := Tryd.underlying122
 have HB := Aside0.mk (Below.refl w.heap.size w)
 have H : ((customsref04_Of.f k a0).bind fun bt1084 => (if bt1084.2.2.2 = 0 then (if a1 < (-1200) then (customsref04_AddMonths.j0 k a1 true bt1084.1 bt1084.2.1 bt1084.2.2.1) else (customsref04_AddMonths.j0 k a1 (decide (a1 > 1200)) bt1084.1 bt1084.2.1 bt1084.2.2.1)) else (customsref04_AddMonths.j0 k a1 true bt1084.1 bt1084.2.1 bt1084.2.2.1))) = some (r1, r2) := h
 clear h
 replace H := Option.bind_eq_some_iff.mp H
 obtain ⟨⟨t1084, t1085, t1086, t1087⟩, A30, H⟩ := H
 replace H : (if t1087 = 0 then (if a1 < (-1200) then (customsref04_AddMonths.j0 k a1 true t1084 t1085 t1086) else (customsref04_AddMonths.j0 k a1 (decide (a1 > 1200)) t1084 t1085 t1086)) else (customsref04_AddMonths.j0 k a1 true t1084 t1085 t1086)) = some (r1, r2) := H
 have A3 := Aside0.mk A30
 clear A30
 have HC4 := Aside0.mk H
 clear H
 go_enter Tryd.func83, Tryd.ntmps83
 go_upto_region 2 with (first | ((with_reducible refine gate_callee (f := 101) rfl ?_); refine goesL_ (some 12) rfl rfl Tryd.func101 (by kernel_rfl) rfl #[.int .i64 a0] rfl (by (try simp only [List.map_toArray, List.map_cons, List.map_nil]); first | done | rfl | (simp only [List.length_drop, List.length_take]; rfl)) ?_; (with_reducible refine (customsref04_Of.calls k a0 t1084 t1085 t1086 t1087 _ A3.out).mono ?_); rintro e w5 ⟨rfl, hb⟩; refine ⟨_, rfl, ?_⟩; have n0_ := Aside0.mk (below_step HB.out hb); clear HB; have HB := n0_; clear n0_; (try clear hb); (try clear hb2); (try clear hk); (try clear hi)) | ((with_reducible refine gate_dst (N := 6) rfl ?_); refine box_event ?hg (N := 6) ?hd (cs := #[.int .i64 0, .int .i64 0, .int .i64 0]) (t := 122) ?hr ?_; (case hd => rfl); (case hg => rfl); (case hr => first | (go_simp; done) | (go_simp; rfl)); intro gb1088 hg w6 hbox hb; have n0_ := Aside0.mk (below_step HB.out hb); have n1_ := Aside0.mk (hbox); have n2_ := Aside0.mk ((by rw [hg]; exact (below_size HB.out) : w.heap.size ≤ gb1088)); have n3_ := Aside0.mk ((by rw [hg]; exact (below_size HB.out) : w.heap.size ≤ gb1088)); clear HB; have HB := n0_; have BK1088 := n1_; have GW1088 := n2_; have GE1088 := n3_; clear n0_ n1_ n2_ n3_; clear hb hbox hg; have hcz7_0 : w6.cell? ⟨gb1088, 0, none⟩ = some (.int .i64 0) := (blk_cell BK1088.out 0).trans rfl; have hcz7_1 : w6.cell? ⟨gb1088, 1, none⟩ = some (.int .i64 0) := (blk_cell BK1088.out 1).trans rfl; have hcz7_2 : w6.cell? ⟨gb1088, 2, none⟩ = some (.int .i64 0) := (blk_cell BK1088.out 2).trans rfl; have hfz7_0 := blk_frozen BK1088.out 0; have hfz7_1 := blk_frozen BK1088.out 1; have hfz7_2 := blk_frozen BK1088.out 2; (try (have hpz7_1 : ∀ v0_ v1_ : Value, ((w6.setCell ⟨gb1088, 0, none⟩ v0_).setCell ⟨gb1088, 1, none⟩ v1_).cell? ⟨gb1088, 1, none⟩ = some v1_ := by (intros; go_simp))); (try (have hpz7_2 : ∀ v0_ v1_ v2_ : Value, (((w6.setCell ⟨gb1088, 0, none⟩ v0_).setCell ⟨gb1088, 1, none⟩ v1_).setCell ⟨gb1088, 2, none⟩ v2_).cell? ⟨gb1088, 2, none⟩ = some v2_ := by (intros; go_simp)))))
 (try simp only [Act.put, List.setIfInBounds_toArray, List.set_cons_zero, List.set_cons_succ])
 go_cut [24] (fun v24 wc => ∃ (kq : Nat) (x24_3 : Bool), v24 = .bool x24_3 ∧ Aside0 (customsref04_AddMonths.j0 kq a1 x24_3 t1084 t1085 t1086 = some (r1, r2)) ∧ Aside0 (kq ≤ k) ∧ Aside0 (wc.heap[gb1088]? = some (.cells #[.int .i64 t1084, .int .i64 t1085, .int .i64 t1086] 122 (0, 0))) ∧ Aside0 (Below w.heap.size w wc))
 case first =>
  have H := HC4.out
  clear HC4
  by_cases c8 : t1087 = 0
  ·
   rw [if_pos c8] at H
   have c8b0 : (t1087 == 0) = true := beq_iff_eq.mpr c8
   have c8b1 : (t1087 != 0) = false := bne_eq_false_iff_eq.mpr c8
   clear c8
   (first | rw [c8b0] | (simp only [i64_w, i32_w]; rw [c8b0]) | skip)
   by_cases c9 : a1 < (-1200)
   ·
    rw [if_pos c9] at H
    have c9b0 : decide (a1 < (-1200)) = true := decide_eq_true c9
    clear c9
    have H' := Aside0.mk H
    clear H
    go_wp2
    go_meet
    case rel => exact ⟨_, (true), (by first | rfl | (simp; done) | (simp [*]; done)), H', ⟨by first | omega | exact Nat.le_refl _⟩, ⟨by (with_reducible repeat (first | refine blk_drewN ?_ _ | refine blk_drew ?_ | refine blk_alloc ?_ _)); refine blk_put (cs := #[.int .i64 t1084, .int .i64 t1085, .int .i64 0]) ?_ 2 _ rfl; (with_reducible repeat (first | refine blk_drewN ?_ _ | refine blk_drew ?_ | refine blk_alloc ?_ _)); refine blk_put (cs := #[.int .i64 t1084, .int .i64 0, .int .i64 0]) ?_ 1 _ rfl; (with_reducible repeat (first | refine blk_drewN ?_ _ | refine blk_drew ?_ | refine blk_alloc ?_ _)); refine blk_put (cs := #[.int .i64 0, .int .i64 0, .int .i64 0]) ?_ 0 _ rfl; (with_reducible repeat (first | refine blk_drewN ?_ _ | refine blk_drew ?_ | refine blk_alloc ?_ _)); exact BK1088.out⟩, ⟨by repeat (first | (with_reducible first | exact HB.out | apply below_alloc | apply pw_below_drewN | apply below_drew1 | refine below_set ?_ GE1088.out) | exact HB.out)⟩⟩
   ·
    rw [if_neg c9] at H
    have c9b0 : decide (a1 < (-1200)) = false := decide_eq_false c9
    clear c9
    have H' := Aside0.mk H
    clear H
    go_wp2
    go_meet
    case rel => exact ⟨_, (decide (a1 > 1200)), (by first | rfl | (simp; done) | (simp [*]; done)), H', ⟨by first | omega | exact Nat.le_refl _⟩, ⟨by (with_reducible repeat (first | refine blk_drewN ?_ _ | refine blk_drew ?_ | refine blk_alloc ?_ _)); refine blk_put (cs := #[.int .i64 t1084, .int .i64 t1085, .int .i64 0]) ?_ 2 _ rfl; (with_reducible repeat (first | refine blk_drewN ?_ _ | refine blk_drew ?_ | refine blk_alloc ?_ _)); refine blk_put (cs := #[.int .i64 t1084, .int .i64 0, .int .i64 0]) ?_ 1 _ rfl; (with_reducible repeat (first | refine blk_drewN ?_ _ | refine blk_drew ?_ | refine blk_alloc ?_ _)); refine blk_put (cs := #[.int .i64 0, .int .i64 0, .int .i64 0]) ?_ 0 _ rfl; (with_reducible repeat (first | refine blk_drewN ?_ _ | refine blk_drew ?_ | refine blk_alloc ?_ _)); exact BK1088.out⟩, ⟨by repeat (first | (with_reducible first | exact HB.out | apply below_alloc | apply pw_below_drewN | apply below_drew1 | refine below_set ?_ GE1088.out) | exact HB.out)⟩⟩
  ·
   rw [if_neg c8] at H
   have c8b0 : (t1087 == 0) = false := beq_eq_false_iff_ne.mpr c8
   have c8b1 : (t1087 != 0) = true := bne_iff_ne.mpr c8
   (first | rw [c8b0] | (simp only [i64_w, i32_w]; rw [c8b0]) | skip)
   have H' := Aside0.mk H
   clear H
   go_wp2
   go_meet
   case rel => exact ⟨_, (true), (by first | rfl | (simp; done) | (simp [*]; done)), H', ⟨by first | omega | exact Nat.le_refl _⟩, ⟨by (with_reducible repeat (first | refine blk_drewN ?_ _ | refine blk_drew ?_ | refine blk_alloc ?_ _)); refine blk_put (cs := #[.int .i64 t1084, .int .i64 t1085, .int .i64 0]) ?_ 2 _ rfl; (with_reducible repeat (first | refine blk_drewN ?_ _ | refine blk_drew ?_ | refine blk_alloc ?_ _)); refine blk_put (cs := #[.int .i64 t1084, .int .i64 0, .int .i64 0]) ?_ 1 _ rfl; (with_reducible repeat (first | refine blk_drewN ?_ _ | refine blk_drew ?_ | refine blk_alloc ?_ _)); refine blk_put (cs := #[.int .i64 0, .int .i64 0, .int .i64 0]) ?_ 0 _ rfl; (with_reducible repeat (first | refine blk_drewN ?_ _ | refine blk_drew ?_ | refine blk_alloc ?_ _)); exact BK1088.out⟩, ⟨by repeat (first | (with_reducible first | exact HB.out | apply below_alloc | apply pw_below_drewN | apply below_drew1 | refine below_set ?_ GE1088.out) | exact HB.out)⟩⟩
 case rest =>
  clear HC4
  try clear c1
  try clear p2
  try clear c8
  try clear c8b0
  try clear c8b1
  try clear c9
  try clear c9b0
  try clear hcz7_0
  try clear hcz7_1
  try clear hcz7_2
  try clear hfz7_0
  try clear hfz7_1
  try clear hfz7_2
  obtain ⟨kq, x24_3, rfl, HA, HJ3, BK1088, HB⟩ := hcut
  cases kq with
  | zero => exact absurd HA.out (by simp [customsref04_AddMonths.j0])
  | succ kj3 =>
   have H := HA.out
   clear HA
   simp only [customsref04_AddMonths.j0] at H
   by_cases c10 : x24_3 = true
   ·
    subst c10
    have H1 : (some (0, 2)) = some (r1, r2) := by rw [if_pos rfl] at H; exact H
    clear H
    have H := H1
    clear H1
    simp only [Option.some.injEq, Prod.mk.injEq] at H
    obtain ⟨rfl, rfl⟩ := H
    go_wp2
    go_ret2
    exact ⟨by first | rfl | (simp [errW_none, errW_some] <;> rfl) | (simp [*, errW_none, errW_some] <;> rfl), by repeat (first | (with_reducible first | exact HB.out | apply below_alloc | apply pw_below_drewN | apply below_drew1 | refine below_set ?_ GE1088.out) | exact HB.out)⟩
   ·
    replace c10 := Bool.eq_false_iff.mpr c10
    subst c10
    have H1 : ((customsref04_Long.f (wrap64 (Int.tdiv (wrap64 ((wrap64 ((wrap64 ((wrap64 (12 * t1084)) + t1085)) - 1)) + a1)) 12)) (wrap64 ((Int.tmod (wrap64 ((wrap64 ((wrap64 ((wrap64 (12 * t1084)) + t1085)) - 1)) + a1)) 12) + 1))).bind fun t1089 => ((customsref04_Number.f kj3 (wrap64 (Int.tdiv (wrap64 ((wrap64 ((wrap64 ((wrap64 (12 * t1084)) + t1085)) - 1)) + a1)) 12)) (wrap64 ((Int.tmod (wrap64 ((wrap64 ((wrap64 ((wrap64 (12 * t1084)) + t1085)) - 1)) + a1)) 12) + 1)) (mn t1086 t1089)).bind fun bt1090 => (if bt1090.2 = 0 then (some (bt1090.1, 0)) else (some (0, 3))))) = some (r1, r2) := by rw [if_neg (show ¬ (false = true) by decide)] at H; exact H
    clear H
    have H := H1
    clear H1
    replace H := Option.bind_eq_some_iff.mp H
    obtain ⟨t1089, A110, H⟩ := H
    replace H : ((customsref04_Number.f kj3 (wrap64 (Int.tdiv (wrap64 ((wrap64 ((wrap64 ((wrap64 (12 * t1084)) + t1085)) - 1)) + a1)) 12)) (wrap64 ((Int.tmod (wrap64 ((wrap64 ((wrap64 ((wrap64 (12 * t1084)) + t1085)) - 1)) + a1)) 12) + 1)) (mn t1086 t1089)).bind fun bt1090 => (if bt1090.2 = 0 then (some (bt1090.1, 0)) else (some (0, 3)))) = some (r1, r2) := H
    have A11 := Aside0.mk A110
    clear A110
    obtain ⟨ji12, hji12⟩ : ∃ j_ : Int, (mn t1086 t1089) = j_ := ⟨_, rfl⟩
    replace H : ((customsref04_Number.f kj3 (wrap64 (Int.tdiv (wrap64 ((wrap64 ((wrap64 ((wrap64 (12 * t1084)) + t1085)) - 1)) + a1)) 12)) (wrap64 ((Int.tmod (wrap64 ((wrap64 ((wrap64 ((wrap64 (12 * t1084)) + t1085)) - 1)) + a1)) 12) + 1)) (ji12)).bind fun bt1090 => (if bt1090.2 = 0 then (some (bt1090.1, 0)) else (some (0, 3)))) = some (r1, r2) := by first | (rw [hji12] at H; exact H) | (simp only [hji12] at H ⊢; exact H)
    (try rw [hji12] at A11)
    have hji12_ : (if t1089 < t1086 then t1089 else t1086) = ji12 := hji12
    replace H := Option.bind_eq_some_iff.mp H
    obtain ⟨⟨t1090, t1091⟩, A130, H⟩ := H
    replace H : (if t1091 = 0 then (some (t1090, 0)) else (some (0, 3))) = some (r1, r2) := H
    have A13 := Aside0.mk A130
    clear A130
    by_cases c14 : t1091 = 0
    ·
     rw [if_pos c14] at H
     have c14b0 : (t1091 == 0) = true := beq_iff_eq.mpr c14
     have c14b1 : (t1091 != 0) = false := bne_eq_false_iff_eq.mpr c14
     clear c14
     simp only [Option.some.injEq, Prod.mk.injEq] at H
     obtain ⟨rfl, rfl⟩ := H
     have hcz15_0 : wc.cell? ⟨gb1088, 0, none⟩ = some (.int .i64 t1084) := (blk_cell BK1088.out 0).trans rfl
     have hcz15_1 : wc.cell? ⟨gb1088, 1, none⟩ = some (.int .i64 t1085) := (blk_cell BK1088.out 1).trans rfl
     have hcz15_2 : wc.cell? ⟨gb1088, 2, none⟩ = some (.int .i64 t1086) := (blk_cell BK1088.out 2).trans rfl
     have hfz15_0 := blk_frozen BK1088.out 0
     have hfz15_1 := blk_frozen BK1088.out 1
     have hfz15_2 := blk_frozen BK1088.out 2
     (try (have hpz15_1 : ∀ v0_ v1_ : Value, ((wc.setCell ⟨gb1088, 0, none⟩ v0_).setCell ⟨gb1088, 1, none⟩ v1_).cell? ⟨gb1088, 1, none⟩ = some v1_ := by (intros; go_simp)))
     (try (have hpz15_2 : ∀ v0_ v1_ v2_ : Value, (((wc.setCell ⟨gb1088, 0, none⟩ v0_).setCell ⟨gb1088, 1, none⟩ v1_).setCell ⟨gb1088, 2, none⟩ v2_).cell? ⟨gb1088, 2, none⟩ = some v2_ := by (intros; go_simp)))
     try go_wp2
     have n0_ : Aside0 (((wc.setCell ⟨gb1088, 0, none⟩ (.int .i64 (wrap64 (Int.tdiv (wrap64 ((wrap64 ((wrap64 ((wrap64 (12 * t1084)) + t1085)) - 1)) + a1)) 12)))).setCell ⟨gb1088, 1, none⟩ (.int .i64 (wrap64 ((Int.tmod (wrap64 ((wrap64 ((wrap64 ((wrap64 (12 * t1084)) + t1085)) - 1)) + a1)) 12) + 1)))).heap[gb1088]? = some (.cells #[.int .i64 (wrap64 (Int.tdiv (wrap64 ((wrap64 ((wrap64 ((wrap64 (12 * t1084)) + t1085)) - 1)) + a1)) 12)), .int .i64 (wrap64 ((Int.tmod (wrap64 ((wrap64 ((wrap64 ((wrap64 (12 * t1084)) + t1085)) - 1)) + a1)) 12) + 1)), .int .i64 t1086] 122 (0, 0))) := ⟨by (with_reducible repeat (first | refine blk_drewN ?_ _ | refine blk_drew ?_ | refine blk_alloc ?_ _)); refine blk_put (cs := #[.int .i64 (wrap64 (Int.tdiv (wrap64 ((wrap64 ((wrap64 ((wrap64 (12 * t1084)) + t1085)) - 1)) + a1)) 12)), .int .i64 t1085, .int .i64 t1086]) ?_ 1 _ rfl; (with_reducible repeat (first | refine blk_drewN ?_ _ | refine blk_drew ?_ | refine blk_alloc ?_ _)); refine blk_put (cs := #[.int .i64 t1084, .int .i64 t1085, .int .i64 t1086]) ?_ 0 _ rfl; (with_reducible repeat (first | refine blk_drewN ?_ _ | refine blk_drew ?_ | refine blk_alloc ?_ _)); exact BK1088.out⟩
     have n1_ : Aside0 (Below w.heap.size w ((wc.setCell ⟨gb1088, 0, none⟩ (.int .i64 (wrap64 (Int.tdiv (wrap64 ((wrap64 ((wrap64 ((wrap64 (12 * t1084)) + t1085)) - 1)) + a1)) 12)))).setCell ⟨gb1088, 1, none⟩ (.int .i64 (wrap64 ((Int.tmod (wrap64 ((wrap64 ((wrap64 ((wrap64 (12 * t1084)) + t1085)) - 1)) + a1)) 12) + 1))))) := ⟨by repeat (first | (with_reducible first | exact HB.out | apply below_alloc | apply pw_below_drewN | apply below_drew1 | refine below_set ?_ GE1088.out) | exact HB.out)⟩
     (try clear BK1088)
     (try clear HB)
     generalize ((wc.setCell ⟨gb1088, 0, none⟩ (.int .i64 (wrap64 (Int.tdiv (wrap64 ((wrap64 ((wrap64 ((wrap64 (12 * t1084)) + t1085)) - 1)) + a1)) 12)))).setCell ⟨gb1088, 1, none⟩ (.int .i64 (wrap64 ((Int.tmod (wrap64 ((wrap64 ((wrap64 ((wrap64 (12 * t1084)) + t1085)) - 1)) + a1)) 12) + 1)))) = w16 at n0_ n1_ ⊢
     have BK1088 := n0_
     have HB := n1_
     clear n0_ n1_
     have n0_ := Aside0.mk (blk_drew BK1088.out)
     have n1_ := Aside0.mk (below_drew1 HB.out)
     clear BK1088
     clear HB
     have BK1088 := n0_
     have HB := n1_
     clear n0_ n1_
     refine start_ (n := 10) (S := fun w' => w'.cell? ⟨gb1088, 0, none⟩ = some (.int .i64 (wrap64 (Int.tdiv (wrap64 ((wrap64 ((wrap64 ((wrap64 (12 * t1084)) + t1085)) - 1)) + a1)) 12))) ∧ w'.cell? ⟨gb1088, 1, none⟩ = some (.int .i64 (wrap64 ((Int.tmod (wrap64 ((wrap64 ((wrap64 ((wrap64 (12 * t1084)) + t1085)) - 1)) + a1)) 12) + 1))) ∧ w'.cell? ⟨gb1088, 2, none⟩ = some (.int .i64 t1086)) (ds := [9]) (bmask 10 0) (by kernel_rfl) rfl (by kernel_rfl) ⟨(blk_cell BK1088.out 0).trans rfl, (blk_cell BK1088.out 1).trans rfl, (blk_cell BK1088.out 2).trans rfl⟩ (fun hHeld => ?_); refine with_tabW customsref04_AddMonths.tab6 customsref04_AddMonths.bits6 (fun HT_ HW_ => ?_)
     generalize w16.drew = w17 at BK1088 HB hHeld ⊢
     refine pure_ (i := 0) (N := some 41) (v := ?_) (a' := ?_) (bmask 10 1) rfl rfl (any_of HT_.out (by kernel_rfl)) (fun _ _ _ h => h) (Or.inl ⟨by rfl, ?_⟩) ?_ ?_
     rotate_left
     ·
      intro w'
      go_simp
      with_reducible rfl
     rotate_left
     ·
      simp only [Act.put, List.setIfInBounds_toArray, List.set_cons_zero, List.set_cons_succ, i64_w, i32_w]
      rfl
     refine pure_ (i := 2) (N := some 43) (v := ?_) (a' := ?_) (bmask 10 5) rfl rfl (any_of HT_.out (by kernel_rfl)) (fun _ _ _ h => h) (Or.inl ⟨by rfl, ?_⟩) ?_ ?_
     rotate_left
     ·
      intro w'
      go_simp
      with_reducible rfl
     rotate_left
     ·
      simp only [Act.put, List.setIfInBounds_toArray, List.set_cons_zero, List.set_cons_succ, i64_w, i32_w]
      rfl
     refine pure_ (i := 4) (N := some 45) (v := ?_) (a' := ?_) (bmask 10 21) rfl rfl (any_of HT_.out (by kernel_rfl)) (fun _ _ _ h => h) (Or.inl ⟨by rfl, ?_⟩) ?_ ?_
     rotate_left
     ·
      intro w'
      go_simp
      with_reducible rfl
     rotate_left
     ·
      simp only [Act.put, List.setIfInBounds_toArray, List.set_cons_zero, List.set_cons_succ, i64_w, i32_w]
      rfl
     refine take_ (i := 1) (N := some 42) (v := ?_) (a' := ?_) (bmask 10 23) rfl rfl (take_ofW HT_.out HW_.out (by kernel_rfl)) (fun _ _ _ h => h) (Or.inl ⟨by rfl, ?_⟩) hHeld ?_ ?_
     rotate_left
     ·
      rintro w' ⟨s0, s1, s2⟩
      go_simp
      with_reducible rfl
     rotate_left
     ·
      simp only [Act.put, List.setIfInBounds_toArray, List.set_cons_zero, List.set_cons_succ, i64_w, i32_w]
      rfl
     refine take_ (i := 3) (N := some 44) (v := ?_) (a' := ?_) (bmask 10 31) rfl rfl (take_ofW HT_.out HW_.out (by kernel_rfl)) (fun _ _ _ h => h) (Or.inl ⟨by rfl, ?_⟩) hHeld ?_ ?_
     rotate_left
     ·
      rintro w' ⟨s0, s1, s2⟩
      go_simp
      with_reducible rfl
     rotate_left
     ·
      simp only [Act.put, List.setIfInBounds_toArray, List.set_cons_zero, List.set_cons_succ, i64_w, i32_w]
      rfl
     refine take_ (i := 5) (N := some 46) (v := ?_) (a' := ?_) (bmask 10 63) rfl rfl (take_ofW HT_.out HW_.out (by kernel_rfl)) (fun _ _ _ h => h) (Or.inl ⟨by rfl, ?_⟩) hHeld ?_ ?_
     rotate_left
     ·
      rintro w' ⟨s0, s1, s2⟩
      go_simp
      with_reducible rfl
     rotate_left
     ·
      simp only [Act.put, List.setIfInBounds_toArray, List.set_cons_zero, List.set_cons_succ, i64_w, i32_w]
      rfl
     refine one_ (i := 6) (N := some 47) (bmask 10 127) rfl rfl (one_of HT_.out (by kernel_rfl)) (by decide) (fun K hK => ?_)
     refine goes_ Tryd.func102 (by kernel_rfl) rfl #[.int .i64 (wrap64 (Int.tdiv (wrap64 ((wrap64 ((wrap64 ((wrap64 (12 * t1084)) + t1085)) - 1)) + a1)) 12)), .int .i64 (wrap64 ((Int.tmod (wrap64 ((wrap64 ((wrap64 ((wrap64 (12 * t1084)) + t1085)) - 1)) + a1)) 12) + 1))] (by rfl) rfl rfl (by (try simp only [List.map_toArray, List.map_cons, List.map_nil]); first | done | rfl | (simp only [List.length_drop, List.length_take]; rfl)) ?_
     with_reducible refine (customsref04_Long.calls (wrap64 (Int.tdiv (wrap64 ((wrap64 ((wrap64 ((wrap64 (12 * t1084)) + t1085)) - 1)) + a1)) 12)) (wrap64 ((Int.tmod (wrap64 ((wrap64 ((wrap64 ((wrap64 (12 * t1084)) + t1085)) - 1)) + a1)) 12) + 1)) t1089 _ A11.out).mono ?_
     rintro e w' ⟨rfl, ⟨nd, rfl⟩⟩
     refine ⟨_, rfl, ?_⟩
     refine hK.out _ _ ⟨(blk_cell BK1088.out 0).trans rfl, (blk_cell BK1088.out 1).trans rfl, (blk_cell BK1088.out 2).trans rfl⟩ (fun hHeld => ?_)
     clear hK K
     refine norm_ (a' := ?_) ?_ ?_
     rotate_left
     ·
      show Act.put _ (some 47) _ = _
      simp only [Act.put, List.setIfInBounds_toArray, List.set_cons_zero, List.set_cons_succ, i64_w, i32_w]
      rfl
     refine pure_ (i := 7) (N := some 48) (v := ?_) (a' := ?_) (bmask 10 255) rfl rfl (any_of HT_.out (by kernel_rfl)) (fun _ _ _ h => h) (Or.inl ⟨by rfl, ?_⟩) ?_ ?_
     rotate_left
     ·
      intro w'
      go_simp
      with_reducible rfl
     rotate_left
     ·
      simp only [Act.put, List.setIfInBounds_toArray, List.set_cons_zero, List.set_cons_succ, i64_w, i32_w]
      rfl
     refine pure_ (i := 8) (N := some 49) (v := ?_) (a' := ?_) (bmask 10 511) rfl rfl (any_of HT_.out (by kernel_rfl)) (fun _ _ _ h => h) (Or.inl ⟨by rfl, ?_⟩) ?_ ?_
     rotate_left
     ·
      intro w'
      go_simp
      with_reducible rfl
     rotate_left
     ·
      simp only [Act.put, List.setIfInBounds_toArray, List.set_cons_zero, List.set_cons_succ, i64_w, i32_w]
      rfl
     refine last_ (i := 9) (N := none) (bmask 10 1023) rfl rfl (one_of HT_.out (by kernel_rfl)) (by decide) (fun K hK => ?_)
     have hs18 : w17.cell? ⟨gb1088, 2, none⟩ = some (.int .i64 t1086) := (blk_cell BK1088.out 2).trans rfl
     have hfs18 := blk_frozen BK1088.out 2
     refine skip_ (w1 := ?_) (by rfl) rfl ?_ ?_
     rotate_left
     ·
      go_simp
      rfl
     refine hK.out _ _ ?_
     clear hK K
     refine done_ (done_of HT_.out (by kernel_rfl)) ?_
     have hcz19_0 : w17.cell? ⟨gb1088, 0, none⟩ = some (.int .i64 (wrap64 (Int.tdiv (wrap64 ((wrap64 ((wrap64 ((wrap64 (12 * t1084)) + t1085)) - 1)) + a1)) 12))) := (blk_cell BK1088.out 0).trans rfl
     have hcz19_1 : w17.cell? ⟨gb1088, 1, none⟩ = some (.int .i64 (wrap64 ((Int.tmod (wrap64 ((wrap64 ((wrap64 ((wrap64 (12 * t1084)) + t1085)) - 1)) + a1)) 12) + 1))) := (blk_cell BK1088.out 1).trans rfl
     have hcz19_2 : w17.cell? ⟨gb1088, 2, none⟩ = some (.int .i64 t1086) := (blk_cell BK1088.out 2).trans rfl
     have hfz19_0 := blk_frozen BK1088.out 0
     have hfz19_1 := blk_frozen BK1088.out 1
     have hfz19_2 := blk_frozen BK1088.out 2
     (try (have hpz19_1 : ∀ v0_ v1_ : Value, ((w17.setCell ⟨gb1088, 0, none⟩ v0_).setCell ⟨gb1088, 1, none⟩ v1_).cell? ⟨gb1088, 1, none⟩ = some v1_ := by (intros; go_simp)))
     (try (have hpz19_2 : ∀ v0_ v1_ v2_ : Value, (((w17.setCell ⟨gb1088, 0, none⟩ v0_).setCell ⟨gb1088, 1, none⟩ v1_).setCell ⟨gb1088, 2, none⟩ v2_).cell? ⟨gb1088, 2, none⟩ = some v2_ := by (intros; go_simp)))
     try go_wp2_with (first | ((with_reducible refine gate_callee (f := 103) rfl ?_); refine goesL_ (some 52) rfl rfl Tryd.func103 (by kernel_rfl) rfl #[.agg #[.int .i64 (wrap64 (Int.tdiv (wrap64 ((wrap64 ((wrap64 ((wrap64 (12 * t1084)) + t1085)) - 1)) + a1)) 12)), .int .i64 (wrap64 ((Int.tmod (wrap64 ((wrap64 ((wrap64 ((wrap64 (12 * t1084)) + t1085)) - 1)) + a1)) 12) + 1)), .int .i64 ji12]] rfl (by (try simp only [List.map_toArray, List.map_cons, List.map_nil]); first | done | (simp only [hji12]; rfl) | rfl | (simp only [List.length_drop, List.length_take]; rfl)) ?_; (with_reducible refine (customsref04_Number.calls kj3 (wrap64 (Int.tdiv (wrap64 ((wrap64 ((wrap64 ((wrap64 (12 * t1084)) + t1085)) - 1)) + a1)) 12)) (wrap64 ((Int.tmod (wrap64 ((wrap64 ((wrap64 ((wrap64 (12 * t1084)) + t1085)) - 1)) + a1)) 12) + 1)) ji12 t1090 t1091 _ A13.out).mono ?_); rintro e w20 ⟨rfl, hb⟩; refine ⟨_, rfl, ?_⟩; have n0_ := Aside0.mk (blk_below (g := gb1088) (o := .cells #[.int .i64 (wrap64 (Int.tdiv (wrap64 ((wrap64 ((wrap64 ((wrap64 (12 * t1084)) + t1085)) - 1)) + a1)) 12)), .int .i64 (wrap64 ((Int.tmod (wrap64 ((wrap64 ((wrap64 ((wrap64 (12 * t1084)) + t1085)) - 1)) + a1)) 12) + 1)), .int .i64 ji12] 122 (0, 0)) (by (with_reducible repeat (first | refine blk_drewN ?_ _ | refine blk_drew ?_ | refine blk_alloc ?_ _)); refine blk_put (cs := #[.int .i64 (wrap64 (Int.tdiv (wrap64 ((wrap64 ((wrap64 ((wrap64 (12 * t1084)) + t1085)) - 1)) + a1)) 12)), .int .i64 (wrap64 ((Int.tmod (wrap64 ((wrap64 ((wrap64 ((wrap64 (12 * t1084)) + t1085)) - 1)) + a1)) 12) + 1)), .int .i64 t1086]) ?_ 2 _ rfl; (with_reducible repeat (first | refine blk_drewN ?_ _ | refine blk_drew ?_ | refine blk_alloc ?_ _)); exact BK1088.out) hb); have n1_ := Aside0.mk (below_step (by repeat (first | (with_reducible first | exact HB.out | apply below_alloc | apply pw_below_drewN | apply below_drew1 | refine below_set ?_ GE1088.out) | exact HB.out)) hb); clear BK1088; clear HB; have BK1088 := n0_; have HB := n1_; clear n0_ n1_; (try clear hb); (try clear hb2); (try clear hk); (try clear hi)))
     go_ret2
     exact ⟨by first | rfl | (simp [errW_none, errW_some] <;> rfl) | (simp only [← hji12]; first | rfl | (simp [errW_none, errW_some] <;> rfl)) | (simp [*, errW_none, errW_some] <;> rfl), by repeat (first | (with_reducible first | exact HB.out | apply below_alloc | apply pw_below_drewN | apply below_drew1 | refine below_set ?_ GE1088.out) | exact HB.out)⟩
    ·
     rw [if_neg c14] at H
     have c14b0 : (t1091 == 0) = false := beq_eq_false_iff_ne.mpr c14
     have c14b1 : (t1091 != 0) = true := bne_iff_ne.mpr c14
     simp only [Option.some.injEq, Prod.mk.injEq] at H
     obtain ⟨rfl, rfl⟩ := H
     have hcz21_0 : wc.cell? ⟨gb1088, 0, none⟩ = some (.int .i64 t1084) := (blk_cell BK1088.out 0).trans rfl
     have hcz21_1 : wc.cell? ⟨gb1088, 1, none⟩ = some (.int .i64 t1085) := (blk_cell BK1088.out 1).trans rfl
     have hcz21_2 : wc.cell? ⟨gb1088, 2, none⟩ = some (.int .i64 t1086) := (blk_cell BK1088.out 2).trans rfl
     have hfz21_0 := blk_frozen BK1088.out 0
     have hfz21_1 := blk_frozen BK1088.out 1
     have hfz21_2 := blk_frozen BK1088.out 2
     (try (have hpz21_1 : ∀ v0_ v1_ : Value, ((wc.setCell ⟨gb1088, 0, none⟩ v0_).setCell ⟨gb1088, 1, none⟩ v1_).cell? ⟨gb1088, 1, none⟩ = some v1_ := by (intros; go_simp)))
     (try (have hpz21_2 : ∀ v0_ v1_ v2_ : Value, (((wc.setCell ⟨gb1088, 0, none⟩ v0_).setCell ⟨gb1088, 1, none⟩ v1_).setCell ⟨gb1088, 2, none⟩ v2_).cell? ⟨gb1088, 2, none⟩ = some v2_ := by (intros; go_simp)))
     try go_wp2
     have n0_ : Aside0 (((wc.setCell ⟨gb1088, 0, none⟩ (.int .i64 (wrap64 (Int.tdiv (wrap64 ((wrap64 ((wrap64 ((wrap64 (12 * t1084)) + t1085)) - 1)) + a1)) 12)))).setCell ⟨gb1088, 1, none⟩ (.int .i64 (wrap64 ((Int.tmod (wrap64 ((wrap64 ((wrap64 ((wrap64 (12 * t1084)) + t1085)) - 1)) + a1)) 12) + 1)))).heap[gb1088]? = some (.cells #[.int .i64 (wrap64 (Int.tdiv (wrap64 ((wrap64 ((wrap64 ((wrap64 (12 * t1084)) + t1085)) - 1)) + a1)) 12)), .int .i64 (wrap64 ((Int.tmod (wrap64 ((wrap64 ((wrap64 ((wrap64 (12 * t1084)) + t1085)) - 1)) + a1)) 12) + 1)), .int .i64 t1086] 122 (0, 0))) := ⟨by (with_reducible repeat (first | refine blk_drewN ?_ _ | refine blk_drew ?_ | refine blk_alloc ?_ _)); refine blk_put (cs := #[.int .i64 (wrap64 (Int.tdiv (wrap64 ((wrap64 ((wrap64 ((wrap64 (12 * t1084)) + t1085)) - 1)) + a1)) 12)), .int .i64 t1085, .int .i64 t1086]) ?_ 1 _ rfl; (with_reducible repeat (first | refine blk_drewN ?_ _ | refine blk_drew ?_ | refine blk_alloc ?_ _)); refine blk_put (cs := #[.int .i64 t1084, .int .i64 t1085, .int .i64 t1086]) ?_ 0 _ rfl; (with_reducible repeat (first | refine blk_drewN ?_ _ | refine blk_drew ?_ | refine blk_alloc ?_ _)); exact BK1088.out⟩
     have n1_ : Aside0 (Below w.heap.size w ((wc.setCell ⟨gb1088, 0, none⟩ (.int .i64 (wrap64 (Int.tdiv (wrap64 ((wrap64 ((wrap64 ((wrap64 (12 * t1084)) + t1085)) - 1)) + a1)) 12)))).setCell ⟨gb1088, 1, none⟩ (.int .i64 (wrap64 ((Int.tmod (wrap64 ((wrap64 ((wrap64 ((wrap64 (12 * t1084)) + t1085)) - 1)) + a1)) 12) + 1))))) := ⟨by repeat (first | (with_reducible first | exact HB.out | apply below_alloc | apply pw_below_drewN | apply below_drew1 | refine below_set ?_ GE1088.out) | exact HB.out)⟩
     (try clear BK1088)
     (try clear HB)
     generalize ((wc.setCell ⟨gb1088, 0, none⟩ (.int .i64 (wrap64 (Int.tdiv (wrap64 ((wrap64 ((wrap64 ((wrap64 (12 * t1084)) + t1085)) - 1)) + a1)) 12)))).setCell ⟨gb1088, 1, none⟩ (.int .i64 (wrap64 ((Int.tmod (wrap64 ((wrap64 ((wrap64 ((wrap64 (12 * t1084)) + t1085)) - 1)) + a1)) 12) + 1)))) = w22 at n0_ n1_ ⊢
     have BK1088 := n0_
     have HB := n1_
     clear n0_ n1_
     have n0_ := Aside0.mk (blk_drew BK1088.out)
     have n1_ := Aside0.mk (below_drew1 HB.out)
     clear BK1088
     clear HB
     have BK1088 := n0_
     have HB := n1_
     clear n0_ n1_
     refine start_ (n := 10) (S := fun w' => w'.cell? ⟨gb1088, 0, none⟩ = some (.int .i64 (wrap64 (Int.tdiv (wrap64 ((wrap64 ((wrap64 ((wrap64 (12 * t1084)) + t1085)) - 1)) + a1)) 12))) ∧ w'.cell? ⟨gb1088, 1, none⟩ = some (.int .i64 (wrap64 ((Int.tmod (wrap64 ((wrap64 ((wrap64 ((wrap64 (12 * t1084)) + t1085)) - 1)) + a1)) 12) + 1))) ∧ w'.cell? ⟨gb1088, 2, none⟩ = some (.int .i64 t1086)) (ds := [9]) (bmask 10 0) (by kernel_rfl) rfl (by kernel_rfl) ⟨(blk_cell BK1088.out 0).trans rfl, (blk_cell BK1088.out 1).trans rfl, (blk_cell BK1088.out 2).trans rfl⟩ (fun hHeld => ?_); refine with_tabW customsref04_AddMonths.tab6 customsref04_AddMonths.bits6 (fun HT_ HW_ => ?_)
     generalize w22.drew = w23 at BK1088 HB hHeld ⊢
     refine pure_ (i := 0) (N := some 41) (v := ?_) (a' := ?_) (bmask 10 1) rfl rfl (any_of HT_.out (by kernel_rfl)) (fun _ _ _ h => h) (Or.inl ⟨by rfl, ?_⟩) ?_ ?_
     rotate_left
     ·
      intro w'
      go_simp
      with_reducible rfl
     rotate_left
     ·
      simp only [Act.put, List.setIfInBounds_toArray, List.set_cons_zero, List.set_cons_succ, i64_w, i32_w]
      rfl
     refine pure_ (i := 2) (N := some 43) (v := ?_) (a' := ?_) (bmask 10 5) rfl rfl (any_of HT_.out (by kernel_rfl)) (fun _ _ _ h => h) (Or.inl ⟨by rfl, ?_⟩) ?_ ?_
     rotate_left
     ·
      intro w'
      go_simp
      with_reducible rfl
     rotate_left
     ·
      simp only [Act.put, List.setIfInBounds_toArray, List.set_cons_zero, List.set_cons_succ, i64_w, i32_w]
      rfl
     refine pure_ (i := 4) (N := some 45) (v := ?_) (a' := ?_) (bmask 10 21) rfl rfl (any_of HT_.out (by kernel_rfl)) (fun _ _ _ h => h) (Or.inl ⟨by rfl, ?_⟩) ?_ ?_
     rotate_left
     ·
      intro w'
      go_simp
      with_reducible rfl
     rotate_left
     ·
      simp only [Act.put, List.setIfInBounds_toArray, List.set_cons_zero, List.set_cons_succ, i64_w, i32_w]
      rfl
     refine take_ (i := 1) (N := some 42) (v := ?_) (a' := ?_) (bmask 10 23) rfl rfl (take_ofW HT_.out HW_.out (by kernel_rfl)) (fun _ _ _ h => h) (Or.inl ⟨by rfl, ?_⟩) hHeld ?_ ?_
     rotate_left
     ·
      rintro w' ⟨s0, s1, s2⟩
      go_simp
      with_reducible rfl
     rotate_left
     ·
      simp only [Act.put, List.setIfInBounds_toArray, List.set_cons_zero, List.set_cons_succ, i64_w, i32_w]
      rfl
     refine take_ (i := 3) (N := some 44) (v := ?_) (a' := ?_) (bmask 10 31) rfl rfl (take_ofW HT_.out HW_.out (by kernel_rfl)) (fun _ _ _ h => h) (Or.inl ⟨by rfl, ?_⟩) hHeld ?_ ?_
     rotate_left
     ·
      rintro w' ⟨s0, s1, s2⟩
      go_simp
      with_reducible rfl
     rotate_left
     ·
      simp only [Act.put, List.setIfInBounds_toArray, List.set_cons_zero, List.set_cons_succ, i64_w, i32_w]
      rfl
     refine take_ (i := 5) (N := some 46) (v := ?_) (a' := ?_) (bmask 10 63) rfl rfl (take_ofW HT_.out HW_.out (by kernel_rfl)) (fun _ _ _ h => h) (Or.inl ⟨by rfl, ?_⟩) hHeld ?_ ?_
     rotate_left
     ·
      rintro w' ⟨s0, s1, s2⟩
      go_simp
      with_reducible rfl
     rotate_left
     ·
      simp only [Act.put, List.setIfInBounds_toArray, List.set_cons_zero, List.set_cons_succ, i64_w, i32_w]
      rfl
     refine one_ (i := 6) (N := some 47) (bmask 10 127) rfl rfl (one_of HT_.out (by kernel_rfl)) (by decide) (fun K hK => ?_)
     refine goes_ Tryd.func102 (by kernel_rfl) rfl #[.int .i64 (wrap64 (Int.tdiv (wrap64 ((wrap64 ((wrap64 ((wrap64 (12 * t1084)) + t1085)) - 1)) + a1)) 12)), .int .i64 (wrap64 ((Int.tmod (wrap64 ((wrap64 ((wrap64 ((wrap64 (12 * t1084)) + t1085)) - 1)) + a1)) 12) + 1))] (by rfl) rfl rfl (by (try simp only [List.map_toArray, List.map_cons, List.map_nil]); first | done | rfl | (simp only [List.length_drop, List.length_take]; rfl)) ?_
     with_reducible refine (customsref04_Long.calls (wrap64 (Int.tdiv (wrap64 ((wrap64 ((wrap64 ((wrap64 (12 * t1084)) + t1085)) - 1)) + a1)) 12)) (wrap64 ((Int.tmod (wrap64 ((wrap64 ((wrap64 ((wrap64 (12 * t1084)) + t1085)) - 1)) + a1)) 12) + 1)) t1089 _ A11.out).mono ?_
     rintro e w' ⟨rfl, ⟨nd, rfl⟩⟩
     refine ⟨_, rfl, ?_⟩
     refine hK.out _ _ ⟨(blk_cell BK1088.out 0).trans rfl, (blk_cell BK1088.out 1).trans rfl, (blk_cell BK1088.out 2).trans rfl⟩ (fun hHeld => ?_)
     clear hK K
     refine norm_ (a' := ?_) ?_ ?_
     rotate_left
     ·
      show Act.put _ (some 47) _ = _
      simp only [Act.put, List.setIfInBounds_toArray, List.set_cons_zero, List.set_cons_succ, i64_w, i32_w]
      rfl
     refine pure_ (i := 7) (N := some 48) (v := ?_) (a' := ?_) (bmask 10 255) rfl rfl (any_of HT_.out (by kernel_rfl)) (fun _ _ _ h => h) (Or.inl ⟨by rfl, ?_⟩) ?_ ?_
     rotate_left
     ·
      intro w'
      go_simp
      with_reducible rfl
     rotate_left
     ·
      simp only [Act.put, List.setIfInBounds_toArray, List.set_cons_zero, List.set_cons_succ, i64_w, i32_w]
      rfl
     refine pure_ (i := 8) (N := some 49) (v := ?_) (a' := ?_) (bmask 10 511) rfl rfl (any_of HT_.out (by kernel_rfl)) (fun _ _ _ h => h) (Or.inl ⟨by rfl, ?_⟩) ?_ ?_
     rotate_left
     ·
      intro w'
      go_simp
      with_reducible rfl
     rotate_left
     ·
      simp only [Act.put, List.setIfInBounds_toArray, List.set_cons_zero, List.set_cons_succ, i64_w, i32_w]
      rfl
     refine last_ (i := 9) (N := none) (bmask 10 1023) rfl rfl (one_of HT_.out (by kernel_rfl)) (by decide) (fun K hK => ?_)
     have hs24 : w23.cell? ⟨gb1088, 2, none⟩ = some (.int .i64 t1086) := (blk_cell BK1088.out 2).trans rfl
     have hfs24 := blk_frozen BK1088.out 2
     refine skip_ (w1 := ?_) (by rfl) rfl ?_ ?_
     rotate_left
     ·
      go_simp
      rfl
     refine hK.out _ _ ?_
     clear hK K
     refine done_ (done_of HT_.out (by kernel_rfl)) ?_
     have hcz25_0 : w23.cell? ⟨gb1088, 0, none⟩ = some (.int .i64 (wrap64 (Int.tdiv (wrap64 ((wrap64 ((wrap64 ((wrap64 (12 * t1084)) + t1085)) - 1)) + a1)) 12))) := (blk_cell BK1088.out 0).trans rfl
     have hcz25_1 : w23.cell? ⟨gb1088, 1, none⟩ = some (.int .i64 (wrap64 ((Int.tmod (wrap64 ((wrap64 ((wrap64 ((wrap64 (12 * t1084)) + t1085)) - 1)) + a1)) 12) + 1))) := (blk_cell BK1088.out 1).trans rfl
     have hcz25_2 : w23.cell? ⟨gb1088, 2, none⟩ = some (.int .i64 t1086) := (blk_cell BK1088.out 2).trans rfl
     have hfz25_0 := blk_frozen BK1088.out 0
     have hfz25_1 := blk_frozen BK1088.out 1
     have hfz25_2 := blk_frozen BK1088.out 2
     (try (have hpz25_1 : ∀ v0_ v1_ : Value, ((w23.setCell ⟨gb1088, 0, none⟩ v0_).setCell ⟨gb1088, 1, none⟩ v1_).cell? ⟨gb1088, 1, none⟩ = some v1_ := by (intros; go_simp)))
     (try (have hpz25_2 : ∀ v0_ v1_ v2_ : Value, (((w23.setCell ⟨gb1088, 0, none⟩ v0_).setCell ⟨gb1088, 1, none⟩ v1_).setCell ⟨gb1088, 2, none⟩ v2_).cell? ⟨gb1088, 2, none⟩ = some v2_ := by (intros; go_simp)))
     try go_wp2_with (first | ((with_reducible refine gate_callee (f := 103) rfl ?_); refine goesL_ (some 52) rfl rfl Tryd.func103 (by kernel_rfl) rfl #[.agg #[.int .i64 (wrap64 (Int.tdiv (wrap64 ((wrap64 ((wrap64 ((wrap64 (12 * t1084)) + t1085)) - 1)) + a1)) 12)), .int .i64 (wrap64 ((Int.tmod (wrap64 ((wrap64 ((wrap64 ((wrap64 (12 * t1084)) + t1085)) - 1)) + a1)) 12) + 1)), .int .i64 ji12]] rfl (by (try simp only [List.map_toArray, List.map_cons, List.map_nil]); first | done | (simp only [hji12]; rfl) | rfl | (simp only [List.length_drop, List.length_take]; rfl)) ?_; (with_reducible refine (customsref04_Number.calls kj3 (wrap64 (Int.tdiv (wrap64 ((wrap64 ((wrap64 ((wrap64 (12 * t1084)) + t1085)) - 1)) + a1)) 12)) (wrap64 ((Int.tmod (wrap64 ((wrap64 ((wrap64 ((wrap64 (12 * t1084)) + t1085)) - 1)) + a1)) 12) + 1)) ji12 t1090 t1091 _ A13.out).mono ?_); rintro e w26 ⟨rfl, hb⟩; refine ⟨_, rfl, ?_⟩; have n0_ := Aside0.mk (blk_below (g := gb1088) (o := .cells #[.int .i64 (wrap64 (Int.tdiv (wrap64 ((wrap64 ((wrap64 ((wrap64 (12 * t1084)) + t1085)) - 1)) + a1)) 12)), .int .i64 (wrap64 ((Int.tmod (wrap64 ((wrap64 ((wrap64 ((wrap64 (12 * t1084)) + t1085)) - 1)) + a1)) 12) + 1)), .int .i64 ji12] 122 (0, 0)) (by (with_reducible repeat (first | refine blk_drewN ?_ _ | refine blk_drew ?_ | refine blk_alloc ?_ _)); refine blk_put (cs := #[.int .i64 (wrap64 (Int.tdiv (wrap64 ((wrap64 ((wrap64 ((wrap64 (12 * t1084)) + t1085)) - 1)) + a1)) 12)), .int .i64 (wrap64 ((Int.tmod (wrap64 ((wrap64 ((wrap64 ((wrap64 (12 * t1084)) + t1085)) - 1)) + a1)) 12) + 1)), .int .i64 t1086]) ?_ 2 _ rfl; (with_reducible repeat (first | refine blk_drewN ?_ _ | refine blk_drew ?_ | refine blk_alloc ?_ _)); exact BK1088.out) hb); have n1_ := Aside0.mk (below_step (by repeat (first | (with_reducible first | exact HB.out | apply below_alloc | apply pw_below_drewN | apply below_drew1 | refine below_set ?_ GE1088.out) | exact HB.out)) hb); clear BK1088; clear HB; have BK1088 := n0_; have HB := n1_; clear n0_ n1_; (try clear hb); (try clear hb2); (try clear hk); (try clear hi)))
     go_ret2
     exact ⟨by first | rfl | (simp [errW_none, errW_some] <;> rfl) | (simp only [← hji12]; first | rfl | (simp [errW_none, errW_some] <;> rfl)) | (simp [*, errW_none, errW_some] <;> rfl), by repeat (first | (with_reducible first | exact HB.out | apply below_alloc | apply pw_below_drewN | apply below_drew1 | refine below_set ?_ GE1088.out) | exact HB.out)⟩

def customsref04_Weekday.f (a0 : Int) : Option (Int) := (customsref04_Day.f a0).bind fun t1092 => (if t1092 = true then (some (Int.tmod (wrap64 (a0 + 5)) 7)) else (some (-1)))
set_option maxHeartbeats 8000000 in
set_option maxRecDepth 100000 in
theorem customsref04_Weekday.calls (a0 : Int) (r : Int) (w : World) (h : customsref04_Weekday.f a0 = some r) :
  Calls Tryd.prog 115 #[.int .i64 a0] w fun e w' => e = .returned (.int .i64 r) ∧ Drawn0 w w' := by
 have H : ((customsref04_Day.f a0).bind fun t1092 => (if t1092 = true then (some (Int.tmod (wrap64 (a0 + 5)) 7)) else (some (-1)))) = some r := h
 clear h
 replace H := Option.bind_eq_some_iff.mp H
 obtain ⟨t1092, A20, H⟩ := H
 replace H : (if t1092 = true then (some (Int.tmod (wrap64 (a0 + 5)) 7)) else (some (-1))) = some r := H
 have A2 := Aside0.mk A20
 clear A20
 by_cases c3 : t1092 = true
 ·
  subst c3
  have H1 : (some (Int.tmod (wrap64 (a0 + 5)) 7)) = some r := by rw [if_pos rfl] at H; exact H
  clear H
  have H := H1
  clear H1
  obtain rfl := Option.some.inj H
  go_enter Tryd.func115, Tryd.ntmps115
  go_wp2_with (first | ((with_reducible refine gate_callee (f := 81) rfl ?_); refine goesL_ (some 4) rfl rfl Tryd.func81 (by kernel_rfl) rfl #[.int .i64 a0] rfl (by (try simp only [List.map_toArray, List.map_cons, List.map_nil]); first | done | rfl | (simp only [List.length_drop, List.length_take]; rfl)) ?_; (with_reducible refine (customsref04_Day.calls a0 true _ A2.out).mono ?_); rintro e w' ⟨rfl, ⟨nd, rfl⟩⟩; refine ⟨_, rfl, ?_⟩))
  go_ret
  exact ⟨by first | rfl | (simp; done) | (simp [*]; done), by repeat (first | exact Drawn0.refl _ | apply Drawn0.step)⟩
 ·
  replace c3 := Bool.eq_false_iff.mpr c3
  subst c3
  have H1 : (some (-1)) = some r := by rw [if_neg (show ¬ (false = true) by decide)] at H; exact H
  clear H
  have H := H1
  clear H1
  obtain rfl := Option.some.inj H
  go_enter Tryd.func115, Tryd.ntmps115
  go_wp2_with (first | ((with_reducible refine gate_callee (f := 81) rfl ?_); refine goesL_ (some 4) rfl rfl Tryd.func81 (by kernel_rfl) rfl #[.int .i64 a0] rfl (by (try simp only [List.map_toArray, List.map_cons, List.map_nil]); first | done | rfl | (simp only [List.length_drop, List.length_take]; rfl)) ?_; (with_reducible refine (customsref04_Day.calls a0 false _ A2.out).mono ?_); rintro e w' ⟨rfl, ⟨nd, rfl⟩⟩; refine ⟨_, rfl, ?_⟩))
  go_ret
  exact ⟨by first | rfl | (simp; done) | (simp [*]; done), by repeat (first | exact Drawn0.refl _ | apply Drawn0.step)⟩

def customsref04_Working.l0 : Nat → List Int → Int → Int → Int → Option (Bool)
 | 0, _, _, _, _ => none
 | k + 1, x0, x1, x5, x6 => if x6 < (x0.length : Int) then (if 0 ≤ x6 then (if (rd x0 x6) = x1 then (some false) else (customsref04_Working.l0 k x0 x1 x5 (wrap64 (x6 + 1)))) else (none)) else (if x5 ≥ 0 then (some (decide (x5 ≤ 4))) else (some false))
def customsref04_Working.f (k : Nat) (l0 : List Int) (a1 : Int) : Option (Bool) := (customsref04_Weekday.f a1).bind fun t1093 => (customsref04_Working.l0 k l0 a1 t1093 0)
set_option maxHeartbeats 8000000 in
set_option maxRecDepth 100000 in
theorem customsref04_Working.calls (k : Nat) (A0 : Option Addr) (c0 : Nat) (l0 : List Int) (a1 : Int) (r : Bool) (w : World) (hr0 : Kd.C (Kd.int .i64) w A0 l0.length l0) (hc0 : l0.length ≤ c0) (h : customsref04_Working.f k l0 a1 = some r) :
  Calls Tryd.prog 104 #[.slice A0 l0.length c0, .int .i64 a1] w fun e w' => e = .returned (.bool r) ∧ Drawn0 w w' := by
 have HR0 := Aside0.mk hr0
 have HC0 := Aside0.mk hc0
 clear hr0 hc0
 have H : ((customsref04_Weekday.f a1).bind fun t1093 => (customsref04_Working.l0 k l0 a1 t1093 0)) = some r := h
 clear h
 replace H := Option.bind_eq_some_iff.mp H
 obtain ⟨t1093, A30, H⟩ := H
 replace H : (customsref04_Working.l0 k l0 a1 t1093 0) = some r := H
 have A3 := Aside0.mk A30
 clear A30
 have H' := Aside0.mk H
 clear H
 go_enter Tryd.func104, Tryd.ntmps104
 go_wp2_with (first | ((with_reducible refine gate_callee (f := 115) rfl ?_); refine goesL_ (some 8) rfl rfl Tryd.func115 (by kernel_rfl) rfl #[.int .i64 a1] rfl (by (try simp only [List.map_toArray, List.map_cons, List.map_nil]); first | done | rfl | (simp only [List.length_drop, List.length_take]; rfl)) ?_; (with_reducible refine (customsref04_Weekday.calls a1 t1093 _ A3.out).mono ?_); rintro e w' ⟨rfl, ⟨nd, rfl⟩⟩; refine ⟨_, rfl, ?_⟩))
 go_loopg [6] k (fun kq v6 w' => ∃ (x6_1 : Int), v6 = .int .i64 x6_1 ∧ Aside0 (customsref04_Working.l0 kq l0 a1 t1093 x6_1 = some r) ∧ Aside0 (kq ≤ k) ∧ Drawn0 w w')
 case atStart => exact ⟨(0), (by first | rfl | (simp; done) | (simp [*]; done)), H', ⟨Nat.le_refl _⟩, by repeat (first | exact Drawn0.refl _ | apply Drawn0.step)⟩
 case round =>
  clear H'
  try clear c1
  try clear p2
  obtain ⟨x6_1, rfl, HA, HK1, ⟨m1, rfl⟩⟩ := hrel
  cases gk with
  | zero => exact absurd HA.out (by simp [customsref04_Working.l0])
  | succ k1 =>
   have H := HA.out
   clear HA
   simp only [customsref04_Working.l0] at H
   by_cases c4 : x6_1 < (l0.length : Int)
   ·
    rw [if_pos c4] at H
    have c4b0 : decide (x6_1 < (l0.length : Int)) = true := decide_eq_true c4
    clear c4
    by_cases c5 : 0 ≤ x6_1
    ·
     rw [if_pos c5] at H
     have c5b0 : decide (0 ≤ x6_1) = true := decide_eq_true c5
     clear c5
     by_cases c6 : (rd l0 x6_1) = a1
     ·
      rw [if_pos c6] at H
      have c6b0 : ((rd l0 x6_1) == a1) = true := beq_iff_eq.mpr c6
      have c6b1 : ((rd l0 x6_1) != a1) = false := bne_eq_false_iff_eq.mpr c6
      clear c6
      obtain rfl := Option.some.inj H
      have p1094 : 0 ≤ (x6_1 : Int) := of_decide_eq_true (by first | (with_reducible assumption) | assumption)
      have q1094 : x6_1 < (l0.length : Int) := of_decide_eq_true (by first | (with_reducible assumption) | assumption)
      obtain ⟨ad1094, e1094, hx1094_0⟩ := Kd.at_int HR0.out x6_1 p1094 q1094
      cases e1094
      replace p1094 := eq_true p1094
      replace q1094 := eq_true q1094
      go_wp2
      go_ret
      exact ⟨by first | rfl | (simp; done) | (simp [*]; done), by repeat (first | exact Drawn0.refl _ | apply Drawn0.step)⟩
     ·
      rw [if_neg c6] at H
      have c6b0 : ((rd l0 x6_1) == a1) = false := beq_eq_false_iff_ne.mpr c6
      have c6b1 : ((rd l0 x6_1) != a1) = true := bne_iff_ne.mpr c6
      have H' := Aside0.mk H
      clear H
      have p1094 : 0 ≤ (x6_1 : Int) := of_decide_eq_true (by first | (with_reducible assumption) | assumption)
      have q1094 : x6_1 < (l0.length : Int) := of_decide_eq_true (by first | (with_reducible assumption) | assumption)
      obtain ⟨ad1094, e1094, hx1094_0⟩ := Kd.at_int HR0.out x6_1 p1094 q1094
      cases e1094
      replace p1094 := eq_true p1094
      replace q1094 := eq_true q1094
      go_wp2
      go_roundg k1
      case measure => have := HK1.out; omega
      case rel => exact ⟨(wrap64 (x6_1 + 1)), (by first | rfl | (simp; done) | (simp [*]; done)), H', ⟨by have := HK1.out; omega⟩, by repeat (first | exact Drawn0.refl _ | apply Drawn0.step)⟩
    ·
     rw [if_neg c5] at H
     exact absurd H (by simp)
   ·
    rw [if_neg c4] at H
    have c4b0 : decide (x6_1 < (l0.length : Int)) = false := decide_eq_false c4
    clear c4
    by_cases c7 : t1093 ≥ 0
    ·
     rw [if_pos c7] at H
     have c7b0 : decide (0 ≤ t1093) = true := decide_eq_true c7
     clear c7
     obtain rfl := Option.some.inj H
     go_wp2
     go_ret
     exact ⟨by first | rfl | (simp; done) | (simp [*]; done), by repeat (first | exact Drawn0.refl _ | apply Drawn0.step)⟩
    ·
     rw [if_neg c7] at H
     have c7b0 : decide (0 ≤ t1093) = false := decide_eq_false c7
     clear c7
     obtain rfl := Option.some.inj H
     go_wp2
     go_ret
     exact ⟨by first | rfl | (simp; done) | (simp [*]; done), by repeat (first | exact Drawn0.refl _ | apply Drawn0.step)⟩

mutual
def customsref04_AddWorking.j0 : Nat → List Int → Int → Int → Bool → Option (Int × Int)
 | 0, _, _, _, _ => none
 | k + 1, x0, x1, x2, x24 => if x24 = true then (some (0, 2)) else (customsref04_AddWorking.l0 k x0 x1 x2)
def customsref04_AddWorking.l0 : Nat → List Int → Int → Int → Option (Int × Int)
 | 0, _, _, _ => none
 | k + 1, x0, x1, x2 => if x2 > 0 then ((customsref04_Day.f (wrap64 (x1 + 1))).bind fun t1097 => (if t1097 = true then ((customsref04_Working.f k x0 (wrap64 (x1 + 1))).bind fun t1098 => (if t1098 = true then (customsref04_AddWorking.l0 k x0 (wrap64 (x1 + 1)) (wrap64 (x2 - 1))) else (customsref04_AddWorking.l0 k x0 (wrap64 (x1 + 1)) x2))) else (some (0, 3)))) else (some (x1, 0))
end
def customsref04_AddWorking.f (k : Nat) (l0 : List Int) (a1 : Int) (a2 : Int) : Option (Int × Int) := (customsref04_Valid.f k l0).bind fun t1095 => (if t1095 = 0 then ((customsref04_Day.f a1).bind fun t1096 => (if t1096 = true then (if a2 < 0 then (customsref04_AddWorking.j0 k l0 a1 a2 true) else (customsref04_AddWorking.j0 k l0 a1 a2 (decide (a2 > 1000)))) else (customsref04_AddWorking.j0 k l0 a1 a2 true))) else (some (0, t1095)))
set_option maxHeartbeats 8000000 in
set_option maxRecDepth 100000 in
theorem customsref04_AddWorking.calls (k : Nat) (A0 : Option Addr) (c0 : Nat) (l0 : List Int) (a1 : Int) (a2 : Int) (r1 : Int) (r2 : Int) (w : World) (hr0 : Kd.C (Kd.int .i64) w A0 l0.length l0) (hc0 : l0.length ≤ c0) (h : customsref04_AddWorking.f k l0 a1 a2 = some (r1, r2)) :
  Calls Tryd.prog 84 #[.slice A0 l0.length c0, .int .i64 a1, .int .i64 a2] w fun e w' => e = .returned (.tuple #[.int .i64 r1, .int .i64 r2]) ∧ Drawn0 w w' := by
 have HR0 := Aside0.mk hr0
 have HC0 := Aside0.mk hc0
 clear hr0 hc0
 have H : ((customsref04_Valid.f k l0).bind fun t1095 => (if t1095 = 0 then ((customsref04_Day.f a1).bind fun t1096 => (if t1096 = true then (if a2 < 0 then (customsref04_AddWorking.j0 k l0 a1 a2 true) else (customsref04_AddWorking.j0 k l0 a1 a2 (decide (a2 > 1000)))) else (customsref04_AddWorking.j0 k l0 a1 a2 true))) else (some (0, t1095)))) = some (r1, r2) := h
 clear h
 replace H := Option.bind_eq_some_iff.mp H
 obtain ⟨t1095, A40, H⟩ := H
 replace H : (if t1095 = 0 then ((customsref04_Day.f a1).bind fun t1096 => (if t1096 = true then (if a2 < 0 then (customsref04_AddWorking.j0 k l0 a1 a2 true) else (customsref04_AddWorking.j0 k l0 a1 a2 (decide (a2 > 1000)))) else (customsref04_AddWorking.j0 k l0 a1 a2 true))) else (some (0, t1095))) = some (r1, r2) := H
 have A4 := Aside0.mk A40
 clear A40
 by_cases c5 : t1095 = 0
 ·
  rw [if_pos c5] at H
  have c5b0 : (t1095 == 0) = true := beq_iff_eq.mpr c5
  have c5b1 : (t1095 != 0) = false := bne_eq_false_iff_eq.mpr c5
  clear c5
  have HC6 := Aside0.mk H
  clear H
  go_enter Tryd.func84, Tryd.ntmps84
  go_upto_region 4 with (first | ((with_reducible refine gate_callee (f := 80) rfl ?_); refine goesL_ (some 10) rfl rfl Tryd.func80 (by kernel_rfl) rfl #[.slice A0 l0.length c0] rfl (by (try simp only [List.map_toArray, List.map_cons, List.map_nil]); first | done | rfl | (simp only [List.length_drop, List.length_take]; rfl)) ?_; (with_reducible refine (customsref04_Valid.calls k _ _ l0 t1095 _ ?side1 ?side2 A4.out).mono ?_); (case side1 => repeat (first | exact HR0.out | (with_reducible refine Kd.C_alloc ?_ _) | (with_reducible refine Kd.C_drewN ?_ _) | (with_reducible refine Kd.C_drew ?_))); (case side2 => exact HC0.out); rintro e w' ⟨rfl, ⟨nd, rfl⟩⟩; refine ⟨_, rfl, ?_⟩))
  (try simp only [Act.put, List.setIfInBounds_toArray, List.set_cons_zero, List.set_cons_succ])
  go_cut [24] (fun v24 wc => ∃ (kq : Nat) (x24_5 : Bool), v24 = .bool x24_5 ∧ Aside0 (customsref04_AddWorking.j0 kq l0 a1 a2 x24_5 = some (r1, r2)) ∧ Aside0 (kq ≤ k) ∧ Drawn0 w wc)
  case first =>
   have H := HC6.out
   clear HC6
   replace H := Option.bind_eq_some_iff.mp H
   obtain ⟨t1096, A70, H⟩ := H
   replace H : (if t1096 = true then (if a2 < 0 then (customsref04_AddWorking.j0 k l0 a1 a2 true) else (customsref04_AddWorking.j0 k l0 a1 a2 (decide (a2 > 1000)))) else (customsref04_AddWorking.j0 k l0 a1 a2 true)) = some (r1, r2) := H
   have A7 := Aside0.mk A70
   clear A70
   by_cases c8 : t1096 = true
   ·
    subst c8
    have H1 : (if a2 < 0 then (customsref04_AddWorking.j0 k l0 a1 a2 true) else (customsref04_AddWorking.j0 k l0 a1 a2 (decide (a2 > 1000)))) = some (r1, r2) := by rw [if_pos rfl] at H; exact H
    clear H
    have H := H1
    clear H1
    by_cases c9 : a2 < 0
    ·
     rw [if_pos c9] at H
     have c9b0 : decide (a2 < 0) = true := decide_eq_true c9
     clear c9
     (first | rw [c9b0] | (simp only [i64_w, i32_w]; rw [c9b0]) | skip)
     have H' := Aside0.mk H
     clear H
     go_wp2_with (first | ((with_reducible refine gate_callee (f := 81) rfl ?_); refine goesL_ (some 15) rfl rfl Tryd.func81 (by kernel_rfl) rfl #[.int .i64 a1] rfl (by (try simp only [List.map_toArray, List.map_cons, List.map_nil]); first | done | rfl | (simp only [List.length_drop, List.length_take]; rfl)) ?_; (with_reducible refine (customsref04_Day.calls a1 true _ A7.out).mono ?_); rintro e w' ⟨rfl, ⟨nd, rfl⟩⟩; refine ⟨_, rfl, ?_⟩))
     go_meet
     case rel => exact ⟨_, (true), (by first | rfl | (simp; done) | (simp [*]; done)), H', ⟨by first | omega | exact Nat.le_refl _⟩, by repeat (first | exact Drawn0.refl _ | apply Drawn0.step)⟩
    ·
     rw [if_neg c9] at H
     have c9b0 : decide (a2 < 0) = false := decide_eq_false c9
     clear c9
     (first | rw [c9b0] | (simp only [i64_w, i32_w]; rw [c9b0]) | skip)
     have H' := Aside0.mk H
     clear H
     go_wp2_with (first | ((with_reducible refine gate_callee (f := 81) rfl ?_); refine goesL_ (some 15) rfl rfl Tryd.func81 (by kernel_rfl) rfl #[.int .i64 a1] rfl (by (try simp only [List.map_toArray, List.map_cons, List.map_nil]); first | done | rfl | (simp only [List.length_drop, List.length_take]; rfl)) ?_; (with_reducible refine (customsref04_Day.calls a1 true _ A7.out).mono ?_); rintro e w' ⟨rfl, ⟨nd, rfl⟩⟩; refine ⟨_, rfl, ?_⟩))
     go_meet
     case rel => exact ⟨_, (decide (a2 > 1000)), (by first | rfl | (simp; done) | (simp [*]; done)), H', ⟨by first | omega | exact Nat.le_refl _⟩, by repeat (first | exact Drawn0.refl _ | apply Drawn0.step)⟩
   ·
    replace c8 := Bool.eq_false_iff.mpr c8
    subst c8
    have H1 : (customsref04_AddWorking.j0 k l0 a1 a2 true) = some (r1, r2) := by rw [if_neg (show ¬ (false = true) by decide)] at H; exact H
    clear H
    have H := H1
    clear H1
    have H' := Aside0.mk H
    clear H
    go_wp2_with (first | ((with_reducible refine gate_callee (f := 81) rfl ?_); refine goesL_ (some 15) rfl rfl Tryd.func81 (by kernel_rfl) rfl #[.int .i64 a1] rfl (by (try simp only [List.map_toArray, List.map_cons, List.map_nil]); first | done | rfl | (simp only [List.length_drop, List.length_take]; rfl)) ?_; (with_reducible refine (customsref04_Day.calls a1 false _ A7.out).mono ?_); rintro e w' ⟨rfl, ⟨nd, rfl⟩⟩; refine ⟨_, rfl, ?_⟩))
    go_meet
    case rel => exact ⟨_, (true), (by first | rfl | (simp; done) | (simp [*]; done)), H', ⟨by first | omega | exact Nat.le_refl _⟩, by repeat (first | exact Drawn0.refl _ | apply Drawn0.step)⟩
  case rest =>
   clear HC6
   try clear p2
   try clear c5
   try clear c5b0
   try clear c5b1
   try clear c8
   try clear c9
   try clear c9b0
   obtain ⟨kq, x24_5, rfl, HA, HJ5, ⟨mc5, rfl⟩⟩ := hcut
   cases kq with
   | zero => exact absurd HA.out (by simp [customsref04_AddWorking.j0])
   | succ kj5 =>
    have H := HA.out
    clear HA
    simp only [customsref04_AddWorking.j0] at H
    by_cases c10 : x24_5 = true
    ·
     subst c10
     have H1 : (some (0, 2)) = some (r1, r2) := by rw [if_pos rfl] at H; exact H
     clear H
     have H := H1
     clear H1
     simp only [Option.some.injEq, Prod.mk.injEq] at H
     obtain ⟨rfl, rfl⟩ := H
     go_wp2
     go_ret2
     exact ⟨by first | rfl | (simp; done) | (simp [*]; done), by repeat (first | exact Drawn0.refl _ | apply Drawn0.step)⟩
    ·
     replace c10 := Bool.eq_false_iff.mpr c10
     subst c10
     have H1 : (customsref04_AddWorking.l0 kj5 l0 a1 a2) = some (r1, r2) := by rw [if_neg (show ¬ (false = true) by decide)] at H; exact H
     clear H
     have H := H1
     clear H1
     have H' := Aside0.mk H
     clear H
     go_wp2
     go_loopg [1, 2] kj5 (fun kq v1 v2 w' => ∃ (x1_2 : Int) (x2_2 : Int), v1 = .int .i64 x1_2 ∧ v2 = .int .i64 x2_2 ∧ Aside0 (customsref04_AddWorking.l0 kq l0 x1_2 x2_2 = some (r1, r2)) ∧ Aside0 (kq ≤ kj5) ∧ Drawn0 w w')
     case atStart => exact ⟨(a1), (a2), (by first | rfl | (simp; done) | (simp [*]; done)), (by first | rfl | (simp; done) | (simp [*]; done)), H', ⟨Nat.le_refl _⟩, by repeat (first | exact Drawn0.refl _ | apply Drawn0.step)⟩
     case round =>
      clear H'
      try clear c1
      try clear p2
      try clear c5
      try clear c5b0
      try clear c5b1
      try clear c8
      try clear c9
      try clear c9b0
      try clear c10
      try clear p2
      obtain ⟨x1_2, x2_2, rfl, rfl, HA, HK2, ⟨m2, rfl⟩⟩ := hrel
      cases gk with
      | zero => exact absurd HA.out (by simp [customsref04_AddWorking.l0])
      | succ k2 =>
       have H := HA.out
       clear HA
       simp only [customsref04_AddWorking.l0] at H
       by_cases c11 : x2_2 > 0
       ·
        rw [if_pos c11] at H
        have c11b0 : decide (0 < x2_2) = true := decide_eq_true c11
        clear c11
        replace H := Option.bind_eq_some_iff.mp H
        obtain ⟨t1097, A120, H⟩ := H
        replace H : (if t1097 = true then ((customsref04_Working.f k2 l0 (wrap64 (x1_2 + 1))).bind fun t1098 => (if t1098 = true then (customsref04_AddWorking.l0 k2 l0 (wrap64 (x1_2 + 1)) (wrap64 (x2_2 - 1))) else (customsref04_AddWorking.l0 k2 l0 (wrap64 (x1_2 + 1)) x2_2))) else (some (0, 3))) = some (r1, r2) := H
        have A12 := Aside0.mk A120
        clear A120
        by_cases c13 : t1097 = true
        ·
         subst c13
         have H1 : ((customsref04_Working.f k2 l0 (wrap64 (x1_2 + 1))).bind fun t1098 => (if t1098 = true then (customsref04_AddWorking.l0 k2 l0 (wrap64 (x1_2 + 1)) (wrap64 (x2_2 - 1))) else (customsref04_AddWorking.l0 k2 l0 (wrap64 (x1_2 + 1)) x2_2))) = some (r1, r2) := by rw [if_pos rfl] at H; exact H
         clear H
         have H := H1
         clear H1
         replace H := Option.bind_eq_some_iff.mp H
         obtain ⟨t1098, A140, H⟩ := H
         replace H : (if t1098 = true then (customsref04_AddWorking.l0 k2 l0 (wrap64 (x1_2 + 1)) (wrap64 (x2_2 - 1))) else (customsref04_AddWorking.l0 k2 l0 (wrap64 (x1_2 + 1)) x2_2)) = some (r1, r2) := H
         have A14 := Aside0.mk A140
         clear A140
         by_cases c15 : t1098 = true
         ·
          subst c15
          have H1 : (customsref04_AddWorking.l0 k2 l0 (wrap64 (x1_2 + 1)) (wrap64 (x2_2 - 1))) = some (r1, r2) := by rw [if_pos rfl] at H; exact H
          clear H
          have H := H1
          clear H1
          have H' := Aside0.mk H
          clear H
          go_wp2_with (first | ((with_reducible refine gate_callee (f := 81) rfl ?_); refine goesL_ (some 30) rfl rfl Tryd.func81 (by kernel_rfl) rfl #[.int .i64 (wrap64 (x1_2 + 1))] rfl (by (try simp only [List.map_toArray, List.map_cons, List.map_nil]); first | done | rfl | (simp only [List.length_drop, List.length_take]; rfl)) ?_; (with_reducible refine (customsref04_Day.calls (wrap64 (x1_2 + 1)) true _ A12.out).mono ?_); rintro e w' ⟨rfl, ⟨nd, rfl⟩⟩; refine ⟨_, rfl, ?_⟩) | ((with_reducible refine gate_callee (f := 104) rfl ?_); refine goesL_ (some 34) rfl rfl Tryd.func104 (by kernel_rfl) rfl #[.slice A0 l0.length c0, .int .i64 (wrap64 (x1_2 + 1))] rfl (by (try simp only [List.map_toArray, List.map_cons, List.map_nil]); first | done | rfl | (simp only [List.length_drop, List.length_take]; rfl)) ?_; (with_reducible refine (customsref04_Working.calls k2 _ _ l0 (wrap64 (x1_2 + 1)) true _ ?side1 ?side2 A14.out).mono ?_); (case side1 => repeat (first | exact HR0.out | (with_reducible refine Kd.C_alloc ?_ _) | (with_reducible refine Kd.C_drewN ?_ _) | (with_reducible refine Kd.C_drew ?_))); (case side2 => exact HC0.out); rintro e w' ⟨rfl, ⟨nd, rfl⟩⟩; refine ⟨_, rfl, ?_⟩))
          go_roundg k2
          case measure => have := HJ5.out; have := HK2.out; omega
          case rel => exact ⟨(wrap64 (x1_2 + 1)), (wrap64 (x2_2 - 1)), (by first | rfl | (simp; done) | (simp [*]; done)), (by first | rfl | (simp; done) | (simp [*]; done)), H', ⟨by have := HJ5.out; have := HK2.out; omega⟩, by repeat (first | exact Drawn0.refl _ | apply Drawn0.step)⟩
         ·
          replace c15 := Bool.eq_false_iff.mpr c15
          subst c15
          have H1 : (customsref04_AddWorking.l0 k2 l0 (wrap64 (x1_2 + 1)) x2_2) = some (r1, r2) := by rw [if_neg (show ¬ (false = true) by decide)] at H; exact H
          clear H
          have H := H1
          clear H1
          have H' := Aside0.mk H
          clear H
          go_wp2_with (first | ((with_reducible refine gate_callee (f := 81) rfl ?_); refine goesL_ (some 30) rfl rfl Tryd.func81 (by kernel_rfl) rfl #[.int .i64 (wrap64 (x1_2 + 1))] rfl (by (try simp only [List.map_toArray, List.map_cons, List.map_nil]); first | done | rfl | (simp only [List.length_drop, List.length_take]; rfl)) ?_; (with_reducible refine (customsref04_Day.calls (wrap64 (x1_2 + 1)) true _ A12.out).mono ?_); rintro e w' ⟨rfl, ⟨nd, rfl⟩⟩; refine ⟨_, rfl, ?_⟩) | ((with_reducible refine gate_callee (f := 104) rfl ?_); refine goesL_ (some 34) rfl rfl Tryd.func104 (by kernel_rfl) rfl #[.slice A0 l0.length c0, .int .i64 (wrap64 (x1_2 + 1))] rfl (by (try simp only [List.map_toArray, List.map_cons, List.map_nil]); first | done | rfl | (simp only [List.length_drop, List.length_take]; rfl)) ?_; (with_reducible refine (customsref04_Working.calls k2 _ _ l0 (wrap64 (x1_2 + 1)) false _ ?side1 ?side2 A14.out).mono ?_); (case side1 => repeat (first | exact HR0.out | (with_reducible refine Kd.C_alloc ?_ _) | (with_reducible refine Kd.C_drewN ?_ _) | (with_reducible refine Kd.C_drew ?_))); (case side2 => exact HC0.out); rintro e w' ⟨rfl, ⟨nd, rfl⟩⟩; refine ⟨_, rfl, ?_⟩))
          go_roundg k2
          case measure => have := HJ5.out; have := HK2.out; omega
          case rel => exact ⟨(wrap64 (x1_2 + 1)), (x2_2), (by first | rfl | (simp; done) | (simp [*]; done)), (by first | rfl | (simp; done) | (simp [*]; done)), H', ⟨by have := HJ5.out; have := HK2.out; omega⟩, by repeat (first | exact Drawn0.refl _ | apply Drawn0.step)⟩
        ·
         replace c13 := Bool.eq_false_iff.mpr c13
         subst c13
         have H1 : (some (0, 3)) = some (r1, r2) := by rw [if_neg (show ¬ (false = true) by decide)] at H; exact H
         clear H
         have H := H1
         clear H1
         simp only [Option.some.injEq, Prod.mk.injEq] at H
         obtain ⟨rfl, rfl⟩ := H
         go_wp2_with (first | ((with_reducible refine gate_callee (f := 81) rfl ?_); refine goesL_ (some 30) rfl rfl Tryd.func81 (by kernel_rfl) rfl #[.int .i64 (wrap64 (x1_2 + 1))] rfl (by (try simp only [List.map_toArray, List.map_cons, List.map_nil]); first | done | rfl | (simp only [List.length_drop, List.length_take]; rfl)) ?_; (with_reducible refine (customsref04_Day.calls (wrap64 (x1_2 + 1)) false _ A12.out).mono ?_); rintro e w' ⟨rfl, ⟨nd, rfl⟩⟩; refine ⟨_, rfl, ?_⟩))
         go_ret2
         exact ⟨by first | rfl | (simp; done) | (simp [*]; done), by repeat (first | exact Drawn0.refl _ | apply Drawn0.step)⟩
       ·
        rw [if_neg c11] at H
        have c11b0 : decide (0 < x2_2) = false := decide_eq_false c11
        clear c11
        simp only [Option.some.injEq, Prod.mk.injEq] at H
        obtain ⟨rfl, rfl⟩ := H
        go_wp2
        go_ret2
        exact ⟨by first | rfl | (simp; done) | (simp [*]; done), by repeat (first | exact Drawn0.refl _ | apply Drawn0.step)⟩
 ·
  rw [if_neg c5] at H
  have c5b0 : (t1095 == 0) = false := beq_eq_false_iff_ne.mpr c5
  have c5b1 : (t1095 != 0) = true := bne_iff_ne.mpr c5
  simp only [Option.some.injEq, Prod.mk.injEq] at H
  obtain ⟨rfl, rfl⟩ := H
  go_enter Tryd.func84, Tryd.ntmps84
  go_wp2_with (first | ((with_reducible refine gate_callee (f := 80) rfl ?_); refine goesL_ (some 10) rfl rfl Tryd.func80 (by kernel_rfl) rfl #[.slice A0 l0.length c0] rfl (by (try simp only [List.map_toArray, List.map_cons, List.map_nil]); first | done | rfl | (simp only [List.length_drop, List.length_take]; rfl)) ?_; (with_reducible refine (customsref04_Valid.calls k _ _ l0 t1095 _ ?side1 ?side2 A4.out).mono ?_); (case side1 => repeat (first | exact HR0.out | (with_reducible refine Kd.C_alloc ?_ _) | (with_reducible refine Kd.C_drewN ?_ _) | (with_reducible refine Kd.C_drew ?_))); (case side2 => exact HC0.out); rintro e w' ⟨rfl, ⟨nd, rfl⟩⟩; refine ⟨_, rfl, ?_⟩))
  go_ret2
  exact ⟨by first | rfl | (simp; done) | (simp [*]; done), by repeat (first | exact Drawn0.refl _ | apply Drawn0.step)⟩

def customsref04_NextWorking.l0 : Nat → List Int → Int → Option (Int × Int)
 | 0, _, _ => none
 | k + 1, x0, x1 => (customsref04_Working.f k x0 x1).bind fun t1101 => (if t1101 = true then (some (x1, 0)) else ((customsref04_Day.f (wrap64 (x1 + 1))).bind fun t1102 => (if t1102 = true then (customsref04_NextWorking.l0 k x0 (wrap64 (x1 + 1))) else (some (0, 3)))))
def customsref04_NextWorking.f (k : Nat) (l0 : List Int) (a1 : Int) : Option (Int × Int) := (customsref04_Valid.f k l0).bind fun t1099 => (if t1099 = 0 then ((customsref04_Day.f a1).bind fun t1100 => (if t1100 = true then (customsref04_NextWorking.l0 k l0 a1) else (some (0, 2)))) else (some (0, t1099)))
set_option maxHeartbeats 8000000 in
set_option maxRecDepth 100000 in
theorem customsref04_NextWorking.calls (k : Nat) (A0 : Option Addr) (c0 : Nat) (l0 : List Int) (a1 : Int) (r1 : Int) (r2 : Int) (w : World) (hr0 : Kd.C (Kd.int .i64) w A0 l0.length l0) (hc0 : l0.length ≤ c0) (h : customsref04_NextWorking.f k l0 a1 = some (r1, r2)) :
  Calls Tryd.prog 85 #[.slice A0 l0.length c0, .int .i64 a1] w fun e w' => e = .returned (.tuple #[.int .i64 r1, .int .i64 r2]) ∧ Drawn0 w w' := by
 have HR0 := Aside0.mk hr0
 have HC0 := Aside0.mk hc0
 clear hr0 hc0
 have H : ((customsref04_Valid.f k l0).bind fun t1099 => (if t1099 = 0 then ((customsref04_Day.f a1).bind fun t1100 => (if t1100 = true then (customsref04_NextWorking.l0 k l0 a1) else (some (0, 2)))) else (some (0, t1099)))) = some (r1, r2) := h
 clear h
 replace H := Option.bind_eq_some_iff.mp H
 obtain ⟨t1099, A30, H⟩ := H
 replace H : (if t1099 = 0 then ((customsref04_Day.f a1).bind fun t1100 => (if t1100 = true then (customsref04_NextWorking.l0 k l0 a1) else (some (0, 2)))) else (some (0, t1099))) = some (r1, r2) := H
 have A3 := Aside0.mk A30
 clear A30
 by_cases c4 : t1099 = 0
 ·
  rw [if_pos c4] at H
  have c4b0 : (t1099 == 0) = true := beq_iff_eq.mpr c4
  have c4b1 : (t1099 != 0) = false := bne_eq_false_iff_eq.mpr c4
  clear c4
  replace H := Option.bind_eq_some_iff.mp H
  obtain ⟨t1100, A50, H⟩ := H
  replace H : (if t1100 = true then (customsref04_NextWorking.l0 k l0 a1) else (some (0, 2))) = some (r1, r2) := H
  have A5 := Aside0.mk A50
  clear A50
  by_cases c6 : t1100 = true
  ·
   subst c6
   have H1 : (customsref04_NextWorking.l0 k l0 a1) = some (r1, r2) := by rw [if_pos rfl] at H; exact H
   clear H
   have H := H1
   clear H1
   have H' := Aside0.mk H
   clear H
   go_enter Tryd.func85, Tryd.ntmps85
   go_wp2_with (first | ((with_reducible refine gate_callee (f := 80) rfl ?_); refine goesL_ (some 8) rfl rfl Tryd.func80 (by kernel_rfl) rfl #[.slice A0 l0.length c0] rfl (by (try simp only [List.map_toArray, List.map_cons, List.map_nil]); first | done | rfl | (simp only [List.length_drop, List.length_take]; rfl)) ?_; (with_reducible refine (customsref04_Valid.calls k _ _ l0 t1099 _ ?side1 ?side2 A3.out).mono ?_); (case side1 => repeat (first | exact HR0.out | (with_reducible refine Kd.C_alloc ?_ _) | (with_reducible refine Kd.C_drewN ?_ _) | (with_reducible refine Kd.C_drew ?_))); (case side2 => exact HC0.out); rintro e w' ⟨rfl, ⟨nd, rfl⟩⟩; refine ⟨_, rfl, ?_⟩) | ((with_reducible refine gate_callee (f := 81) rfl ?_); refine goesL_ (some 13) rfl rfl Tryd.func81 (by kernel_rfl) rfl #[.int .i64 a1] rfl (by (try simp only [List.map_toArray, List.map_cons, List.map_nil]); first | done | rfl | (simp only [List.length_drop, List.length_take]; rfl)) ?_; (with_reducible refine (customsref04_Day.calls a1 true _ A5.out).mono ?_); rintro e w' ⟨rfl, ⟨nd, rfl⟩⟩; refine ⟨_, rfl, ?_⟩))
   go_loopg [1] k (fun kq v1 w' => ∃ (x1_1 : Int), v1 = .int .i64 x1_1 ∧ Aside0 (customsref04_NextWorking.l0 kq l0 x1_1 = some (r1, r2)) ∧ Aside0 (kq ≤ k) ∧ Drawn0 w w')
   case atStart => exact ⟨(a1), (by first | rfl | (simp; done) | (simp [*]; done)), H', ⟨Nat.le_refl _⟩, by repeat (first | exact Drawn0.refl _ | apply Drawn0.step)⟩
   case round =>
    clear H'
    try clear p2
    try clear c4
    try clear c4b0
    try clear c4b1
    try clear c6
    obtain ⟨x1_1, rfl, HA, HK1, ⟨m1, rfl⟩⟩ := hrel
    cases gk with
    | zero => exact absurd HA.out (by simp [customsref04_NextWorking.l0])
    | succ k1 =>
     have H := HA.out
     clear HA
     simp only [customsref04_NextWorking.l0] at H
     replace H := Option.bind_eq_some_iff.mp H
     obtain ⟨t1101, A70, H⟩ := H
     replace H : (if t1101 = true then (some (x1_1, 0)) else ((customsref04_Day.f (wrap64 (x1_1 + 1))).bind fun t1102 => (if t1102 = true then (customsref04_NextWorking.l0 k1 l0 (wrap64 (x1_1 + 1))) else (some (0, 3))))) = some (r1, r2) := H
     have A7 := Aside0.mk A70
     clear A70
     by_cases c8 : t1101 = true
     ·
      subst c8
      have H1 : (some (x1_1, 0)) = some (r1, r2) := by rw [if_pos rfl] at H; exact H
      clear H
      have H := H1
      clear H1
      simp only [Option.some.injEq, Prod.mk.injEq] at H
      obtain ⟨rfl, rfl⟩ := H
      go_wp2_with (first | ((with_reducible refine gate_callee (f := 104) rfl ?_); refine goesL_ (some 17) rfl rfl Tryd.func104 (by kernel_rfl) rfl #[.slice A0 l0.length c0, .int .i64 x1_1] rfl (by (try simp only [List.map_toArray, List.map_cons, List.map_nil]); first | done | rfl | (simp only [List.length_drop, List.length_take]; rfl)) ?_; (with_reducible refine (customsref04_Working.calls k1 _ _ l0 x1_1 true _ ?side1 ?side2 A7.out).mono ?_); (case side1 => repeat (first | exact HR0.out | (with_reducible refine Kd.C_alloc ?_ _) | (with_reducible refine Kd.C_drewN ?_ _) | (with_reducible refine Kd.C_drew ?_))); (case side2 => exact HC0.out); rintro e w' ⟨rfl, ⟨nd, rfl⟩⟩; refine ⟨_, rfl, ?_⟩))
      go_ret2
      exact ⟨by first | rfl | (simp; done) | (simp [*]; done), by repeat (first | exact Drawn0.refl _ | apply Drawn0.step)⟩
     ·
      replace c8 := Bool.eq_false_iff.mpr c8
      subst c8
      have H1 : ((customsref04_Day.f (wrap64 (x1_1 + 1))).bind fun t1102 => (if t1102 = true then (customsref04_NextWorking.l0 k1 l0 (wrap64 (x1_1 + 1))) else (some (0, 3)))) = some (r1, r2) := by rw [if_neg (show ¬ (false = true) by decide)] at H; exact H
      clear H
      have H := H1
      clear H1
      replace H := Option.bind_eq_some_iff.mp H
      obtain ⟨t1102, A90, H⟩ := H
      replace H : (if t1102 = true then (customsref04_NextWorking.l0 k1 l0 (wrap64 (x1_1 + 1))) else (some (0, 3))) = some (r1, r2) := H
      have A9 := Aside0.mk A90
      clear A90
      by_cases c10 : t1102 = true
      ·
       subst c10
       have H1 : (customsref04_NextWorking.l0 k1 l0 (wrap64 (x1_1 + 1))) = some (r1, r2) := by rw [if_pos rfl] at H; exact H
       clear H
       have H := H1
       clear H1
       have H' := Aside0.mk H
       clear H
       go_wp2_with (first | ((with_reducible refine gate_callee (f := 104) rfl ?_); refine goesL_ (some 17) rfl rfl Tryd.func104 (by kernel_rfl) rfl #[.slice A0 l0.length c0, .int .i64 x1_1] rfl (by (try simp only [List.map_toArray, List.map_cons, List.map_nil]); first | done | rfl | (simp only [List.length_drop, List.length_take]; rfl)) ?_; (with_reducible refine (customsref04_Working.calls k1 _ _ l0 x1_1 false _ ?side1 ?side2 A7.out).mono ?_); (case side1 => repeat (first | exact HR0.out | (with_reducible refine Kd.C_alloc ?_ _) | (with_reducible refine Kd.C_drewN ?_ _) | (with_reducible refine Kd.C_drew ?_))); (case side2 => exact HC0.out); rintro e w' ⟨rfl, ⟨nd, rfl⟩⟩; refine ⟨_, rfl, ?_⟩) | ((with_reducible refine gate_callee (f := 81) rfl ?_); refine goesL_ (some 22) rfl rfl Tryd.func81 (by kernel_rfl) rfl #[.int .i64 (wrap64 (x1_1 + 1))] rfl (by (try simp only [List.map_toArray, List.map_cons, List.map_nil]); first | done | rfl | (simp only [List.length_drop, List.length_take]; rfl)) ?_; (with_reducible refine (customsref04_Day.calls (wrap64 (x1_1 + 1)) true _ A9.out).mono ?_); rintro e w' ⟨rfl, ⟨nd, rfl⟩⟩; refine ⟨_, rfl, ?_⟩))
       go_roundg k1
       case measure => have := HK1.out; omega
       case rel => exact ⟨(wrap64 (x1_1 + 1)), (by first | rfl | (simp; done) | (simp [*]; done)), H', ⟨by have := HK1.out; omega⟩, by repeat (first | exact Drawn0.refl _ | apply Drawn0.step)⟩
      ·
       replace c10 := Bool.eq_false_iff.mpr c10
       subst c10
       have H1 : (some (0, 3)) = some (r1, r2) := by rw [if_neg (show ¬ (false = true) by decide)] at H; exact H
       clear H
       have H := H1
       clear H1
       simp only [Option.some.injEq, Prod.mk.injEq] at H
       obtain ⟨rfl, rfl⟩ := H
       go_wp2_with (first | ((with_reducible refine gate_callee (f := 104) rfl ?_); refine goesL_ (some 17) rfl rfl Tryd.func104 (by kernel_rfl) rfl #[.slice A0 l0.length c0, .int .i64 x1_1] rfl (by (try simp only [List.map_toArray, List.map_cons, List.map_nil]); first | done | rfl | (simp only [List.length_drop, List.length_take]; rfl)) ?_; (with_reducible refine (customsref04_Working.calls k1 _ _ l0 x1_1 false _ ?side1 ?side2 A7.out).mono ?_); (case side1 => repeat (first | exact HR0.out | (with_reducible refine Kd.C_alloc ?_ _) | (with_reducible refine Kd.C_drewN ?_ _) | (with_reducible refine Kd.C_drew ?_))); (case side2 => exact HC0.out); rintro e w' ⟨rfl, ⟨nd, rfl⟩⟩; refine ⟨_, rfl, ?_⟩) | ((with_reducible refine gate_callee (f := 81) rfl ?_); refine goesL_ (some 22) rfl rfl Tryd.func81 (by kernel_rfl) rfl #[.int .i64 (wrap64 (x1_1 + 1))] rfl (by (try simp only [List.map_toArray, List.map_cons, List.map_nil]); first | done | rfl | (simp only [List.length_drop, List.length_take]; rfl)) ?_; (with_reducible refine (customsref04_Day.calls (wrap64 (x1_1 + 1)) false _ A9.out).mono ?_); rintro e w' ⟨rfl, ⟨nd, rfl⟩⟩; refine ⟨_, rfl, ?_⟩))
       go_ret2
       exact ⟨by first | rfl | (simp; done) | (simp [*]; done), by repeat (first | exact Drawn0.refl _ | apply Drawn0.step)⟩
  ·
   replace c6 := Bool.eq_false_iff.mpr c6
   subst c6
   have H1 : (some (0, 2)) = some (r1, r2) := by rw [if_neg (show ¬ (false = true) by decide)] at H; exact H
   clear H
   have H := H1
   clear H1
   simp only [Option.some.injEq, Prod.mk.injEq] at H
   obtain ⟨rfl, rfl⟩ := H
   go_enter Tryd.func85, Tryd.ntmps85
   go_wp2_with (first | ((with_reducible refine gate_callee (f := 80) rfl ?_); refine goesL_ (some 8) rfl rfl Tryd.func80 (by kernel_rfl) rfl #[.slice A0 l0.length c0] rfl (by (try simp only [List.map_toArray, List.map_cons, List.map_nil]); first | done | rfl | (simp only [List.length_drop, List.length_take]; rfl)) ?_; (with_reducible refine (customsref04_Valid.calls k _ _ l0 t1099 _ ?side1 ?side2 A3.out).mono ?_); (case side1 => repeat (first | exact HR0.out | (with_reducible refine Kd.C_alloc ?_ _) | (with_reducible refine Kd.C_drewN ?_ _) | (with_reducible refine Kd.C_drew ?_))); (case side2 => exact HC0.out); rintro e w' ⟨rfl, ⟨nd, rfl⟩⟩; refine ⟨_, rfl, ?_⟩) | ((with_reducible refine gate_callee (f := 81) rfl ?_); refine goesL_ (some 13) rfl rfl Tryd.func81 (by kernel_rfl) rfl #[.int .i64 a1] rfl (by (try simp only [List.map_toArray, List.map_cons, List.map_nil]); first | done | rfl | (simp only [List.length_drop, List.length_take]; rfl)) ?_; (with_reducible refine (customsref04_Day.calls a1 false _ A5.out).mono ?_); rintro e w' ⟨rfl, ⟨nd, rfl⟩⟩; refine ⟨_, rfl, ?_⟩))
   go_ret2
   exact ⟨by first | rfl | (simp; done) | (simp [*]; done), by repeat (first | exact Drawn0.refl _ | apply Drawn0.step)⟩
 ·
  rw [if_neg c4] at H
  have c4b0 : (t1099 == 0) = false := beq_eq_false_iff_ne.mpr c4
  have c4b1 : (t1099 != 0) = true := bne_iff_ne.mpr c4
  simp only [Option.some.injEq, Prod.mk.injEq] at H
  obtain ⟨rfl, rfl⟩ := H
  go_enter Tryd.func85, Tryd.ntmps85
  go_wp2_with (first | ((with_reducible refine gate_callee (f := 80) rfl ?_); refine goesL_ (some 8) rfl rfl Tryd.func80 (by kernel_rfl) rfl #[.slice A0 l0.length c0] rfl (by (try simp only [List.map_toArray, List.map_cons, List.map_nil]); first | done | rfl | (simp only [List.length_drop, List.length_take]; rfl)) ?_; (with_reducible refine (customsref04_Valid.calls k _ _ l0 t1099 _ ?side1 ?side2 A3.out).mono ?_); (case side1 => repeat (first | exact HR0.out | (with_reducible refine Kd.C_alloc ?_ _) | (with_reducible refine Kd.C_drewN ?_ _) | (with_reducible refine Kd.C_drew ?_))); (case side2 => exact HC0.out); rintro e w' ⟨rfl, ⟨nd, rfl⟩⟩; refine ⟨_, rfl, ?_⟩))
  go_ret2
  exact ⟨by first | rfl | (simp; done) | (simp [*]; done), by repeat (first | exact Drawn0.refl _ | apply Drawn0.step)⟩

mutual
def customsref04_Deadline.j0 : Nat → List Int → Int → Bool → Int → Int → Int → Option (Int × Int)
 | 0, _, _, _, _, _, _ => none
 | k + 1, x0, x1, x36, x1104000, x1104001, x1104002 => if x36 = true then (some (0, 2)) else ((customsref04_AddMonths.f k x1 x1104000).bind fun bt1109 => (if bt1109.2 = 0 then ((customsref04_Day.f (wrap64 (bt1109.1 + x1104001))).bind fun t1111 => (customsref04_Deadline.j1 k x0 bt1109.1 (!t1111) x1104000 x1104001 x1104002)) else (customsref04_Deadline.j1 k x0 bt1109.1 true x1104000 x1104001 x1104002)))
def customsref04_Deadline.j1 : Nat → List Int → Int → Bool → Int → Int → Int → Option (Int × Int)
 | 0, _, _, _, _, _, _ => none
 | k + 1, x0, x9, x53, x1104000, x1104001, x1104002 => if x53 = true then (some (0, 3)) else ((customsref04_AddWorking.f k x0 (wrap64 (x9 + x1104001)) x1104002).bind fun bt1112 => (if bt1112.2 = 0 then ((customsref04_NextWorking.f k x0 bt1112.1).bind fun bt1114 => (some (bt1114.1, bt1114.2))) else (some (0, bt1112.2))))
end
def customsref04_Deadline.f (k : Nat) (l0 : List Int) (a1 : Int) (a2_0 : Int) (a2_1 : Int) (a2_2 : Int) : Option (Int × Int) := (customsref04_Valid.f k l0).bind fun t1104 => (if t1104 = 0 then ((customsref04_Day.f a1).bind fun t1105 => (if t1105 = true then ((customsref04_within.f a2_0).bind fun t1106 => (if t1106 = true then ((customsref04_within.f a2_1).bind fun t1107 => (if t1107 = true then ((customsref04_within.f a2_2).bind fun t1108 => (customsref04_Deadline.j0 k l0 a1 (!t1108) a2_0 a2_1 a2_2)) else (customsref04_Deadline.j0 k l0 a1 true a2_0 a2_1 a2_2))) else (customsref04_Deadline.j0 k l0 a1 true a2_0 a2_1 a2_2))) else (customsref04_Deadline.j0 k l0 a1 true a2_0 a2_1 a2_2))) else (some (0, t1104)))
set_option maxHeartbeats 8000000 in
set_option maxRecDepth 100000 in
theorem customsref04_Deadline.calls (k : Nat) (A0 : Option Addr) (c0 : Nat) (l0 : List Int) (a1 : Int) (a2_0 : Int) (a2_1 : Int) (a2_2 : Int) (r1 : Int) (r2 : Int) (w : World) (hr0 : Kd.C (Kd.int .i64) w A0 l0.length l0) (hc0 : l0.length ≤ c0) (h : customsref04_Deadline.f k l0 a1 a2_0 a2_1 a2_2 = some (r1, r2)) :
  Calls Tryd.prog 72 #[.slice A0 l0.length c0, .int .i64 a1, .agg #[.int .i64 a2_0, .int .i64 a2_1, .int .i64 a2_2]] w fun e w' => e = .returned (.tuple #[.int .i64 r1, .int .i64 r2]) ∧ Below w.heap.size w w' := by
 have hu95 := Tryd.underlying95
 have HR0 := Aside0.mk hr0
 have HC0 := Aside0.mk hc0
 clear hr0 hc0
 have HB := Aside0.mk (Below.refl w.heap.size w)
 have H : ((customsref04_Valid.f k l0).bind fun t1104 => (if t1104 = 0 then ((customsref04_Day.f a1).bind fun t1105 => (if t1105 = true then ((customsref04_within.f a2_0).bind fun t1106 => (if t1106 = true then ((customsref04_within.f a2_1).bind fun t1107 => (if t1107 = true then ((customsref04_within.f a2_2).bind fun t1108 => (customsref04_Deadline.j0 k l0 a1 (!t1108) a2_0 a2_1 a2_2)) else (customsref04_Deadline.j0 k l0 a1 true a2_0 a2_1 a2_2))) else (customsref04_Deadline.j0 k l0 a1 true a2_0 a2_1 a2_2))) else (customsref04_Deadline.j0 k l0 a1 true a2_0 a2_1 a2_2))) else (some (0, t1104)))) = some (r1, r2) := h
 clear h
 replace H := Option.bind_eq_some_iff.mp H
 obtain ⟨t1104, A40, H⟩ := H
 replace H : (if t1104 = 0 then ((customsref04_Day.f a1).bind fun t1105 => (if t1105 = true then ((customsref04_within.f a2_0).bind fun t1106 => (if t1106 = true then ((customsref04_within.f a2_1).bind fun t1107 => (if t1107 = true then ((customsref04_within.f a2_2).bind fun t1108 => (customsref04_Deadline.j0 k l0 a1 (!t1108) a2_0 a2_1 a2_2)) else (customsref04_Deadline.j0 k l0 a1 true a2_0 a2_1 a2_2))) else (customsref04_Deadline.j0 k l0 a1 true a2_0 a2_1 a2_2))) else (customsref04_Deadline.j0 k l0 a1 true a2_0 a2_1 a2_2))) else (some (0, t1104))) = some (r1, r2) := H
 have A4 := Aside0.mk A40
 clear A40
 by_cases c5 : t1104 = 0
 ·
  rw [if_pos c5] at H
  have c5b0 : (t1104 == 0) = true := beq_iff_eq.mpr c5
  have c5b1 : (t1104 != 0) = false := bne_eq_false_iff_eq.mpr c5
  clear c5
  have HC6 := Aside0.mk H
  clear H
  go_enter Tryd.func72, Tryd.ntmps72
  go_upto_region 4 with (first | ((with_reducible refine gate_dst (N := 5) rfl ?_); refine box_event ?hg (N := 5) ?hd (cs := #[.int .i64 a2_0, .int .i64 a2_1, .int .i64 a2_2]) (t := 95) ?hr ?_; (case hd => rfl); (case hg => rfl); (case hr => first | (go_simp; done) | (go_simp; rfl)); intro gb1103 hg w7 hbox hb; have n0_ := Aside0.mk (below_step HB.out hb); have n1_ := Aside0.mk (hbox); have n2_ := Aside0.mk ((by rw [hg]; exact (below_size HB.out) : w.heap.size ≤ gb1103)); have n3_ := Aside0.mk ((by rw [hg]; exact (below_size HB.out) : w.heap.size ≤ gb1103)); clear HB; have HB := n0_; have BK1103 := n1_; have GW1103 := n2_; have GE1103 := n3_; clear n0_ n1_ n2_ n3_; clear hb hbox hg) | ((with_reducible refine gate_callee (f := 80) rfl ?_); refine goesL_ (some 12) rfl rfl Tryd.func80 (by kernel_rfl) rfl #[.slice A0 l0.length c0] rfl (by (try simp only [List.map_toArray, List.map_cons, List.map_nil]); first | done | rfl | (simp only [List.length_drop, List.length_take]; rfl)) ?_; (with_reducible refine (customsref04_Valid.calls k _ _ l0 t1104 _ ?side1 ?side2 A4.out).mono ?_); (case side1 => repeat (first | exact (Kd.C_below HR0.out HB.out) | (with_reducible refine Kd.C_alloc ?_ _) | (with_reducible refine Kd.C_drewN ?_ _) | (with_reducible refine Kd.C_drew ?_))); (case side2 => exact HC0.out); rintro e w' ⟨rfl, ⟨nd, rfl⟩⟩; refine ⟨_, rfl, ?_⟩))
  (try simp only [Act.put, List.setIfInBounds_toArray, List.set_cons_zero, List.set_cons_succ])
  go_cut [36] (fun v36 wc => ∃ (kq : Nat) (x36_5 : Bool), v36 = .bool x36_5 ∧ Aside0 (customsref04_Deadline.j0 kq l0 a1 x36_5 a2_0 a2_1 a2_2 = some (r1, r2)) ∧ Aside0 (kq ≤ k) ∧ Aside0 (wc.heap[gb1103]? = some (.cells #[.int .i64 a2_0, .int .i64 a2_1, .int .i64 a2_2] 95 (0, 0))) ∧ Aside0 (Below w.heap.size w wc))
  case first =>
   have H := HC6.out
   clear HC6
   replace H := Option.bind_eq_some_iff.mp H
   obtain ⟨t1105, A80, H⟩ := H
   replace H : (if t1105 = true then ((customsref04_within.f a2_0).bind fun t1106 => (if t1106 = true then ((customsref04_within.f a2_1).bind fun t1107 => (if t1107 = true then ((customsref04_within.f a2_2).bind fun t1108 => (customsref04_Deadline.j0 k l0 a1 (!t1108) a2_0 a2_1 a2_2)) else (customsref04_Deadline.j0 k l0 a1 true a2_0 a2_1 a2_2))) else (customsref04_Deadline.j0 k l0 a1 true a2_0 a2_1 a2_2))) else (customsref04_Deadline.j0 k l0 a1 true a2_0 a2_1 a2_2)) = some (r1, r2) := H
   have A8 := Aside0.mk A80
   clear A80
   by_cases c9 : t1105 = true
   ·
    subst c9
    have H1 : ((customsref04_within.f a2_0).bind fun t1106 => (if t1106 = true then ((customsref04_within.f a2_1).bind fun t1107 => (if t1107 = true then ((customsref04_within.f a2_2).bind fun t1108 => (customsref04_Deadline.j0 k l0 a1 (!t1108) a2_0 a2_1 a2_2)) else (customsref04_Deadline.j0 k l0 a1 true a2_0 a2_1 a2_2))) else (customsref04_Deadline.j0 k l0 a1 true a2_0 a2_1 a2_2))) = some (r1, r2) := by rw [if_pos rfl] at H; exact H
    clear H
    have H := H1
    clear H1
    replace H := Option.bind_eq_some_iff.mp H
    obtain ⟨t1106, A100, H⟩ := H
    replace H : (if t1106 = true then ((customsref04_within.f a2_1).bind fun t1107 => (if t1107 = true then ((customsref04_within.f a2_2).bind fun t1108 => (customsref04_Deadline.j0 k l0 a1 (!t1108) a2_0 a2_1 a2_2)) else (customsref04_Deadline.j0 k l0 a1 true a2_0 a2_1 a2_2))) else (customsref04_Deadline.j0 k l0 a1 true a2_0 a2_1 a2_2)) = some (r1, r2) := H
    have A10 := Aside0.mk A100
    clear A100
    by_cases c11 : t1106 = true
    ·
     subst c11
     have H1 : ((customsref04_within.f a2_1).bind fun t1107 => (if t1107 = true then ((customsref04_within.f a2_2).bind fun t1108 => (customsref04_Deadline.j0 k l0 a1 (!t1108) a2_0 a2_1 a2_2)) else (customsref04_Deadline.j0 k l0 a1 true a2_0 a2_1 a2_2))) = some (r1, r2) := by rw [if_pos rfl] at H; exact H
     clear H
     have H := H1
     clear H1
     replace H := Option.bind_eq_some_iff.mp H
     obtain ⟨t1107, A120, H⟩ := H
     replace H : (if t1107 = true then ((customsref04_within.f a2_2).bind fun t1108 => (customsref04_Deadline.j0 k l0 a1 (!t1108) a2_0 a2_1 a2_2)) else (customsref04_Deadline.j0 k l0 a1 true a2_0 a2_1 a2_2)) = some (r1, r2) := H
     have A12 := Aside0.mk A120
     clear A120
     by_cases c13 : t1107 = true
     ·
      subst c13
      have H1 : ((customsref04_within.f a2_2).bind fun t1108 => (customsref04_Deadline.j0 k l0 a1 (!t1108) a2_0 a2_1 a2_2)) = some (r1, r2) := by rw [if_pos rfl] at H; exact H
      clear H
      have H := H1
      clear H1
      replace H := Option.bind_eq_some_iff.mp H
      obtain ⟨t1108, A140, H⟩ := H
      replace H : (customsref04_Deadline.j0 k l0 a1 (!t1108) a2_0 a2_1 a2_2) = some (r1, r2) := H
      have A14 := Aside0.mk A140
      clear A140
      have H' := Aside0.mk H
      clear H
      go_wp2_with (first | ((with_reducible refine gate_callee (f := 81) rfl ?_); refine goesL_ (some 17) rfl rfl Tryd.func81 (by kernel_rfl) rfl #[.int .i64 a1] rfl (by (try simp only [List.map_toArray, List.map_cons, List.map_nil]); first | done | rfl | (simp only [List.length_drop, List.length_take]; rfl)) ?_; (with_reducible refine (customsref04_Day.calls a1 true _ A8.out).mono ?_); rintro e w' ⟨rfl, ⟨nd, rfl⟩⟩; refine ⟨_, rfl, ?_⟩; have hcz15_0 : w7.cell? ⟨gb1103, 0, none⟩ = some (.int .i64 a2_0) := (blk_cell BK1103.out 0).trans rfl; have hcz15_1 : w7.cell? ⟨gb1103, 1, none⟩ = some (.int .i64 a2_1) := (blk_cell BK1103.out 1).trans rfl; have hcz15_2 : w7.cell? ⟨gb1103, 2, none⟩ = some (.int .i64 a2_2) := (blk_cell BK1103.out 2).trans rfl; have hfz15_0 := blk_frozen BK1103.out 0; have hfz15_1 := blk_frozen BK1103.out 1; have hfz15_2 := blk_frozen BK1103.out 2; (try (have hpz15_1 : ∀ v0_ v1_ : Value, ((w7.setCell ⟨gb1103, 0, none⟩ v0_).setCell ⟨gb1103, 1, none⟩ v1_).cell? ⟨gb1103, 1, none⟩ = some v1_ := by (intros; go_simp))); (try (have hpz15_2 : ∀ v0_ v1_ v2_ : Value, (((w7.setCell ⟨gb1103, 0, none⟩ v0_).setCell ⟨gb1103, 1, none⟩ v1_).setCell ⟨gb1103, 2, none⟩ v2_).cell? ⟨gb1103, 2, none⟩ = some v2_ := by (intros; go_simp)))) | (go_at_call 82; (with_reducible refine (customsref04_within.calls a2_0 true _ A10.out).mono ?_); rintro e w' ⟨rfl, ⟨nd, rfl⟩⟩) | (go_at_call 82; (with_reducible refine (customsref04_within.calls a2_1 true _ A12.out).mono ?_); rintro e w' ⟨rfl, ⟨nd, rfl⟩⟩) | (go_at_call 82; (with_reducible refine (customsref04_within.calls a2_2 t1108 _ A14.out).mono ?_); rintro e w' ⟨rfl, ⟨nd, rfl⟩⟩))
      go_meet
      case rel => exact ⟨_, (!t1108), (by first | rfl | (simp; done) | (simp [*]; done)), H', ⟨by first | omega | exact Nat.le_refl _⟩, ⟨by (with_reducible repeat (first | refine blk_drewN ?_ _ | refine blk_drew ?_ | refine blk_alloc ?_ _)); exact BK1103.out⟩, ⟨by repeat (first | (with_reducible first | exact HB.out | apply below_alloc | apply pw_below_drewN | apply below_drew1 | refine below_set ?_ GE1103.out) | exact HB.out)⟩⟩
     ·
      replace c13 := Bool.eq_false_iff.mpr c13
      subst c13
      have H1 : (customsref04_Deadline.j0 k l0 a1 true a2_0 a2_1 a2_2) = some (r1, r2) := by rw [if_neg (show ¬ (false = true) by decide)] at H; exact H
      clear H
      have H := H1
      clear H1
      have H' := Aside0.mk H
      clear H
      go_wp2_with (first | ((with_reducible refine gate_callee (f := 81) rfl ?_); refine goesL_ (some 17) rfl rfl Tryd.func81 (by kernel_rfl) rfl #[.int .i64 a1] rfl (by (try simp only [List.map_toArray, List.map_cons, List.map_nil]); first | done | rfl | (simp only [List.length_drop, List.length_take]; rfl)) ?_; (with_reducible refine (customsref04_Day.calls a1 true _ A8.out).mono ?_); rintro e w' ⟨rfl, ⟨nd, rfl⟩⟩; refine ⟨_, rfl, ?_⟩; have hcz16_0 : w7.cell? ⟨gb1103, 0, none⟩ = some (.int .i64 a2_0) := (blk_cell BK1103.out 0).trans rfl; have hcz16_1 : w7.cell? ⟨gb1103, 1, none⟩ = some (.int .i64 a2_1) := (blk_cell BK1103.out 1).trans rfl; have hcz16_2 : w7.cell? ⟨gb1103, 2, none⟩ = some (.int .i64 a2_2) := (blk_cell BK1103.out 2).trans rfl; have hfz16_0 := blk_frozen BK1103.out 0; have hfz16_1 := blk_frozen BK1103.out 1; have hfz16_2 := blk_frozen BK1103.out 2; (try (have hpz16_1 : ∀ v0_ v1_ : Value, ((w7.setCell ⟨gb1103, 0, none⟩ v0_).setCell ⟨gb1103, 1, none⟩ v1_).cell? ⟨gb1103, 1, none⟩ = some v1_ := by (intros; go_simp))); (try (have hpz16_2 : ∀ v0_ v1_ v2_ : Value, (((w7.setCell ⟨gb1103, 0, none⟩ v0_).setCell ⟨gb1103, 1, none⟩ v1_).setCell ⟨gb1103, 2, none⟩ v2_).cell? ⟨gb1103, 2, none⟩ = some v2_ := by (intros; go_simp)))) | (go_at_call 82; (with_reducible refine (customsref04_within.calls a2_0 true _ A10.out).mono ?_); rintro e w' ⟨rfl, ⟨nd, rfl⟩⟩) | (go_at_call 82; (with_reducible refine (customsref04_within.calls a2_1 false _ A12.out).mono ?_); rintro e w' ⟨rfl, ⟨nd, rfl⟩⟩))
      go_meet
      case rel => exact ⟨_, (true), (by first | rfl | (simp; done) | (simp [*]; done)), H', ⟨by first | omega | exact Nat.le_refl _⟩, ⟨by (with_reducible repeat (first | refine blk_drewN ?_ _ | refine blk_drew ?_ | refine blk_alloc ?_ _)); exact BK1103.out⟩, ⟨by repeat (first | (with_reducible first | exact HB.out | apply below_alloc | apply pw_below_drewN | apply below_drew1 | refine below_set ?_ GE1103.out) | exact HB.out)⟩⟩
    ·
     replace c11 := Bool.eq_false_iff.mpr c11
     subst c11
     have H1 : (customsref04_Deadline.j0 k l0 a1 true a2_0 a2_1 a2_2) = some (r1, r2) := by rw [if_neg (show ¬ (false = true) by decide)] at H; exact H
     clear H
     have H := H1
     clear H1
     have H' := Aside0.mk H
     clear H
     go_wp2_with (first | ((with_reducible refine gate_callee (f := 81) rfl ?_); refine goesL_ (some 17) rfl rfl Tryd.func81 (by kernel_rfl) rfl #[.int .i64 a1] rfl (by (try simp only [List.map_toArray, List.map_cons, List.map_nil]); first | done | rfl | (simp only [List.length_drop, List.length_take]; rfl)) ?_; (with_reducible refine (customsref04_Day.calls a1 true _ A8.out).mono ?_); rintro e w' ⟨rfl, ⟨nd, rfl⟩⟩; refine ⟨_, rfl, ?_⟩; have hcz17_0 : w7.cell? ⟨gb1103, 0, none⟩ = some (.int .i64 a2_0) := (blk_cell BK1103.out 0).trans rfl; have hcz17_1 : w7.cell? ⟨gb1103, 1, none⟩ = some (.int .i64 a2_1) := (blk_cell BK1103.out 1).trans rfl; have hcz17_2 : w7.cell? ⟨gb1103, 2, none⟩ = some (.int .i64 a2_2) := (blk_cell BK1103.out 2).trans rfl; have hfz17_0 := blk_frozen BK1103.out 0; have hfz17_1 := blk_frozen BK1103.out 1; have hfz17_2 := blk_frozen BK1103.out 2; (try (have hpz17_1 : ∀ v0_ v1_ : Value, ((w7.setCell ⟨gb1103, 0, none⟩ v0_).setCell ⟨gb1103, 1, none⟩ v1_).cell? ⟨gb1103, 1, none⟩ = some v1_ := by (intros; go_simp))); (try (have hpz17_2 : ∀ v0_ v1_ v2_ : Value, (((w7.setCell ⟨gb1103, 0, none⟩ v0_).setCell ⟨gb1103, 1, none⟩ v1_).setCell ⟨gb1103, 2, none⟩ v2_).cell? ⟨gb1103, 2, none⟩ = some v2_ := by (intros; go_simp)))) | (go_at_call 82; (with_reducible refine (customsref04_within.calls a2_0 false _ A10.out).mono ?_); rintro e w' ⟨rfl, ⟨nd, rfl⟩⟩))
     go_meet
     case rel => exact ⟨_, (true), (by first | rfl | (simp; done) | (simp [*]; done)), H', ⟨by first | omega | exact Nat.le_refl _⟩, ⟨by (with_reducible repeat (first | refine blk_drewN ?_ _ | refine blk_drew ?_ | refine blk_alloc ?_ _)); exact BK1103.out⟩, ⟨by repeat (first | (with_reducible first | exact HB.out | apply below_alloc | apply pw_below_drewN | apply below_drew1 | refine below_set ?_ GE1103.out) | exact HB.out)⟩⟩
   ·
    replace c9 := Bool.eq_false_iff.mpr c9
    subst c9
    have H1 : (customsref04_Deadline.j0 k l0 a1 true a2_0 a2_1 a2_2) = some (r1, r2) := by rw [if_neg (show ¬ (false = true) by decide)] at H; exact H
    clear H
    have H := H1
    clear H1
    have H' := Aside0.mk H
    clear H
    go_wp2_with (first | ((with_reducible refine gate_callee (f := 81) rfl ?_); refine goesL_ (some 17) rfl rfl Tryd.func81 (by kernel_rfl) rfl #[.int .i64 a1] rfl (by (try simp only [List.map_toArray, List.map_cons, List.map_nil]); first | done | rfl | (simp only [List.length_drop, List.length_take]; rfl)) ?_; (with_reducible refine (customsref04_Day.calls a1 false _ A8.out).mono ?_); rintro e w' ⟨rfl, ⟨nd, rfl⟩⟩; refine ⟨_, rfl, ?_⟩))
    go_meet
    case rel => exact ⟨_, (true), (by first | rfl | (simp; done) | (simp [*]; done)), H', ⟨by first | omega | exact Nat.le_refl _⟩, ⟨by (with_reducible repeat (first | refine blk_drewN ?_ _ | refine blk_drew ?_ | refine blk_alloc ?_ _)); exact BK1103.out⟩, ⟨by repeat (first | (with_reducible first | exact HB.out | apply below_alloc | apply pw_below_drewN | apply below_drew1 | refine below_set ?_ GE1103.out) | exact HB.out)⟩⟩
  case rest =>
   clear HC6
   try clear c1
   try clear p2
   try clear c5
   try clear c5b0
   try clear c5b1
   try clear c7
   try clear c8
   try clear c9
   try clear c11
   try clear c13
   try clear hcz15_0
   try clear hcz15_1
   try clear hcz15_2
   try clear hcz16_0
   try clear hcz16_1
   try clear hcz16_2
   try clear hcz17_0
   try clear hcz17_1
   try clear hcz17_2
   try clear hfz15_0
   try clear hfz15_1
   try clear hfz15_2
   try clear hfz16_0
   try clear hfz16_1
   try clear hfz16_2
   try clear hfz17_0
   try clear hfz17_1
   try clear hfz17_2
   obtain ⟨kq, x36_5, rfl, HA, HJ5, BK1103, HB⟩ := hcut
   cases kq with
   | zero => exact absurd HA.out (by simp [customsref04_Deadline.j0])
   | succ kj5 =>
    have H := HA.out
    clear HA
    simp only [customsref04_Deadline.j0] at H
    by_cases c18 : x36_5 = true
    ·
     subst c18
     have H1 : (some (0, 2)) = some (r1, r2) := by rw [if_pos rfl] at H; exact H
     clear H
     have H := H1
     clear H1
     simp only [Option.some.injEq, Prod.mk.injEq] at H
     obtain ⟨rfl, rfl⟩ := H
     go_wp2
     go_ret2
     exact ⟨by first | rfl | (simp [errW_none, errW_some] <;> rfl) | (simp [*, errW_none, errW_some] <;> rfl), by repeat (first | (with_reducible first | exact HB.out | apply below_alloc | apply pw_below_drewN | apply below_drew1 | refine below_set ?_ GE1103.out) | exact HB.out)⟩
    ·
     replace c18 := Bool.eq_false_iff.mpr c18
     subst c18
     have H1 : ((customsref04_AddMonths.f kj5 a1 a2_0).bind fun bt1109 => (if bt1109.2 = 0 then ((customsref04_Day.f (wrap64 (bt1109.1 + a2_1))).bind fun t1111 => (customsref04_Deadline.j1 kj5 l0 bt1109.1 (!t1111) a2_0 a2_1 a2_2)) else (customsref04_Deadline.j1 kj5 l0 bt1109.1 true a2_0 a2_1 a2_2))) = some (r1, r2) := by rw [if_neg (show ¬ (false = true) by decide)] at H; exact H
     clear H
     have H := H1
     clear H1
     replace H := Option.bind_eq_some_iff.mp H
     obtain ⟨⟨t1109, t1110⟩, A190, H⟩ := H
     replace H : (if t1110 = 0 then ((customsref04_Day.f (wrap64 (t1109 + a2_1))).bind fun t1111 => (customsref04_Deadline.j1 kj5 l0 t1109 (!t1111) a2_0 a2_1 a2_2)) else (customsref04_Deadline.j1 kj5 l0 t1109 true a2_0 a2_1 a2_2)) = some (r1, r2) := H
     have A19 := Aside0.mk A190
     clear A190
     have HC20 := Aside0.mk H
     clear H
     have hcz21_0 : wc.cell? ⟨gb1103, 0, none⟩ = some (.int .i64 a2_0) := (blk_cell BK1103.out 0).trans rfl
     have hcz21_1 : wc.cell? ⟨gb1103, 1, none⟩ = some (.int .i64 a2_1) := (blk_cell BK1103.out 1).trans rfl
     have hcz21_2 : wc.cell? ⟨gb1103, 2, none⟩ = some (.int .i64 a2_2) := (blk_cell BK1103.out 2).trans rfl
     have hfz21_0 := blk_frozen BK1103.out 0
     have hfz21_1 := blk_frozen BK1103.out 1
     have hfz21_2 := blk_frozen BK1103.out 2
     (try (have hpz21_1 : ∀ v0_ v1_ : Value, ((wc.setCell ⟨gb1103, 0, none⟩ v0_).setCell ⟨gb1103, 1, none⟩ v1_).cell? ⟨gb1103, 1, none⟩ = some v1_ := by (intros; go_simp)))
     (try (have hpz21_2 : ∀ v0_ v1_ v2_ : Value, (((wc.setCell ⟨gb1103, 0, none⟩ v0_).setCell ⟨gb1103, 1, none⟩ v1_).setCell ⟨gb1103, 2, none⟩ v2_).cell? ⟨gb1103, 2, none⟩ = some v2_ := by (intros; go_simp)))
     go_upto_region 7 with (first | ((with_reducible refine gate_callee (f := 83) rfl ?_); refine goesL_ (some 41) rfl rfl Tryd.func83 (by kernel_rfl) rfl #[.int .i64 a1, .int .i64 a2_0] rfl (by (try simp only [List.map_toArray, List.map_cons, List.map_nil]); first | done | rfl | (simp only [List.length_drop, List.length_take]; rfl)) ?_; (with_reducible refine (customsref04_AddMonths.calls kj5 a1 a2_0 t1109 t1110 _ A19.out).mono ?_); rintro e w22 ⟨rfl, hb⟩; refine ⟨_, rfl, ?_⟩; have n0_ := Aside0.mk (blk_below (g := gb1103) (o := .cells #[.int .i64 a2_0, .int .i64 a2_1, .int .i64 a2_2] 95 (0, 0)) (by (with_reducible repeat (first | refine blk_drewN ?_ _ | refine blk_drew ?_ | refine blk_alloc ?_ _)); exact BK1103.out) hb); have n1_ := Aside0.mk (below_step (by repeat (first | (with_reducible first | exact HB.out | apply below_alloc | apply pw_below_drewN | apply below_drew1 | refine below_set ?_ GE1103.out) | exact HB.out)) hb); clear BK1103; clear HB; have BK1103 := n0_; have HB := n1_; clear n0_ n1_; (try clear hb); (try clear hb2); (try clear hk); (try clear hi)))
     (try simp only [Act.put, List.setIfInBounds_toArray, List.set_cons_zero, List.set_cons_succ])
     go_cut [53] (fun v53 wc => ∃ (kq : Nat) (x53_19 : Bool), v53 = .bool x53_19 ∧ Aside0 (customsref04_Deadline.j1 kq l0 t1109 x53_19 a2_0 a2_1 a2_2 = some (r1, r2)) ∧ Aside0 (kq ≤ kj5) ∧ Aside0 (wc.heap[gb1103]? = some (.cells #[.int .i64 a2_0, .int .i64 a2_1, .int .i64 a2_2] 95 (0, 0))) ∧ Aside0 (Below w.heap.size w wc))
     case first =>
      have H := HC20.out
      clear HC20
      by_cases c23 : t1110 = 0
      ·
       rw [if_pos c23] at H
       have c23b0 : (t1110 == 0) = true := beq_iff_eq.mpr c23
       have c23b1 : (t1110 != 0) = false := bne_eq_false_iff_eq.mpr c23
       clear c23
       (first | rw [c23b0] | (simp only [i64_w, i32_w]; rw [c23b0]) | skip)
       replace H := Option.bind_eq_some_iff.mp H
       obtain ⟨t1111, A240, H⟩ := H
       replace H : (customsref04_Deadline.j1 kj5 l0 t1109 (!t1111) a2_0 a2_1 a2_2) = some (r1, r2) := H
       have A24 := Aside0.mk A240
       clear A240
       have H' := Aside0.mk H
       clear H
       have hcz25_0 : w22.cell? ⟨gb1103, 0, none⟩ = some (.int .i64 a2_0) := (blk_cell BK1103.out 0).trans rfl
       have hcz25_1 : w22.cell? ⟨gb1103, 1, none⟩ = some (.int .i64 a2_1) := (blk_cell BK1103.out 1).trans rfl
       have hcz25_2 : w22.cell? ⟨gb1103, 2, none⟩ = some (.int .i64 a2_2) := (blk_cell BK1103.out 2).trans rfl
       have hfz25_0 := blk_frozen BK1103.out 0
       have hfz25_1 := blk_frozen BK1103.out 1
       have hfz25_2 := blk_frozen BK1103.out 2
       (try (have hpz25_1 : ∀ v0_ v1_ : Value, ((w22.setCell ⟨gb1103, 0, none⟩ v0_).setCell ⟨gb1103, 1, none⟩ v1_).cell? ⟨gb1103, 1, none⟩ = some v1_ := by (intros; go_simp)))
       (try (have hpz25_2 : ∀ v0_ v1_ v2_ : Value, (((w22.setCell ⟨gb1103, 0, none⟩ v0_).setCell ⟨gb1103, 1, none⟩ v1_).setCell ⟨gb1103, 2, none⟩ v2_).cell? ⟨gb1103, 2, none⟩ = some v2_ := by (intros; go_simp)))
       go_wp2_with (first | (go_at_call 81; (with_reducible refine (customsref04_Day.calls (wrap64 (t1109 + a2_1)) t1111 _ A24.out).mono ?_); rintro e w' ⟨rfl, ⟨nd, rfl⟩⟩))
       go_meet
       case rel => exact ⟨_, (!t1111), (by first | rfl | (simp; done) | (simp [*]; done)), H', ⟨by have := HJ5.out; first | omega | exact Nat.le_refl _⟩, ⟨by (with_reducible repeat (first | refine blk_drewN ?_ _ | refine blk_drew ?_ | refine blk_alloc ?_ _)); exact BK1103.out⟩, ⟨by repeat (first | (with_reducible first | exact HB.out | apply below_alloc | apply pw_below_drewN | apply below_drew1 | refine below_set ?_ GE1103.out) | exact HB.out)⟩⟩
      ·
       rw [if_neg c23] at H
       have c23b0 : (t1110 == 0) = false := beq_eq_false_iff_ne.mpr c23
       have c23b1 : (t1110 != 0) = true := bne_iff_ne.mpr c23
       (first | rw [c23b0] | (simp only [i64_w, i32_w]; rw [c23b0]) | skip)
       have H' := Aside0.mk H
       clear H
       go_wp2
       go_meet
       case rel => exact ⟨_, (true), (by first | rfl | (simp; done) | (simp [*]; done)), H', ⟨by have := HJ5.out; first | omega | exact Nat.le_refl _⟩, ⟨by (with_reducible repeat (first | refine blk_drewN ?_ _ | refine blk_drew ?_ | refine blk_alloc ?_ _)); exact BK1103.out⟩, ⟨by repeat (first | (with_reducible first | exact HB.out | apply below_alloc | apply pw_below_drewN | apply below_drew1 | refine below_set ?_ GE1103.out) | exact HB.out)⟩⟩
     case rest =>
      clear HC20
      try clear c1
      try clear c2
      try clear p2
      try clear c5
      try clear c5b0
      try clear c5b1
      try clear p6
      try clear c7
      try clear c8
      try clear c9
      try clear c11
      try clear c13
      try clear c18
      try clear c23
      try clear c23b0
      try clear c23b1
      try clear hcz15_0
      try clear hcz15_1
      try clear hcz15_2
      try clear hcz16_0
      try clear hcz16_1
      try clear hcz16_2
      try clear hcz17_0
      try clear hcz17_1
      try clear hcz17_2
      try clear hcz21_0
      try clear hcz21_1
      try clear hcz21_2
      try clear hcz25_0
      try clear hcz25_1
      try clear hcz25_2
      try clear hfz15_0
      try clear hfz15_1
      try clear hfz15_2
      try clear hfz16_0
      try clear hfz16_1
      try clear hfz16_2
      try clear hfz17_0
      try clear hfz17_1
      try clear hfz17_2
      try clear hfz21_0
      try clear hfz21_1
      try clear hfz21_2
      try clear hfz25_0
      try clear hfz25_1
      try clear hfz25_2
      try clear p2
      obtain ⟨kq, x53_19, rfl, HA, HJ19, BK1103, HB⟩ := hcut
      cases kq with
      | zero => exact absurd HA.out (by simp [customsref04_Deadline.j1])
      | succ kj19 =>
       have H := HA.out
       clear HA
       simp only [customsref04_Deadline.j1] at H
       by_cases c26 : x53_19 = true
       ·
        subst c26
        have H1 : (some (0, 3)) = some (r1, r2) := by rw [if_pos rfl] at H; exact H
        clear H
        have H := H1
        clear H1
        simp only [Option.some.injEq, Prod.mk.injEq] at H
        obtain ⟨rfl, rfl⟩ := H
        go_wp2
        go_ret2
        exact ⟨by first | rfl | (simp [errW_none, errW_some] <;> rfl) | (simp [*, errW_none, errW_some] <;> rfl), by repeat (first | (with_reducible first | exact HB.out | apply below_alloc | apply pw_below_drewN | apply below_drew1 | refine below_set ?_ GE1103.out) | exact HB.out)⟩
       ·
        replace c26 := Bool.eq_false_iff.mpr c26
        subst c26
        have H1 : ((customsref04_AddWorking.f kj19 l0 (wrap64 (t1109 + a2_1)) a2_2).bind fun bt1112 => (if bt1112.2 = 0 then ((customsref04_NextWorking.f kj19 l0 bt1112.1).bind fun bt1114 => (some (bt1114.1, bt1114.2))) else (some (0, bt1112.2)))) = some (r1, r2) := by rw [if_neg (show ¬ (false = true) by decide)] at H; exact H
        clear H
        have H := H1
        clear H1
        replace H := Option.bind_eq_some_iff.mp H
        obtain ⟨⟨t1112, t1113⟩, A270, H⟩ := H
        replace H : (if t1113 = 0 then ((customsref04_NextWorking.f kj19 l0 t1112).bind fun bt1114 => (some (bt1114.1, bt1114.2))) else (some (0, t1113))) = some (r1, r2) := H
        have A27 := Aside0.mk A270
        clear A270
        by_cases c28 : t1113 = 0
        ·
         rw [if_pos c28] at H
         have c28b0 : (t1113 == 0) = true := beq_iff_eq.mpr c28
         have c28b1 : (t1113 != 0) = false := bne_eq_false_iff_eq.mpr c28
         clear c28
         replace H := Option.bind_eq_some_iff.mp H
         obtain ⟨⟨t1114, t1115⟩, A290, H⟩ := H
         replace H : (some (t1114, t1115)) = some (r1, r2) := H
         have A29 := Aside0.mk A290
         clear A290
         simp only [Option.some.injEq, Prod.mk.injEq] at H
         obtain ⟨rfl, rfl⟩ := H
         have hcz30_0 : wc.cell? ⟨gb1103, 0, none⟩ = some (.int .i64 a2_0) := (blk_cell BK1103.out 0).trans rfl
         have hcz30_1 : wc.cell? ⟨gb1103, 1, none⟩ = some (.int .i64 a2_1) := (blk_cell BK1103.out 1).trans rfl
         have hcz30_2 : wc.cell? ⟨gb1103, 2, none⟩ = some (.int .i64 a2_2) := (blk_cell BK1103.out 2).trans rfl
         have hfz30_0 := blk_frozen BK1103.out 0
         have hfz30_1 := blk_frozen BK1103.out 1
         have hfz30_2 := blk_frozen BK1103.out 2
         (try (have hpz30_1 : ∀ v0_ v1_ : Value, ((wc.setCell ⟨gb1103, 0, none⟩ v0_).setCell ⟨gb1103, 1, none⟩ v1_).cell? ⟨gb1103, 1, none⟩ = some v1_ := by (intros; go_simp)))
         (try (have hpz30_2 : ∀ v0_ v1_ v2_ : Value, (((wc.setCell ⟨gb1103, 0, none⟩ v0_).setCell ⟨gb1103, 1, none⟩ v1_).setCell ⟨gb1103, 2, none⟩ v2_).cell? ⟨gb1103, 2, none⟩ = some v2_ := by (intros; go_simp)))
         go_wp2_with (first | ((with_reducible refine gate_callee (f := 84) rfl ?_); refine goesL_ (some 62) rfl rfl Tryd.func84 (by kernel_rfl) rfl #[.slice A0 l0.length c0, .int .i64 (wrap64 (t1109 + a2_1)), .int .i64 a2_2] rfl (by (try simp only [List.map_toArray, List.map_cons, List.map_nil]); first | done | rfl | (simp only [List.length_drop, List.length_take]; rfl)) ?_; (with_reducible refine (customsref04_AddWorking.calls kj19 _ _ l0 (wrap64 (t1109 + a2_1)) a2_2 t1112 t1113 _ ?side1 ?side2 A27.out).mono ?_); (case side1 => repeat (first | exact (Kd.C_below HR0.out HB.out) | (with_reducible refine Kd.C_alloc ?_ _) | (with_reducible refine Kd.C_drewN ?_ _) | (with_reducible refine Kd.C_drew ?_))); (case side2 => exact HC0.out); rintro e w' ⟨rfl, ⟨nd, rfl⟩⟩; refine ⟨_, rfl, ?_⟩) | ((with_reducible refine gate_callee (f := 85) rfl ?_); refine goesL_ (some 70) rfl rfl Tryd.func85 (by kernel_rfl) rfl #[.slice A0 l0.length c0, .int .i64 t1112] rfl (by (try simp only [List.map_toArray, List.map_cons, List.map_nil]); first | done | rfl | (simp only [List.length_drop, List.length_take]; rfl)) ?_; (with_reducible refine (customsref04_NextWorking.calls kj19 _ _ l0 t1112 t1114 t1115 _ ?side1 ?side2 A29.out).mono ?_); (case side1 => repeat (first | exact (Kd.C_below HR0.out (by repeat (first | (with_reducible first | exact HB.out | apply below_alloc | apply pw_below_drewN | apply below_drew1 | refine below_set ?_ GE1103.out) | exact HB.out))) | (with_reducible refine Kd.C_alloc ?_ _) | (with_reducible refine Kd.C_drewN ?_ _) | (with_reducible refine Kd.C_drew ?_))); (case side2 => exact HC0.out); rintro e w' ⟨rfl, ⟨nd, rfl⟩⟩; refine ⟨_, rfl, ?_⟩))
         go_ret2
         exact ⟨by first | rfl | (simp [errW_none, errW_some] <;> rfl) | (simp [*, errW_none, errW_some] <;> rfl), by repeat (first | (with_reducible first | exact HB.out | apply below_alloc | apply pw_below_drewN | apply below_drew1 | refine below_set ?_ GE1103.out) | exact HB.out)⟩
        ·
         rw [if_neg c28] at H
         have c28b0 : (t1113 == 0) = false := beq_eq_false_iff_ne.mpr c28
         have c28b1 : (t1113 != 0) = true := bne_iff_ne.mpr c28
         simp only [Option.some.injEq, Prod.mk.injEq] at H
         obtain ⟨rfl, rfl⟩ := H
         have hcz31_0 : wc.cell? ⟨gb1103, 0, none⟩ = some (.int .i64 a2_0) := (blk_cell BK1103.out 0).trans rfl
         have hcz31_1 : wc.cell? ⟨gb1103, 1, none⟩ = some (.int .i64 a2_1) := (blk_cell BK1103.out 1).trans rfl
         have hcz31_2 : wc.cell? ⟨gb1103, 2, none⟩ = some (.int .i64 a2_2) := (blk_cell BK1103.out 2).trans rfl
         have hfz31_0 := blk_frozen BK1103.out 0
         have hfz31_1 := blk_frozen BK1103.out 1
         have hfz31_2 := blk_frozen BK1103.out 2
         (try (have hpz31_1 : ∀ v0_ v1_ : Value, ((wc.setCell ⟨gb1103, 0, none⟩ v0_).setCell ⟨gb1103, 1, none⟩ v1_).cell? ⟨gb1103, 1, none⟩ = some v1_ := by (intros; go_simp)))
         (try (have hpz31_2 : ∀ v0_ v1_ v2_ : Value, (((wc.setCell ⟨gb1103, 0, none⟩ v0_).setCell ⟨gb1103, 1, none⟩ v1_).setCell ⟨gb1103, 2, none⟩ v2_).cell? ⟨gb1103, 2, none⟩ = some v2_ := by (intros; go_simp)))
         go_wp2_with (first | ((with_reducible refine gate_callee (f := 84) rfl ?_); refine goesL_ (some 62) rfl rfl Tryd.func84 (by kernel_rfl) rfl #[.slice A0 l0.length c0, .int .i64 (wrap64 (t1109 + a2_1)), .int .i64 a2_2] rfl (by (try simp only [List.map_toArray, List.map_cons, List.map_nil]); first | done | rfl | (simp only [List.length_drop, List.length_take]; rfl)) ?_; (with_reducible refine (customsref04_AddWorking.calls kj19 _ _ l0 (wrap64 (t1109 + a2_1)) a2_2 t1112 t1113 _ ?side1 ?side2 A27.out).mono ?_); (case side1 => repeat (first | exact (Kd.C_below HR0.out HB.out) | (with_reducible refine Kd.C_alloc ?_ _) | (with_reducible refine Kd.C_drewN ?_ _) | (with_reducible refine Kd.C_drew ?_))); (case side2 => exact HC0.out); rintro e w' ⟨rfl, ⟨nd, rfl⟩⟩; refine ⟨_, rfl, ?_⟩))
         go_ret2
         exact ⟨by first | rfl | (simp [errW_none, errW_some] <;> rfl) | (simp [*, errW_none, errW_some] <;> rfl), by repeat (first | (with_reducible first | exact HB.out | apply below_alloc | apply pw_below_drewN | apply below_drew1 | refine below_set ?_ GE1103.out) | exact HB.out)⟩
 ·
  rw [if_neg c5] at H
  have c5b0 : (t1104 == 0) = false := beq_eq_false_iff_ne.mpr c5
  have c5b1 : (t1104 != 0) = true := bne_iff_ne.mpr c5
  simp only [Option.some.injEq, Prod.mk.injEq] at H
  obtain ⟨rfl, rfl⟩ := H
  go_enter Tryd.func72, Tryd.ntmps72
  go_wp2_with (first | ((with_reducible refine gate_dst (N := 5) rfl ?_); refine box_event ?hg (N := 5) ?hd (cs := #[.int .i64 a2_0, .int .i64 a2_1, .int .i64 a2_2]) (t := 95) ?hr ?_; (case hd => rfl); (case hg => rfl); (case hr => first | (go_simp; done) | (go_simp; rfl)); intro gb1103 hg w32 hbox hb; have n0_ := Aside0.mk (below_step HB.out hb); have n1_ := Aside0.mk (hbox); have n2_ := Aside0.mk ((by rw [hg]; exact (below_size HB.out) : w.heap.size ≤ gb1103)); have n3_ := Aside0.mk ((by rw [hg]; exact (below_size HB.out) : w.heap.size ≤ gb1103)); clear HB; have HB := n0_; have BK1103 := n1_; have GW1103 := n2_; have GE1103 := n3_; clear n0_ n1_ n2_ n3_; clear hb hbox hg) | ((with_reducible refine gate_callee (f := 80) rfl ?_); refine goesL_ (some 12) rfl rfl Tryd.func80 (by kernel_rfl) rfl #[.slice A0 l0.length c0] rfl (by (try simp only [List.map_toArray, List.map_cons, List.map_nil]); first | done | rfl | (simp only [List.length_drop, List.length_take]; rfl)) ?_; (with_reducible refine (customsref04_Valid.calls k _ _ l0 t1104 _ ?side1 ?side2 A4.out).mono ?_); (case side1 => repeat (first | exact (Kd.C_below HR0.out HB.out) | (with_reducible refine Kd.C_alloc ?_ _) | (with_reducible refine Kd.C_drewN ?_ _) | (with_reducible refine Kd.C_drew ?_))); (case side2 => exact HC0.out); rintro e w' ⟨rfl, ⟨nd, rfl⟩⟩; refine ⟨_, rfl, ?_⟩))
  go_ret2
  exact ⟨by first | rfl | (simp [errW_none, errW_some] <;> rfl) | (simp [*, errW_none, errW_some] <;> rfl), by repeat (first | (with_reducible first | exact HB.out | apply below_alloc | apply pw_below_drewN | apply below_drew1 | refine below_set ?_ GE1103.out) | exact HB.out)⟩

end Go.Proofs.YtbndoihcejieoaaDoor.G
