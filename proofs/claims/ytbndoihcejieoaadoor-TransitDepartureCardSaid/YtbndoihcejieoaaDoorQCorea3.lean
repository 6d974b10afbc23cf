/-
  Functions of the program and of the references as plain Lean functions, each with a proof that the machine's call comes to what it answers. Conditions: what each contract states.
-/
import Derived.Test.YtbndoihcejieoaaDoorQCorew1
import Derived.Test.YtbndoihcejieoaaDoorQCorev1
import Derived.Test.YtbndoihcejieoaaDoorQCorea1
import Derived.Test.YtbndoihcejieoaaDoorQCorea2
namespace Go.Proofs.YtbndoihcejieoaaDoor.G
open Go.RowKit Go.Proofs.YtbndoihcejieoaaDoorW.PrintWords Go.Proofs.YtbndoihcejieoaaDoorW.PrintLast Go.Proofs.YtbndoihcejieoaaDoorW.PrintMore
attribute [local go_sem] max2_int min2_int max_two min_two max_three min_three max_four min_four   -- for this text's walks alone
set_option linter.unusedVariables false
set_option linter.unusedSimpArgs false

mutual
def calendar_Of.l0 : Nat → Int → Int → Int → Int → Option (Int × Int × Int × Int)
 | 0, _, _, _, _ => none
 | k + 1, x0, x1030000, x1030001, x1030002 => (calendar_days.f x1030000).bind fun t1030 => (if x0 ≥ t1030 then ((calendar_days.f x1030000).bind fun t1031 => (calendar_Of.l0 k (wrap64 (x0 - t1031)) (wrap64 (x1030000 + 1)) x1030001 x1030002)) else (calendar_Of.l1 k x0 x1030000 x1030001 x1030002))
def calendar_Of.l1 : Nat → Int → Int → Int → Int → Option (Int × Int × Int × Int)
 | 0, _, _, _, _ => none
 | k + 1, x0, x1030000, x1030001, x1030002 => (calendar_length.f x1030000 x1030001).bind fun t1032 => (if x0 ≥ t1032 then ((calendar_length.f x1030000 x1030001).bind fun t1033 => (calendar_Of.l1 k (wrap64 (x0 - t1033)) x1030000 (wrap64 (x1030001 + 1)) x1030002)) else (some (x1030000, x1030001, wrap64 (x0 + 1), 0)))
end
def calendar_Of.f (k : Nat) (a0 : Int) : Option (Int × Int × Int × Int) := (calendar_valid.f a0).bind fun t1028 => (if t1028 = true then (calendar_Of.l0 k a0 2000 1 0) else (some (0, 0, 0, 2)))
set_option maxHeartbeats 8000000 in
set_option maxRecDepth 100000 in
theorem calendar_Of.calls (k : Nat) (a0 : Int) (r1 : Int) (r2 : Int) (r3 : Int) (r4 : Int) (w : World) (hG_lengths : GL_lengths w) (h : calendar_Of.f k a0 = some (r1, r2, r3, r4)) :
  Calls Tryd.prog 97 #[.int .i64 a0] w fun e w' => e = .returned (.tuple #[.agg #[.int .i64 r1, .int .i64 r2, .int .i64 r3], .int .i64 r4]) ∧ Below w.heap.size w w' := by
 have hu122 := Tryd.underlying122
 have HG_lengths := Aside0.mk hG_lengths
 clear hG_lengths
 have HB := Aside0.mk (Below.refl w.heap.size w)
 have H : ((calendar_valid.f a0).bind fun t1028 => (if t1028 = true then (calendar_Of.l0 k a0 2000 1 0) else (some (0, 0, 0, 2)))) = some (r1, r2, r3, r4) := h
 clear h
 replace H := Option.bind_eq_some_iff.mp H
 obtain ⟨t1028, A20, H⟩ := H
 replace H : (if t1028 = true then (calendar_Of.l0 k a0 2000 1 0) else (some (0, 0, 0, 2))) = some (r1, r2, r3, r4) := H
 have A2 := Aside0.mk A20
 clear A20
 by_cases c3 : t1028 = true
 ·
  subst c3
  have H1 : (calendar_Of.l0 k a0 2000 1 0) = some (r1, r2, r3, r4) := by rw [if_pos rfl] at H; exact H
  clear H
  have H := H1
  clear H1
  have H' := Aside0.mk H
  clear H
  go_enter Tryd.func97, Tryd.ntmps97
  go_wp2_with (first | ((with_reducible refine gate_dst (N := 2) rfl ?_); refine box_event ?hg (N := 2) ?hd (cs := #[.int .i64 0, .int .i64 0, .int .i64 0]) (t := 122) ?hr ?_; (case hd => rfl); (case hg => rfl); (case hr => first | (go_simp; done) | (go_simp; rfl)); intro gb1027 hg w4 hbox hb; have n0_ := Aside0.mk (below_step HB.out hb); have n1_ := Aside0.mk (hbox); have n2_ := Aside0.mk ((by rw [hg]; exact (below_size HB.out) : w.heap.size ≤ gb1027)); have n3_ := Aside0.mk ((by rw [hg]; exact (below_size HB.out) : w.heap.size ≤ gb1027)); clear HB; have HB := n0_; have BK1027 := n1_; have GW1027 := n2_; have GE1027 := n3_; clear n0_ n1_ n2_ n3_; clear hb hbox hg) | ((with_reducible refine gate_callee (f := 76) rfl ?_); refine goesL_ (some 6) rfl rfl Tryd.func76 (by kernel_rfl) rfl #[.int .i64 a0] rfl (by (try simp only [List.map_toArray, List.map_cons, List.map_nil]); first | done | rfl | (simp only [List.length_drop, List.length_take]; rfl)) ?_; (with_reducible refine (calendar_valid.calls a0 true _ A2.out).mono ?_); rintro e w' ⟨rfl, ⟨nd, rfl⟩⟩; refine ⟨_, rfl, ?_⟩; (try (rw [drewN_self w4]; generalize hq_ : World.drewN w4 _ = w4; have n0_ : Aside0 (w4.heap[gb1027]? = some (.cells #[.int .i64 0, .int .i64 0, .int .i64 0] 122 (0, 0))) := ⟨by rw [← hq_]; exact (by (with_reducible repeat (first | refine blk_drewN ?_ _ | refine blk_drew ?_ | refine blk_alloc ?_ _)); exact BK1027.out)⟩; have n1_ : Aside0 (Below w.heap.size w w4) := ⟨by rw [← hq_]; exact (by repeat (first | (with_reducible first | exact HB.out | apply below_alloc | apply pw_below_drewN | apply below_drew1 | refine below_set ?_ GE1027.out) | exact HB.out))⟩; clear BK1027 HB hq_; have BK1027 := n0_; have HB := n1_; clear n0_ n1_)); (try (have hcU1027_0 : w4.cell? ⟨gb1027, 0, none⟩ = some (.int .i64 0) := (blk_cell BK1027.out 0).trans rfl; have hfU1027_0 := blk_frozen BK1027.out 0; have hcU1027_1 : w4.cell? ⟨gb1027, 1, none⟩ = some (.int .i64 0) := (blk_cell BK1027.out 1).trans rfl; have hfU1027_1 := blk_frozen BK1027.out 1; have hcU1027_2 : w4.cell? ⟨gb1027, 2, none⟩ = some (.int .i64 0) := (blk_cell BK1027.out 2).trans rfl; have hfU1027_2 := blk_frozen BK1027.out 2))) | ((with_reducible refine gate_dst (N := 4) rfl ?_); refine box_event ?hg (N := 4) ?hd (cs := #[.int .i64 0, .int .i64 0, .int .i64 0]) (t := 122) ?hr ?_; (case hd => rfl); (case hg => rfl); (case hr => first | (go_simp; done) | (go_simp; rfl)); intro gb1029 hg w5 hbox hb; have n0_ := Aside0.mk (blk_below (g := gb1027) (o := .cells #[.int .i64 0, .int .i64 0, .int .i64 0] 122 (0, 0)) (by (with_reducible repeat (first | refine blk_drewN ?_ _ | refine blk_drew ?_ | refine blk_alloc ?_ _)); exact BK1027.out) hb); have n1_ := Aside0.mk (below_step (by repeat (first | (with_reducible first | exact HB.out | apply below_alloc | apply pw_below_drewN | apply below_drew1 | refine below_set ?_ GE1027.out) | exact HB.out)) hb); have n2_ := Aside0.mk (hbox); have n3_ := Aside0.mk ((by rw [hg]; exact (below_size (by repeat (first | (with_reducible first | exact HB.out | apply below_alloc | apply pw_below_drewN | apply below_drew1 | refine below_set ?_ GE1027.out) | exact HB.out))) : w.heap.size ≤ gb1029)); have n4_ := Aside0.mk ((by rw [hg]; exact (below_size (by repeat (first | (with_reducible first | exact HB.out | apply below_alloc | apply pw_below_drewN | apply below_drew1 | refine below_set ?_ GE1027.out) | exact HB.out))) : w.heap.size ≤ gb1029)); have n5_ := Aside0.mk ((by rw [hg]; exact Nat.ne_of_lt (blk_lt (g := gb1027) (o := .cells #[.int .i64 0, .int .i64 0, .int .i64 0] 122 (0, 0)) (by (with_reducible repeat (first | refine blk_drewN ?_ _ | refine blk_drew ?_ | refine blk_alloc ?_ _)); exact BK1027.out)) : gb1027 ≠ gb1029)); have n6_ := Aside0.mk ((by rw [hg]; exact Nat.ne_of_gt (blk_lt (g := gb1027) (o := .cells #[.int .i64 0, .int .i64 0, .int .i64 0] 122 (0, 0)) (by (with_reducible repeat (first | refine blk_drewN ?_ _ | refine blk_drew ?_ | refine blk_alloc ?_ _)); exact BK1027.out)) : gb1029 ≠ gb1027)); clear BK1027; clear HB; have BK1027 := n0_; have HB := n1_; have BK1029 := n2_; have GW1029 := n3_; have GE1029 := n4_; have NB1027_1029 := n5_; have NB1029_1027 := n6_; clear n0_ n1_ n2_ n3_ n4_ n5_ n6_; clear hb hbox hg; have hnb6 := NB1029_1027.out; have hnc6 := NB1027_1029.out; have hcz7_0 : w5.cell? ⟨gb1029, 0, none⟩ = some (.int .i64 0) := (blk_cell BK1029.out 0).trans rfl; have hcz7_1 : w5.cell? ⟨gb1029, 1, none⟩ = some (.int .i64 0) := (blk_cell BK1029.out 1).trans rfl; have hcz7_2 : w5.cell? ⟨gb1029, 2, none⟩ = some (.int .i64 0) := (blk_cell BK1029.out 2).trans rfl; have hfz7_0 := blk_frozen BK1029.out 0; have hfz7_1 := blk_frozen BK1029.out 1; have hfz7_2 := blk_frozen BK1029.out 2; (try (have hpz7_1 : ∀ v0_ v1_ : Value, ((w5.setCell ⟨gb1029, 0, none⟩ v0_).setCell ⟨gb1029, 1, none⟩ v1_).cell? ⟨gb1029, 1, none⟩ = some v1_ := by (intros; go_simp))); (try (have hpz7_2 : ∀ v0_ v1_ v2_ : Value, (((w5.setCell ⟨gb1029, 0, none⟩ v0_).setCell ⟨gb1029, 1, none⟩ v1_).setCell ⟨gb1029, 2, none⟩ v2_).cell? ⟨gb1029, 2, none⟩ = some v2_ := by (intros; go_simp)))))
  go_loopg [0] k (fun kq v0 w' => ∃ (x0_1 : Int) (x1030000_1 : Int), v0 = .int .i64 x0_1 ∧ Aside0 (calendar_Of.l0 kq x0_1 x1030000_1 1 0 = some (r1, r2, r3, r4)) ∧ Aside0 (kq ≤ k) ∧ Aside0 (w'.heap[gb1027]? = some (.cells #[.int .i64 0, .int .i64 0, .int .i64 0] 122 (0, 0))) ∧ Aside0 (w'.heap[gb1029]? = some (.cells #[.int .i64 x1030000_1, .int .i64 1, .int .i64 0] 122 (0, 0))) ∧ Aside0 (Below w.heap.size w w'))
  case atStart => exact ⟨(a0), (2000), (by first | rfl | (simp; done) | (simp [*]; done)), H', ⟨Nat.le_refl _⟩, ⟨by (with_reducible repeat (first | refine blk_drewN ?_ _ | refine blk_drew ?_ | refine blk_alloc ?_ _)); refine blk_far ?_ NB1027_1029.out _; (with_reducible repeat (first | refine blk_drewN ?_ _ | refine blk_drew ?_ | refine blk_alloc ?_ _)); refine blk_far ?_ NB1027_1029.out _; (with_reducible repeat (first | refine blk_drewN ?_ _ | refine blk_drew ?_ | refine blk_alloc ?_ _)); refine blk_far ?_ NB1027_1029.out _; (with_reducible repeat (first | refine blk_drewN ?_ _ | refine blk_drew ?_ | refine blk_alloc ?_ _)); exact BK1027.out⟩, ⟨by (with_reducible repeat (first | refine blk_drewN ?_ _ | refine blk_drew ?_ | refine blk_alloc ?_ _)); refine blk_put (cs := #[.int .i64 2000, .int .i64 1, .int .i64 0]) ?_ 2 _ rfl; (with_reducible repeat (first | refine blk_drewN ?_ _ | refine blk_drew ?_ | refine blk_alloc ?_ _)); refine blk_put (cs := #[.int .i64 2000, .int .i64 0, .int .i64 0]) ?_ 1 _ rfl; (with_reducible repeat (first | refine blk_drewN ?_ _ | refine blk_drew ?_ | refine blk_alloc ?_ _)); refine blk_put (cs := #[.int .i64 0, .int .i64 0, .int .i64 0]) ?_ 0 _ rfl; (with_reducible repeat (first | refine blk_drewN ?_ _ | refine blk_drew ?_ | refine blk_alloc ?_ _)); exact BK1029.out⟩, ⟨by repeat (first | (with_reducible first | exact HB.out | apply below_alloc | apply pw_below_drewN | apply below_drew1 | refine below_set ?_ GE1027.out | refine below_set ?_ GE1029.out) | exact HB.out)⟩⟩
  case round =>
   clear H'
   try clear p2
   try clear c3
   try clear c6
   try clear c7
   try clear hcz7_0
   try clear hcz7_1
   try clear hcz7_2
   try clear hfz7_0
   try clear hfz7_1
   try clear hfz7_2
   obtain ⟨x0_1, x1030000_1, rfl, HA, HK1, BK1027, BK1029, HB⟩ := hrel
   cases gk with
   | zero => exact absurd HA.out (by simp [calendar_Of.l0])
   | succ k1 =>
    have H := HA.out
    clear HA
    simp only [calendar_Of.l0] at H
    replace H := Option.bind_eq_some_iff.mp H
    obtain ⟨t1030, A80, H⟩ := H
    replace H : (if x0_1 ≥ t1030 then ((calendar_days.f x1030000_1).bind fun t1031 => (calendar_Of.l0 k1 (wrap64 (x0_1 - t1031)) (wrap64 (x1030000_1 + 1)) 1 0)) else (calendar_Of.l1 k1 x0_1 x1030000_1 1 0)) = some (r1, r2, r3, r4) := H
    have A8 := Aside0.mk A80
    clear A80
    by_cases c9 : x0_1 ≥ t1030
    ·
     rw [if_pos c9] at H
     have c9b0 : decide (t1030 ≤ x0_1) = true := decide_eq_true c9
     clear c9
     replace H := Option.bind_eq_some_iff.mp H
     obtain ⟨t1031, A100, H⟩ := H
     replace H : (calendar_Of.l0 k1 (wrap64 (x0_1 - t1031)) (wrap64 (x1030000_1 + 1)) 1 0) = some (r1, r2, r3, r4) := H
     have A10 := Aside0.mk A100
     clear A100
     have H' := Aside0.mk H
     clear H
     have hnb11 := NB1029_1027.out
     have hnc11 := NB1027_1029.out
     have hcz12_0 : wr.cell? ⟨gb1029, 0, none⟩ = some (.int .i64 x1030000_1) := (blk_cell BK1029.out 0).trans rfl
     have hcz12_1 : wr.cell? ⟨gb1029, 1, none⟩ = some (.int .i64 1) := (blk_cell BK1029.out 1).trans rfl
     have hcz12_2 : wr.cell? ⟨gb1029, 2, none⟩ = some (.int .i64 0) := (blk_cell BK1029.out 2).trans rfl
     have hfz12_0 := blk_frozen BK1029.out 0
     have hfz12_1 := blk_frozen BK1029.out 1
     have hfz12_2 := blk_frozen BK1029.out 2
     (try (have hpz12_1 : ∀ v0_ v1_ : Value, ((wr.setCell ⟨gb1029, 0, none⟩ v0_).setCell ⟨gb1029, 1, none⟩ v1_).cell? ⟨gb1029, 1, none⟩ = some v1_ := by (intros; go_simp)))
     (try (have hpz12_2 : ∀ v0_ v1_ v2_ : Value, (((wr.setCell ⟨gb1029, 0, none⟩ v0_).setCell ⟨gb1029, 1, none⟩ v1_).setCell ⟨gb1029, 2, none⟩ v2_).cell? ⟨gb1029, 2, none⟩ = some v2_ := by (intros; go_simp)))
     go_wp2_with (first | ((with_reducible refine gate_callee (f := 111) rfl ?_); refine goesL_ (some 13) rfl rfl Tryd.func111 (by kernel_rfl) rfl #[.int .i64 x1030000_1] rfl (by (try simp only [List.map_toArray, List.map_cons, List.map_nil]); first | done | rfl | (simp only [List.length_drop, List.length_take]; rfl)) ?_; (with_reducible refine (calendar_days.calls x1030000_1 t1030 _ A8.out).mono ?_); rintro e w' ⟨rfl, ⟨nd, rfl⟩⟩; clear A8; refine ⟨_, rfl, ?_⟩; (try (rw [drewN_self wr]; generalize hq_ : World.drewN wr _ = wr; have n0_ : Aside0 (wr.heap[gb1027]? = some (.cells #[.int .i64 0, .int .i64 0, .int .i64 0] 122 (0, 0))) := ⟨by rw [← hq_]; exact (by (with_reducible repeat (first | refine blk_drewN ?_ _ | refine blk_drew ?_ | refine blk_alloc ?_ _)); exact BK1027.out)⟩; have n1_ : Aside0 (wr.heap[gb1029]? = some (.cells #[.int .i64 x1030000_1, .int .i64 1, .int .i64 0] 122 (0, 0))) := ⟨by rw [← hq_]; exact (by (with_reducible repeat (first | refine blk_drewN ?_ _ | refine blk_drew ?_ | refine blk_alloc ?_ _)); exact BK1029.out)⟩; have n2_ : Aside0 (Below w.heap.size w wr) := ⟨by rw [← hq_]; exact (by repeat (first | (with_reducible first | exact HB.out | apply below_alloc | apply pw_below_drewN | apply below_drew1 | refine below_set ?_ GE1027.out | refine below_set ?_ GE1029.out) | exact HB.out))⟩; clear BK1027 BK1029 HB hq_; have BK1027 := n0_; have BK1029 := n1_; have HB := n2_; clear n0_ n1_ n2_)); (try (have hcU1027_0 : wr.cell? ⟨gb1027, 0, none⟩ = some (.int .i64 0) := (blk_cell BK1027.out 0).trans rfl; have hfU1027_0 := blk_frozen BK1027.out 0; have hcU1027_1 : wr.cell? ⟨gb1027, 1, none⟩ = some (.int .i64 0) := (blk_cell BK1027.out 1).trans rfl; have hfU1027_1 := blk_frozen BK1027.out 1; have hcU1027_2 : wr.cell? ⟨gb1027, 2, none⟩ = some (.int .i64 0) := (blk_cell BK1027.out 2).trans rfl; have hfU1027_2 := blk_frozen BK1027.out 2)); (try (have hcU1029_0 : wr.cell? ⟨gb1029, 0, none⟩ = some (.int .i64 x1030000_1) := (blk_cell BK1029.out 0).trans rfl; have hfU1029_0 := blk_frozen BK1029.out 0; have hcU1029_1 : wr.cell? ⟨gb1029, 1, none⟩ = some (.int .i64 1) := (blk_cell BK1029.out 1).trans rfl; have hfU1029_1 := blk_frozen BK1029.out 1; have hcU1029_2 : wr.cell? ⟨gb1029, 2, none⟩ = some (.int .i64 0) := (blk_cell BK1029.out 2).trans rfl; have hfU1029_2 := blk_frozen BK1029.out 2))) | ((with_reducible refine gate_callee (f := 111) rfl ?_); refine goesL_ (some 18) rfl rfl Tryd.func111 (by kernel_rfl) rfl #[.int .i64 x1030000_1] rfl (by (try simp only [List.map_toArray, List.map_cons, List.map_nil]); first | done | rfl | (simp only [List.length_drop, List.length_take]; rfl)) ?_; (with_reducible refine (calendar_days.calls x1030000_1 t1031 _ A10.out).mono ?_); rintro e w' ⟨rfl, ⟨nd, rfl⟩⟩; refine ⟨_, rfl, ?_⟩; (try (rw [drewN_self wr]; generalize hq_ : World.drewN wr _ = wr; have n0_ : Aside0 (wr.heap[gb1027]? = some (.cells #[.int .i64 0, .int .i64 0, .int .i64 0] 122 (0, 0))) := ⟨by rw [← hq_]; exact (by (with_reducible repeat (first | refine blk_drewN ?_ _ | refine blk_drew ?_ | refine blk_alloc ?_ _)); exact BK1027.out)⟩; have n1_ : Aside0 (wr.heap[gb1029]? = some (.cells #[.int .i64 x1030000_1, .int .i64 1, .int .i64 0] 122 (0, 0))) := ⟨by rw [← hq_]; exact (by (with_reducible repeat (first | refine blk_drewN ?_ _ | refine blk_drew ?_ | refine blk_alloc ?_ _)); exact BK1029.out)⟩; have n2_ : Aside0 (Below w.heap.size w wr) := ⟨by rw [← hq_]; exact (by repeat (first | (with_reducible first | exact HB.out | apply below_alloc | apply pw_below_drewN | apply below_drew1 | refine below_set ?_ GE1027.out | refine below_set ?_ GE1029.out) | exact HB.out))⟩; clear BK1027 BK1029 HB hq_; have BK1027 := n0_; have BK1029 := n1_; have HB := n2_; clear n0_ n1_ n2_)); (try (have hcU1027_0 : wr.cell? ⟨gb1027, 0, none⟩ = some (.int .i64 0) := (blk_cell BK1027.out 0).trans rfl; have hfU1027_0 := blk_frozen BK1027.out 0; have hcU1027_1 : wr.cell? ⟨gb1027, 1, none⟩ = some (.int .i64 0) := (blk_cell BK1027.out 1).trans rfl; have hfU1027_1 := blk_frozen BK1027.out 1; have hcU1027_2 : wr.cell? ⟨gb1027, 2, none⟩ = some (.int .i64 0) := (blk_cell BK1027.out 2).trans rfl; have hfU1027_2 := blk_frozen BK1027.out 2)); (try (have hcU1029_0 : wr.cell? ⟨gb1029, 0, none⟩ = some (.int .i64 x1030000_1) := (blk_cell BK1029.out 0).trans rfl; have hfU1029_0 := blk_frozen BK1029.out 0; have hcU1029_1 : wr.cell? ⟨gb1029, 1, none⟩ = some (.int .i64 1) := (blk_cell BK1029.out 1).trans rfl; have hfU1029_1 := blk_frozen BK1029.out 1; have hcU1029_2 : wr.cell? ⟨gb1029, 2, none⟩ = some (.int .i64 0) := (blk_cell BK1029.out 2).trans rfl; have hfU1029_2 := blk_frozen BK1029.out 2))))
     go_roundg k1
     case measure => have := HK1.out; omega
     case rel => exact ⟨(wrap64 (x0_1 - t1031)), (wrap64 (x1030000_1 + 1)), (by first | rfl | (simp; done) | (simp [*]; done)), H', ⟨by have := HK1.out; omega⟩, ⟨by (with_reducible repeat (first | refine blk_drewN ?_ _ | refine blk_drew ?_ | refine blk_alloc ?_ _)); refine blk_far ?_ NB1027_1029.out _; (with_reducible repeat (first | refine blk_drewN ?_ _ | refine blk_drew ?_ | refine blk_alloc ?_ _)); exact BK1027.out⟩, ⟨by (with_reducible repeat (first | refine blk_drewN ?_ _ | refine blk_drew ?_ | refine blk_alloc ?_ _)); refine blk_put (cs := #[.int .i64 x1030000_1, .int .i64 1, .int .i64 0]) ?_ 0 _ rfl; (with_reducible repeat (first | refine blk_drewN ?_ _ | refine blk_drew ?_ | refine blk_alloc ?_ _)); exact BK1029.out⟩, ⟨by repeat (first | (with_reducible first | exact HB.out | apply below_alloc | apply pw_below_drewN | apply below_drew1 | refine below_set ?_ GE1027.out | refine below_set ?_ GE1029.out) | exact HB.out)⟩⟩
    ·
     rw [if_neg c9] at H
     have c9b0 : decide (t1030 ≤ x0_1) = false := decide_eq_false c9
     clear c9
     have H' := Aside0.mk H
     clear H
     have hnb13 := NB1029_1027.out
     have hnc13 := NB1027_1029.out
     have hcz14_0 : wr.cell? ⟨gb1029, 0, none⟩ = some (.int .i64 x1030000_1) := (blk_cell BK1029.out 0).trans rfl
     have hcz14_1 : wr.cell? ⟨gb1029, 1, none⟩ = some (.int .i64 1) := (blk_cell BK1029.out 1).trans rfl
     have hcz14_2 : wr.cell? ⟨gb1029, 2, none⟩ = some (.int .i64 0) := (blk_cell BK1029.out 2).trans rfl
     have hfz14_0 := blk_frozen BK1029.out 0
     have hfz14_1 := blk_frozen BK1029.out 1
     have hfz14_2 := blk_frozen BK1029.out 2
     (try (have hpz14_1 : ∀ v0_ v1_ : Value, ((wr.setCell ⟨gb1029, 0, none⟩ v0_).setCell ⟨gb1029, 1, none⟩ v1_).cell? ⟨gb1029, 1, none⟩ = some v1_ := by (intros; go_simp)))
     (try (have hpz14_2 : ∀ v0_ v1_ v2_ : Value, (((wr.setCell ⟨gb1029, 0, none⟩ v0_).setCell ⟨gb1029, 1, none⟩ v1_).setCell ⟨gb1029, 2, none⟩ v2_).cell? ⟨gb1029, 2, none⟩ = some v2_ := by (intros; go_simp)))
     go_wp2_with (first | ((with_reducible refine gate_callee (f := 111) rfl ?_); refine goesL_ (some 13) rfl rfl Tryd.func111 (by kernel_rfl) rfl #[.int .i64 x1030000_1] rfl (by (try simp only [List.map_toArray, List.map_cons, List.map_nil]); first | done | rfl | (simp only [List.length_drop, List.length_take]; rfl)) ?_; (with_reducible refine (calendar_days.calls x1030000_1 t1030 _ A8.out).mono ?_); rintro e w' ⟨rfl, ⟨nd, rfl⟩⟩; refine ⟨_, rfl, ?_⟩))
     go_loopg [0] k1 (fun kq v0 w' => ∃ (x0_2 : Int) (x1030001_2 : Int), v0 = .int .i64 x0_2 ∧ Aside0 (calendar_Of.l1 kq x0_2 x1030000_1 x1030001_2 0 = some (r1, r2, r3, r4)) ∧ Aside0 (kq ≤ k1) ∧ Aside0 (w'.heap[gb1027]? = some (.cells #[.int .i64 0, .int .i64 0, .int .i64 0] 122 (0, 0))) ∧ Aside0 (w'.heap[gb1029]? = some (.cells #[.int .i64 x1030000_1, .int .i64 x1030001_2, .int .i64 0] 122 (0, 0))) ∧ Aside0 (Below w.heap.size w w'))
     case atStart => exact ⟨(x0_1), (1), (by first | rfl | (simp; done) | (simp [*]; done)), H', ⟨Nat.le_refl _⟩, ⟨by (with_reducible repeat (first | refine blk_drewN ?_ _ | refine blk_drew ?_ | refine blk_alloc ?_ _)); exact BK1027.out⟩, ⟨by (with_reducible repeat (first | refine blk_drewN ?_ _ | refine blk_drew ?_ | refine blk_alloc ?_ _)); exact BK1029.out⟩, ⟨by repeat (first | (with_reducible first | exact HB.out | apply below_alloc | apply pw_below_drewN | apply below_drew1 | refine below_set ?_ GE1027.out | refine below_set ?_ GE1029.out) | exact HB.out)⟩⟩
     case round =>
      clear H'
      try clear c1
      try clear p2
      try clear c3
      try clear c6
      try clear p6
      try clear c7
      try clear c9
      try clear c9b0
      try clear c11
      try clear c13
      try clear hcz12_0
      try clear hcz12_1
      try clear hcz12_2
      try clear hcz14_0
      try clear hcz14_1
      try clear hcz14_2
      try clear hcz7_0
      try clear hcz7_1
      try clear hcz7_2
      try clear hfz12_0
      try clear hfz12_1
      try clear hfz12_2
      try clear hfz14_0
      try clear hfz14_1
      try clear hfz14_2
      try clear hfz7_0
      try clear hfz7_1
      try clear hfz7_2
      try clear p2
      obtain ⟨x0_2, x1030001_2, rfl, HA, HK2, BK1027, BK1029, HB⟩ := hrel
      cases gk with
      | zero => exact absurd HA.out (by simp [calendar_Of.l1])
      | succ k2 =>
       have H := HA.out
       clear HA
       simp only [calendar_Of.l1] at H
       replace H := Option.bind_eq_some_iff.mp H
       obtain ⟨t1032, A150, H⟩ := H
       replace H : (if x0_2 ≥ t1032 then ((calendar_length.f x1030000_1 x1030001_2).bind fun t1033 => (calendar_Of.l1 k2 (wrap64 (x0_2 - t1033)) x1030000_1 (wrap64 (x1030001_2 + 1)) 0)) else (some (x1030000_1, x1030001_2, wrap64 (x0_2 + 1), 0))) = some (r1, r2, r3, r4) := H
       have A15 := Aside0.mk A150
       clear A150
       by_cases c16 : x0_2 ≥ t1032
       ·
        rw [if_pos c16] at H
        have c16b0 : decide (t1032 ≤ x0_2) = true := decide_eq_true c16
        clear c16
        replace H := Option.bind_eq_some_iff.mp H
        obtain ⟨t1033, A170, H⟩ := H
        replace H : (calendar_Of.l1 k2 (wrap64 (x0_2 - t1033)) x1030000_1 (wrap64 (x1030001_2 + 1)) 0) = some (r1, r2, r3, r4) := H
        have A17 := Aside0.mk A170
        clear A170
        have H' := Aside0.mk H
        clear H
        have hnb18 := NB1029_1027.out
        have hnc18 := NB1027_1029.out
        have hcz19_0 : wr.cell? ⟨gb1029, 0, none⟩ = some (.int .i64 x1030000_1) := (blk_cell BK1029.out 0).trans rfl
        have hcz19_1 : wr.cell? ⟨gb1029, 1, none⟩ = some (.int .i64 x1030001_2) := (blk_cell BK1029.out 1).trans rfl
        have hcz19_2 : wr.cell? ⟨gb1029, 2, none⟩ = some (.int .i64 0) := (blk_cell BK1029.out 2).trans rfl
        have hfz19_0 := blk_frozen BK1029.out 0
        have hfz19_1 := blk_frozen BK1029.out 1
        have hfz19_2 := blk_frozen BK1029.out 2
        (try (have hpz19_1 : ∀ v0_ v1_ : Value, ((wr.setCell ⟨gb1029, 0, none⟩ v0_).setCell ⟨gb1029, 1, none⟩ v1_).cell? ⟨gb1029, 1, none⟩ = some v1_ := by (intros; go_simp)))
        (try (have hpz19_2 : ∀ v0_ v1_ v2_ : Value, (((wr.setCell ⟨gb1029, 0, none⟩ v0_).setCell ⟨gb1029, 1, none⟩ v1_).setCell ⟨gb1029, 2, none⟩ v2_).cell? ⟨gb1029, 2, none⟩ = some v2_ := by (intros; go_simp)))
        go_wp2_with (first | ((with_reducible refine gate_callee (f := 98) rfl ?_); refine goesL_ (some 29) rfl rfl Tryd.func98 (by kernel_rfl) rfl #[.int .i64 x1030000_1, .int .i64 x1030001_2] rfl (by (try simp only [List.map_toArray, List.map_cons, List.map_nil]); first | done | rfl | (simp only [List.length_drop, List.length_take]; rfl)) ?_; (with_reducible refine (calendar_length.calls x1030000_1 x1030001_2 t1032 _ ?side1 A15.out).mono ?_); (case side1 => exact GL_lengths.of_below (by repeat (first | (with_reducible first | exact HB.out | apply below_alloc | apply pw_below_drewN | apply below_drew1 | refine below_set ?_ GE1027.out | refine below_set ?_ GE1029.out) | exact HB.out)) HG_lengths.out); rintro e w' ⟨rfl, ⟨nd, rfl⟩⟩; clear A15; refine ⟨_, rfl, ?_⟩; (try (rw [drewN_self wr]; generalize hq_ : World.drewN wr _ = wr; have n0_ : Aside0 (wr.heap[gb1027]? = some (.cells #[.int .i64 0, .int .i64 0, .int .i64 0] 122 (0, 0))) := ⟨by rw [← hq_]; exact (by (with_reducible repeat (first | refine blk_drewN ?_ _ | refine blk_drew ?_ | refine blk_alloc ?_ _)); exact BK1027.out)⟩; have n1_ : Aside0 (wr.heap[gb1029]? = some (.cells #[.int .i64 x1030000_1, .int .i64 x1030001_2, .int .i64 0] 122 (0, 0))) := ⟨by rw [← hq_]; exact (by (with_reducible repeat (first | refine blk_drewN ?_ _ | refine blk_drew ?_ | refine blk_alloc ?_ _)); exact BK1029.out)⟩; have n2_ : Aside0 (Below w.heap.size w wr) := ⟨by rw [← hq_]; exact (by repeat (first | (with_reducible first | exact HB.out | apply below_alloc | apply pw_below_drewN | apply below_drew1 | refine below_set ?_ GE1027.out | refine below_set ?_ GE1029.out) | exact HB.out))⟩; clear BK1027 BK1029 HB hq_; have BK1027 := n0_; have BK1029 := n1_; have HB := n2_; clear n0_ n1_ n2_)); (try (have hcU1027_0 : wr.cell? ⟨gb1027, 0, none⟩ = some (.int .i64 0) := (blk_cell BK1027.out 0).trans rfl; have hfU1027_0 := blk_frozen BK1027.out 0; have hcU1027_1 : wr.cell? ⟨gb1027, 1, none⟩ = some (.int .i64 0) := (blk_cell BK1027.out 1).trans rfl; have hfU1027_1 := blk_frozen BK1027.out 1; have hcU1027_2 : wr.cell? ⟨gb1027, 2, none⟩ = some (.int .i64 0) := (blk_cell BK1027.out 2).trans rfl; have hfU1027_2 := blk_frozen BK1027.out 2)); (try (have hcU1029_0 : wr.cell? ⟨gb1029, 0, none⟩ = some (.int .i64 x1030000_1) := (blk_cell BK1029.out 0).trans rfl; have hfU1029_0 := blk_frozen BK1029.out 0; have hcU1029_1 : wr.cell? ⟨gb1029, 1, none⟩ = some (.int .i64 x1030001_2) := (blk_cell BK1029.out 1).trans rfl; have hfU1029_1 := blk_frozen BK1029.out 1; have hcU1029_2 : wr.cell? ⟨gb1029, 2, none⟩ = some (.int .i64 0) := (blk_cell BK1029.out 2).trans rfl; have hfU1029_2 := blk_frozen BK1029.out 2))) | ((with_reducible refine gate_callee (f := 98) rfl ?_); refine goesL_ (some 36) rfl rfl Tryd.func98 (by kernel_rfl) rfl #[.int .i64 x1030000_1, .int .i64 x1030001_2] rfl (by (try simp only [List.map_toArray, List.map_cons, List.map_nil]); first | done | rfl | (simp only [List.length_drop, List.length_take]; rfl)) ?_; (with_reducible refine (calendar_length.calls x1030000_1 x1030001_2 t1033 _ ?side1 A17.out).mono ?_); (case side1 => exact GL_lengths.of_below (by repeat (first | (with_reducible first | exact HB.out | apply below_alloc | apply pw_below_drewN | apply below_drew1 | refine below_set ?_ GE1027.out | refine below_set ?_ GE1029.out) | exact HB.out)) HG_lengths.out); rintro e w' ⟨rfl, ⟨nd, rfl⟩⟩; refine ⟨_, rfl, ?_⟩; (try (rw [drewN_self wr]; generalize hq_ : World.drewN wr _ = wr; have n0_ : Aside0 (wr.heap[gb1027]? = some (.cells #[.int .i64 0, .int .i64 0, .int .i64 0] 122 (0, 0))) := ⟨by rw [← hq_]; exact (by (with_reducible repeat (first | refine blk_drewN ?_ _ | refine blk_drew ?_ | refine blk_alloc ?_ _)); exact BK1027.out)⟩; have n1_ : Aside0 (wr.heap[gb1029]? = some (.cells #[.int .i64 x1030000_1, .int .i64 x1030001_2, .int .i64 0] 122 (0, 0))) := ⟨by rw [← hq_]; exact (by (with_reducible repeat (first | refine blk_drewN ?_ _ | refine blk_drew ?_ | refine blk_alloc ?_ _)); exact BK1029.out)⟩; have n2_ : Aside0 (Below w.heap.size w wr) := ⟨by rw [← hq_]; exact (by repeat (first | (with_reducible first | exact HB.out | apply below_alloc | apply pw_below_drewN | apply below_drew1 | refine below_set ?_ GE1027.out | refine below_set ?_ GE1029.out) | exact HB.out))⟩; clear BK1027 BK1029 HB hq_; have BK1027 := n0_; have BK1029 := n1_; have HB := n2_; clear n0_ n1_ n2_)); (try (have hcU1027_0 : wr.cell? ⟨gb1027, 0, none⟩ = some (.int .i64 0) := (blk_cell BK1027.out 0).trans rfl; have hfU1027_0 := blk_frozen BK1027.out 0; have hcU1027_1 : wr.cell? ⟨gb1027, 1, none⟩ = some (.int .i64 0) := (blk_cell BK1027.out 1).trans rfl; have hfU1027_1 := blk_frozen BK1027.out 1; have hcU1027_2 : wr.cell? ⟨gb1027, 2, none⟩ = some (.int .i64 0) := (blk_cell BK1027.out 2).trans rfl; have hfU1027_2 := blk_frozen BK1027.out 2)); (try (have hcU1029_0 : wr.cell? ⟨gb1029, 0, none⟩ = some (.int .i64 x1030000_1) := (blk_cell BK1029.out 0).trans rfl; have hfU1029_0 := blk_frozen BK1029.out 0; have hcU1029_1 : wr.cell? ⟨gb1029, 1, none⟩ = some (.int .i64 x1030001_2) := (blk_cell BK1029.out 1).trans rfl; have hfU1029_1 := blk_frozen BK1029.out 1; have hcU1029_2 : wr.cell? ⟨gb1029, 2, none⟩ = some (.int .i64 0) := (blk_cell BK1029.out 2).trans rfl; have hfU1029_2 := blk_frozen BK1029.out 2))))
        go_roundg k2
        case measure => have := HK1.out; have := HK2.out; omega
        case rel => exact ⟨(wrap64 (x0_2 - t1033)), (wrap64 (x1030001_2 + 1)), (by first | rfl | (simp; done) | (simp [*]; done)), H', ⟨by have := HK1.out; have := HK2.out; omega⟩, ⟨by (with_reducible repeat (first | refine blk_drewN ?_ _ | refine blk_drew ?_ | refine blk_alloc ?_ _)); refine blk_far ?_ NB1027_1029.out _; (with_reducible repeat (first | refine blk_drewN ?_ _ | refine blk_drew ?_ | refine blk_alloc ?_ _)); exact BK1027.out⟩, ⟨by (with_reducible repeat (first | refine blk_drewN ?_ _ | refine blk_drew ?_ | refine blk_alloc ?_ _)); refine blk_put (cs := #[.int .i64 x1030000_1, .int .i64 x1030001_2, .int .i64 0]) ?_ 1 _ rfl; (with_reducible repeat (first | refine blk_drewN ?_ _ | refine blk_drew ?_ | refine blk_alloc ?_ _)); exact BK1029.out⟩, ⟨by repeat (first | (with_reducible first | exact HB.out | apply below_alloc | apply pw_below_drewN | apply below_drew1 | refine below_set ?_ GE1027.out | refine below_set ?_ GE1029.out) | exact HB.out)⟩⟩
       ·
        rw [if_neg c16] at H
        have c16b0 : decide (t1032 ≤ x0_2) = false := decide_eq_false c16
        clear c16
        simp only [Option.some.injEq, Prod.mk.injEq] at H
        obtain ⟨rfl, rfl, rfl, rfl⟩ := H
        have hnb20 := NB1029_1027.out
        have hnc20 := NB1027_1029.out
        have hcz21_0 : wr.cell? ⟨gb1029, 0, none⟩ = some (.int .i64 x1030000_1) := (blk_cell BK1029.out 0).trans rfl
        have hcz21_1 : wr.cell? ⟨gb1029, 1, none⟩ = some (.int .i64 x1030001_2) := (blk_cell BK1029.out 1).trans rfl
        have hcz21_2 : wr.cell? ⟨gb1029, 2, none⟩ = some (.int .i64 0) := (blk_cell BK1029.out 2).trans rfl
        have hfz21_0 := blk_frozen BK1029.out 0
        have hfz21_1 := blk_frozen BK1029.out 1
        have hfz21_2 := blk_frozen BK1029.out 2
        (try (have hpz21_1 : ∀ v0_ v1_ : Value, ((wr.setCell ⟨gb1029, 0, none⟩ v0_).setCell ⟨gb1029, 1, none⟩ v1_).cell? ⟨gb1029, 1, none⟩ = some v1_ := by (intros; go_simp)))
        (try (have hpz21_2 : ∀ v0_ v1_ v2_ : Value, (((wr.setCell ⟨gb1029, 0, none⟩ v0_).setCell ⟨gb1029, 1, none⟩ v1_).setCell ⟨gb1029, 2, none⟩ v2_).cell? ⟨gb1029, 2, none⟩ = some v2_ := by (intros; go_simp)))
        go_wp2_with (first | ((with_reducible refine gate_callee (f := 98) rfl ?_); refine goesL_ (some 29) rfl rfl Tryd.func98 (by kernel_rfl) rfl #[.int .i64 x1030000_1, .int .i64 x1030001_2] rfl (by (try simp only [List.map_toArray, List.map_cons, List.map_nil]); first | done | rfl | (simp only [List.length_drop, List.length_take]; rfl)) ?_; (with_reducible refine (calendar_length.calls x1030000_1 x1030001_2 t1032 _ ?side1 A15.out).mono ?_); (case side1 => exact GL_lengths.of_below (by repeat (first | (with_reducible first | exact HB.out | apply below_alloc | apply pw_below_drewN | apply below_drew1 | refine below_set ?_ GE1027.out | refine below_set ?_ GE1029.out) | exact HB.out)) HG_lengths.out); rintro e w' ⟨rfl, ⟨nd, rfl⟩⟩; refine ⟨_, rfl, ?_⟩; (try (rw [drewN_self wr]; generalize hq_ : World.drewN wr _ = wr; have n0_ : Aside0 (wr.heap[gb1027]? = some (.cells #[.int .i64 0, .int .i64 0, .int .i64 0] 122 (0, 0))) := ⟨by rw [← hq_]; exact (by (with_reducible repeat (first | refine blk_drewN ?_ _ | refine blk_drew ?_ | refine blk_alloc ?_ _)); exact BK1027.out)⟩; have n1_ : Aside0 (wr.heap[gb1029]? = some (.cells #[.int .i64 x1030000_1, .int .i64 x1030001_2, .int .i64 0] 122 (0, 0))) := ⟨by rw [← hq_]; exact (by (with_reducible repeat (first | refine blk_drewN ?_ _ | refine blk_drew ?_ | refine blk_alloc ?_ _)); exact BK1029.out)⟩; have n2_ : Aside0 (Below w.heap.size w wr) := ⟨by rw [← hq_]; exact (by repeat (first | (with_reducible first | exact HB.out | apply below_alloc | apply pw_below_drewN | apply below_drew1 | refine below_set ?_ GE1027.out | refine below_set ?_ GE1029.out) | exact HB.out))⟩; clear BK1027 BK1029 HB hq_; have BK1027 := n0_; have BK1029 := n1_; have HB := n2_; clear n0_ n1_ n2_)); (try (have hcU1027_0 : wr.cell? ⟨gb1027, 0, none⟩ = some (.int .i64 0) := (blk_cell BK1027.out 0).trans rfl; have hfU1027_0 := blk_frozen BK1027.out 0; have hcU1027_1 : wr.cell? ⟨gb1027, 1, none⟩ = some (.int .i64 0) := (blk_cell BK1027.out 1).trans rfl; have hfU1027_1 := blk_frozen BK1027.out 1; have hcU1027_2 : wr.cell? ⟨gb1027, 2, none⟩ = some (.int .i64 0) := (blk_cell BK1027.out 2).trans rfl; have hfU1027_2 := blk_frozen BK1027.out 2)); (try (have hcU1029_0 : wr.cell? ⟨gb1029, 0, none⟩ = some (.int .i64 x1030000_1) := (blk_cell BK1029.out 0).trans rfl; have hfU1029_0 := blk_frozen BK1029.out 0; have hcU1029_1 : wr.cell? ⟨gb1029, 1, none⟩ = some (.int .i64 x1030001_2) := (blk_cell BK1029.out 1).trans rfl; have hfU1029_1 := blk_frozen BK1029.out 1; have hcU1029_2 : wr.cell? ⟨gb1029, 2, none⟩ = some (.int .i64 0) := (blk_cell BK1029.out 2).trans rfl; have hfU1029_2 := blk_frozen BK1029.out 2)); have hcz22_0 : wr.cell? ⟨gb1027, 0, none⟩ = some (.int .i64 0) := (blk_cell BK1027.out 0).trans rfl; have hcz22_1 : wr.cell? ⟨gb1027, 1, none⟩ = some (.int .i64 0) := (blk_cell BK1027.out 1).trans rfl; have hcz22_2 : wr.cell? ⟨gb1027, 2, none⟩ = some (.int .i64 0) := (blk_cell BK1027.out 2).trans rfl; have hfz22_0 := blk_frozen BK1027.out 0; have hfz22_1 := blk_frozen BK1027.out 1; have hfz22_2 := blk_frozen BK1027.out 2; (try (have hpz22_1 : ∀ v0_ v1_ : Value, ((wr.setCell ⟨gb1027, 0, none⟩ v0_).setCell ⟨gb1027, 1, none⟩ v1_).cell? ⟨gb1027, 1, none⟩ = some v1_ := by (intros; go_simp))); (try (have hpz22_2 : ∀ v0_ v1_ v2_ : Value, (((wr.setCell ⟨gb1027, 0, none⟩ v0_).setCell ⟨gb1027, 1, none⟩ v1_).setCell ⟨gb1027, 2, none⟩ v2_).cell? ⟨gb1027, 2, none⟩ = some v2_ := by (intros; go_simp)))))
        refine bodyPost_ret (results_ct rfl _ _ gb1027 122 #[.int .i64 x1030000_1, .int .i64 x1030001_2, .int .i64 (wrap64 (x0_2 + 1))] (0, 0) _ rfl (by (with_reducible repeat (first | refine blk_drewN ?_ _ | refine blk_drew ?_ | refine blk_alloc ?_ _)); refine blk_put (cs := #[.int .i64 x1030000_1, .int .i64 x1030001_2, .int .i64 0]) ?_ 2 _ rfl; (with_reducible repeat (first | refine blk_drewN ?_ _ | refine blk_drew ?_ | refine blk_alloc ?_ _)); refine blk_put (cs := #[.int .i64 x1030000_1, .int .i64 0, .int .i64 0]) ?_ 1 _ rfl; (with_reducible repeat (first | refine blk_drewN ?_ _ | refine blk_drew ?_ | refine blk_alloc ?_ _)); refine blk_put (cs := #[.int .i64 0, .int .i64 0, .int .i64 0]) ?_ 0 _ rfl; (with_reducible repeat (first | refine blk_drewN ?_ _ | refine blk_drew ?_ | refine blk_alloc ?_ _)); refine blk_far ?_ NB1027_1029.out _; (with_reducible repeat (first | refine blk_drewN ?_ _ | refine blk_drew ?_ | refine blk_alloc ?_ _)); exact BK1027.out) Tryd.underlying122 rfl (by kernel_rfl)) rfl ?_
        exact ⟨by first | rfl | (simp [errW_none, errW_some] <;> rfl) | (simp [*, errW_none, errW_some] <;> rfl), by repeat (first | (with_reducible first | exact HB.out | apply below_alloc | apply pw_below_drewN | apply below_drew1 | refine below_set ?_ GE1027.out | refine below_set ?_ GE1029.out) | exact HB.out)⟩
 ·
  replace c3 := Bool.eq_false_iff.mpr c3
  subst c3
  have H1 : (some (0, 0, 0, 2)) = some (r1, r2, r3, r4) := by rw [if_neg (show ¬ (false = true) by decide)] at H; exact H
  clear H
  have H := H1
  clear H1
  simp only [Option.some.injEq, Prod.mk.injEq] at H
  obtain ⟨rfl, rfl, rfl, rfl⟩ := H
  go_enter Tryd.func97, Tryd.ntmps97
  go_wp2_with (first | ((with_reducible refine gate_dst (N := 2) rfl ?_); refine box_event ?hg (N := 2) ?hd (cs := #[.int .i64 0, .int .i64 0, .int .i64 0]) (t := 122) ?hr ?_; (case hd => rfl); (case hg => rfl); (case hr => first | (go_simp; done) | (go_simp; rfl)); intro gb1027 hg w23 hbox hb; have n0_ := Aside0.mk (below_step HB.out hb); have n1_ := Aside0.mk (hbox); have n2_ := Aside0.mk ((by rw [hg]; exact (below_size HB.out) : w.heap.size ≤ gb1027)); have n3_ := Aside0.mk ((by rw [hg]; exact (below_size HB.out) : w.heap.size ≤ gb1027)); clear HB; have HB := n0_; have BK1027 := n1_; have GW1027 := n2_; have GE1027 := n3_; clear n0_ n1_ n2_ n3_; clear hb hbox hg) | ((with_reducible refine gate_callee (f := 76) rfl ?_); refine goesL_ (some 6) rfl rfl Tryd.func76 (by kernel_rfl) rfl #[.int .i64 a0] rfl (by (try simp only [List.map_toArray, List.map_cons, List.map_nil]); first | done | rfl | (simp only [List.length_drop, List.length_take]; rfl)) ?_; (with_reducible refine (calendar_valid.calls a0 false _ A2.out).mono ?_); rintro e w' ⟨rfl, ⟨nd, rfl⟩⟩; refine ⟨_, rfl, ?_⟩; (try (rw [drewN_self w23]; generalize hq_ : World.drewN w23 _ = w23; have n0_ : Aside0 (w23.heap[gb1027]? = some (.cells #[.int .i64 0, .int .i64 0, .int .i64 0] 122 (0, 0))) := ⟨by rw [← hq_]; exact (by (with_reducible repeat (first | refine blk_drewN ?_ _ | refine blk_drew ?_ | refine blk_alloc ?_ _)); exact BK1027.out)⟩; have n1_ : Aside0 (Below w.heap.size w w23) := ⟨by rw [← hq_]; exact (by repeat (first | (with_reducible first | exact HB.out | apply below_alloc | apply pw_below_drewN | apply below_drew1 | refine below_set ?_ GE1027.out) | exact HB.out))⟩; clear BK1027 HB hq_; have BK1027 := n0_; have HB := n1_; clear n0_ n1_)); (try (have hcU1027_0 : w23.cell? ⟨gb1027, 0, none⟩ = some (.int .i64 0) := (blk_cell BK1027.out 0).trans rfl; have hfU1027_0 := blk_frozen BK1027.out 0; have hcU1027_1 : w23.cell? ⟨gb1027, 1, none⟩ = some (.int .i64 0) := (blk_cell BK1027.out 1).trans rfl; have hfU1027_1 := blk_frozen BK1027.out 1; have hcU1027_2 : w23.cell? ⟨gb1027, 2, none⟩ = some (.int .i64 0) := (blk_cell BK1027.out 2).trans rfl; have hfU1027_2 := blk_frozen BK1027.out 2)); have hcz24_0 : w23.cell? ⟨gb1027, 0, none⟩ = some (.int .i64 0) := (blk_cell BK1027.out 0).trans rfl; have hcz24_1 : w23.cell? ⟨gb1027, 1, none⟩ = some (.int .i64 0) := (blk_cell BK1027.out 1).trans rfl; have hcz24_2 : w23.cell? ⟨gb1027, 2, none⟩ = some (.int .i64 0) := (blk_cell BK1027.out 2).trans rfl; have hfz24_0 := blk_frozen BK1027.out 0; have hfz24_1 := blk_frozen BK1027.out 1; have hfz24_2 := blk_frozen BK1027.out 2; (try (have hpz24_1 : ∀ v0_ v1_ : Value, ((w23.setCell ⟨gb1027, 0, none⟩ v0_).setCell ⟨gb1027, 1, none⟩ v1_).cell? ⟨gb1027, 1, none⟩ = some v1_ := by (intros; go_simp))); (try (have hpz24_2 : ∀ v0_ v1_ v2_ : Value, (((w23.setCell ⟨gb1027, 0, none⟩ v0_).setCell ⟨gb1027, 1, none⟩ v1_).setCell ⟨gb1027, 2, none⟩ v2_).cell? ⟨gb1027, 2, none⟩ = some v2_ := by (intros; go_simp)))))
  refine bodyPost_ret (results_ct rfl _ _ gb1027 122 #[.int .i64 0, .int .i64 0, .int .i64 0] (0, 0) _ rfl (by (with_reducible repeat (first | refine blk_drewN ?_ _ | refine blk_drew ?_ | refine blk_alloc ?_ _)); refine blk_put (cs := #[.int .i64 0, .int .i64 0, .int .i64 0]) ?_ 2 _ rfl; (with_reducible repeat (first | refine blk_drewN ?_ _ | refine blk_drew ?_ | refine blk_alloc ?_ _)); refine blk_put (cs := #[.int .i64 0, .int .i64 0, .int .i64 0]) ?_ 1 _ rfl; (with_reducible repeat (first | refine blk_drewN ?_ _ | refine blk_drew ?_ | refine blk_alloc ?_ _)); refine blk_put (cs := #[.int .i64 0, .int .i64 0, .int .i64 0]) ?_ 0 _ rfl; (with_reducible repeat (first | refine blk_drewN ?_ _ | refine blk_drew ?_ | refine blk_alloc ?_ _)); exact BK1027.out) Tryd.underlying122 rfl (by kernel_rfl)) rfl ?_
  exact ⟨by first | rfl | (simp [errW_none, errW_some] <;> rfl) | (simp [*, errW_none, errW_some] <;> rfl), by repeat (first | (with_reducible first | exact HB.out | apply below_alloc | apply pw_below_drewN | apply below_drew1 | refine below_set ?_ GE1027.out) | exact HB.out)⟩

mutual
def calendar_Number.j0 : Nat → Bool → Int → Int → Int → Option (Int × Int)
 | 0, _, _, _, _ => none
 | k + 1, x39, x1035000, x1035001, x1035002 => if x39 = true then (some (0, 2)) else (calendar_Number.l0 k (wrap64 (x1035002 - 1)) 2000 x1035000 x1035001 x1035002)
def calendar_Number.l0 : Nat → Int → Int → Int → Int → Int → Option (Int × Int)
 | 0, _, _, _, _, _ => none
 | k + 1, x4, x5, x1035000, x1035001, x1035002 => if x5 < x1035000 then ((calendar_days.f x5).bind fun t1036 => (calendar_Number.l0 k (wrap64 (x4 + t1036)) (wrap64 (x5 + 1)) x1035000 x1035001 x1035002)) else (calendar_Number.l1 k x4 1 x1035000 x1035001 x1035002)
def calendar_Number.l1 : Nat → Int → Int → Int → Int → Int → Option (Int × Int)
 | 0, _, _, _, _, _ => none
 | k + 1, x4, x6, x1035000, x1035001, x1035002 => if x6 < x1035001 then ((calendar_length.f x1035000 x6).bind fun t1037 => (calendar_Number.l1 k (wrap64 (x4 + t1037)) (wrap64 (x6 + 1)) x1035000 x1035001 x1035002)) else (some (x4, 0))
end
def calendar_Number.f (k : Nat) (a0_0 : Int) (a0_1 : Int) (a0_2 : Int) : Option (Int × Int) := if a0_0 < 2000 then (calendar_Number.j0 k true a0_0 a0_1 a0_2) else (if a0_0 > 2099 then (calendar_Number.j0 k true a0_0 a0_1 a0_2) else (if a0_1 < 1 then (calendar_Number.j0 k true a0_0 a0_1 a0_2) else (if a0_1 > 12 then (calendar_Number.j0 k true a0_0 a0_1 a0_2) else (if a0_2 < 1 then (calendar_Number.j0 k true a0_0 a0_1 a0_2) else ((calendar_length.f a0_0 a0_1).bind fun t1035 => (calendar_Number.j0 k (decide (a0_2 > t1035)) a0_0 a0_1 a0_2))))))
def calendar_Number.T1 : Bool × List (List Nat × List Nat) := (true, [([], []), ([0], [0]), ([1], [1]), ([2], [2]), ([3], [3]), ([4, 3], [3, 4]), ([5, 3], [3, 5]), ([3, 6], [3, 6]), ([7, 3], [7]), ([8], [8]), ([9, 8], [8, 9]), ([10, 8], [8, 10]), ([8, 11], [8, 11]), ([12, 8], [12]), ([13], [13]), ([14, 13], [13, 14]), ([15, 13], [13, 15]), ([13, 16], [13, 16]), ([17, 13], [17]), ([18], [18]), ([19, 18], [18, 19]), ([20, 18], [18, 20]), ([18, 21], [18, 21]), ([22, 18], [22]), ([23], [23]), ([24, 23], [23, 24]), ([23], [23]), ([26, 23], [23, 26]), ([23], [23]), ([28, 23], [23, 28]), ([27, 29, 23, 23], [23, 27, 29]), ([25, 30, 23], [23, 25, 30]), ([23, 31], [23, 31])])
def calendar_Number.B1 : List Nat := [0, 1, 3, 7, 15, 31, 63, 127, 255, 511, 1023, 2047, 4095, 8191, 16383, 32767, 65535, 131071, 262143, 524287, 1048575, 2097151, 4194303, 8388607, 16777215, 33554431, 16777215, 83886079, 16777215, 285212671, 1023410175, 2147483647, 4294967295]
theorem calendar_Number.tab1 : rtab .any (opsOf Tryd.f99 1) = calendar_Number.T1 := by kernel_rfl
theorem calendar_Number.bits1 : waitsOk calendar_Number.T1.2 calendar_Number.B1 = true := by kernel_rfl
set_option maxHeartbeats 8000000 in
set_option maxRecDepth 100000 in
theorem calendar_Number.calls (k : Nat) (a0_0 : Int) (a0_1 : Int) (a0_2 : Int) (r1 : Int) (r2 : Int) (w : World) (hG_lengths : GL_lengths w) (h : calendar_Number.f k a0_0 a0_1 a0_2 = some (r1, r2)) :
  Calls Tryd.prog 99 #[.agg #[.int .i64 a0_0, .int .i64 a0_1, .int .i64 a0_2]] w fun e w' => e = .returned (.tuple #[.int .i64 r1, .int .i64 r2]) ∧ Below w.heap.size w w' := by
 have hu122 := Tryd.underlying122
 have HG_lengths := Aside0.mk hG_lengths
 clear hG_lengths
 have HB := Aside0.mk (Below.refl w.heap.size w)
 have H : (if a0_0 < 2000 then (calendar_Number.j0 k true a0_0 a0_1 a0_2) else (if a0_0 > 2099 then (calendar_Number.j0 k true a0_0 a0_1 a0_2) else (if a0_1 < 1 then (calendar_Number.j0 k true a0_0 a0_1 a0_2) else (if a0_1 > 12 then (calendar_Number.j0 k true a0_0 a0_1 a0_2) else (if a0_2 < 1 then (calendar_Number.j0 k true a0_0 a0_1 a0_2) else ((calendar_length.f a0_0 a0_1).bind fun t1035 => (calendar_Number.j0 k (decide (a0_2 > t1035)) a0_0 a0_1 a0_2))))))) = some (r1, r2) := h
 clear h
 have HC2 := Aside0.mk H
 clear H
 go_enter Tryd.func99, Tryd.ntmps99
 go_upto_region 1 with (first | ((with_reducible refine gate_dst (N := 1) rfl ?_); refine box_event ?hg (N := 1) ?hd (cs := #[.int .i64 a0_0, .int .i64 a0_1, .int .i64 a0_2]) (t := 122) ?hr ?_; (case hd => rfl); (case hg => rfl); (case hr => first | (go_simp; done) | (go_simp; rfl)); intro gb1034 hg w3 hbox hb; have n0_ := Aside0.mk (below_step HB.out hb); have n1_ := Aside0.mk (hbox); have n2_ := Aside0.mk ((by rw [hg]; exact (below_size HB.out) : w.heap.size ≤ gb1034)); have n3_ := Aside0.mk ((by rw [hg]; exact (below_size HB.out) : w.heap.size ≤ gb1034)); clear HB; have HB := n0_; have BK1034 := n1_; have GW1034 := n2_; have GE1034 := n3_; clear n0_ n1_ n2_ n3_; clear hb hbox hg))
 (try simp only [Act.put, List.setIfInBounds_toArray, List.set_cons_zero, List.set_cons_succ])
 go_cut [39] (fun v39 wc => ∃ (kq : Nat) (x39_1 : Bool), v39 = .bool x39_1 ∧ Aside0 (calendar_Number.j0 kq x39_1 a0_0 a0_1 a0_2 = some (r1, r2)) ∧ Aside0 (kq ≤ k) ∧ Aside0 (wc.heap[gb1034]? = some (.cells #[.int .i64 a0_0, .int .i64 a0_1, .int .i64 a0_2] 122 (0, 0))) ∧ Aside0 (Below w.heap.size w wc))
 case first =>
  have H := HC2.out
  clear HC2
  by_cases c4 : a0_0 < 2000
  ·
   rw [if_pos c4] at H
   have c4b0 : decide (a0_0 < 2000) = true := decide_eq_true c4
   clear c4
   (first | rw [c4b0] | (simp only [i64_w, i32_w]; rw [c4b0]) | skip)
   have H' := Aside0.mk H
   clear H
   try go_wp2
   have n0_ := Aside0.mk (blk_drew BK1034.out)
   have n1_ := Aside0.mk (below_drew1 HB.out)
   clear BK1034
   clear HB
   have BK1034 := n0_
   have HB := n1_
   clear n0_ n1_
   refine start_ (n := 33) (S := fun w' => w'.cell? ⟨gb1034, 0, none⟩ = some (.int .i64 a0_0) ∧ w'.cell? ⟨gb1034, 1, none⟩ = some (.int .i64 a0_1) ∧ w'.cell? ⟨gb1034, 2, none⟩ = some (.int .i64 a0_2)) (ds := []) (bmask 33 0) (by kernel_rfl) rfl (by kernel_rfl) ⟨(blk_cell BK1034.out 0).trans rfl, (blk_cell BK1034.out 1).trans rfl, (blk_cell BK1034.out 2).trans rfl⟩ (fun hHeld => ?_); refine with_tabW calendar_Number.tab1 calendar_Number.bits1 (fun HT_ HW_ => ?_)
   generalize w3.drew = w5 at BK1034 HB hHeld ⊢
   refine pure_ (i := 0) (N := some 7) (v := ?_) (a' := ?_) (bmask 33 1) rfl rfl (any_of HT_.out (by kernel_rfl)) (fun _ _ _ h => h) (Or.inl ⟨by rfl, ?_⟩) ?_ ?_
   rotate_left
   ·
    intro w'
    go_simp
    with_reducible rfl
   rotate_left
   ·
    simp only [Act.put, List.setIfInBounds_toArray, List.set_cons_zero, List.set_cons_succ, i64_w, i32_w]
    rfl
   refine take_ (i := 1) (N := some 8) (v := ?_) (a' := ?_) (bmask 33 3) rfl rfl (take_ofW HT_.out HW_.out (by kernel_rfl)) (fun _ _ _ h => h) (Or.inl ⟨by rfl, ?_⟩) hHeld ?_ ?_
   rotate_left
   ·
    rintro w' ⟨s0, s1, s2⟩
    go_simp
    with_reducible rfl
   rotate_left
   ·
    simp only [Act.put, List.setIfInBounds_toArray, List.set_cons_zero, List.set_cons_succ, i64_w, i32_w]
    rfl
   refine pure_ (i := 2) (N := some 9) (v := ?_) (a' := ?_) (bmask 33 7) rfl rfl (any_of HT_.out (by kernel_rfl)) (fun _ _ _ h => h) (Or.inl ⟨by rfl, ?_⟩) ?_ ?_
   rotate_left
   ·
    intro w'
    go_simp
    with_reducible rfl
   rotate_left
   ·
    simp only [Act.put, List.setIfInBounds_toArray, List.set_cons_zero, List.set_cons_succ, i64_w, i32_w]
    rfl
   refine pure_ (i := 3) (N := some 10) (v := ?_) (a' := ?_) (bmask 33 15) rfl rfl (any_of HT_.out (by kernel_rfl)) (fun _ _ _ h => h) (Or.inl ⟨by rfl, ?_⟩) ?_ ?_
   rotate_left
   ·
    intro w'
    go_simp
    with_reducible rfl
   rotate_left
   ·
    simp only [Act.put, List.setIfInBounds_toArray, List.set_cons_zero, List.set_cons_succ, i64_w, i32_w]
    rfl
   refine pure_ (i := 4) (N := some 11) (v := undef) (a' := ?_) (bmask 33 31) rfl rfl (any_of HT_.out (by kernel_rfl)) (fun _ _ _ h => h) (Or.inr ⟨by rfl, rfl⟩) ?_ ?_
   rotate_left
   ·
    simp only [Act.put, List.setIfInBounds_toArray, List.set_cons_zero, List.set_cons_succ, i64_w, i32_w]
    rfl
   refine pure_ (i := 5) (N := some 12) (v := undef) (a' := ?_) (bmask 33 63) rfl rfl (any_of HT_.out (by kernel_rfl)) (fun _ _ _ h => h) (Or.inr ⟨by rfl, rfl⟩) ?_ ?_
   rotate_left
   ·
    simp only [Act.put, List.setIfInBounds_toArray, List.set_cons_zero, List.set_cons_succ, i64_w, i32_w]
    rfl
   refine pure_ (i := 6) (N := some 13) (v := undef) (a' := ?_) (bmask 33 127) rfl rfl (any_of HT_.out (by kernel_rfl)) (fun _ _ _ h => h) (Or.inr ⟨by rfl, rfl⟩) ?_ ?_
   rotate_left
   ·
    simp only [Act.put, List.setIfInBounds_toArray, List.set_cons_zero, List.set_cons_succ, i64_w, i32_w]
    rfl
   refine pure_ (i := 7) (N := some 14) (v := ?_) (a' := ?_) (bmask 33 255) rfl rfl (any_of HT_.out (by kernel_rfl)) (fun _ _ _ h => h) (Or.inl ⟨by rfl, ?_⟩) ?_ ?_
   rotate_left
   ·
    intro w'
    go_simp
    with_reducible rfl
   rotate_left
   ·
    simp only [Act.put, List.setIfInBounds_toArray, List.set_cons_zero, List.set_cons_succ, i64_w, i32_w]
    rfl
   refine pure_ (i := 8) (N := some 15) (v := ?_) (a' := ?_) (bmask 33 511) rfl rfl (any_of HT_.out (by kernel_rfl)) (fun _ _ _ h => h) (Or.inl ⟨by rfl, ?_⟩) ?_ ?_
   rotate_left
   ·
    intro w'
    go_simp
    with_reducible rfl
   rotate_left
   ·
    simp only [Act.put, List.setIfInBounds_toArray, List.set_cons_zero, List.set_cons_succ, i64_w, i32_w]
    rfl
   refine pure_ (i := 9) (N := some 16) (v := undef) (a' := ?_) (bmask 33 1023) rfl rfl (any_of HT_.out (by kernel_rfl)) (fun _ _ _ h => h) (Or.inr ⟨by rfl, rfl⟩) ?_ ?_
   rotate_left
   ·
    simp only [Act.put, List.setIfInBounds_toArray, List.set_cons_zero, List.set_cons_succ, i64_w, i32_w]
    rfl
   refine pure_ (i := 10) (N := some 17) (v := undef) (a' := ?_) (bmask 33 2047) rfl rfl (any_of HT_.out (by kernel_rfl)) (fun _ _ _ h => h) (Or.inr ⟨by rfl, rfl⟩) ?_ ?_
   rotate_left
   ·
    simp only [Act.put, List.setIfInBounds_toArray, List.set_cons_zero, List.set_cons_succ, i64_w, i32_w]
    rfl
   refine pure_ (i := 11) (N := some 18) (v := undef) (a' := ?_) (bmask 33 4095) rfl rfl (any_of HT_.out (by kernel_rfl)) (fun _ _ _ h => h) (Or.inr ⟨by rfl, rfl⟩) ?_ ?_
   rotate_left
   ·
    simp only [Act.put, List.setIfInBounds_toArray, List.set_cons_zero, List.set_cons_succ, i64_w, i32_w]
    rfl
   refine pure_ (i := 12) (N := some 19) (v := ?_) (a' := ?_) (bmask 33 8191) rfl rfl (any_of HT_.out (by kernel_rfl)) (fun _ _ _ h => h) (Or.inl ⟨by rfl, ?_⟩) ?_ ?_
   rotate_left
   ·
    intro w'
    go_simp
    with_reducible rfl
   rotate_left
   ·
    simp only [Act.put, List.setIfInBounds_toArray, List.set_cons_zero, List.set_cons_succ, i64_w, i32_w]
    rfl
   refine pure_ (i := 13) (N := some 20) (v := ?_) (a' := ?_) (bmask 33 16383) rfl rfl (any_of HT_.out (by kernel_rfl)) (fun _ _ _ h => h) (Or.inl ⟨by rfl, ?_⟩) ?_ ?_
   rotate_left
   ·
    intro w'
    go_simp
    with_reducible rfl
   rotate_left
   ·
    simp only [Act.put, List.setIfInBounds_toArray, List.set_cons_zero, List.set_cons_succ, i64_w, i32_w]
    rfl
   refine pure_ (i := 14) (N := some 21) (v := undef) (a' := ?_) (bmask 33 32767) rfl rfl (any_of HT_.out (by kernel_rfl)) (fun _ _ _ h => h) (Or.inr ⟨by rfl, rfl⟩) ?_ ?_
   rotate_left
   ·
    simp only [Act.put, List.setIfInBounds_toArray, List.set_cons_zero, List.set_cons_succ, i64_w, i32_w]
    rfl
   refine pure_ (i := 15) (N := some 22) (v := undef) (a' := ?_) (bmask 33 65535) rfl rfl (any_of HT_.out (by kernel_rfl)) (fun _ _ _ h => h) (Or.inr ⟨by rfl, rfl⟩) ?_ ?_
   rotate_left
   ·
    simp only [Act.put, List.setIfInBounds_toArray, List.set_cons_zero, List.set_cons_succ, i64_w, i32_w]
    rfl
   refine pure_ (i := 16) (N := some 23) (v := undef) (a' := ?_) (bmask 33 131071) rfl rfl (any_of HT_.out (by kernel_rfl)) (fun _ _ _ h => h) (Or.inr ⟨by rfl, rfl⟩) ?_ ?_
   rotate_left
   ·
    simp only [Act.put, List.setIfInBounds_toArray, List.set_cons_zero, List.set_cons_succ, i64_w, i32_w]
    rfl
   refine pure_ (i := 17) (N := some 24) (v := ?_) (a' := ?_) (bmask 33 262143) rfl rfl (any_of HT_.out (by kernel_rfl)) (fun _ _ _ h => h) (Or.inl ⟨by rfl, ?_⟩) ?_ ?_
   rotate_left
   ·
    intro w'
    go_simp
    with_reducible rfl
   rotate_left
   ·
    simp only [Act.put, List.setIfInBounds_toArray, List.set_cons_zero, List.set_cons_succ, i64_w, i32_w]
    rfl
   refine pure_ (i := 18) (N := some 25) (v := ?_) (a' := ?_) (bmask 33 524287) rfl rfl (any_of HT_.out (by kernel_rfl)) (fun _ _ _ h => h) (Or.inl ⟨by rfl, ?_⟩) ?_ ?_
   rotate_left
   ·
    intro w'
    go_simp
    with_reducible rfl
   rotate_left
   ·
    simp only [Act.put, List.setIfInBounds_toArray, List.set_cons_zero, List.set_cons_succ, i64_w, i32_w]
    rfl
   refine pure_ (i := 19) (N := some 26) (v := undef) (a' := ?_) (bmask 33 1048575) rfl rfl (any_of HT_.out (by kernel_rfl)) (fun _ _ _ h => h) (Or.inr ⟨by rfl, rfl⟩) ?_ ?_
   rotate_left
   ·
    simp only [Act.put, List.setIfInBounds_toArray, List.set_cons_zero, List.set_cons_succ, i64_w, i32_w]
    rfl
   refine pure_ (i := 20) (N := some 27) (v := undef) (a' := ?_) (bmask 33 2097151) rfl rfl (any_of HT_.out (by kernel_rfl)) (fun _ _ _ h => h) (Or.inr ⟨by rfl, rfl⟩) ?_ ?_
   rotate_left
   ·
    simp only [Act.put, List.setIfInBounds_toArray, List.set_cons_zero, List.set_cons_succ, i64_w, i32_w]
    rfl
   refine pure_ (i := 21) (N := some 28) (v := undef) (a' := ?_) (bmask 33 4194303) rfl rfl (any_of HT_.out (by kernel_rfl)) (fun _ _ _ h => h) (Or.inr ⟨by rfl, rfl⟩) ?_ ?_
   rotate_left
   ·
    simp only [Act.put, List.setIfInBounds_toArray, List.set_cons_zero, List.set_cons_succ, i64_w, i32_w]
    rfl
   refine pure_ (i := 22) (N := some 29) (v := ?_) (a' := ?_) (bmask 33 8388607) rfl rfl (any_of HT_.out (by kernel_rfl)) (fun _ _ _ h => h) (Or.inl ⟨by rfl, ?_⟩) ?_ ?_
   rotate_left
   ·
    intro w'
    go_simp
    with_reducible rfl
   rotate_left
   ·
    simp only [Act.put, List.setIfInBounds_toArray, List.set_cons_zero, List.set_cons_succ, i64_w, i32_w]
    rfl
   refine pure_ (i := 23) (N := some 30) (v := ?_) (a' := ?_) (bmask 33 16777215) rfl rfl (any_of HT_.out (by kernel_rfl)) (fun _ _ _ h => h) (Or.inl ⟨by rfl, ?_⟩) ?_ ?_
   rotate_left
   ·
    intro w'
    go_simp
    with_reducible rfl
   rotate_left
   ·
    simp only [Act.put, List.setIfInBounds_toArray, List.set_cons_zero, List.set_cons_succ, i64_w, i32_w]
    rfl
   refine pure_ (i := 24) (N := some 31) (v := undef) (a' := ?_) (bmask 33 33554431) rfl rfl (any_of HT_.out (by kernel_rfl)) (fun _ _ _ h => h) (Or.inr ⟨by rfl, rfl⟩) ?_ ?_
   rotate_left
   ·
    simp only [Act.put, List.setIfInBounds_toArray, List.set_cons_zero, List.set_cons_succ, i64_w, i32_w]
    rfl
   refine pure_ (i := 25) (N := some 32) (v := undef) (a' := ?_) (bmask 33 67108863) rfl rfl (any_of HT_.out (by kernel_rfl)) (fun _ _ _ h => h) (Or.inr ⟨by rfl, rfl⟩) ?_ ?_
   rotate_left
   ·
    simp only [Act.put, List.setIfInBounds_toArray, List.set_cons_zero, List.set_cons_succ, i64_w, i32_w]
    rfl
   refine pure_ (i := 26) (N := some 33) (v := undef) (a' := ?_) (bmask 33 134217727) rfl rfl (any_of HT_.out (by kernel_rfl)) (fun _ _ _ h => h) (Or.inr ⟨by rfl, rfl⟩) ?_ ?_
   rotate_left
   ·
    simp only [Act.put, List.setIfInBounds_toArray, List.set_cons_zero, List.set_cons_succ, i64_w, i32_w]
    rfl
   refine pure_ (i := 27) (N := some 34) (v := undef) (a' := ?_) (bmask 33 268435455) rfl rfl (any_of HT_.out (by kernel_rfl)) (fun _ _ _ h => h) (Or.inr ⟨by rfl, rfl⟩) ?_ ?_
   rotate_left
   ·
    simp only [Act.put, List.setIfInBounds_toArray, List.set_cons_zero, List.set_cons_succ, i64_w, i32_w]
    rfl
   refine pure_ (i := 28) (N := some 35) (v := undef) (a' := ?_) (bmask 33 536870911) rfl rfl (any_of HT_.out (by kernel_rfl)) (fun _ _ _ h => h) (Or.inr ⟨by rfl, rfl⟩) ?_ ?_
   rotate_left
   ·
    simp only [Act.put, List.setIfInBounds_toArray, List.set_cons_zero, List.set_cons_succ, i64_w, i32_w]
    rfl
   refine pure_ (i := 29) (N := some 36) (v := undef) (a' := ?_) (bmask 33 1073741823) rfl rfl (any_of HT_.out (by kernel_rfl)) (fun _ _ _ h => h) (Or.inr ⟨by rfl, rfl⟩) ?_ ?_
   rotate_left
   ·
    simp only [Act.put, List.setIfInBounds_toArray, List.set_cons_zero, List.set_cons_succ, i64_w, i32_w]
    rfl
   refine pure_ (i := 30) (N := some 37) (v := undef) (a' := ?_) (bmask 33 2147483647) rfl rfl (any_of HT_.out (by kernel_rfl)) (fun _ _ _ h => h) (Or.inr ⟨by rfl, rfl⟩) ?_ ?_
   rotate_left
   ·
    simp only [Act.put, List.setIfInBounds_toArray, List.set_cons_zero, List.set_cons_succ, i64_w, i32_w]
    rfl
   refine pure_ (i := 31) (N := some 38) (v := undef) (a' := ?_) (bmask 33 4294967295) rfl rfl (any_of HT_.out (by kernel_rfl)) (fun _ _ _ h => h) (Or.inr ⟨by rfl, rfl⟩) ?_ ?_
   rotate_left
   ·
    simp only [Act.put, List.setIfInBounds_toArray, List.set_cons_zero, List.set_cons_succ, i64_w, i32_w]
    rfl
   refine pure_ (i := 32) (N := some 39) (v := ?_) (a' := ?_) (bmask 33 8589934591) rfl rfl (any_of HT_.out (by kernel_rfl)) (fun _ _ _ h => h) (Or.inl ⟨by rfl, ?_⟩) ?_ ?_
   rotate_left
   ·
    intro w'
    go_simp
    with_reducible rfl
   rotate_left
   ·
    simp only [Act.put, List.setIfInBounds_toArray, List.set_cons_zero, List.set_cons_succ, i64_w, i32_w]
    rfl
   refine done_ (done_of HT_.out (by kernel_rfl)) ?_
   try go_wp2
   go_meet
   case rel => exact ⟨_, (true), (by first | rfl | (simp; done) | (simp [*]; done)), H', ⟨by first | omega | exact Nat.le_refl _⟩, ⟨by (with_reducible repeat (first | refine blk_drewN ?_ _ | refine blk_drew ?_ | refine blk_alloc ?_ _)); exact BK1034.out⟩, ⟨by repeat (first | (with_reducible first | exact HB.out | apply below_alloc | apply pw_below_drewN | apply below_drew1 | refine below_set ?_ GE1034.out) | exact HB.out)⟩⟩
  ·
   rw [if_neg c4] at H
   have c4b0 : decide (a0_0 < 2000) = false := decide_eq_false c4
   clear c4
   (first | rw [c4b0] | (simp only [i64_w, i32_w]; rw [c4b0]) | skip)
   by_cases c6 : a0_0 > 2099
   ·
    rw [if_pos c6] at H
    have c6b0 : decide (2099 < a0_0) = true := decide_eq_true c6
    clear c6
    have H' := Aside0.mk H
    clear H
    try go_wp2
    have n0_ := Aside0.mk (blk_drew BK1034.out)
    have n1_ := Aside0.mk (below_drew1 HB.out)
    clear BK1034
    clear HB
    have BK1034 := n0_
    have HB := n1_
    clear n0_ n1_
    refine start_ (n := 33) (S := fun w' => w'.cell? ⟨gb1034, 0, none⟩ = some (.int .i64 a0_0) ∧ w'.cell? ⟨gb1034, 1, none⟩ = some (.int .i64 a0_1) ∧ w'.cell? ⟨gb1034, 2, none⟩ = some (.int .i64 a0_2)) (ds := []) (bmask 33 0) (by kernel_rfl) rfl (by kernel_rfl) ⟨(blk_cell BK1034.out 0).trans rfl, (blk_cell BK1034.out 1).trans rfl, (blk_cell BK1034.out 2).trans rfl⟩ (fun hHeld => ?_); refine with_tabW calendar_Number.tab1 calendar_Number.bits1 (fun HT_ HW_ => ?_)
    generalize w3.drew = w7 at BK1034 HB hHeld ⊢
    refine pure_ (i := 0) (N := some 7) (v := ?_) (a' := ?_) (bmask 33 1) rfl rfl (any_of HT_.out (by kernel_rfl)) (fun _ _ _ h => h) (Or.inl ⟨by rfl, ?_⟩) ?_ ?_
    rotate_left
    ·
     intro w'
     go_simp
     with_reducible rfl
    rotate_left
    ·
     simp only [Act.put, List.setIfInBounds_toArray, List.set_cons_zero, List.set_cons_succ, i64_w, i32_w]
     rfl
    refine take_ (i := 1) (N := some 8) (v := ?_) (a' := ?_) (bmask 33 3) rfl rfl (take_ofW HT_.out HW_.out (by kernel_rfl)) (fun _ _ _ h => h) (Or.inl ⟨by rfl, ?_⟩) hHeld ?_ ?_
    rotate_left
    ·
     rintro w' ⟨s0, s1, s2⟩
     go_simp
     with_reducible rfl
    rotate_left
    ·
     simp only [Act.put, List.setIfInBounds_toArray, List.set_cons_zero, List.set_cons_succ, i64_w, i32_w]
     rfl
    refine pure_ (i := 2) (N := some 9) (v := ?_) (a' := ?_) (bmask 33 7) rfl rfl (any_of HT_.out (by kernel_rfl)) (fun _ _ _ h => h) (Or.inl ⟨by rfl, ?_⟩) ?_ ?_
    rotate_left
    ·
     intro w'
     go_simp
     with_reducible rfl
    rotate_left
    ·
     simp only [Act.put, List.setIfInBounds_toArray, List.set_cons_zero, List.set_cons_succ, i64_w, i32_w]
     rfl
    refine pure_ (i := 3) (N := some 10) (v := ?_) (a' := ?_) (bmask 33 15) rfl rfl (any_of HT_.out (by kernel_rfl)) (fun _ _ _ h => h) (Or.inl ⟨by rfl, ?_⟩) ?_ ?_
    rotate_left
    ·
     intro w'
     go_simp
     with_reducible rfl
    rotate_left
    ·
     simp only [Act.put, List.setIfInBounds_toArray, List.set_cons_zero, List.set_cons_succ, i64_w, i32_w]
     rfl
    refine pure_ (i := 4) (N := some 11) (v := ?_) (a' := ?_) (bmask 33 31) rfl rfl (any_of HT_.out (by kernel_rfl)) (fun _ _ _ h => h) (Or.inl ⟨by rfl, ?_⟩) ?_ ?_
    rotate_left
    ·
     intro w'
     go_simp
     with_reducible rfl
    rotate_left
    ·
     simp only [Act.put, List.setIfInBounds_toArray, List.set_cons_zero, List.set_cons_succ, i64_w, i32_w]
     rfl
    refine take_ (i := 5) (N := some 12) (v := ?_) (a' := ?_) (bmask 33 63) rfl rfl (take_ofW HT_.out HW_.out (by kernel_rfl)) (fun _ _ _ h => h) (Or.inl ⟨by rfl, ?_⟩) hHeld ?_ ?_
    rotate_left
    ·
     rintro w' ⟨s0, s1, s2⟩
     go_simp
     with_reducible rfl
    rotate_left
    ·
     simp only [Act.put, List.setIfInBounds_toArray, List.set_cons_zero, List.set_cons_succ, i64_w, i32_w]
     rfl
    refine pure_ (i := 6) (N := some 13) (v := ?_) (a' := ?_) (bmask 33 127) rfl rfl (any_of HT_.out (by kernel_rfl)) (fun _ _ _ h => h) (Or.inl ⟨by rfl, ?_⟩) ?_ ?_
    rotate_left
    ·
     intro w'
     go_simp
     with_reducible rfl
    rotate_left
    ·
     simp only [Act.put, List.setIfInBounds_toArray, List.set_cons_zero, List.set_cons_succ, i64_w, i32_w]
     rfl
    refine pure_ (i := 7) (N := some 14) (v := ?_) (a' := ?_) (bmask 33 255) rfl rfl (any_of HT_.out (by kernel_rfl)) (fun _ _ _ h => h) (Or.inl ⟨by rfl, ?_⟩) ?_ ?_
    rotate_left
    ·
     intro w'
     go_simp
     with_reducible rfl
    rotate_left
    ·
     simp only [Act.put, List.setIfInBounds_toArray, List.set_cons_zero, List.set_cons_succ, i64_w, i32_w]
     rfl
    refine pure_ (i := 8) (N := some 15) (v := ?_) (a' := ?_) (bmask 33 511) rfl rfl (any_of HT_.out (by kernel_rfl)) (fun _ _ _ h => h) (Or.inl ⟨by rfl, ?_⟩) ?_ ?_
    rotate_left
    ·
     intro w'
     go_simp
     with_reducible rfl
    rotate_left
    ·
     simp only [Act.put, List.setIfInBounds_toArray, List.set_cons_zero, List.set_cons_succ, i64_w, i32_w]
     rfl
    refine pure_ (i := 9) (N := some 16) (v := undef) (a' := ?_) (bmask 33 1023) rfl rfl (any_of HT_.out (by kernel_rfl)) (fun _ _ _ h => h) (Or.inr ⟨by rfl, rfl⟩) ?_ ?_
    rotate_left
    ·
     simp only [Act.put, List.setIfInBounds_toArray, List.set_cons_zero, List.set_cons_succ, i64_w, i32_w]
     rfl
    refine pure_ (i := 10) (N := some 17) (v := undef) (a' := ?_) (bmask 33 2047) rfl rfl (any_of HT_.out (by kernel_rfl)) (fun _ _ _ h => h) (Or.inr ⟨by rfl, rfl⟩) ?_ ?_
    rotate_left
    ·
     simp only [Act.put, List.setIfInBounds_toArray, List.set_cons_zero, List.set_cons_succ, i64_w, i32_w]
     rfl
    refine pure_ (i := 11) (N := some 18) (v := undef) (a' := ?_) (bmask 33 4095) rfl rfl (any_of HT_.out (by kernel_rfl)) (fun _ _ _ h => h) (Or.inr ⟨by rfl, rfl⟩) ?_ ?_
    rotate_left
    ·
     simp only [Act.put, List.setIfInBounds_toArray, List.set_cons_zero, List.set_cons_succ, i64_w, i32_w]
     rfl
    refine pure_ (i := 12) (N := some 19) (v := ?_) (a' := ?_) (bmask 33 8191) rfl rfl (any_of HT_.out (by kernel_rfl)) (fun _ _ _ h => h) (Or.inl ⟨by rfl, ?_⟩) ?_ ?_
    rotate_left
    ·
     intro w'
     go_simp
     with_reducible rfl
    rotate_left
    ·
     simp only [Act.put, List.setIfInBounds_toArray, List.set_cons_zero, List.set_cons_succ, i64_w, i32_w]
     rfl
    refine pure_ (i := 13) (N := some 20) (v := ?_) (a' := ?_) (bmask 33 16383) rfl rfl (any_of HT_.out (by kernel_rfl)) (fun _ _ _ h => h) (Or.inl ⟨by rfl, ?_⟩) ?_ ?_
    rotate_left
    ·
     intro w'
     go_simp
     with_reducible rfl
    rotate_left
    ·
     simp only [Act.put, List.setIfInBounds_toArray, List.set_cons_zero, List.set_cons_succ, i64_w, i32_w]
     rfl
    refine pure_ (i := 14) (N := some 21) (v := undef) (a' := ?_) (bmask 33 32767) rfl rfl (any_of HT_.out (by kernel_rfl)) (fun _ _ _ h => h) (Or.inr ⟨by rfl, rfl⟩) ?_ ?_
    rotate_left
    ·
     simp only [Act.put, List.setIfInBounds_toArray, List.set_cons_zero, List.set_cons_succ, i64_w, i32_w]
     rfl
    refine pure_ (i := 15) (N := some 22) (v := undef) (a' := ?_) (bmask 33 65535) rfl rfl (any_of HT_.out (by kernel_rfl)) (fun _ _ _ h => h) (Or.inr ⟨by rfl, rfl⟩) ?_ ?_
    rotate_left
    ·
     simp only [Act.put, List.setIfInBounds_toArray, List.set_cons_zero, List.set_cons_succ, i64_w, i32_w]
     rfl
    refine pure_ (i := 16) (N := some 23) (v := undef) (a' := ?_) (bmask 33 131071) rfl rfl (any_of HT_.out (by kernel_rfl)) (fun _ _ _ h => h) (Or.inr ⟨by rfl, rfl⟩) ?_ ?_
    rotate_left
    ·
     simp only [Act.put, List.setIfInBounds_toArray, List.set_cons_zero, List.set_cons_succ, i64_w, i32_w]
     rfl
    refine pure_ (i := 17) (N := some 24) (v := ?_) (a' := ?_) (bmask 33 262143) rfl rfl (any_of HT_.out (by kernel_rfl)) (fun _ _ _ h => h) (Or.inl ⟨by rfl, ?_⟩) ?_ ?_
    rotate_left
    ·
     intro w'
     go_simp
     with_reducible rfl
    rotate_left
    ·
     simp only [Act.put, List.setIfInBounds_toArray, List.set_cons_zero, List.set_cons_succ, i64_w, i32_w]
     rfl
    refine pure_ (i := 18) (N := some 25) (v := ?_) (a' := ?_) (bmask 33 524287) rfl rfl (any_of HT_.out (by kernel_rfl)) (fun _ _ _ h => h) (Or.inl ⟨by rfl, ?_⟩) ?_ ?_
    rotate_left
    ·
     intro w'
     go_simp
     with_reducible rfl
    rotate_left
    ·
     simp only [Act.put, List.setIfInBounds_toArray, List.set_cons_zero, List.set_cons_succ, i64_w, i32_w]
     rfl
    refine pure_ (i := 19) (N := some 26) (v := undef) (a' := ?_) (bmask 33 1048575) rfl rfl (any_of HT_.out (by kernel_rfl)) (fun _ _ _ h => h) (Or.inr ⟨by rfl, rfl⟩) ?_ ?_
    rotate_left
    ·
     simp only [Act.put, List.setIfInBounds_toArray, List.set_cons_zero, List.set_cons_succ, i64_w, i32_w]
     rfl
    refine pure_ (i := 20) (N := some 27) (v := undef) (a' := ?_) (bmask 33 2097151) rfl rfl (any_of HT_.out (by kernel_rfl)) (fun _ _ _ h => h) (Or.inr ⟨by rfl, rfl⟩) ?_ ?_
    rotate_left
    ·
     simp only [Act.put, List.setIfInBounds_toArray, List.set_cons_zero, List.set_cons_succ, i64_w, i32_w]
     rfl
    refine pure_ (i := 21) (N := some 28) (v := undef) (a' := ?_) (bmask 33 4194303) rfl rfl (any_of HT_.out (by kernel_rfl)) (fun _ _ _ h => h) (Or.inr ⟨by rfl, rfl⟩) ?_ ?_
    rotate_left
    ·
     simp only [Act.put, List.setIfInBounds_toArray, List.set_cons_zero, List.set_cons_succ, i64_w, i32_w]
     rfl
    refine pure_ (i := 22) (N := some 29) (v := ?_) (a' := ?_) (bmask 33 8388607) rfl rfl (any_of HT_.out (by kernel_rfl)) (fun _ _ _ h => h) (Or.inl ⟨by rfl, ?_⟩) ?_ ?_
    rotate_left
    ·
     intro w'
     go_simp
     with_reducible rfl
    rotate_left
    ·
     simp only [Act.put, List.setIfInBounds_toArray, List.set_cons_zero, List.set_cons_succ, i64_w, i32_w]
     rfl
    refine pure_ (i := 23) (N := some 30) (v := ?_) (a' := ?_) (bmask 33 16777215) rfl rfl (any_of HT_.out (by kernel_rfl)) (fun _ _ _ h => h) (Or.inl ⟨by rfl, ?_⟩) ?_ ?_
    rotate_left
    ·
     intro w'
     go_simp
     with_reducible rfl
    rotate_left
    ·
     simp only [Act.put, List.setIfInBounds_toArray, List.set_cons_zero, List.set_cons_succ, i64_w, i32_w]
     rfl
    refine pure_ (i := 24) (N := some 31) (v := undef) (a' := ?_) (bmask 33 33554431) rfl rfl (any_of HT_.out (by kernel_rfl)) (fun _ _ _ h => h) (Or.inr ⟨by rfl, rfl⟩) ?_ ?_
    rotate_left
    ·
     simp only [Act.put, List.setIfInBounds_toArray, List.set_cons_zero, List.set_cons_succ, i64_w, i32_w]
     rfl
    refine pure_ (i := 25) (N := some 32) (v := undef) (a' := ?_) (bmask 33 67108863) rfl rfl (any_of HT_.out (by kernel_rfl)) (fun _ _ _ h => h) (Or.inr ⟨by rfl, rfl⟩) ?_ ?_
    rotate_left
    ·
     simp only [Act.put, List.setIfInBounds_toArray, List.set_cons_zero, List.set_cons_succ, i64_w, i32_w]
     rfl
    refine pure_ (i := 26) (N := some 33) (v := undef) (a' := ?_) (bmask 33 134217727) rfl rfl (any_of HT_.out (by kernel_rfl)) (fun _ _ _ h => h) (Or.inr ⟨by rfl, rfl⟩) ?_ ?_
    rotate_left
    ·
     simp only [Act.put, List.setIfInBounds_toArray, List.set_cons_zero, List.set_cons_succ, i64_w, i32_w]
     rfl
    refine pure_ (i := 27) (N := some 34) (v := undef) (a' := ?_) (bmask 33 268435455) rfl rfl (any_of HT_.out (by kernel_rfl)) (fun _ _ _ h => h) (Or.inr ⟨by rfl, rfl⟩) ?_ ?_
    rotate_left
    ·
     simp only [Act.put, List.setIfInBounds_toArray, List.set_cons_zero, List.set_cons_succ, i64_w, i32_w]
     rfl
    refine pure_ (i := 28) (N := some 35) (v := undef) (a' := ?_) (bmask 33 536870911) rfl rfl (any_of HT_.out (by kernel_rfl)) (fun _ _ _ h => h) (Or.inr ⟨by rfl, rfl⟩) ?_ ?_
    rotate_left
    ·
     simp only [Act.put, List.setIfInBounds_toArray, List.set_cons_zero, List.set_cons_succ, i64_w, i32_w]
     rfl
    refine pure_ (i := 29) (N := some 36) (v := undef) (a' := ?_) (bmask 33 1073741823) rfl rfl (any_of HT_.out (by kernel_rfl)) (fun _ _ _ h => h) (Or.inr ⟨by rfl, rfl⟩) ?_ ?_
    rotate_left
    ·
     simp only [Act.put, List.setIfInBounds_toArray, List.set_cons_zero, List.set_cons_succ, i64_w, i32_w]
     rfl
    refine pure_ (i := 30) (N := some 37) (v := undef) (a' := ?_) (bmask 33 2147483647) rfl rfl (any_of HT_.out (by kernel_rfl)) (fun _ _ _ h => h) (Or.inr ⟨by rfl, rfl⟩) ?_ ?_
    rotate_left
    ·
     simp only [Act.put, List.setIfInBounds_toArray, List.set_cons_zero, List.set_cons_succ, i64_w, i32_w]
     rfl
    refine pure_ (i := 31) (N := some 38) (v := undef) (a' := ?_) (bmask 33 4294967295) rfl rfl (any_of HT_.out (by kernel_rfl)) (fun _ _ _ h => h) (Or.inr ⟨by rfl, rfl⟩) ?_ ?_
    rotate_left
    ·
     simp only [Act.put, List.setIfInBounds_toArray, List.set_cons_zero, List.set_cons_succ, i64_w, i32_w]
     rfl
    refine pure_ (i := 32) (N := some 39) (v := ?_) (a' := ?_) (bmask 33 8589934591) rfl rfl (any_of HT_.out (by kernel_rfl)) (fun _ _ _ h => h) (Or.inl ⟨by rfl, ?_⟩) ?_ ?_
    rotate_left
    ·
     intro w'
     go_simp
     with_reducible rfl
    rotate_left
    ·
     simp only [Act.put, List.setIfInBounds_toArray, List.set_cons_zero, List.set_cons_succ, i64_w, i32_w]
     rfl
    refine done_ (done_of HT_.out (by kernel_rfl)) ?_
    try go_wp2
    go_meet
    case rel => exact ⟨_, (true), (by first | rfl | (simp; done) | (simp [*]; done)), H', ⟨by first | omega | exact Nat.le_refl _⟩, ⟨by (with_reducible repeat (first | refine blk_drewN ?_ _ | refine blk_drew ?_ | refine blk_alloc ?_ _)); exact BK1034.out⟩, ⟨by repeat (first | (with_reducible first | exact HB.out | apply below_alloc | apply pw_below_drewN | apply below_drew1 | refine below_set ?_ GE1034.out) | exact HB.out)⟩⟩
   ·
    rw [if_neg c6] at H
    have c6b0 : decide (2099 < a0_0) = false := decide_eq_false c6
    clear c6
    by_cases c8 : a0_1 < 1
    ·
     rw [if_pos c8] at H
     have c8b0 : decide (a0_1 < 1) = true := decide_eq_true c8
     clear c8
     have H' := Aside0.mk H
     clear H
     try go_wp2
     have n0_ := Aside0.mk (blk_drew BK1034.out)
     have n1_ := Aside0.mk (below_drew1 HB.out)
     clear BK1034
     clear HB
     have BK1034 := n0_
     have HB := n1_
     clear n0_ n1_
     refine start_ (n := 33) (S := fun w' => w'.cell? ⟨gb1034, 0, none⟩ = some (.int .i64 a0_0) ∧ w'.cell? ⟨gb1034, 1, none⟩ = some (.int .i64 a0_1) ∧ w'.cell? ⟨gb1034, 2, none⟩ = some (.int .i64 a0_2)) (ds := []) (bmask 33 0) (by kernel_rfl) rfl (by kernel_rfl) ⟨(blk_cell BK1034.out 0).trans rfl, (blk_cell BK1034.out 1).trans rfl, (blk_cell BK1034.out 2).trans rfl⟩ (fun hHeld => ?_); refine with_tabW calendar_Number.tab1 calendar_Number.bits1 (fun HT_ HW_ => ?_)
     generalize w3.drew = w9 at BK1034 HB hHeld ⊢
     refine pure_ (i := 0) (N := some 7) (v := ?_) (a' := ?_) (bmask 33 1) rfl rfl (any_of HT_.out (by kernel_rfl)) (fun _ _ _ h => h) (Or.inl ⟨by rfl, ?_⟩) ?_ ?_
     rotate_left
     ·
      intro w'
      go_simp
      with_reducible rfl
     rotate_left
     ·
      simp only [Act.put, List.setIfInBounds_toArray, List.set_cons_zero, List.set_cons_succ, i64_w, i32_w]
      rfl
     refine take_ (i := 1) (N := some 8) (v := ?_) (a' := ?_) (bmask 33 3) rfl rfl (take_ofW HT_.out HW_.out (by kernel_rfl)) (fun _ _ _ h => h) (Or.inl ⟨by rfl, ?_⟩) hHeld ?_ ?_
     rotate_left
     ·
      rintro w' ⟨s0, s1, s2⟩
      go_simp
      with_reducible rfl
     rotate_left
     ·
      simp only [Act.put, List.setIfInBounds_toArray, List.set_cons_zero, List.set_cons_succ, i64_w, i32_w]
      rfl
     refine pure_ (i := 2) (N := some 9) (v := ?_) (a' := ?_) (bmask 33 7) rfl rfl (any_of HT_.out (by kernel_rfl)) (fun _ _ _ h => h) (Or.inl ⟨by rfl, ?_⟩) ?_ ?_
     rotate_left
     ·
      intro w'
      go_simp
      with_reducible rfl
     rotate_left
     ·
      simp only [Act.put, List.setIfInBounds_toArray, List.set_cons_zero, List.set_cons_succ, i64_w, i32_w]
      rfl
     refine pure_ (i := 3) (N := some 10) (v := ?_) (a' := ?_) (bmask 33 15) rfl rfl (any_of HT_.out (by kernel_rfl)) (fun _ _ _ h => h) (Or.inl ⟨by rfl, ?_⟩) ?_ ?_
     rotate_left
     ·
      intro w'
      go_simp
      with_reducible rfl
     rotate_left
     ·
      simp only [Act.put, List.setIfInBounds_toArray, List.set_cons_zero, List.set_cons_succ, i64_w, i32_w]
      rfl
     refine pure_ (i := 4) (N := some 11) (v := ?_) (a' := ?_) (bmask 33 31) rfl rfl (any_of HT_.out (by kernel_rfl)) (fun _ _ _ h => h) (Or.inl ⟨by rfl, ?_⟩) ?_ ?_
     rotate_left
     ·
      intro w'
      go_simp
      with_reducible rfl
     rotate_left
     ·
      simp only [Act.put, List.setIfInBounds_toArray, List.set_cons_zero, List.set_cons_succ, i64_w, i32_w]
      rfl
     refine take_ (i := 5) (N := some 12) (v := ?_) (a' := ?_) (bmask 33 63) rfl rfl (take_ofW HT_.out HW_.out (by kernel_rfl)) (fun _ _ _ h => h) (Or.inl ⟨by rfl, ?_⟩) hHeld ?_ ?_
     rotate_left
     ·
      rintro w' ⟨s0, s1, s2⟩
      go_simp
      with_reducible rfl
     rotate_left
     ·
      simp only [Act.put, List.setIfInBounds_toArray, List.set_cons_zero, List.set_cons_succ, i64_w, i32_w]
      rfl
     refine pure_ (i := 6) (N := some 13) (v := ?_) (a' := ?_) (bmask 33 127) rfl rfl (any_of HT_.out (by kernel_rfl)) (fun _ _ _ h => h) (Or.inl ⟨by rfl, ?_⟩) ?_ ?_
     rotate_left
     ·
      intro w'
      go_simp
      with_reducible rfl
     rotate_left
     ·
      simp only [Act.put, List.setIfInBounds_toArray, List.set_cons_zero, List.set_cons_succ, i64_w, i32_w]
      rfl
     refine pure_ (i := 7) (N := some 14) (v := ?_) (a' := ?_) (bmask 33 255) rfl rfl (any_of HT_.out (by kernel_rfl)) (fun _ _ _ h => h) (Or.inl ⟨by rfl, ?_⟩) ?_ ?_
     rotate_left
     ·
      intro w'
      go_simp
      with_reducible rfl
     rotate_left
     ·
      simp only [Act.put, List.setIfInBounds_toArray, List.set_cons_zero, List.set_cons_succ, i64_w, i32_w]
      rfl
     refine pure_ (i := 8) (N := some 15) (v := ?_) (a' := ?_) (bmask 33 511) rfl rfl (any_of HT_.out (by kernel_rfl)) (fun _ _ _ h => h) (Or.inl ⟨by rfl, ?_⟩) ?_ ?_
     rotate_left
     ·
      intro w'
      go_simp
      with_reducible rfl
     rotate_left
     ·
      simp only [Act.put, List.setIfInBounds_toArray, List.set_cons_zero, List.set_cons_succ, i64_w, i32_w]
      rfl
     refine pure_ (i := 9) (N := some 16) (v := ?_) (a' := ?_) (bmask 33 1023) rfl rfl (any_of HT_.out (by kernel_rfl)) (fun _ _ _ h => h) (Or.inl ⟨by rfl, ?_⟩) ?_ ?_
     rotate_left
     ·
      intro w'
      go_simp
      with_reducible rfl
     rotate_left
     ·
      simp only [Act.put, List.setIfInBounds_toArray, List.set_cons_zero, List.set_cons_succ, i64_w, i32_w]
      rfl
     refine take_ (i := 10) (N := some 17) (v := ?_) (a' := ?_) (bmask 33 2047) rfl rfl (take_ofW HT_.out HW_.out (by kernel_rfl)) (fun _ _ _ h => h) (Or.inl ⟨by rfl, ?_⟩) hHeld ?_ ?_
     rotate_left
     ·
      rintro w' ⟨s0, s1, s2⟩
      go_simp
      with_reducible rfl
     rotate_left
     ·
      simp only [Act.put, List.setIfInBounds_toArray, List.set_cons_zero, List.set_cons_succ, i64_w, i32_w]
      rfl
     refine pure_ (i := 11) (N := some 18) (v := ?_) (a' := ?_) (bmask 33 4095) rfl rfl (any_of HT_.out (by kernel_rfl)) (fun _ _ _ h => h) (Or.inl ⟨by rfl, ?_⟩) ?_ ?_
     rotate_left
     ·
      intro w'
      go_simp
      with_reducible rfl
     rotate_left
     ·
      simp only [Act.put, List.setIfInBounds_toArray, List.set_cons_zero, List.set_cons_succ, i64_w, i32_w]
      rfl
     refine pure_ (i := 12) (N := some 19) (v := ?_) (a' := ?_) (bmask 33 8191) rfl rfl (any_of HT_.out (by kernel_rfl)) (fun _ _ _ h => h) (Or.inl ⟨by rfl, ?_⟩) ?_ ?_
     rotate_left
     ·
      intro w'
      go_simp
      with_reducible rfl
     rotate_left
     ·
      simp only [Act.put, List.setIfInBounds_toArray, List.set_cons_zero, List.set_cons_succ, i64_w, i32_w]
      rfl
     refine pure_ (i := 13) (N := some 20) (v := ?_) (a' := ?_) (bmask 33 16383) rfl rfl (any_of HT_.out (by kernel_rfl)) (fun _ _ _ h => h) (Or.inl ⟨by rfl, ?_⟩) ?_ ?_
     rotate_left
     ·
      intro w'
      go_simp
      with_reducible rfl
     rotate_left
     ·
      simp only [Act.put, List.setIfInBounds_toArray, List.set_cons_zero, List.set_cons_succ, i64_w, i32_w]
      rfl
     refine pure_ (i := 14) (N := some 21) (v := undef) (a' := ?_) (bmask 33 32767) rfl rfl (any_of HT_.out (by kernel_rfl)) (fun _ _ _ h => h) (Or.inr ⟨by rfl, rfl⟩) ?_ ?_
     rotate_left
     ·
      simp only [Act.put, List.setIfInBounds_toArray, List.set_cons_zero, List.set_cons_succ, i64_w, i32_w]
      rfl
     refine pure_ (i := 15) (N := some 22) (v := undef) (a' := ?_) (bmask 33 65535) rfl rfl (any_of HT_.out (by kernel_rfl)) (fun _ _ _ h => h) (Or.inr ⟨by rfl, rfl⟩) ?_ ?_
     rotate_left
     ·
      simp only [Act.put, List.setIfInBounds_toArray, List.set_cons_zero, List.set_cons_succ, i64_w, i32_w]
      rfl
     refine pure_ (i := 16) (N := some 23) (v := undef) (a' := ?_) (bmask 33 131071) rfl rfl (any_of HT_.out (by kernel_rfl)) (fun _ _ _ h => h) (Or.inr ⟨by rfl, rfl⟩) ?_ ?_
     rotate_left
     ·
      simp only [Act.put, List.setIfInBounds_toArray, List.set_cons_zero, List.set_cons_succ, i64_w, i32_w]
      rfl
     refine pure_ (i := 17) (N := some 24) (v := ?_) (a' := ?_) (bmask 33 262143) rfl rfl (any_of HT_.out (by kernel_rfl)) (fun _ _ _ h => h) (Or.inl ⟨by rfl, ?_⟩) ?_ ?_
     rotate_left
     ·
      intro w'
      go_simp
      with_reducible rfl
     rotate_left
     ·
      simp only [Act.put, List.setIfInBounds_toArray, List.set_cons_zero, List.set_cons_succ, i64_w, i32_w]
      rfl
     refine pure_ (i := 18) (N := some 25) (v := ?_) (a' := ?_) (bmask 33 524287) rfl rfl (any_of HT_.out (by kernel_rfl)) (fun _ _ _ h => h) (Or.inl ⟨by rfl, ?_⟩) ?_ ?_
     rotate_left
     ·
      intro w'
      go_simp
      with_reducible rfl
     rotate_left
     ·
      simp only [Act.put, List.setIfInBounds_toArray, List.set_cons_zero, List.set_cons_succ, i64_w, i32_w]
      rfl
     refine pure_ (i := 19) (N := some 26) (v := undef) (a' := ?_) (bmask 33 1048575) rfl rfl (any_of HT_.out (by kernel_rfl)) (fun _ _ _ h => h) (Or.inr ⟨by rfl, rfl⟩) ?_ ?_
     rotate_left
     ·
      simp only [Act.put, List.setIfInBounds_toArray, List.set_cons_zero, List.set_cons_succ, i64_w, i32_w]
      rfl
     refine pure_ (i := 20) (N := some 27) (v := undef) (a' := ?_) (bmask 33 2097151) rfl rfl (any_of HT_.out (by kernel_rfl)) (fun _ _ _ h => h) (Or.inr ⟨by rfl, rfl⟩) ?_ ?_
     rotate_left
     ·
      simp only [Act.put, List.setIfInBounds_toArray, List.set_cons_zero, List.set_cons_succ, i64_w, i32_w]
      rfl
     refine pure_ (i := 21) (N := some 28) (v := undef) (a' := ?_) (bmask 33 4194303) rfl rfl (any_of HT_.out (by kernel_rfl)) (fun _ _ _ h => h) (Or.inr ⟨by rfl, rfl⟩) ?_ ?_
     rotate_left
     ·
      simp only [Act.put, List.setIfInBounds_toArray, List.set_cons_zero, List.set_cons_succ, i64_w, i32_w]
      rfl
     refine pure_ (i := 22) (N := some 29) (v := ?_) (a' := ?_) (bmask 33 8388607) rfl rfl (any_of HT_.out (by kernel_rfl)) (fun _ _ _ h => h) (Or.inl ⟨by rfl, ?_⟩) ?_ ?_
     rotate_left
     ·
      intro w'
      go_simp
      with_reducible rfl
     rotate_left
     ·
      simp only [Act.put, List.setIfInBounds_toArray, List.set_cons_zero, List.set_cons_succ, i64_w, i32_w]
      rfl
     refine pure_ (i := 23) (N := some 30) (v := ?_) (a' := ?_) (bmask 33 16777215) rfl rfl (any_of HT_.out (by kernel_rfl)) (fun _ _ _ h => h) (Or.inl ⟨by rfl, ?_⟩) ?_ ?_
     rotate_left
     ·
      intro w'
      go_simp
      with_reducible rfl
     rotate_left
     ·
      simp only [Act.put, List.setIfInBounds_toArray, List.set_cons_zero, List.set_cons_succ, i64_w, i32_w]
      rfl
     refine pure_ (i := 24) (N := some 31) (v := undef) (a' := ?_) (bmask 33 33554431) rfl rfl (any_of HT_.out (by kernel_rfl)) (fun _ _ _ h => h) (Or.inr ⟨by rfl, rfl⟩) ?_ ?_
     rotate_left
     ·
      simp only [Act.put, List.setIfInBounds_toArray, List.set_cons_zero, List.set_cons_succ, i64_w, i32_w]
      rfl
     refine pure_ (i := 25) (N := some 32) (v := undef) (a' := ?_) (bmask 33 67108863) rfl rfl (any_of HT_.out (by kernel_rfl)) (fun _ _ _ h => h) (Or.inr ⟨by rfl, rfl⟩) ?_ ?_
     rotate_left
     ·
      simp only [Act.put, List.setIfInBounds_toArray, List.set_cons_zero, List.set_cons_succ, i64_w, i32_w]
      rfl
     refine pure_ (i := 26) (N := some 33) (v := undef) (a' := ?_) (bmask 33 134217727) rfl rfl (any_of HT_.out (by kernel_rfl)) (fun _ _ _ h => h) (Or.inr ⟨by rfl, rfl⟩) ?_ ?_
     rotate_left
     ·
      simp only [Act.put, List.setIfInBounds_toArray, List.set_cons_zero, List.set_cons_succ, i64_w, i32_w]
      rfl
     refine pure_ (i := 27) (N := some 34) (v := undef) (a' := ?_) (bmask 33 268435455) rfl rfl (any_of HT_.out (by kernel_rfl)) (fun _ _ _ h => h) (Or.inr ⟨by rfl, rfl⟩) ?_ ?_
     rotate_left
     ·
      simp only [Act.put, List.setIfInBounds_toArray, List.set_cons_zero, List.set_cons_succ, i64_w, i32_w]
      rfl
     refine pure_ (i := 28) (N := some 35) (v := undef) (a' := ?_) (bmask 33 536870911) rfl rfl (any_of HT_.out (by kernel_rfl)) (fun _ _ _ h => h) (Or.inr ⟨by rfl, rfl⟩) ?_ ?_
     rotate_left
     ·
      simp only [Act.put, List.setIfInBounds_toArray, List.set_cons_zero, List.set_cons_succ, i64_w, i32_w]
      rfl
     refine pure_ (i := 29) (N := some 36) (v := undef) (a' := ?_) (bmask 33 1073741823) rfl rfl (any_of HT_.out (by kernel_rfl)) (fun _ _ _ h => h) (Or.inr ⟨by rfl, rfl⟩) ?_ ?_
     rotate_left
     ·
      simp only [Act.put, List.setIfInBounds_toArray, List.set_cons_zero, List.set_cons_succ, i64_w, i32_w]
      rfl
     refine pure_ (i := 30) (N := some 37) (v := undef) (a' := ?_) (bmask 33 2147483647) rfl rfl (any_of HT_.out (by kernel_rfl)) (fun _ _ _ h => h) (Or.inr ⟨by rfl, rfl⟩) ?_ ?_
     rotate_left
     ·
      simp only [Act.put, List.setIfInBounds_toArray, List.set_cons_zero, List.set_cons_succ, i64_w, i32_w]
      rfl
     refine pure_ (i := 31) (N := some 38) (v := undef) (a' := ?_) (bmask 33 4294967295) rfl rfl (any_of HT_.out (by kernel_rfl)) (fun _ _ _ h => h) (Or.inr ⟨by rfl, rfl⟩) ?_ ?_
     rotate_left
     ·
      simp only [Act.put, List.setIfInBounds_toArray, List.set_cons_zero, List.set_cons_succ, i64_w, i32_w]
      rfl
     refine pure_ (i := 32) (N := some 39) (v := ?_) (a' := ?_) (bmask 33 8589934591) rfl rfl (any_of HT_.out (by kernel_rfl)) (fun _ _ _ h => h) (Or.inl ⟨by rfl, ?_⟩) ?_ ?_
     rotate_left
     ·
      intro w'
      go_simp
      with_reducible rfl
     rotate_left
     ·
      simp only [Act.put, List.setIfInBounds_toArray, List.set_cons_zero, List.set_cons_succ, i64_w, i32_w]
      rfl
     refine done_ (done_of HT_.out (by kernel_rfl)) ?_
     try go_wp2
     go_meet
     case rel => exact ⟨_, (true), (by first | rfl | (simp; done) | (simp [*]; done)), H', ⟨by first | omega | exact Nat.le_refl _⟩, ⟨by (with_reducible repeat (first | refine blk_drewN ?_ _ | refine blk_drew ?_ | refine blk_alloc ?_ _)); exact BK1034.out⟩, ⟨by repeat (first | (with_reducible first | exact HB.out | apply below_alloc | apply pw_below_drewN | apply below_drew1 | refine below_set ?_ GE1034.out) | exact HB.out)⟩⟩
    ·
     rw [if_neg c8] at H
     have c8b0 : decide (a0_1 < 1) = false := decide_eq_false c8
     clear c8
     by_cases c10 : a0_1 > 12
     ·
      rw [if_pos c10] at H
      have c10b0 : decide (12 < a0_1) = true := decide_eq_true c10
      clear c10
      have H' := Aside0.mk H
      clear H
      try go_wp2
      have n0_ := Aside0.mk (blk_drew BK1034.out)
      have n1_ := Aside0.mk (below_drew1 HB.out)
      clear BK1034
      clear HB
      have BK1034 := n0_
      have HB := n1_
      clear n0_ n1_
      refine start_ (n := 33) (S := fun w' => w'.cell? ⟨gb1034, 0, none⟩ = some (.int .i64 a0_0) ∧ w'.cell? ⟨gb1034, 1, none⟩ = some (.int .i64 a0_1) ∧ w'.cell? ⟨gb1034, 2, none⟩ = some (.int .i64 a0_2)) (ds := []) (bmask 33 0) (by kernel_rfl) rfl (by kernel_rfl) ⟨(blk_cell BK1034.out 0).trans rfl, (blk_cell BK1034.out 1).trans rfl, (blk_cell BK1034.out 2).trans rfl⟩ (fun hHeld => ?_); refine with_tabW calendar_Number.tab1 calendar_Number.bits1 (fun HT_ HW_ => ?_)
      generalize w3.drew = w11 at BK1034 HB hHeld ⊢
      refine pure_ (i := 0) (N := some 7) (v := ?_) (a' := ?_) (bmask 33 1) rfl rfl (any_of HT_.out (by kernel_rfl)) (fun _ _ _ h => h) (Or.inl ⟨by rfl, ?_⟩) ?_ ?_
      rotate_left
      ·
       intro w'
       go_simp
       with_reducible rfl
      rotate_left
      ·
       simp only [Act.put, List.setIfInBounds_toArray, List.set_cons_zero, List.set_cons_succ, i64_w, i32_w]
       rfl
      refine take_ (i := 1) (N := some 8) (v := ?_) (a' := ?_) (bmask 33 3) rfl rfl (take_ofW HT_.out HW_.out (by kernel_rfl)) (fun _ _ _ h => h) (Or.inl ⟨by rfl, ?_⟩) hHeld ?_ ?_
      rotate_left
      ·
       rintro w' ⟨s0, s1, s2⟩
       go_simp
       with_reducible rfl
      rotate_left
      ·
       simp only [Act.put, List.setIfInBounds_toArray, List.set_cons_zero, List.set_cons_succ, i64_w, i32_w]
       rfl
      refine pure_ (i := 2) (N := some 9) (v := ?_) (a' := ?_) (bmask 33 7) rfl rfl (any_of HT_.out (by kernel_rfl)) (fun _ _ _ h => h) (Or.inl ⟨by rfl, ?_⟩) ?_ ?_
      rotate_left
      ·
       intro w'
       go_simp
       with_reducible rfl
      rotate_left
      ·
       simp only [Act.put, List.setIfInBounds_toArray, List.set_cons_zero, List.set_cons_succ, i64_w, i32_w]
       rfl
      refine pure_ (i := 3) (N := some 10) (v := ?_) (a' := ?_) (bmask 33 15) rfl rfl (any_of HT_.out (by kernel_rfl)) (fun _ _ _ h => h) (Or.inl ⟨by rfl, ?_⟩) ?_ ?_
      rotate_left
      ·
       intro w'
       go_simp
       with_reducible rfl
      rotate_left
      ·
       simp only [Act.put, List.setIfInBounds_toArray, List.set_cons_zero, List.set_cons_succ, i64_w, i32_w]
       rfl
      refine pure_ (i := 4) (N := some 11) (v := ?_) (a' := ?_) (bmask 33 31) rfl rfl (any_of HT_.out (by kernel_rfl)) (fun _ _ _ h => h) (Or.inl ⟨by rfl, ?_⟩) ?_ ?_
      rotate_left
      ·
       intro w'
       go_simp
       with_reducible rfl
      rotate_left
      ·
       simp only [Act.put, List.setIfInBounds_toArray, List.set_cons_zero, List.set_cons_succ, i64_w, i32_w]
       rfl
      refine take_ (i := 5) (N := some 12) (v := ?_) (a' := ?_) (bmask 33 63) rfl rfl (take_ofW HT_.out HW_.out (by kernel_rfl)) (fun _ _ _ h => h) (Or.inl ⟨by rfl, ?_⟩) hHeld ?_ ?_
      rotate_left
      ·
       rintro w' ⟨s0, s1, s2⟩
       go_simp
       with_reducible rfl
      rotate_left
      ·
       simp only [Act.put, List.setIfInBounds_toArray, List.set_cons_zero, List.set_cons_succ, i64_w, i32_w]
       rfl
      refine pure_ (i := 6) (N := some 13) (v := ?_) (a' := ?_) (bmask 33 127) rfl rfl (any_of HT_.out (by kernel_rfl)) (fun _ _ _ h => h) (Or.inl ⟨by rfl, ?_⟩) ?_ ?_
      rotate_left
      ·
       intro w'
       go_simp
       with_reducible rfl
      rotate_left
      ·
       simp only [Act.put, List.setIfInBounds_toArray, List.set_cons_zero, List.set_cons_succ, i64_w, i32_w]
       rfl
      refine pure_ (i := 7) (N := some 14) (v := ?_) (a' := ?_) (bmask 33 255) rfl rfl (any_of HT_.out (by kernel_rfl)) (fun _ _ _ h => h) (Or.inl ⟨by rfl, ?_⟩) ?_ ?_
      rotate_left
      ·
       intro w'
       go_simp
       with_reducible rfl
      rotate_left
      ·
       simp only [Act.put, List.setIfInBounds_toArray, List.set_cons_zero, List.set_cons_succ, i64_w, i32_w]
       rfl
      refine pure_ (i := 8) (N := some 15) (v := ?_) (a' := ?_) (bmask 33 511) rfl rfl (any_of HT_.out (by kernel_rfl)) (fun _ _ _ h => h) (Or.inl ⟨by rfl, ?_⟩) ?_ ?_
      rotate_left
      ·
       intro w'
       go_simp
       with_reducible rfl
      rotate_left
      ·
       simp only [Act.put, List.setIfInBounds_toArray, List.set_cons_zero, List.set_cons_succ, i64_w, i32_w]
       rfl
      refine pure_ (i := 9) (N := some 16) (v := ?_) (a' := ?_) (bmask 33 1023) rfl rfl (any_of HT_.out (by kernel_rfl)) (fun _ _ _ h => h) (Or.inl ⟨by rfl, ?_⟩) ?_ ?_
      rotate_left
      ·
       intro w'
       go_simp
       with_reducible rfl
      rotate_left
      ·
       simp only [Act.put, List.setIfInBounds_toArray, List.set_cons_zero, List.set_cons_succ, i64_w, i32_w]
       rfl
      refine take_ (i := 10) (N := some 17) (v := ?_) (a' := ?_) (bmask 33 2047) rfl rfl (take_ofW HT_.out HW_.out (by kernel_rfl)) (fun _ _ _ h => h) (Or.inl ⟨by rfl, ?_⟩) hHeld ?_ ?_
      rotate_left
      ·
       rintro w' ⟨s0, s1, s2⟩
       go_simp
       with_reducible rfl
      rotate_left
      ·
       simp only [Act.put, List.setIfInBounds_toArray, List.set_cons_zero, List.set_cons_succ, i64_w, i32_w]
       rfl
      refine pure_ (i := 11) (N := some 18) (v := ?_) (a' := ?_) (bmask 33 4095) rfl rfl (any_of HT_.out (by kernel_rfl)) (fun _ _ _ h => h) (Or.inl ⟨by rfl, ?_⟩) ?_ ?_
      rotate_left
      ·
       intro w'
       go_simp
       with_reducible rfl
      rotate_left
      ·
       simp only [Act.put, List.setIfInBounds_toArray, List.set_cons_zero, List.set_cons_succ, i64_w, i32_w]
       rfl
      refine pure_ (i := 12) (N := some 19) (v := ?_) (a' := ?_) (bmask 33 8191) rfl rfl (any_of HT_.out (by kernel_rfl)) (fun _ _ _ h => h) (Or.inl ⟨by rfl, ?_⟩) ?_ ?_
      rotate_left
      ·
       intro w'
       go_simp
       with_reducible rfl
      rotate_left
      ·
       simp only [Act.put, List.setIfInBounds_toArray, List.set_cons_zero, List.set_cons_succ, i64_w, i32_w]
       rfl
      refine pure_ (i := 13) (N := some 20) (v := ?_) (a' := ?_) (bmask 33 16383) rfl rfl (any_of HT_.out (by kernel_rfl)) (fun _ _ _ h => h) (Or.inl ⟨by rfl, ?_⟩) ?_ ?_
      rotate_left
      ·
       intro w'
       go_simp
       with_reducible rfl
      rotate_left
      ·
       simp only [Act.put, List.setIfInBounds_toArray, List.set_cons_zero, List.set_cons_succ, i64_w, i32_w]
       rfl
      refine pure_ (i := 14) (N := some 21) (v := ?_) (a' := ?_) (bmask 33 32767) rfl rfl (any_of HT_.out (by kernel_rfl)) (fun _ _ _ h => h) (Or.inl ⟨by rfl, ?_⟩) ?_ ?_
      rotate_left
      ·
       intro w'
       go_simp
       with_reducible rfl
      rotate_left
      ·
       simp only [Act.put, List.setIfInBounds_toArray, List.set_cons_zero, List.set_cons_succ, i64_w, i32_w]
       rfl
      refine take_ (i := 15) (N := some 22) (v := ?_) (a' := ?_) (bmask 33 65535) rfl rfl (take_ofW HT_.out HW_.out (by kernel_rfl)) (fun _ _ _ h => h) (Or.inl ⟨by rfl, ?_⟩) hHeld ?_ ?_
      rotate_left
      ·
       rintro w' ⟨s0, s1, s2⟩
       go_simp
       with_reducible rfl
      rotate_left
      ·
       simp only [Act.put, List.setIfInBounds_toArray, List.set_cons_zero, List.set_cons_succ, i64_w, i32_w]
       rfl
      refine pure_ (i := 16) (N := some 23) (v := ?_) (a' := ?_) (bmask 33 131071) rfl rfl (any_of HT_.out (by kernel_rfl)) (fun _ _ _ h => h) (Or.inl ⟨by rfl, ?_⟩) ?_ ?_
      rotate_left
      ·
       intro w'
       go_simp
       with_reducible rfl
      rotate_left
      ·
       simp only [Act.put, List.setIfInBounds_toArray, List.set_cons_zero, List.set_cons_succ, i64_w, i32_w]
       rfl
      refine pure_ (i := 17) (N := some 24) (v := ?_) (a' := ?_) (bmask 33 262143) rfl rfl (any_of HT_.out (by kernel_rfl)) (fun _ _ _ h => h) (Or.inl ⟨by rfl, ?_⟩) ?_ ?_
      rotate_left
      ·
       intro w'
       go_simp
       with_reducible rfl
      rotate_left
      ·
       simp only [Act.put, List.setIfInBounds_toArray, List.set_cons_zero, List.set_cons_succ, i64_w, i32_w]
       rfl
      refine pure_ (i := 18) (N := some 25) (v := ?_) (a' := ?_) (bmask 33 524287) rfl rfl (any_of HT_.out (by kernel_rfl)) (fun _ _ _ h => h) (Or.inl ⟨by rfl, ?_⟩) ?_ ?_
      rotate_left
      ·
       intro w'
       go_simp
       with_reducible rfl
      rotate_left
      ·
       simp only [Act.put, List.setIfInBounds_toArray, List.set_cons_zero, List.set_cons_succ, i64_w, i32_w]
       rfl
      refine pure_ (i := 19) (N := some 26) (v := undef) (a' := ?_) (bmask 33 1048575) rfl rfl (any_of HT_.out (by kernel_rfl)) (fun _ _ _ h => h) (Or.inr ⟨by rfl, rfl⟩) ?_ ?_
      rotate_left
      ·
       simp only [Act.put, List.setIfInBounds_toArray, List.set_cons_zero, List.set_cons_succ, i64_w, i32_w]
       rfl
      refine pure_ (i := 20) (N := some 27) (v := undef) (a' := ?_) (bmask 33 2097151) rfl rfl (any_of HT_.out (by kernel_rfl)) (fun _ _ _ h => h) (Or.inr ⟨by rfl, rfl⟩) ?_ ?_
      rotate_left
      ·
       simp only [Act.put, List.setIfInBounds_toArray, List.set_cons_zero, List.set_cons_succ, i64_w, i32_w]
       rfl
      refine pure_ (i := 21) (N := some 28) (v := undef) (a' := ?_) (bmask 33 4194303) rfl rfl (any_of HT_.out (by kernel_rfl)) (fun _ _ _ h => h) (Or.inr ⟨by rfl, rfl⟩) ?_ ?_
      rotate_left
      ·
       simp only [Act.put, List.setIfInBounds_toArray, List.set_cons_zero, List.set_cons_succ, i64_w, i32_w]
       rfl
      refine pure_ (i := 22) (N := some 29) (v := ?_) (a' := ?_) (bmask 33 8388607) rfl rfl (any_of HT_.out (by kernel_rfl)) (fun _ _ _ h => h) (Or.inl ⟨by rfl, ?_⟩) ?_ ?_
      rotate_left
      ·
       intro w'
       go_simp
       with_reducible rfl
      rotate_left
      ·
       simp only [Act.put, List.setIfInBounds_toArray, List.set_cons_zero, List.set_cons_succ, i64_w, i32_w]
       rfl
      refine pure_ (i := 23) (N := some 30) (v := ?_) (a' := ?_) (bmask 33 16777215) rfl rfl (any_of HT_.out (by kernel_rfl)) (fun _ _ _ h => h) (Or.inl ⟨by rfl, ?_⟩) ?_ ?_
      rotate_left
      ·
       intro w'
       go_simp
       with_reducible rfl
      rotate_left
      ·
       simp only [Act.put, List.setIfInBounds_toArray, List.set_cons_zero, List.set_cons_succ, i64_w, i32_w]
       rfl
      refine pure_ (i := 24) (N := some 31) (v := undef) (a' := ?_) (bmask 33 33554431) rfl rfl (any_of HT_.out (by kernel_rfl)) (fun _ _ _ h => h) (Or.inr ⟨by rfl, rfl⟩) ?_ ?_
      rotate_left
      ·
       simp only [Act.put, List.setIfInBounds_toArray, List.set_cons_zero, List.set_cons_succ, i64_w, i32_w]
       rfl
      refine pure_ (i := 25) (N := some 32) (v := undef) (a' := ?_) (bmask 33 67108863) rfl rfl (any_of HT_.out (by kernel_rfl)) (fun _ _ _ h => h) (Or.inr ⟨by rfl, rfl⟩) ?_ ?_
      rotate_left
      ·
       simp only [Act.put, List.setIfInBounds_toArray, List.set_cons_zero, List.set_cons_succ, i64_w, i32_w]
       rfl
      refine pure_ (i := 26) (N := some 33) (v := undef) (a' := ?_) (bmask 33 134217727) rfl rfl (any_of HT_.out (by kernel_rfl)) (fun _ _ _ h => h) (Or.inr ⟨by rfl, rfl⟩) ?_ ?_
      rotate_left
      ·
       simp only [Act.put, List.setIfInBounds_toArray, List.set_cons_zero, List.set_cons_succ, i64_w, i32_w]
       rfl
      refine pure_ (i := 27) (N := some 34) (v := undef) (a' := ?_) (bmask 33 268435455) rfl rfl (any_of HT_.out (by kernel_rfl)) (fun _ _ _ h => h) (Or.inr ⟨by rfl, rfl⟩) ?_ ?_
      rotate_left
      ·
       simp only [Act.put, List.setIfInBounds_toArray, List.set_cons_zero, List.set_cons_succ, i64_w, i32_w]
       rfl
      refine pure_ (i := 28) (N := some 35) (v := undef) (a' := ?_) (bmask 33 536870911) rfl rfl (any_of HT_.out (by kernel_rfl)) (fun _ _ _ h => h) (Or.inr ⟨by rfl, rfl⟩) ?_ ?_
      rotate_left
      ·
       simp only [Act.put, List.setIfInBounds_toArray, List.set_cons_zero, List.set_cons_succ, i64_w, i32_w]
       rfl
      refine pure_ (i := 29) (N := some 36) (v := undef) (a' := ?_) (bmask 33 1073741823) rfl rfl (any_of HT_.out (by kernel_rfl)) (fun _ _ _ h => h) (Or.inr ⟨by rfl, rfl⟩) ?_ ?_
      rotate_left
      ·
       simp only [Act.put, List.setIfInBounds_toArray, List.set_cons_zero, List.set_cons_succ, i64_w, i32_w]
       rfl
      refine pure_ (i := 30) (N := some 37) (v := undef) (a' := ?_) (bmask 33 2147483647) rfl rfl (any_of HT_.out (by kernel_rfl)) (fun _ _ _ h => h) (Or.inr ⟨by rfl, rfl⟩) ?_ ?_
      rotate_left
      ·
       simp only [Act.put, List.setIfInBounds_toArray, List.set_cons_zero, List.set_cons_succ, i64_w, i32_w]
       rfl
      refine pure_ (i := 31) (N := some 38) (v := undef) (a' := ?_) (bmask 33 4294967295) rfl rfl (any_of HT_.out (by kernel_rfl)) (fun _ _ _ h => h) (Or.inr ⟨by rfl, rfl⟩) ?_ ?_
      rotate_left
      ·
       simp only [Act.put, List.setIfInBounds_toArray, List.set_cons_zero, List.set_cons_succ, i64_w, i32_w]
       rfl
      refine pure_ (i := 32) (N := some 39) (v := ?_) (a' := ?_) (bmask 33 8589934591) rfl rfl (any_of HT_.out (by kernel_rfl)) (fun _ _ _ h => h) (Or.inl ⟨by rfl, ?_⟩) ?_ ?_
      rotate_left
      ·
       intro w'
       go_simp
       with_reducible rfl
      rotate_left
      ·
       simp only [Act.put, List.setIfInBounds_toArray, List.set_cons_zero, List.set_cons_succ, i64_w, i32_w]
       rfl
      refine done_ (done_of HT_.out (by kernel_rfl)) ?_
      try go_wp2
      go_meet
      case rel => exact ⟨_, (true), (by first | rfl | (simp; done) | (simp [*]; done)), H', ⟨by first | omega | exact Nat.le_refl _⟩, ⟨by (with_reducible repeat (first | refine blk_drewN ?_ _ | refine blk_drew ?_ | refine blk_alloc ?_ _)); exact BK1034.out⟩, ⟨by repeat (first | (with_reducible first | exact HB.out | apply below_alloc | apply pw_below_drewN | apply below_drew1 | refine below_set ?_ GE1034.out) | exact HB.out)⟩⟩
     ·
      rw [if_neg c10] at H
      have c10b0 : decide (12 < a0_1) = false := decide_eq_false c10
      clear c10
      by_cases c12 : a0_2 < 1
      ·
       rw [if_pos c12] at H
       have c12b0 : decide (a0_2 < 1) = true := decide_eq_true c12
       clear c12
       have H' := Aside0.mk H
       clear H
       try go_wp2
       have n0_ := Aside0.mk (blk_drew BK1034.out)
       have n1_ := Aside0.mk (below_drew1 HB.out)
       clear BK1034
       clear HB
       have BK1034 := n0_
       have HB := n1_
       clear n0_ n1_
       refine start_ (n := 33) (S := fun w' => w'.cell? ⟨gb1034, 0, none⟩ = some (.int .i64 a0_0) ∧ w'.cell? ⟨gb1034, 1, none⟩ = some (.int .i64 a0_1) ∧ w'.cell? ⟨gb1034, 2, none⟩ = some (.int .i64 a0_2)) (ds := []) (bmask 33 0) (by kernel_rfl) rfl (by kernel_rfl) ⟨(blk_cell BK1034.out 0).trans rfl, (blk_cell BK1034.out 1).trans rfl, (blk_cell BK1034.out 2).trans rfl⟩ (fun hHeld => ?_); refine with_tabW calendar_Number.tab1 calendar_Number.bits1 (fun HT_ HW_ => ?_)
       generalize w3.drew = w13 at BK1034 HB hHeld ⊢
       refine pure_ (i := 0) (N := some 7) (v := ?_) (a' := ?_) (bmask 33 1) rfl rfl (any_of HT_.out (by kernel_rfl)) (fun _ _ _ h => h) (Or.inl ⟨by rfl, ?_⟩) ?_ ?_
       rotate_left
       ·
        intro w'
        go_simp
        with_reducible rfl
       rotate_left
       ·
        simp only [Act.put, List.setIfInBounds_toArray, List.set_cons_zero, List.set_cons_succ, i64_w, i32_w]
        rfl
       refine take_ (i := 1) (N := some 8) (v := ?_) (a' := ?_) (bmask 33 3) rfl rfl (take_ofW HT_.out HW_.out (by kernel_rfl)) (fun _ _ _ h => h) (Or.inl ⟨by rfl, ?_⟩) hHeld ?_ ?_
       rotate_left
       ·
        rintro w' ⟨s0, s1, s2⟩
        go_simp
        with_reducible rfl
       rotate_left
       ·
        simp only [Act.put, List.setIfInBounds_toArray, List.set_cons_zero, List.set_cons_succ, i64_w, i32_w]
        rfl
       refine pure_ (i := 2) (N := some 9) (v := ?_) (a' := ?_) (bmask 33 7) rfl rfl (any_of HT_.out (by kernel_rfl)) (fun _ _ _ h => h) (Or.inl ⟨by rfl, ?_⟩) ?_ ?_
       rotate_left
       ·
        intro w'
        go_simp
        with_reducible rfl
       rotate_left
       ·
        simp only [Act.put, List.setIfInBounds_toArray, List.set_cons_zero, List.set_cons_succ, i64_w, i32_w]
        rfl
       refine pure_ (i := 3) (N := some 10) (v := ?_) (a' := ?_) (bmask 33 15) rfl rfl (any_of HT_.out (by kernel_rfl)) (fun _ _ _ h => h) (Or.inl ⟨by rfl, ?_⟩) ?_ ?_
       rotate_left
       ·
        intro w'
        go_simp
        with_reducible rfl
       rotate_left
       ·
        simp only [Act.put, List.setIfInBounds_toArray, List.set_cons_zero, List.set_cons_succ, i64_w, i32_w]
        rfl
       refine pure_ (i := 4) (N := some 11) (v := ?_) (a' := ?_) (bmask 33 31) rfl rfl (any_of HT_.out (by kernel_rfl)) (fun _ _ _ h => h) (Or.inl ⟨by rfl, ?_⟩) ?_ ?_
       rotate_left
       ·
        intro w'
        go_simp
        with_reducible rfl
       rotate_left
       ·
        simp only [Act.put, List.setIfInBounds_toArray, List.set_cons_zero, List.set_cons_succ, i64_w, i32_w]
        rfl
       refine take_ (i := 5) (N := some 12) (v := ?_) (a' := ?_) (bmask 33 63) rfl rfl (take_ofW HT_.out HW_.out (by kernel_rfl)) (fun _ _ _ h => h) (Or.inl ⟨by rfl, ?_⟩) hHeld ?_ ?_
       rotate_left
       ·
        rintro w' ⟨s0, s1, s2⟩
        go_simp
        with_reducible rfl
       rotate_left
       ·
        simp only [Act.put, List.setIfInBounds_toArray, List.set_cons_zero, List.set_cons_succ, i64_w, i32_w]
        rfl
       refine pure_ (i := 6) (N := some 13) (v := ?_) (a' := ?_) (bmask 33 127) rfl rfl (any_of HT_.out (by kernel_rfl)) (fun _ _ _ h => h) (Or.inl ⟨by rfl, ?_⟩) ?_ ?_
       rotate_left
       ·
        intro w'
        go_simp
        with_reducible rfl
       rotate_left
       ·
        simp only [Act.put, List.setIfInBounds_toArray, List.set_cons_zero, List.set_cons_succ, i64_w, i32_w]
        rfl
       refine pure_ (i := 7) (N := some 14) (v := ?_) (a' := ?_) (bmask 33 255) rfl rfl (any_of HT_.out (by kernel_rfl)) (fun _ _ _ h => h) (Or.inl ⟨by rfl, ?_⟩) ?_ ?_
       rotate_left
       ·
        intro w'
        go_simp
        with_reducible rfl
       rotate_left
       ·
        simp only [Act.put, List.setIfInBounds_toArray, List.set_cons_zero, List.set_cons_succ, i64_w, i32_w]
        rfl
       refine pure_ (i := 8) (N := some 15) (v := ?_) (a' := ?_) (bmask 33 511) rfl rfl (any_of HT_.out (by kernel_rfl)) (fun _ _ _ h => h) (Or.inl ⟨by rfl, ?_⟩) ?_ ?_
       rotate_left
       ·
        intro w'
        go_simp
        with_reducible rfl
       rotate_left
       ·
        simp only [Act.put, List.setIfInBounds_toArray, List.set_cons_zero, List.set_cons_succ, i64_w, i32_w]
        rfl
       refine pure_ (i := 9) (N := some 16) (v := ?_) (a' := ?_) (bmask 33 1023) rfl rfl (any_of HT_.out (by kernel_rfl)) (fun _ _ _ h => h) (Or.inl ⟨by rfl, ?_⟩) ?_ ?_
       rotate_left
       ·
        intro w'
        go_simp
        with_reducible rfl
       rotate_left
       ·
        simp only [Act.put, List.setIfInBounds_toArray, List.set_cons_zero, List.set_cons_succ, i64_w, i32_w]
        rfl
       refine take_ (i := 10) (N := some 17) (v := ?_) (a' := ?_) (bmask 33 2047) rfl rfl (take_ofW HT_.out HW_.out (by kernel_rfl)) (fun _ _ _ h => h) (Or.inl ⟨by rfl, ?_⟩) hHeld ?_ ?_
       rotate_left
       ·
        rintro w' ⟨s0, s1, s2⟩
        go_simp
        with_reducible rfl
       rotate_left
       ·
        simp only [Act.put, List.setIfInBounds_toArray, List.set_cons_zero, List.set_cons_succ, i64_w, i32_w]
        rfl
       refine pure_ (i := 11) (N := some 18) (v := ?_) (a' := ?_) (bmask 33 4095) rfl rfl (any_of HT_.out (by kernel_rfl)) (fun _ _ _ h => h) (Or.inl ⟨by rfl, ?_⟩) ?_ ?_
       rotate_left
       ·
        intro w'
        go_simp
        with_reducible rfl
       rotate_left
       ·
        simp only [Act.put, List.setIfInBounds_toArray, List.set_cons_zero, List.set_cons_succ, i64_w, i32_w]
        rfl
       refine pure_ (i := 12) (N := some 19) (v := ?_) (a' := ?_) (bmask 33 8191) rfl rfl (any_of HT_.out (by kernel_rfl)) (fun _ _ _ h => h) (Or.inl ⟨by rfl, ?_⟩) ?_ ?_
       rotate_left
       ·
        intro w'
        go_simp
        with_reducible rfl
       rotate_left
       ·
        simp only [Act.put, List.setIfInBounds_toArray, List.set_cons_zero, List.set_cons_succ, i64_w, i32_w]
        rfl
       refine pure_ (i := 13) (N := some 20) (v := ?_) (a' := ?_) (bmask 33 16383) rfl rfl (any_of HT_.out (by kernel_rfl)) (fun _ _ _ h => h) (Or.inl ⟨by rfl, ?_⟩) ?_ ?_
       rotate_left
       ·
        intro w'
        go_simp
        with_reducible rfl
       rotate_left
       ·
        simp only [Act.put, List.setIfInBounds_toArray, List.set_cons_zero, List.set_cons_succ, i64_w, i32_w]
        rfl
       refine pure_ (i := 14) (N := some 21) (v := ?_) (a' := ?_) (bmask 33 32767) rfl rfl (any_of HT_.out (by kernel_rfl)) (fun _ _ _ h => h) (Or.inl ⟨by rfl, ?_⟩) ?_ ?_
       rotate_left
       ·
        intro w'
        go_simp
        with_reducible rfl
       rotate_left
       ·
        simp only [Act.put, List.setIfInBounds_toArray, List.set_cons_zero, List.set_cons_succ, i64_w, i32_w]
        rfl
       refine take_ (i := 15) (N := some 22) (v := ?_) (a' := ?_) (bmask 33 65535) rfl rfl (take_ofW HT_.out HW_.out (by kernel_rfl)) (fun _ _ _ h => h) (Or.inl ⟨by rfl, ?_⟩) hHeld ?_ ?_
       rotate_left
       ·
        rintro w' ⟨s0, s1, s2⟩
        go_simp
        with_reducible rfl
       rotate_left
       ·
        simp only [Act.put, List.setIfInBounds_toArray, List.set_cons_zero, List.set_cons_succ, i64_w, i32_w]
        rfl
       refine pure_ (i := 16) (N := some 23) (v := ?_) (a' := ?_) (bmask 33 131071) rfl rfl (any_of HT_.out (by kernel_rfl)) (fun _ _ _ h => h) (Or.inl ⟨by rfl, ?_⟩) ?_ ?_
       rotate_left
       ·
        intro w'
        go_simp
        with_reducible rfl
       rotate_left
       ·
        simp only [Act.put, List.setIfInBounds_toArray, List.set_cons_zero, List.set_cons_succ, i64_w, i32_w]
        rfl
       refine pure_ (i := 17) (N := some 24) (v := ?_) (a' := ?_) (bmask 33 262143) rfl rfl (any_of HT_.out (by kernel_rfl)) (fun _ _ _ h => h) (Or.inl ⟨by rfl, ?_⟩) ?_ ?_
       rotate_left
       ·
        intro w'
        go_simp
        with_reducible rfl
       rotate_left
       ·
        simp only [Act.put, List.setIfInBounds_toArray, List.set_cons_zero, List.set_cons_succ, i64_w, i32_w]
        rfl
       refine pure_ (i := 18) (N := some 25) (v := ?_) (a' := ?_) (bmask 33 524287) rfl rfl (any_of HT_.out (by kernel_rfl)) (fun _ _ _ h => h) (Or.inl ⟨by rfl, ?_⟩) ?_ ?_
       rotate_left
       ·
        intro w'
        go_simp
        with_reducible rfl
       rotate_left
       ·
        simp only [Act.put, List.setIfInBounds_toArray, List.set_cons_zero, List.set_cons_succ, i64_w, i32_w]
        rfl
       refine pure_ (i := 19) (N := some 26) (v := ?_) (a' := ?_) (bmask 33 1048575) rfl rfl (any_of HT_.out (by kernel_rfl)) (fun _ _ _ h => h) (Or.inl ⟨by rfl, ?_⟩) ?_ ?_
       rotate_left
       ·
        intro w'
        go_simp
        with_reducible rfl
       rotate_left
       ·
        simp only [Act.put, List.setIfInBounds_toArray, List.set_cons_zero, List.set_cons_succ, i64_w, i32_w]
        rfl
       refine take_ (i := 20) (N := some 27) (v := ?_) (a' := ?_) (bmask 33 2097151) rfl rfl (take_ofW HT_.out HW_.out (by kernel_rfl)) (fun _ _ _ h => h) (Or.inl ⟨by rfl, ?_⟩) hHeld ?_ ?_
       rotate_left
       ·
        rintro w' ⟨s0, s1, s2⟩
        go_simp
        with_reducible rfl
       rotate_left
       ·
        simp only [Act.put, List.setIfInBounds_toArray, List.set_cons_zero, List.set_cons_succ, i64_w, i32_w]
        rfl
       refine pure_ (i := 21) (N := some 28) (v := ?_) (a' := ?_) (bmask 33 4194303) rfl rfl (any_of HT_.out (by kernel_rfl)) (fun _ _ _ h => h) (Or.inl ⟨by rfl, ?_⟩) ?_ ?_
       rotate_left
       ·
        intro w'
        go_simp
        with_reducible rfl
       rotate_left
       ·
        simp only [Act.put, List.setIfInBounds_toArray, List.set_cons_zero, List.set_cons_succ, i64_w, i32_w]
        rfl
       refine pure_ (i := 22) (N := some 29) (v := ?_) (a' := ?_) (bmask 33 8388607) rfl rfl (any_of HT_.out (by kernel_rfl)) (fun _ _ _ h => h) (Or.inl ⟨by rfl, ?_⟩) ?_ ?_
       rotate_left
       ·
        intro w'
        go_simp
        with_reducible rfl
       rotate_left
       ·
        simp only [Act.put, List.setIfInBounds_toArray, List.set_cons_zero, List.set_cons_succ, i64_w, i32_w]
        rfl
       refine pure_ (i := 23) (N := some 30) (v := ?_) (a' := ?_) (bmask 33 16777215) rfl rfl (any_of HT_.out (by kernel_rfl)) (fun _ _ _ h => h) (Or.inl ⟨by rfl, ?_⟩) ?_ ?_
       rotate_left
       ·
        intro w'
        go_simp
        with_reducible rfl
       rotate_left
       ·
        simp only [Act.put, List.setIfInBounds_toArray, List.set_cons_zero, List.set_cons_succ, i64_w, i32_w]
        rfl
       refine pure_ (i := 24) (N := some 31) (v := undef) (a' := ?_) (bmask 33 33554431) rfl rfl (any_of HT_.out (by kernel_rfl)) (fun _ _ _ h => h) (Or.inr ⟨by rfl, rfl⟩) ?_ ?_
       rotate_left
       ·
        simp only [Act.put, List.setIfInBounds_toArray, List.set_cons_zero, List.set_cons_succ, i64_w, i32_w]
        rfl
       refine pure_ (i := 25) (N := some 32) (v := undef) (a' := ?_) (bmask 33 67108863) rfl rfl (any_of HT_.out (by kernel_rfl)) (fun _ _ _ h => h) (Or.inr ⟨by rfl, rfl⟩) ?_ ?_
       rotate_left
       ·
        simp only [Act.put, List.setIfInBounds_toArray, List.set_cons_zero, List.set_cons_succ, i64_w, i32_w]
        rfl
       refine pure_ (i := 26) (N := some 33) (v := undef) (a' := ?_) (bmask 33 134217727) rfl rfl (any_of HT_.out (by kernel_rfl)) (fun _ _ _ h => h) (Or.inr ⟨by rfl, rfl⟩) ?_ ?_
       rotate_left
       ·
        simp only [Act.put, List.setIfInBounds_toArray, List.set_cons_zero, List.set_cons_succ, i64_w, i32_w]
        rfl
       refine pure_ (i := 27) (N := some 34) (v := undef) (a' := ?_) (bmask 33 268435455) rfl rfl (any_of HT_.out (by kernel_rfl)) (fun _ _ _ h => h) (Or.inr ⟨by rfl, rfl⟩) ?_ ?_
       rotate_left
       ·
        simp only [Act.put, List.setIfInBounds_toArray, List.set_cons_zero, List.set_cons_succ, i64_w, i32_w]
        rfl
       refine pure_ (i := 28) (N := some 35) (v := undef) (a' := ?_) (bmask 33 536870911) rfl rfl (any_of HT_.out (by kernel_rfl)) (fun _ _ _ h => h) (Or.inr ⟨by rfl, rfl⟩) ?_ ?_
       rotate_left
       ·
        simp only [Act.put, List.setIfInBounds_toArray, List.set_cons_zero, List.set_cons_succ, i64_w, i32_w]
        rfl
       refine pure_ (i := 29) (N := some 36) (v := undef) (a' := ?_) (bmask 33 1073741823) rfl rfl (any_of HT_.out (by kernel_rfl)) (fun _ _ _ h => h) (Or.inr ⟨by rfl, rfl⟩) ?_ ?_
       rotate_left
       ·
        simp only [Act.put, List.setIfInBounds_toArray, List.set_cons_zero, List.set_cons_succ, i64_w, i32_w]
        rfl
       refine pure_ (i := 30) (N := some 37) (v := undef) (a' := ?_) (bmask 33 2147483647) rfl rfl (any_of HT_.out (by kernel_rfl)) (fun _ _ _ h => h) (Or.inr ⟨by rfl, rfl⟩) ?_ ?_
       rotate_left
       ·
        simp only [Act.put, List.setIfInBounds_toArray, List.set_cons_zero, List.set_cons_succ, i64_w, i32_w]
        rfl
       refine pure_ (i := 31) (N := some 38) (v := undef) (a' := ?_) (bmask 33 4294967295) rfl rfl (any_of HT_.out (by kernel_rfl)) (fun _ _ _ h => h) (Or.inr ⟨by rfl, rfl⟩) ?_ ?_
       rotate_left
       ·
        simp only [Act.put, List.setIfInBounds_toArray, List.set_cons_zero, List.set_cons_succ, i64_w, i32_w]
        rfl
       refine pure_ (i := 32) (N := some 39) (v := ?_) (a' := ?_) (bmask 33 8589934591) rfl rfl (any_of HT_.out (by kernel_rfl)) (fun _ _ _ h => h) (Or.inl ⟨by rfl, ?_⟩) ?_ ?_
       rotate_left
       ·
        intro w'
        go_simp
        with_reducible rfl
       rotate_left
       ·
        simp only [Act.put, List.setIfInBounds_toArray, List.set_cons_zero, List.set_cons_succ, i64_w, i32_w]
        rfl
       refine done_ (done_of HT_.out (by kernel_rfl)) ?_
       try go_wp2
       go_meet
       case rel => exact ⟨_, (true), (by first | rfl | (simp; done) | (simp [*]; done)), H', ⟨by first | omega | exact Nat.le_refl _⟩, ⟨by (with_reducible repeat (first | refine blk_drewN ?_ _ | refine blk_drew ?_ | refine blk_alloc ?_ _)); exact BK1034.out⟩, ⟨by repeat (first | (with_reducible first | exact HB.out | apply below_alloc | apply pw_below_drewN | apply below_drew1 | refine below_set ?_ GE1034.out) | exact HB.out)⟩⟩
      ·
       rw [if_neg c12] at H
       have c12b0 : decide (a0_2 < 1) = false := decide_eq_false c12
       clear c12
       replace H := Option.bind_eq_some_iff.mp H
       obtain ⟨t1035, A140, H⟩ := H
       replace H : (calendar_Number.j0 k (decide (a0_2 > t1035)) a0_0 a0_1 a0_2) = some (r1, r2) := H
       have A14 := Aside0.mk A140
       clear A140
       have H' := Aside0.mk H
       clear H
       try go_wp2
       have n0_ := Aside0.mk (blk_drew BK1034.out)
       have n1_ := Aside0.mk (below_drew1 HB.out)
       clear BK1034
       clear HB
       have BK1034 := n0_
       have HB := n1_
       clear n0_ n1_
       refine start_ (n := 33) (S := fun w' => w'.cell? ⟨gb1034, 0, none⟩ = some (.int .i64 a0_0) ∧ w'.cell? ⟨gb1034, 1, none⟩ = some (.int .i64 a0_1) ∧ w'.cell? ⟨gb1034, 2, none⟩ = some (.int .i64 a0_2)) (ds := []) (bmask 33 0) (by kernel_rfl) rfl (by kernel_rfl) ⟨(blk_cell BK1034.out 0).trans rfl, (blk_cell BK1034.out 1).trans rfl, (blk_cell BK1034.out 2).trans rfl⟩ (fun hHeld => ?_); refine with_tabW calendar_Number.tab1 calendar_Number.bits1 (fun HT_ HW_ => ?_)
       generalize w3.drew = w15 at BK1034 HB hHeld ⊢
       refine pure_ (i := 0) (N := some 7) (v := ?_) (a' := ?_) (bmask 33 1) rfl rfl (any_of HT_.out (by kernel_rfl)) (fun _ _ _ h => h) (Or.inl ⟨by rfl, ?_⟩) ?_ ?_
       rotate_left
       ·
        intro w'
        go_simp
        with_reducible rfl
       rotate_left
       ·
        simp only [Act.put, List.setIfInBounds_toArray, List.set_cons_zero, List.set_cons_succ, i64_w, i32_w]
        rfl
       refine take_ (i := 1) (N := some 8) (v := ?_) (a' := ?_) (bmask 33 3) rfl rfl (take_ofW HT_.out HW_.out (by kernel_rfl)) (fun _ _ _ h => h) (Or.inl ⟨by rfl, ?_⟩) hHeld ?_ ?_
       rotate_left
       ·
        rintro w' ⟨s0, s1, s2⟩
        go_simp
        with_reducible rfl
       rotate_left
       ·
        simp only [Act.put, List.setIfInBounds_toArray, List.set_cons_zero, List.set_cons_succ, i64_w, i32_w]
        rfl
       refine pure_ (i := 2) (N := some 9) (v := ?_) (a' := ?_) (bmask 33 7) rfl rfl (any_of HT_.out (by kernel_rfl)) (fun _ _ _ h => h) (Or.inl ⟨by rfl, ?_⟩) ?_ ?_
       rotate_left
       ·
        intro w'
        go_simp
        with_reducible rfl
       rotate_left
       ·
        simp only [Act.put, List.setIfInBounds_toArray, List.set_cons_zero, List.set_cons_succ, i64_w, i32_w]
        rfl
       refine pure_ (i := 3) (N := some 10) (v := ?_) (a' := ?_) (bmask 33 15) rfl rfl (any_of HT_.out (by kernel_rfl)) (fun _ _ _ h => h) (Or.inl ⟨by rfl, ?_⟩) ?_ ?_
       rotate_left
       ·
        intro w'
        go_simp
        with_reducible rfl
       rotate_left
       ·
        simp only [Act.put, List.setIfInBounds_toArray, List.set_cons_zero, List.set_cons_succ, i64_w, i32_w]
        rfl
       refine pure_ (i := 4) (N := some 11) (v := ?_) (a' := ?_) (bmask 33 31) rfl rfl (any_of HT_.out (by kernel_rfl)) (fun _ _ _ h => h) (Or.inl ⟨by rfl, ?_⟩) ?_ ?_
       rotate_left
       ·
        intro w'
        go_simp
        with_reducible rfl
       rotate_left
       ·
        simp only [Act.put, List.setIfInBounds_toArray, List.set_cons_zero, List.set_cons_succ, i64_w, i32_w]
        rfl
       refine take_ (i := 5) (N := some 12) (v := ?_) (a' := ?_) (bmask 33 63) rfl rfl (take_ofW HT_.out HW_.out (by kernel_rfl)) (fun _ _ _ h => h) (Or.inl ⟨by rfl, ?_⟩) hHeld ?_ ?_
       rotate_left
       ·
        rintro w' ⟨s0, s1, s2⟩
        go_simp
        with_reducible rfl
       rotate_left
       ·
        simp only [Act.put, List.setIfInBounds_toArray, List.set_cons_zero, List.set_cons_succ, i64_w, i32_w]
        rfl
       refine pure_ (i := 6) (N := some 13) (v := ?_) (a' := ?_) (bmask 33 127) rfl rfl (any_of HT_.out (by kernel_rfl)) (fun _ _ _ h => h) (Or.inl ⟨by rfl, ?_⟩) ?_ ?_
       rotate_left
       ·
        intro w'
        go_simp
        with_reducible rfl
       rotate_left
       ·
        simp only [Act.put, List.setIfInBounds_toArray, List.set_cons_zero, List.set_cons_succ, i64_w, i32_w]
        rfl
       refine pure_ (i := 7) (N := some 14) (v := ?_) (a' := ?_) (bmask 33 255) rfl rfl (any_of HT_.out (by kernel_rfl)) (fun _ _ _ h => h) (Or.inl ⟨by rfl, ?_⟩) ?_ ?_
       rotate_left
       ·
        intro w'
        go_simp
        with_reducible rfl
       rotate_left
       ·
        simp only [Act.put, List.setIfInBounds_toArray, List.set_cons_zero, List.set_cons_succ, i64_w, i32_w]
        rfl
       refine pure_ (i := 8) (N := some 15) (v := ?_) (a' := ?_) (bmask 33 511) rfl rfl (any_of HT_.out (by kernel_rfl)) (fun _ _ _ h => h) (Or.inl ⟨by rfl, ?_⟩) ?_ ?_
       rotate_left
       ·
        intro w'
        go_simp
        with_reducible rfl
       rotate_left
       ·
        simp only [Act.put, List.setIfInBounds_toArray, List.set_cons_zero, List.set_cons_succ, i64_w, i32_w]
        rfl
       refine pure_ (i := 9) (N := some 16) (v := ?_) (a' := ?_) (bmask 33 1023) rfl rfl (any_of HT_.out (by kernel_rfl)) (fun _ _ _ h => h) (Or.inl ⟨by rfl, ?_⟩) ?_ ?_
       rotate_left
       ·
        intro w'
        go_simp
        with_reducible rfl
       rotate_left
       ·
        simp only [Act.put, List.setIfInBounds_toArray, List.set_cons_zero, List.set_cons_succ, i64_w, i32_w]
        rfl
       refine take_ (i := 10) (N := some 17) (v := ?_) (a' := ?_) (bmask 33 2047) rfl rfl (take_ofW HT_.out HW_.out (by kernel_rfl)) (fun _ _ _ h => h) (Or.inl ⟨by rfl, ?_⟩) hHeld ?_ ?_
       rotate_left
       ·
        rintro w' ⟨s0, s1, s2⟩
        go_simp
        with_reducible rfl
       rotate_left
       ·
        simp only [Act.put, List.setIfInBounds_toArray, List.set_cons_zero, List.set_cons_succ, i64_w, i32_w]
        rfl
       refine pure_ (i := 11) (N := some 18) (v := ?_) (a' := ?_) (bmask 33 4095) rfl rfl (any_of HT_.out (by kernel_rfl)) (fun _ _ _ h => h) (Or.inl ⟨by rfl, ?_⟩) ?_ ?_
       rotate_left
       ·
        intro w'
        go_simp
        with_reducible rfl
       rotate_left
       ·
        simp only [Act.put, List.setIfInBounds_toArray, List.set_cons_zero, List.set_cons_succ, i64_w, i32_w]
        rfl
       refine pure_ (i := 12) (N := some 19) (v := ?_) (a' := ?_) (bmask 33 8191) rfl rfl (any_of HT_.out (by kernel_rfl)) (fun _ _ _ h => h) (Or.inl ⟨by rfl, ?_⟩) ?_ ?_
       rotate_left
       ·
        intro w'
        go_simp
        with_reducible rfl
       rotate_left
       ·
        simp only [Act.put, List.setIfInBounds_toArray, List.set_cons_zero, List.set_cons_succ, i64_w, i32_w]
        rfl
       refine pure_ (i := 13) (N := some 20) (v := ?_) (a' := ?_) (bmask 33 16383) rfl rfl (any_of HT_.out (by kernel_rfl)) (fun _ _ _ h => h) (Or.inl ⟨by rfl, ?_⟩) ?_ ?_
       rotate_left
       ·
        intro w'
        go_simp
        with_reducible rfl
       rotate_left
       ·
        simp only [Act.put, List.setIfInBounds_toArray, List.set_cons_zero, List.set_cons_succ, i64_w, i32_w]
        rfl
       refine pure_ (i := 14) (N := some 21) (v := ?_) (a' := ?_) (bmask 33 32767) rfl rfl (any_of HT_.out (by kernel_rfl)) (fun _ _ _ h => h) (Or.inl ⟨by rfl, ?_⟩) ?_ ?_
       rotate_left
       ·
        intro w'
        go_simp
        with_reducible rfl
       rotate_left
       ·
        simp only [Act.put, List.setIfInBounds_toArray, List.set_cons_zero, List.set_cons_succ, i64_w, i32_w]
        rfl
       refine take_ (i := 15) (N := some 22) (v := ?_) (a' := ?_) (bmask 33 65535) rfl rfl (take_ofW HT_.out HW_.out (by kernel_rfl)) (fun _ _ _ h => h) (Or.inl ⟨by rfl, ?_⟩) hHeld ?_ ?_
       rotate_left
       ·
        rintro w' ⟨s0, s1, s2⟩
        go_simp
        with_reducible rfl
       rotate_left
       ·
        simp only [Act.put, List.setIfInBounds_toArray, List.set_cons_zero, List.set_cons_succ, i64_w, i32_w]
        rfl
       refine pure_ (i := 16) (N := some 23) (v := ?_) (a' := ?_) (bmask 33 131071) rfl rfl (any_of HT_.out (by kernel_rfl)) (fun _ _ _ h => h) (Or.inl ⟨by rfl, ?_⟩) ?_ ?_
       rotate_left
       ·
        intro w'
        go_simp
        with_reducible rfl
       rotate_left
       ·
        simp only [Act.put, List.setIfInBounds_toArray, List.set_cons_zero, List.set_cons_succ, i64_w, i32_w]
        rfl
       refine pure_ (i := 17) (N := some 24) (v := ?_) (a' := ?_) (bmask 33 262143) rfl rfl (any_of HT_.out (by kernel_rfl)) (fun _ _ _ h => h) (Or.inl ⟨by rfl, ?_⟩) ?_ ?_
       rotate_left
       ·
        intro w'
        go_simp
        with_reducible rfl
       rotate_left
       ·
        simp only [Act.put, List.setIfInBounds_toArray, List.set_cons_zero, List.set_cons_succ, i64_w, i32_w]
        rfl
       refine pure_ (i := 18) (N := some 25) (v := ?_) (a' := ?_) (bmask 33 524287) rfl rfl (any_of HT_.out (by kernel_rfl)) (fun _ _ _ h => h) (Or.inl ⟨by rfl, ?_⟩) ?_ ?_
       rotate_left
       ·
        intro w'
        go_simp
        with_reducible rfl
       rotate_left
       ·
        simp only [Act.put, List.setIfInBounds_toArray, List.set_cons_zero, List.set_cons_succ, i64_w, i32_w]
        rfl
       refine pure_ (i := 19) (N := some 26) (v := ?_) (a' := ?_) (bmask 33 1048575) rfl rfl (any_of HT_.out (by kernel_rfl)) (fun _ _ _ h => h) (Or.inl ⟨by rfl, ?_⟩) ?_ ?_
       rotate_left
       ·
        intro w'
        go_simp
        with_reducible rfl
       rotate_left
       ·
        simp only [Act.put, List.setIfInBounds_toArray, List.set_cons_zero, List.set_cons_succ, i64_w, i32_w]
        rfl
       refine take_ (i := 20) (N := some 27) (v := ?_) (a' := ?_) (bmask 33 2097151) rfl rfl (take_ofW HT_.out HW_.out (by kernel_rfl)) (fun _ _ _ h => h) (Or.inl ⟨by rfl, ?_⟩) hHeld ?_ ?_
       rotate_left
       ·
        rintro w' ⟨s0, s1, s2⟩
        go_simp
        with_reducible rfl
       rotate_left
       ·
        simp only [Act.put, List.setIfInBounds_toArray, List.set_cons_zero, List.set_cons_succ, i64_w, i32_w]
        rfl
       refine pure_ (i := 21) (N := some 28) (v := ?_) (a' := ?_) (bmask 33 4194303) rfl rfl (any_of HT_.out (by kernel_rfl)) (fun _ _ _ h => h) (Or.inl ⟨by rfl, ?_⟩) ?_ ?_
       rotate_left
       ·
        intro w'
        go_simp
        with_reducible rfl
       rotate_left
       ·
        simp only [Act.put, List.setIfInBounds_toArray, List.set_cons_zero, List.set_cons_succ, i64_w, i32_w]
        rfl
       refine pure_ (i := 22) (N := some 29) (v := ?_) (a' := ?_) (bmask 33 8388607) rfl rfl (any_of HT_.out (by kernel_rfl)) (fun _ _ _ h => h) (Or.inl ⟨by rfl, ?_⟩) ?_ ?_
       rotate_left
       ·
        intro w'
        go_simp
        with_reducible rfl
       rotate_left
       ·
        simp only [Act.put, List.setIfInBounds_toArray, List.set_cons_zero, List.set_cons_succ, i64_w, i32_w]
        rfl
       refine pure_ (i := 23) (N := some 30) (v := ?_) (a' := ?_) (bmask 33 16777215) rfl rfl (any_of HT_.out (by kernel_rfl)) (fun _ _ _ h => h) (Or.inl ⟨by rfl, ?_⟩) ?_ ?_
       rotate_left
       ·
        intro w'
        go_simp
        with_reducible rfl
       rotate_left
       ·
        simp only [Act.put, List.setIfInBounds_toArray, List.set_cons_zero, List.set_cons_succ, i64_w, i32_w]
        rfl
       refine pure_ (i := 24) (N := some 31) (v := ?_) (a' := ?_) (bmask 33 33554431) rfl rfl (any_of HT_.out (by kernel_rfl)) (fun _ _ _ h => h) (Or.inl ⟨by rfl, ?_⟩) ?_ ?_
       rotate_left
       ·
        intro w'
        go_simp
        with_reducible rfl
       rotate_left
       ·
        simp only [Act.put, List.setIfInBounds_toArray, List.set_cons_zero, List.set_cons_succ, i64_w, i32_w]
        rfl
       refine pure_ (i := 26) (N := some 33) (v := ?_) (a' := ?_) (bmask 33 100663295) rfl rfl (any_of HT_.out (by kernel_rfl)) (fun _ _ _ h => h) (Or.inl ⟨by rfl, ?_⟩) ?_ ?_
       rotate_left
       ·
        intro w'
        go_simp
        with_reducible rfl
       rotate_left
       ·
        simp only [Act.put, List.setIfInBounds_toArray, List.set_cons_zero, List.set_cons_succ, i64_w, i32_w]
        rfl
       refine pure_ (i := 28) (N := some 35) (v := ?_) (a' := ?_) (bmask 33 369098751) rfl rfl (any_of HT_.out (by kernel_rfl)) (fun _ _ _ h => h) (Or.inl ⟨by rfl, ?_⟩) ?_ ?_
       rotate_left
       ·
        intro w'
        go_simp
        with_reducible rfl
       rotate_left
       ·
        simp only [Act.put, List.setIfInBounds_toArray, List.set_cons_zero, List.set_cons_succ, i64_w, i32_w]
        rfl
       refine take_ (i := 25) (N := some 32) (v := ?_) (a' := ?_) (bmask 33 402653183) rfl rfl (take_ofW HT_.out HW_.out (by kernel_rfl)) (fun _ _ _ h => h) (Or.inl ⟨by rfl, ?_⟩) hHeld ?_ ?_
       rotate_left
       ·
        rintro w' ⟨s0, s1, s2⟩
        go_simp
        with_reducible rfl
       rotate_left
       ·
        simp only [Act.put, List.setIfInBounds_toArray, List.set_cons_zero, List.set_cons_succ, i64_w, i32_w]
        rfl
       refine take_ (i := 27) (N := some 34) (v := ?_) (a' := ?_) (bmask 33 536870911) rfl rfl (take_ofW HT_.out HW_.out (by kernel_rfl)) (fun _ _ _ h => h) (Or.inl ⟨by rfl, ?_⟩) hHeld ?_ ?_
       rotate_left
       ·
        rintro w' ⟨s0, s1, s2⟩
        go_simp
        with_reducible rfl
       rotate_left
       ·
        simp only [Act.put, List.setIfInBounds_toArray, List.set_cons_zero, List.set_cons_succ, i64_w, i32_w]
        rfl
       refine take_ (i := 29) (N := some 36) (v := ?_) (a' := ?_) (bmask 33 1073741823) rfl rfl (take_ofW HT_.out HW_.out (by kernel_rfl)) (fun _ _ _ h => h) (Or.inl ⟨by rfl, ?_⟩) hHeld ?_ ?_
       rotate_left
       ·
        rintro w' ⟨s0, s1, s2⟩
        go_simp
        with_reducible rfl
       rotate_left
       ·
        simp only [Act.put, List.setIfInBounds_toArray, List.set_cons_zero, List.set_cons_succ, i64_w, i32_w]
        rfl
       refine one_ (i := 30) (N := some 37) (bmask 33 2147483647) rfl rfl (one_of HT_.out (by kernel_rfl)) (by decide) (fun K hK => ?_)
       refine goes_ Tryd.func98 (by kernel_rfl) rfl #[.int .i64 a0_0, .int .i64 a0_1] (by rfl) rfl rfl (by (try simp only [List.map_toArray, List.map_cons, List.map_nil]); first | done | rfl | (simp only [List.length_drop, List.length_take]; rfl)) ?_
       with_reducible refine (calendar_length.calls a0_0 a0_1 t1035 _ ?side1 A14.out).mono ?_
       (case side1 => exact GL_lengths.of_below (by repeat (first | (with_reducible first | exact HB.out | apply below_alloc | apply pw_below_drewN | apply below_drew1 | refine below_set ?_ GE1034.out) | exact HB.out)) HG_lengths.out)
       rintro e w' ⟨rfl, ⟨nd, rfl⟩⟩
       refine ⟨_, rfl, ?_⟩
       refine hK.out _ _ ⟨(blk_cell BK1034.out 0).trans rfl, (blk_cell BK1034.out 1).trans rfl, (blk_cell BK1034.out 2).trans rfl⟩ (fun hHeld => ?_)
       clear hK K
       refine norm_ (a' := ?_) ?_ ?_
       rotate_left
       ·
        show Act.put _ (some 37) _ = _
        simp only [Act.put, List.setIfInBounds_toArray, List.set_cons_zero, List.set_cons_succ, i64_w, i32_w]
        rfl
       refine pure_ (i := 31) (N := some 38) (v := ?_) (a' := ?_) (bmask 33 4294967295) rfl rfl (any_of HT_.out (by kernel_rfl)) (fun _ _ _ h => h) (Or.inl ⟨by rfl, ?_⟩) ?_ ?_
       rotate_left
       ·
        intro w'
        go_simp
        with_reducible rfl
       rotate_left
       ·
        simp only [Act.put, List.setIfInBounds_toArray, List.set_cons_zero, List.set_cons_succ, i64_w, i32_w]
        rfl
       refine pure_ (i := 32) (N := some 39) (v := ?_) (a' := ?_) (bmask 33 8589934591) rfl rfl (any_of HT_.out (by kernel_rfl)) (fun _ _ _ h => h) (Or.inl ⟨by rfl, ?_⟩) ?_ ?_
       rotate_left
       ·
        intro w'
        go_simp
        with_reducible rfl
       rotate_left
       ·
        simp only [Act.put, List.setIfInBounds_toArray, List.set_cons_zero, List.set_cons_succ, i64_w, i32_w]
        rfl
       refine done_ (done_of HT_.out (by kernel_rfl)) ?_
       try go_wp2
       go_meet
       case rel => exact ⟨_, (decide (a0_2 > t1035)), (by first | rfl | (simp; done) | (simp [*]; done)), H', ⟨by first | omega | exact Nat.le_refl _⟩, ⟨by (with_reducible repeat (first | refine blk_drewN ?_ _ | refine blk_drew ?_ | refine blk_alloc ?_ _)); exact BK1034.out⟩, ⟨by repeat (first | (with_reducible first | exact HB.out | apply below_alloc | apply pw_below_drewN | apply below_drew1 | refine below_set ?_ GE1034.out) | exact HB.out)⟩⟩
 case rest =>
  clear HC2
  try clear c1
  try clear p2
  try clear c9
  try clear c10
  try clear c10b0
  try clear c12
  try clear c12b0
  obtain ⟨kq, x39_1, rfl, HA, HJ1, BK1034, HB⟩ := hcut
  cases kq with
  | zero => exact absurd HA.out (by simp [calendar_Number.j0])
  | succ kj1 =>
   have H := HA.out
   clear HA
   simp only [calendar_Number.j0] at H
   by_cases c16 : x39_1 = true
   ·
    subst c16
    have H1 : (some (0, 2)) = some (r1, r2) := by rw [if_pos rfl] at H; exact H
    clear H
    have H := H1
    clear H1
    simp only [Option.some.injEq, Prod.mk.injEq] at H
    obtain ⟨rfl, rfl⟩ := H
    go_wp2
    go_ret2
    exact ⟨by first | rfl | (simp [errW_none, errW_some] <;> rfl) | (simp [*, errW_none, errW_some] <;> rfl), by repeat (first | (with_reducible first | exact HB.out | apply below_alloc | apply pw_below_drewN | apply below_drew1 | refine below_set ?_ GE1034.out) | exact HB.out)⟩
   ·
    replace c16 := Bool.eq_false_iff.mpr c16
    subst c16
    have H1 : (calendar_Number.l0 kj1 (wrap64 (a0_2 - 1)) 2000 a0_0 a0_1 a0_2) = some (r1, r2) := by rw [if_neg (show ¬ (false = true) by decide)] at H; exact H
    clear H
    have H := H1
    clear H1
    have H' := Aside0.mk H
    clear H
    have hcz17_0 : wc.cell? ⟨gb1034, 0, none⟩ = some (.int .i64 a0_0) := (blk_cell BK1034.out 0).trans rfl
    have hcz17_1 : wc.cell? ⟨gb1034, 1, none⟩ = some (.int .i64 a0_1) := (blk_cell BK1034.out 1).trans rfl
    have hcz17_2 : wc.cell? ⟨gb1034, 2, none⟩ = some (.int .i64 a0_2) := (blk_cell BK1034.out 2).trans rfl
    have hfz17_0 := blk_frozen BK1034.out 0
    have hfz17_1 := blk_frozen BK1034.out 1
    have hfz17_2 := blk_frozen BK1034.out 2
    (try (have hpz17_1 : ∀ v0_ v1_ : Value, ((wc.setCell ⟨gb1034, 0, none⟩ v0_).setCell ⟨gb1034, 1, none⟩ v1_).cell? ⟨gb1034, 1, none⟩ = some v1_ := by (intros; go_simp)))
    (try (have hpz17_2 : ∀ v0_ v1_ v2_ : Value, (((wc.setCell ⟨gb1034, 0, none⟩ v0_).setCell ⟨gb1034, 1, none⟩ v1_).setCell ⟨gb1034, 2, none⟩ v2_).cell? ⟨gb1034, 2, none⟩ = some v2_ := by (intros; go_simp)))
    go_wp2
    go_loopg [4, 5] kj1 (fun kq v4 v5 w' => ∃ (x4_2 : Int) (x5_2 : Int), v4 = .int .i64 x4_2 ∧ v5 = .int .i64 x5_2 ∧ Aside0 (calendar_Number.l0 kq x4_2 x5_2 a0_0 a0_1 a0_2 = some (r1, r2)) ∧ Aside0 (kq ≤ kj1) ∧ Aside0 (w'.heap[gb1034]? = some (.cells #[.int .i64 a0_0, .int .i64 a0_1, .int .i64 a0_2] 122 (0, 0))) ∧ Aside0 (Below w.heap.size w w'))
    case atStart => exact ⟨(wrap64 (a0_2 - 1)), (2000), (by first | rfl | (simp; done) | (simp [*]; done)), (by first | rfl | (simp; done) | (simp [*]; done)), H', ⟨Nat.le_refl _⟩, ⟨by (with_reducible repeat (first | refine blk_drewN ?_ _ | refine blk_drew ?_ | refine blk_alloc ?_ _)); exact BK1034.out⟩, ⟨by repeat (first | (with_reducible first | exact HB.out | apply below_alloc | apply pw_below_drewN | apply below_drew1 | refine below_set ?_ GE1034.out) | exact HB.out)⟩⟩
    case round =>
     clear H'
     try clear c1
     try clear p2
     try clear p6
     try clear c9
     try clear c10
     try clear c10b0
     try clear c12
     try clear c12b0
     try clear c16
     try clear hcz17_0
     try clear hcz17_1
     try clear hcz17_2
     try clear hfz17_0
     try clear hfz17_1
     try clear hfz17_2
     try clear p2
     obtain ⟨x4_2, x5_2, rfl, rfl, HA, HK2, BK1034, HB⟩ := hrel
     cases gk with
     | zero => exact absurd HA.out (by simp [calendar_Number.l0])
     | succ k2 =>
      have H := HA.out
      clear HA
      simp only [calendar_Number.l0] at H
      by_cases c18 : x5_2 < a0_0
      ·
       rw [if_pos c18] at H
       have c18b0 : decide (x5_2 < a0_0) = true := decide_eq_true c18
       clear c18
       replace H := Option.bind_eq_some_iff.mp H
       obtain ⟨t1036, A190, H⟩ := H
       replace H : (calendar_Number.l0 k2 (wrap64 (x4_2 + t1036)) (wrap64 (x5_2 + 1)) a0_0 a0_1 a0_2) = some (r1, r2) := H
       have A19 := Aside0.mk A190
       clear A190
       have H' := Aside0.mk H
       clear H
       have hcz20_0 : wr.cell? ⟨gb1034, 0, none⟩ = some (.int .i64 a0_0) := (blk_cell BK1034.out 0).trans rfl
       have hcz20_1 : wr.cell? ⟨gb1034, 1, none⟩ = some (.int .i64 a0_1) := (blk_cell BK1034.out 1).trans rfl
       have hcz20_2 : wr.cell? ⟨gb1034, 2, none⟩ = some (.int .i64 a0_2) := (blk_cell BK1034.out 2).trans rfl
       have hfz20_0 := blk_frozen BK1034.out 0
       have hfz20_1 := blk_frozen BK1034.out 1
       have hfz20_2 := blk_frozen BK1034.out 2
       (try (have hpz20_1 : ∀ v0_ v1_ : Value, ((wr.setCell ⟨gb1034, 0, none⟩ v0_).setCell ⟨gb1034, 1, none⟩ v1_).cell? ⟨gb1034, 1, none⟩ = some v1_ := by (intros; go_simp)))
       (try (have hpz20_2 : ∀ v0_ v1_ v2_ : Value, (((wr.setCell ⟨gb1034, 0, none⟩ v0_).setCell ⟨gb1034, 1, none⟩ v1_).setCell ⟨gb1034, 2, none⟩ v2_).cell? ⟨gb1034, 2, none⟩ = some v2_ := by (intros; go_simp)))
       go_wp2_with (first | ((with_reducible refine gate_callee (f := 111) rfl ?_); refine goesL_ (some 51) rfl rfl Tryd.func111 (by kernel_rfl) rfl #[.int .i64 x5_2] rfl (by (try simp only [List.map_toArray, List.map_cons, List.map_nil]); first | done | rfl | (simp only [List.length_drop, List.length_take]; rfl)) ?_; (with_reducible refine (calendar_days.calls x5_2 t1036 _ A19.out).mono ?_); rintro e w' ⟨rfl, ⟨nd, rfl⟩⟩; refine ⟨_, rfl, ?_⟩))
       go_roundg k2
       case measure => have := HJ1.out; have := HK2.out; omega
       case rel => exact ⟨(wrap64 (x4_2 + t1036)), (wrap64 (x5_2 + 1)), (by first | rfl | (simp; done) | (simp [*]; done)), (by first | rfl | (simp; done) | (simp [*]; done)), H', ⟨by have := HJ1.out; have := HK2.out; omega⟩, ⟨by (with_reducible repeat (first | refine blk_drewN ?_ _ | refine blk_drew ?_ | refine blk_alloc ?_ _)); exact BK1034.out⟩, ⟨by repeat (first | (with_reducible first | exact HB.out | apply below_alloc | apply pw_below_drewN | apply below_drew1 | refine below_set ?_ GE1034.out) | exact HB.out)⟩⟩
      ·
       rw [if_neg c18] at H
       have c18b0 : decide (x5_2 < a0_0) = false := decide_eq_false c18
       clear c18
       have H' := Aside0.mk H
       clear H
       have hcz21_0 : wr.cell? ⟨gb1034, 0, none⟩ = some (.int .i64 a0_0) := (blk_cell BK1034.out 0).trans rfl
       have hcz21_1 : wr.cell? ⟨gb1034, 1, none⟩ = some (.int .i64 a0_1) := (blk_cell BK1034.out 1).trans rfl
       have hcz21_2 : wr.cell? ⟨gb1034, 2, none⟩ = some (.int .i64 a0_2) := (blk_cell BK1034.out 2).trans rfl
       have hfz21_0 := blk_frozen BK1034.out 0
       have hfz21_1 := blk_frozen BK1034.out 1
       have hfz21_2 := blk_frozen BK1034.out 2
       (try (have hpz21_1 : ∀ v0_ v1_ : Value, ((wr.setCell ⟨gb1034, 0, none⟩ v0_).setCell ⟨gb1034, 1, none⟩ v1_).cell? ⟨gb1034, 1, none⟩ = some v1_ := by (intros; go_simp)))
       (try (have hpz21_2 : ∀ v0_ v1_ v2_ : Value, (((wr.setCell ⟨gb1034, 0, none⟩ v0_).setCell ⟨gb1034, 1, none⟩ v1_).setCell ⟨gb1034, 2, none⟩ v2_).cell? ⟨gb1034, 2, none⟩ = some v2_ := by (intros; go_simp)))
       go_wp2
       go_loopg [4, 6] k2 (fun kq v4 v6 w' => ∃ (x4_3 : Int) (x6_3 : Int), v4 = .int .i64 x4_3 ∧ v6 = .int .i64 x6_3 ∧ Aside0 (calendar_Number.l1 kq x4_3 x6_3 a0_0 a0_1 a0_2 = some (r1, r2)) ∧ Aside0 (kq ≤ k2) ∧ Aside0 (w'.heap[gb1034]? = some (.cells #[.int .i64 a0_0, .int .i64 a0_1, .int .i64 a0_2] 122 (0, 0))) ∧ Aside0 (Below w.heap.size w w'))
       case atStart => exact ⟨(x4_2), (1), (by first | rfl | (simp; done) | (simp [*]; done)), (by first | rfl | (simp; done) | (simp [*]; done)), H', ⟨Nat.le_refl _⟩, ⟨by (with_reducible repeat (first | refine blk_drewN ?_ _ | refine blk_drew ?_ | refine blk_alloc ?_ _)); exact BK1034.out⟩, ⟨by repeat (first | (with_reducible first | exact HB.out | apply below_alloc | apply pw_below_drewN | apply below_drew1 | refine below_set ?_ GE1034.out) | exact HB.out)⟩⟩
       case round =>
        clear H'
        try clear c1
        try clear p2
        try clear p6
        try clear c9
        try clear c10
        try clear c10b0
        try clear c11
        try clear c12
        try clear c12b0
        try clear c16
        try clear c18
        try clear c18b0
        try clear hcz17_0
        try clear hcz17_1
        try clear hcz17_2
        try clear hcz20_0
        try clear hcz20_1
        try clear hcz20_2
        try clear hcz21_0
        try clear hcz21_1
        try clear hcz21_2
        try clear hfz17_0
        try clear hfz17_1
        try clear hfz17_2
        try clear hfz20_0
        try clear hfz20_1
        try clear hfz20_2
        try clear hfz21_0
        try clear hfz21_1
        try clear hfz21_2
        try clear p2
        try clear p6
        obtain ⟨x4_3, x6_3, rfl, rfl, HA, HK3, BK1034, HB⟩ := hrel
        cases gk with
        | zero => exact absurd HA.out (by simp [calendar_Number.l1])
        | succ k3 =>
         have H := HA.out
         clear HA
         simp only [calendar_Number.l1] at H
         by_cases c22 : x6_3 < a0_1
         ·
          rw [if_pos c22] at H
          have c22b0 : decide (x6_3 < a0_1) = true := decide_eq_true c22
          clear c22
          replace H := Option.bind_eq_some_iff.mp H
          obtain ⟨t1037, A230, H⟩ := H
          replace H : (calendar_Number.l1 k3 (wrap64 (x4_3 + t1037)) (wrap64 (x6_3 + 1)) a0_0 a0_1 a0_2) = some (r1, r2) := H
          have A23 := Aside0.mk A230
          clear A230
          have H' := Aside0.mk H
          clear H
          have hcz24_0 : wr.cell? ⟨gb1034, 0, none⟩ = some (.int .i64 a0_0) := (blk_cell BK1034.out 0).trans rfl
          have hcz24_1 : wr.cell? ⟨gb1034, 1, none⟩ = some (.int .i64 a0_1) := (blk_cell BK1034.out 1).trans rfl
          have hcz24_2 : wr.cell? ⟨gb1034, 2, none⟩ = some (.int .i64 a0_2) := (blk_cell BK1034.out 2).trans rfl
          have hfz24_0 := blk_frozen BK1034.out 0
          have hfz24_1 := blk_frozen BK1034.out 1
          have hfz24_2 := blk_frozen BK1034.out 2
          (try (have hpz24_1 : ∀ v0_ v1_ : Value, ((wr.setCell ⟨gb1034, 0, none⟩ v0_).setCell ⟨gb1034, 1, none⟩ v1_).cell? ⟨gb1034, 1, none⟩ = some v1_ := by (intros; go_simp)))
          (try (have hpz24_2 : ∀ v0_ v1_ v2_ : Value, (((wr.setCell ⟨gb1034, 0, none⟩ v0_).setCell ⟨gb1034, 1, none⟩ v1_).setCell ⟨gb1034, 2, none⟩ v2_).cell? ⟨gb1034, 2, none⟩ = some v2_ := by (intros; go_simp)))
          go_wp2_with (first | ((with_reducible refine gate_callee (f := 98) rfl ?_); refine goesL_ (some 63) rfl rfl Tryd.func98 (by kernel_rfl) rfl #[.int .i64 a0_0, .int .i64 x6_3] rfl (by (try simp only [List.map_toArray, List.map_cons, List.map_nil]); first | done | rfl | (simp only [List.length_drop, List.length_take]; rfl)) ?_; (with_reducible refine (calendar_length.calls a0_0 x6_3 t1037 _ ?side1 A23.out).mono ?_); (case side1 => exact GL_lengths.of_below (by repeat (first | (with_reducible first | exact HB.out | apply below_alloc | apply pw_below_drewN | apply below_drew1 | refine below_set ?_ GE1034.out) | exact HB.out)) HG_lengths.out); rintro e w' ⟨rfl, ⟨nd, rfl⟩⟩; refine ⟨_, rfl, ?_⟩))
          go_roundg k3
          case measure => have := HJ1.out; have := HK2.out; have := HK3.out; omega
          case rel => exact ⟨(wrap64 (x4_3 + t1037)), (wrap64 (x6_3 + 1)), (by first | rfl | (simp; done) | (simp [*]; done)), (by first | rfl | (simp; done) | (simp [*]; done)), H', ⟨by have := HJ1.out; have := HK2.out; have := HK3.out; omega⟩, ⟨by (with_reducible repeat (first | refine blk_drewN ?_ _ | refine blk_drew ?_ | refine blk_alloc ?_ _)); exact BK1034.out⟩, ⟨by repeat (first | (with_reducible first | exact HB.out | apply below_alloc | apply pw_below_drewN | apply below_drew1 | refine below_set ?_ GE1034.out) | exact HB.out)⟩⟩
         ·
          rw [if_neg c22] at H
          have c22b0 : decide (x6_3 < a0_1) = false := decide_eq_false c22
          clear c22
          simp only [Option.some.injEq, Prod.mk.injEq] at H
          obtain ⟨rfl, rfl⟩ := H
          have hcz25_0 : wr.cell? ⟨gb1034, 0, none⟩ = some (.int .i64 a0_0) := (blk_cell BK1034.out 0).trans rfl
          have hcz25_1 : wr.cell? ⟨gb1034, 1, none⟩ = some (.int .i64 a0_1) := (blk_cell BK1034.out 1).trans rfl
          have hcz25_2 : wr.cell? ⟨gb1034, 2, none⟩ = some (.int .i64 a0_2) := (blk_cell BK1034.out 2).trans rfl
          have hfz25_0 := blk_frozen BK1034.out 0
          have hfz25_1 := blk_frozen BK1034.out 1
          have hfz25_2 := blk_frozen BK1034.out 2
          (try (have hpz25_1 : ∀ v0_ v1_ : Value, ((wr.setCell ⟨gb1034, 0, none⟩ v0_).setCell ⟨gb1034, 1, none⟩ v1_).cell? ⟨gb1034, 1, none⟩ = some v1_ := by (intros; go_simp)))
          (try (have hpz25_2 : ∀ v0_ v1_ v2_ : Value, (((wr.setCell ⟨gb1034, 0, none⟩ v0_).setCell ⟨gb1034, 1, none⟩ v1_).setCell ⟨gb1034, 2, none⟩ v2_).cell? ⟨gb1034, 2, none⟩ = some v2_ := by (intros; go_simp)))
          go_wp2
          go_ret2
          exact ⟨by first | rfl | (simp [errW_none, errW_some] <;> rfl) | (simp [*, errW_none, errW_some] <;> rfl), by repeat (first | (with_reducible first | exact HB.out | apply below_alloc | apply pw_below_drewN | apply below_drew1 | refine below_set ?_ GE1034.out) | exact HB.out)⟩

def calendar_AddMonths.j0 : Nat → Int → Int → Bool → Option (Int × Int)
 | 0, _, _, _ => none
 | k + 1, x0, x1, x21 => if x21 = true then (some (0, 2)) else ((calendar_Of.f k x0).bind fun bt1039 => ((calendar_length.f (wrap64 (Int.tdiv (wrap64 ((wrap64 ((wrap64 ((wrap64 (12 * bt1039.1)) + bt1039.2.1)) - 1)) + x1)) 12)) (wrap64 ((Int.tmod (wrap64 ((wrap64 ((wrap64 ((wrap64 (12 * bt1039.1)) + bt1039.2.1)) - 1)) + x1)) 12) + 1))).bind fun t1044 => ((calendar_Number.f k (wrap64 (Int.tdiv (wrap64 ((wrap64 ((wrap64 ((wrap64 (12 * bt1039.1)) + bt1039.2.1)) - 1)) + x1)) 12)) (wrap64 ((Int.tmod (wrap64 ((wrap64 ((wrap64 ((wrap64 (12 * bt1039.1)) + bt1039.2.1)) - 1)) + x1)) 12) + 1)) (mn bt1039.2.2.1 t1044)).bind fun bt1045 => (if bt1045.2 = 0 then (some (bt1045.1, 0)) else (some (0, 3))))))
def calendar_AddMonths.f (k : Nat) (a0 : Int) (a1 : Int) : Option (Int × Int) := (calendar_valid.f a0).bind fun t1038 => (if t1038 = true then (if a1 < (-1200) then (calendar_AddMonths.j0 k a0 a1 true) else (calendar_AddMonths.j0 k a0 a1 (decide (a1 > 1200)))) else (calendar_AddMonths.j0 k a0 a1 true))
def calendar_AddMonths.T6 : Bool × List (List Nat × List Nat) := (true, [([], []), ([0], [0]), ([], []), ([2], [2]), ([], []), ([4], [4]), ([3, 5], [3, 5]), ([1, 6], [1, 6]), ([0, 1, 2, 3, 4, 5, 6, 7], []), ([8, 7, 6, 0, 1, 2, 3, 4, 5, 6, 7], [7, 8])])
def calendar_AddMonths.B6 : List Nat := [0, 1, 0, 4, 0, 16, 60, 127, 255, 511]
theorem calendar_AddMonths.tab6 : rtab .any (opsOf Tryd.f77 6) = calendar_AddMonths.T6 := by kernel_rfl
theorem calendar_AddMonths.bits6 : waitsOk calendar_AddMonths.T6.2 calendar_AddMonths.B6 = true := by kernel_rfl
set_option maxHeartbeats 8000000 in
set_option maxRecDepth 100000 in
theorem calendar_AddMonths.calls (k : Nat) (a0 : Int) (a1 : Int) (r1 : Int) (r2 : Int) (w : World) (hG_lengths : GL_lengths w) (h : calendar_AddMonths.f k a0 a1 = some (r1, r2)) :
  Calls Tryd.prog 77 #[.int .i64 a0, .int .i64 a1] w fun e w' => e = .returned (.tuple #[.int .i64 r1, .int .i64 r2]) ∧ Below w.heap.size w w' := by
 have hu122 := Tryd.underlying122
 have HG_lengths := Aside0.mk hG_lengths
 clear hG_lengths
 have HB := Aside0.mk (Below.refl w.heap.size w)
 have H : ((calendar_valid.f a0).bind fun t1038 => (if t1038 = true then (if a1 < (-1200) then (calendar_AddMonths.j0 k a0 a1 true) else (calendar_AddMonths.j0 k a0 a1 (decide (a1 > 1200)))) else (calendar_AddMonths.j0 k a0 a1 true))) = some (r1, r2) := h
 clear h
 have HC3 := Aside0.mk H
 clear H
 go_enter Tryd.func77, Tryd.ntmps77
 go_upto_region 1 with (fail)
 go_cut [21] (fun v21 wc => ∃ (kq : Nat) (x21_2 : Bool), v21 = .bool x21_2 ∧ Aside0 (calendar_AddMonths.j0 kq a0 a1 x21_2 = some (r1, r2)) ∧ Aside0 (kq ≤ k) ∧ Aside0 (Below w.heap.size w wc))
 case first =>
  have H := HC3.out
  clear HC3
  replace H := Option.bind_eq_some_iff.mp H
  obtain ⟨t1038, A40, H⟩ := H
  replace H : (if t1038 = true then (if a1 < (-1200) then (calendar_AddMonths.j0 k a0 a1 true) else (calendar_AddMonths.j0 k a0 a1 (decide (a1 > 1200)))) else (calendar_AddMonths.j0 k a0 a1 true)) = some (r1, r2) := H
  have A4 := Aside0.mk A40
  clear A40
  by_cases c5 : t1038 = true
  ·
   subst c5
   have H1 : (if a1 < (-1200) then (calendar_AddMonths.j0 k a0 a1 true) else (calendar_AddMonths.j0 k a0 a1 (decide (a1 > 1200)))) = some (r1, r2) := by rw [if_pos rfl] at H; exact H
   clear H
   have H := H1
   clear H1
   by_cases c6 : a1 < (-1200)
   ·
    rw [if_pos c6] at H
    have c6b0 : decide (a1 < (-1200)) = true := decide_eq_true c6
    clear c6
    (first | rw [c6b0] | (simp only [i64_w, i32_w]; rw [c6b0]) | skip)
    have H' := Aside0.mk H
    clear H
    go_wp2_with (first | ((with_reducible refine gate_callee (f := 76) rfl ?_); refine goesL_ (some 12) rfl rfl Tryd.func76 (by kernel_rfl) rfl #[.int .i64 a0] rfl (by (try simp only [List.map_toArray, List.map_cons, List.map_nil]); first | done | rfl | (simp only [List.length_drop, List.length_take]; rfl)) ?_; (with_reducible refine (calendar_valid.calls a0 true _ A4.out).mono ?_); rintro e w' ⟨rfl, ⟨nd, rfl⟩⟩; refine ⟨_, rfl, ?_⟩))
    go_meet
    case rel => exact ⟨_, (true), (by first | rfl | (simp; done) | (simp [*]; done)), H', ⟨by first | omega | exact Nat.le_refl _⟩, ⟨by repeat (first | (with_reducible first | exact HB.out | apply below_alloc | apply pw_below_drewN | apply below_drew1) | exact HB.out)⟩⟩
   ·
    rw [if_neg c6] at H
    have c6b0 : decide (a1 < (-1200)) = false := decide_eq_false c6
    clear c6
    (first | rw [c6b0] | (simp only [i64_w, i32_w]; rw [c6b0]) | skip)
    have H' := Aside0.mk H
    clear H
    go_wp2_with (first | ((with_reducible refine gate_callee (f := 76) rfl ?_); refine goesL_ (some 12) rfl rfl Tryd.func76 (by kernel_rfl) rfl #[.int .i64 a0] rfl (by (try simp only [List.map_toArray, List.map_cons, List.map_nil]); first | done | rfl | (simp only [List.length_drop, List.length_take]; rfl)) ?_; (with_reducible refine (calendar_valid.calls a0 true _ A4.out).mono ?_); rintro e w' ⟨rfl, ⟨nd, rfl⟩⟩; refine ⟨_, rfl, ?_⟩))
    go_meet
    case rel => exact ⟨_, (decide (a1 > 1200)), (by first | rfl | (simp; done) | (simp [*]; done)), H', ⟨by first | omega | exact Nat.le_refl _⟩, ⟨by repeat (first | (with_reducible first | exact HB.out | apply below_alloc | apply pw_below_drewN | apply below_drew1) | exact HB.out)⟩⟩
  ·
   replace c5 := Bool.eq_false_iff.mpr c5
   subst c5
   have H1 : (calendar_AddMonths.j0 k a0 a1 true) = some (r1, r2) := by rw [if_neg (show ¬ (false = true) by decide)] at H; exact H
   clear H
   have H := H1
   clear H1
   have H' := Aside0.mk H
   clear H
   go_wp2_with (first | ((with_reducible refine gate_callee (f := 76) rfl ?_); refine goesL_ (some 12) rfl rfl Tryd.func76 (by kernel_rfl) rfl #[.int .i64 a0] rfl (by (try simp only [List.map_toArray, List.map_cons, List.map_nil]); first | done | rfl | (simp only [List.length_drop, List.length_take]; rfl)) ?_; (with_reducible refine (calendar_valid.calls a0 false _ A4.out).mono ?_); rintro e w' ⟨rfl, ⟨nd, rfl⟩⟩; refine ⟨_, rfl, ?_⟩))
   go_meet
   case rel => exact ⟨_, (true), (by first | rfl | (simp; done) | (simp [*]; done)), H', ⟨by first | omega | exact Nat.le_refl _⟩, ⟨by repeat (first | (with_reducible first | exact HB.out | apply below_alloc | apply pw_below_drewN | apply below_drew1) | exact HB.out)⟩⟩
 case rest =>
  clear HC3
  try clear p2
  try clear c5
  try clear c6
  try clear c6b0
  obtain ⟨kq, x21_2, rfl, HA, HJ2, HB⟩ := hcut
  cases kq with
  | zero => exact absurd HA.out (by simp [calendar_AddMonths.j0])
  | succ kj2 =>
   have H := HA.out
   clear HA
   simp only [calendar_AddMonths.j0] at H
   by_cases c7 : x21_2 = true
   ·
    subst c7
    have H1 : (some (0, 2)) = some (r1, r2) := by rw [if_pos rfl] at H; exact H
    clear H
    have H := H1
    clear H1
    simp only [Option.some.injEq, Prod.mk.injEq] at H
    obtain ⟨rfl, rfl⟩ := H
    go_wp2
    go_ret2
    exact ⟨by first | rfl | (simp [errW_none, errW_some] <;> rfl) | (simp [*, errW_none, errW_some] <;> rfl), by repeat (first | (with_reducible first | exact HB.out | apply below_alloc | apply pw_below_drewN | apply below_drew1) | exact HB.out)⟩
   ·
    replace c7 := Bool.eq_false_iff.mpr c7
    subst c7
    have H1 : ((calendar_Of.f kj2 a0).bind fun bt1039 => ((calendar_length.f (wrap64 (Int.tdiv (wrap64 ((wrap64 ((wrap64 ((wrap64 (12 * bt1039.1)) + bt1039.2.1)) - 1)) + a1)) 12)) (wrap64 ((Int.tmod (wrap64 ((wrap64 ((wrap64 ((wrap64 (12 * bt1039.1)) + bt1039.2.1)) - 1)) + a1)) 12) + 1))).bind fun t1044 => ((calendar_Number.f kj2 (wrap64 (Int.tdiv (wrap64 ((wrap64 ((wrap64 ((wrap64 (12 * bt1039.1)) + bt1039.2.1)) - 1)) + a1)) 12)) (wrap64 ((Int.tmod (wrap64 ((wrap64 ((wrap64 ((wrap64 (12 * bt1039.1)) + bt1039.2.1)) - 1)) + a1)) 12) + 1)) (mn bt1039.2.2.1 t1044)).bind fun bt1045 => (if bt1045.2 = 0 then (some (bt1045.1, 0)) else (some (0, 3)))))) = some (r1, r2) := by rw [if_neg (show ¬ (false = true) by decide)] at H; exact H
    clear H
    have H := H1
    clear H1
    replace H := Option.bind_eq_some_iff.mp H
    obtain ⟨⟨t1039, t1040, t1041, t1042⟩, A80, H⟩ := H
    replace H : ((calendar_length.f (wrap64 (Int.tdiv (wrap64 ((wrap64 ((wrap64 ((wrap64 (12 * t1039)) + t1040)) - 1)) + a1)) 12)) (wrap64 ((Int.tmod (wrap64 ((wrap64 ((wrap64 ((wrap64 (12 * t1039)) + t1040)) - 1)) + a1)) 12) + 1))).bind fun t1044 => ((calendar_Number.f kj2 (wrap64 (Int.tdiv (wrap64 ((wrap64 ((wrap64 ((wrap64 (12 * t1039)) + t1040)) - 1)) + a1)) 12)) (wrap64 ((Int.tmod (wrap64 ((wrap64 ((wrap64 ((wrap64 (12 * t1039)) + t1040)) - 1)) + a1)) 12) + 1)) (mn t1041 t1044)).bind fun bt1045 => (if bt1045.2 = 0 then (some (bt1045.1, 0)) else (some (0, 3))))) = some (r1, r2) := H
    have A8 := Aside0.mk A80
    clear A80
    replace H := Option.bind_eq_some_iff.mp H
    obtain ⟨t1044, A90, H⟩ := H
    replace H : ((calendar_Number.f kj2 (wrap64 (Int.tdiv (wrap64 ((wrap64 ((wrap64 ((wrap64 (12 * t1039)) + t1040)) - 1)) + a1)) 12)) (wrap64 ((Int.tmod (wrap64 ((wrap64 ((wrap64 ((wrap64 (12 * t1039)) + t1040)) - 1)) + a1)) 12) + 1)) (mn t1041 t1044)).bind fun bt1045 => (if bt1045.2 = 0 then (some (bt1045.1, 0)) else (some (0, 3)))) = some (r1, r2) := H
    have A9 := Aside0.mk A90
    clear A90
    obtain ⟨ji10, hji10⟩ : ∃ j_ : Int, (mn t1041 t1044) = j_ := ⟨_, rfl⟩
    replace H : ((calendar_Number.f kj2 (wrap64 (Int.tdiv (wrap64 ((wrap64 ((wrap64 ((wrap64 (12 * t1039)) + t1040)) - 1)) + a1)) 12)) (wrap64 ((Int.tmod (wrap64 ((wrap64 ((wrap64 ((wrap64 (12 * t1039)) + t1040)) - 1)) + a1)) 12) + 1)) (ji10)).bind fun bt1045 => (if bt1045.2 = 0 then (some (bt1045.1, 0)) else (some (0, 3)))) = some (r1, r2) := by first | (rw [hji10] at H; exact H) | (simp only [hji10] at H ⊢; exact H)
    (try rw [hji10] at A8)
    (try rw [hji10] at A9)
    have hji10_ : (if t1044 < t1041 then t1044 else t1041) = ji10 := hji10
    replace H := Option.bind_eq_some_iff.mp H
    obtain ⟨⟨t1045, t1046⟩, A110, H⟩ := H
    replace H : (if t1046 = 0 then (some (t1045, 0)) else (some (0, 3))) = some (r1, r2) := H
    have A11 := Aside0.mk A110
    clear A110
    by_cases c12 : t1046 = 0
    ·
     rw [if_pos c12] at H
     have c12b0 : (t1046 == 0) = true := beq_iff_eq.mpr c12
     have c12b1 : (t1046 != 0) = false := bne_eq_false_iff_eq.mpr c12
     clear c12
     simp only [Option.some.injEq, Prod.mk.injEq] at H
     obtain ⟨rfl, rfl⟩ := H
     try go_wp2_with (first | ((with_reducible refine gate_callee (f := 97) rfl ?_); refine goesL_ (some 24) rfl rfl Tryd.func97 (by kernel_rfl) rfl #[.int .i64 a0] rfl (by (try simp only [List.map_toArray, List.map_cons, List.map_nil]); first | done | rfl | (simp only [List.length_drop, List.length_take]; rfl)) ?_; (with_reducible refine (calendar_Of.calls kj2 a0 t1039 t1040 t1041 t1042 _ ?side1 A8.out).mono ?_); (case side1 => exact GL_lengths.of_below HB.out HG_lengths.out); rintro e w13 ⟨rfl, hb⟩; refine ⟨_, rfl, ?_⟩; have n0_ := Aside0.mk (below_step HB.out hb); clear HB; have HB := n0_; clear n0_; (try clear hb); (try clear hb2); (try clear hk); (try clear hi)) | ((with_reducible refine gate_dst (N := 6) rfl ?_); refine box_event ?hg (N := 6) ?hd (cs := #[.int .i64 0, .int .i64 0, .int .i64 0]) (t := 122) ?hr ?_; (case hd => rfl); (case hg => rfl); (case hr => first | (go_simp; done) | (go_simp; rfl)); intro gb1043 hg w14 hbox hb; have n0_ := Aside0.mk (below_step HB.out hb); have n1_ := Aside0.mk (hbox); have n2_ := Aside0.mk ((by rw [hg]; exact (below_size HB.out) : w.heap.size ≤ gb1043)); have n3_ := Aside0.mk ((by rw [hg]; exact (below_size HB.out) : w.heap.size ≤ gb1043)); clear HB; have HB := n0_; have BK1043 := n1_; have GW1043 := n2_; have GE1043 := n3_; clear n0_ n1_ n2_ n3_; clear hb hbox hg; have hcz15_0 : w14.cell? ⟨gb1043, 0, none⟩ = some (.int .i64 0) := (blk_cell BK1043.out 0).trans rfl; have hcz15_1 : w14.cell? ⟨gb1043, 1, none⟩ = some (.int .i64 0) := (blk_cell BK1043.out 1).trans rfl; have hcz15_2 : w14.cell? ⟨gb1043, 2, none⟩ = some (.int .i64 0) := (blk_cell BK1043.out 2).trans rfl; have hfz15_0 := blk_frozen BK1043.out 0; have hfz15_1 := blk_frozen BK1043.out 1; have hfz15_2 := blk_frozen BK1043.out 2; (try (have hpz15_1 : ∀ v0_ v1_ : Value, ((w14.setCell ⟨gb1043, 0, none⟩ v0_).setCell ⟨gb1043, 1, none⟩ v1_).cell? ⟨gb1043, 1, none⟩ = some v1_ := by (intros; go_simp))); (try (have hpz15_2 : ∀ v0_ v1_ v2_ : Value, (((w14.setCell ⟨gb1043, 0, none⟩ v0_).setCell ⟨gb1043, 1, none⟩ v1_).setCell ⟨gb1043, 2, none⟩ v2_).cell? ⟨gb1043, 2, none⟩ = some v2_ := by (intros; go_simp)))))
     have n0_ : Aside0 ((((((w14.setCell ⟨gb1043, 0, none⟩ (.int .i64 t1039)).setCell ⟨gb1043, 1, none⟩ (.int .i64 t1040)).setCell ⟨gb1043, 2, none⟩ (.int .i64 t1041)).setCell ⟨gb1043, 0, none⟩ (.int .i64 (wrap64 (Int.tdiv (wrap64 ((wrap64 ((wrap64 ((wrap64 (12 * t1039)) + t1040)) - 1)) + a1)) 12)))).setCell ⟨gb1043, 1, none⟩ (.int .i64 (wrap64 ((Int.tmod (wrap64 ((wrap64 ((wrap64 ((wrap64 (12 * t1039)) + t1040)) - 1)) + a1)) 12) + 1)))).heap[gb1043]? = some (.cells #[.int .i64 (wrap64 (Int.tdiv (wrap64 ((wrap64 ((wrap64 ((wrap64 (12 * t1039)) + t1040)) - 1)) + a1)) 12)), .int .i64 (wrap64 ((Int.tmod (wrap64 ((wrap64 ((wrap64 ((wrap64 (12 * t1039)) + t1040)) - 1)) + a1)) 12) + 1)), .int .i64 t1041] 122 (0, 0))) := ⟨by (with_reducible repeat (first | refine blk_drewN ?_ _ | refine blk_drew ?_ | refine blk_alloc ?_ _)); refine blk_put (cs := #[.int .i64 (wrap64 (Int.tdiv (wrap64 ((wrap64 ((wrap64 ((wrap64 (12 * t1039)) + t1040)) - 1)) + a1)) 12)), .int .i64 t1040, .int .i64 t1041]) ?_ 1 _ rfl; (with_reducible repeat (first | refine blk_drewN ?_ _ | refine blk_drew ?_ | refine blk_alloc ?_ _)); refine blk_put (cs := #[.int .i64 t1039, .int .i64 t1040, .int .i64 t1041]) ?_ 0 _ rfl; (with_reducible repeat (first | refine blk_drewN ?_ _ | refine blk_drew ?_ | refine blk_alloc ?_ _)); refine blk_put (cs := #[.int .i64 t1039, .int .i64 t1040, .int .i64 0]) ?_ 2 _ rfl; (with_reducible repeat (first | refine blk_drewN ?_ _ | refine blk_drew ?_ | refine blk_alloc ?_ _)); refine blk_put (cs := #[.int .i64 t1039, .int .i64 0, .int .i64 0]) ?_ 1 _ rfl; (with_reducible repeat (first | refine blk_drewN ?_ _ | refine blk_drew ?_ | refine blk_alloc ?_ _)); refine blk_put (cs := #[.int .i64 0, .int .i64 0, .int .i64 0]) ?_ 0 _ rfl; (with_reducible repeat (first | refine blk_drewN ?_ _ | refine blk_drew ?_ | refine blk_alloc ?_ _)); exact BK1043.out⟩
     have n1_ : Aside0 (Below w.heap.size w (((((w14.setCell ⟨gb1043, 0, none⟩ (.int .i64 t1039)).setCell ⟨gb1043, 1, none⟩ (.int .i64 t1040)).setCell ⟨gb1043, 2, none⟩ (.int .i64 t1041)).setCell ⟨gb1043, 0, none⟩ (.int .i64 (wrap64 (Int.tdiv (wrap64 ((wrap64 ((wrap64 ((wrap64 (12 * t1039)) + t1040)) - 1)) + a1)) 12)))).setCell ⟨gb1043, 1, none⟩ (.int .i64 (wrap64 ((Int.tmod (wrap64 ((wrap64 ((wrap64 ((wrap64 (12 * t1039)) + t1040)) - 1)) + a1)) 12) + 1))))) := ⟨by repeat (first | (with_reducible first | exact HB.out | apply below_alloc | apply pw_below_drewN | apply below_drew1 | refine below_set ?_ GE1043.out) | exact HB.out)⟩
     (try clear BK1043)
     (try clear HB)
     generalize (((((w14.setCell ⟨gb1043, 0, none⟩ (.int .i64 t1039)).setCell ⟨gb1043, 1, none⟩ (.int .i64 t1040)).setCell ⟨gb1043, 2, none⟩ (.int .i64 t1041)).setCell ⟨gb1043, 0, none⟩ (.int .i64 (wrap64 (Int.tdiv (wrap64 ((wrap64 ((wrap64 ((wrap64 (12 * t1039)) + t1040)) - 1)) + a1)) 12)))).setCell ⟨gb1043, 1, none⟩ (.int .i64 (wrap64 ((Int.tmod (wrap64 ((wrap64 ((wrap64 ((wrap64 (12 * t1039)) + t1040)) - 1)) + a1)) 12) + 1)))) = w16 at n0_ n1_ ⊢
     have BK1043 := n0_
     have HB := n1_
     clear n0_ n1_
     have n0_ := Aside0.mk (blk_drew BK1043.out)
     have n1_ := Aside0.mk (below_drew1 HB.out)
     clear BK1043
     clear HB
     have BK1043 := n0_
     have HB := n1_
     clear n0_ n1_
     refine start_ (n := 10) (S := fun w' => w'.cell? ⟨gb1043, 0, none⟩ = some (.int .i64 (wrap64 (Int.tdiv (wrap64 ((wrap64 ((wrap64 ((wrap64 (12 * t1039)) + t1040)) - 1)) + a1)) 12))) ∧ w'.cell? ⟨gb1043, 1, none⟩ = some (.int .i64 (wrap64 ((Int.tmod (wrap64 ((wrap64 ((wrap64 ((wrap64 (12 * t1039)) + t1040)) - 1)) + a1)) 12) + 1))) ∧ w'.cell? ⟨gb1043, 2, none⟩ = some (.int .i64 t1041)) (ds := [9]) (bmask 10 0) (by kernel_rfl) rfl (by kernel_rfl) ⟨(blk_cell BK1043.out 0).trans rfl, (blk_cell BK1043.out 1).trans rfl, (blk_cell BK1043.out 2).trans rfl⟩ (fun hHeld => ?_); refine with_tabW calendar_AddMonths.tab6 calendar_AddMonths.bits6 (fun HT_ HW_ => ?_)
     generalize w16.drew = w17 at BK1043 HB hHeld ⊢
     refine pure_ (i := 0) (N := some 43) (v := ?_) (a' := ?_) (bmask 10 1) rfl rfl (any_of HT_.out (by kernel_rfl)) (fun _ _ _ h => h) (Or.inl ⟨by rfl, ?_⟩) ?_ ?_
     rotate_left
     ·
      intro w'
      go_simp
      with_reducible rfl
     rotate_left
     ·
      simp only [Act.put, List.setIfInBounds_toArray, List.set_cons_zero, List.set_cons_succ, i64_w, i32_w]
      rfl
     refine pure_ (i := 2) (N := some 45) (v := ?_) (a' := ?_) (bmask 10 5) rfl rfl (any_of HT_.out (by kernel_rfl)) (fun _ _ _ h => h) (Or.inl ⟨by rfl, ?_⟩) ?_ ?_
     rotate_left
     ·
      intro w'
      go_simp
      with_reducible rfl
     rotate_left
     ·
      simp only [Act.put, List.setIfInBounds_toArray, List.set_cons_zero, List.set_cons_succ, i64_w, i32_w]
      rfl
     refine pure_ (i := 4) (N := some 47) (v := ?_) (a' := ?_) (bmask 10 21) rfl rfl (any_of HT_.out (by kernel_rfl)) (fun _ _ _ h => h) (Or.inl ⟨by rfl, ?_⟩) ?_ ?_
     rotate_left
     ·
      intro w'
      go_simp
      with_reducible rfl
     rotate_left
     ·
      simp only [Act.put, List.setIfInBounds_toArray, List.set_cons_zero, List.set_cons_succ, i64_w, i32_w]
      rfl
     refine take_ (i := 1) (N := some 44) (v := ?_) (a' := ?_) (bmask 10 23) rfl rfl (take_ofW HT_.out HW_.out (by kernel_rfl)) (fun _ _ _ h => h) (Or.inl ⟨by rfl, ?_⟩) hHeld ?_ ?_
     rotate_left
     ·
      rintro w' ⟨s0, s1, s2⟩
      go_simp
      with_reducible rfl
     rotate_left
     ·
      simp only [Act.put, List.setIfInBounds_toArray, List.set_cons_zero, List.set_cons_succ, i64_w, i32_w]
      rfl
     refine take_ (i := 3) (N := some 46) (v := ?_) (a' := ?_) (bmask 10 31) rfl rfl (take_ofW HT_.out HW_.out (by kernel_rfl)) (fun _ _ _ h => h) (Or.inl ⟨by rfl, ?_⟩) hHeld ?_ ?_
     rotate_left
     ·
      rintro w' ⟨s0, s1, s2⟩
      go_simp
      with_reducible rfl
     rotate_left
     ·
      simp only [Act.put, List.setIfInBounds_toArray, List.set_cons_zero, List.set_cons_succ, i64_w, i32_w]
      rfl
     refine take_ (i := 5) (N := some 48) (v := ?_) (a' := ?_) (bmask 10 63) rfl rfl (take_ofW HT_.out HW_.out (by kernel_rfl)) (fun _ _ _ h => h) (Or.inl ⟨by rfl, ?_⟩) hHeld ?_ ?_
     rotate_left
     ·
      rintro w' ⟨s0, s1, s2⟩
      go_simp
      with_reducible rfl
     rotate_left
     ·
      simp only [Act.put, List.setIfInBounds_toArray, List.set_cons_zero, List.set_cons_succ, i64_w, i32_w]
      rfl
     refine one_ (i := 6) (N := some 49) (bmask 10 127) rfl rfl (one_of HT_.out (by kernel_rfl)) (by decide) (fun K hK => ?_)
     refine goes_ Tryd.func98 (by kernel_rfl) rfl #[.int .i64 (wrap64 (Int.tdiv (wrap64 ((wrap64 ((wrap64 ((wrap64 (12 * t1039)) + t1040)) - 1)) + a1)) 12)), .int .i64 (wrap64 ((Int.tmod (wrap64 ((wrap64 ((wrap64 ((wrap64 (12 * t1039)) + t1040)) - 1)) + a1)) 12) + 1))] (by rfl) rfl rfl (by (try simp only [List.map_toArray, List.map_cons, List.map_nil]); first | done | rfl | (simp only [List.length_drop, List.length_take]; rfl)) ?_
     with_reducible refine (calendar_length.calls (wrap64 (Int.tdiv (wrap64 ((wrap64 ((wrap64 ((wrap64 (12 * t1039)) + t1040)) - 1)) + a1)) 12)) (wrap64 ((Int.tmod (wrap64 ((wrap64 ((wrap64 ((wrap64 (12 * t1039)) + t1040)) - 1)) + a1)) 12) + 1)) t1044 _ ?side1 A9.out).mono ?_
     (case side1 => exact GL_lengths.of_below (by repeat (first | (with_reducible first | exact HB.out | apply below_alloc | apply pw_below_drewN | apply below_drew1 | refine below_set ?_ GE1043.out) | exact HB.out)) HG_lengths.out)
     rintro e w' ⟨rfl, ⟨nd, rfl⟩⟩
     refine ⟨_, rfl, ?_⟩
     refine hK.out _ _ ⟨(blk_cell BK1043.out 0).trans rfl, (blk_cell BK1043.out 1).trans rfl, (blk_cell BK1043.out 2).trans rfl⟩ (fun hHeld => ?_)
     clear hK K
     refine norm_ (a' := ?_) ?_ ?_
     rotate_left
     ·
      show Act.put _ (some 49) _ = _
      simp only [Act.put, List.setIfInBounds_toArray, List.set_cons_zero, List.set_cons_succ, i64_w, i32_w]
      rfl
     refine pure_ (i := 7) (N := some 50) (v := ?_) (a' := ?_) (bmask 10 255) rfl rfl (any_of HT_.out (by kernel_rfl)) (fun _ _ _ h => h) (Or.inl ⟨by rfl, ?_⟩) ?_ ?_
     rotate_left
     ·
      intro w'
      go_simp
      with_reducible rfl
     rotate_left
     ·
      simp only [Act.put, List.setIfInBounds_toArray, List.set_cons_zero, List.set_cons_succ, i64_w, i32_w]
      rfl
     refine pure_ (i := 8) (N := some 51) (v := ?_) (a' := ?_) (bmask 10 511) rfl rfl (any_of HT_.out (by kernel_rfl)) (fun _ _ _ h => h) (Or.inl ⟨by rfl, ?_⟩) ?_ ?_
     rotate_left
     ·
      intro w'
      go_simp
      with_reducible rfl
     rotate_left
     ·
      simp only [Act.put, List.setIfInBounds_toArray, List.set_cons_zero, List.set_cons_succ, i64_w, i32_w]
      rfl
     refine last_ (i := 9) (N := none) (bmask 10 1023) rfl rfl (one_of HT_.out (by kernel_rfl)) (by decide) (fun K hK => ?_)
     have hs18 : w17.cell? ⟨gb1043, 2, none⟩ = some (.int .i64 t1041) := (blk_cell BK1043.out 2).trans rfl
     have hfs18 := blk_frozen BK1043.out 2
     refine skip_ (w1 := ?_) (by rfl) rfl ?_ ?_
     rotate_left
     ·
      go_simp
      rfl
     refine hK.out _ _ ?_
     clear hK K
     refine done_ (done_of HT_.out (by kernel_rfl)) ?_
     have hcz19_0 : w17.cell? ⟨gb1043, 0, none⟩ = some (.int .i64 (wrap64 (Int.tdiv (wrap64 ((wrap64 ((wrap64 ((wrap64 (12 * t1039)) + t1040)) - 1)) + a1)) 12))) := (blk_cell BK1043.out 0).trans rfl
     have hcz19_1 : w17.cell? ⟨gb1043, 1, none⟩ = some (.int .i64 (wrap64 ((Int.tmod (wrap64 ((wrap64 ((wrap64 ((wrap64 (12 * t1039)) + t1040)) - 1)) + a1)) 12) + 1))) := (blk_cell BK1043.out 1).trans rfl
     have hcz19_2 : w17.cell? ⟨gb1043, 2, none⟩ = some (.int .i64 t1041) := (blk_cell BK1043.out 2).trans rfl
     have hfz19_0 := blk_frozen BK1043.out 0
     have hfz19_1 := blk_frozen BK1043.out 1
     have hfz19_2 := blk_frozen BK1043.out 2
     (try (have hpz19_1 : ∀ v0_ v1_ : Value, ((w17.setCell ⟨gb1043, 0, none⟩ v0_).setCell ⟨gb1043, 1, none⟩ v1_).cell? ⟨gb1043, 1, none⟩ = some v1_ := by (intros; go_simp)))
     (try (have hpz19_2 : ∀ v0_ v1_ v2_ : Value, (((w17.setCell ⟨gb1043, 0, none⟩ v0_).setCell ⟨gb1043, 1, none⟩ v1_).setCell ⟨gb1043, 2, none⟩ v2_).cell? ⟨gb1043, 2, none⟩ = some v2_ := by (intros; go_simp)))
     try go_wp2_with (first | ((with_reducible refine gate_callee (f := 99) rfl ?_); refine goesL_ (some 54) rfl rfl Tryd.func99 (by kernel_rfl) rfl #[.agg #[.int .i64 (wrap64 (Int.tdiv (wrap64 ((wrap64 ((wrap64 ((wrap64 (12 * t1039)) + t1040)) - 1)) + a1)) 12)), .int .i64 (wrap64 ((Int.tmod (wrap64 ((wrap64 ((wrap64 ((wrap64 (12 * t1039)) + t1040)) - 1)) + a1)) 12) + 1)), .int .i64 ji10]] rfl (by (try simp only [List.map_toArray, List.map_cons, List.map_nil]); first | done | (simp only [hji10]; rfl) | rfl | (simp only [List.length_drop, List.length_take]; rfl)) ?_; (with_reducible refine (calendar_Number.calls kj2 (wrap64 (Int.tdiv (wrap64 ((wrap64 ((wrap64 ((wrap64 (12 * t1039)) + t1040)) - 1)) + a1)) 12)) (wrap64 ((Int.tmod (wrap64 ((wrap64 ((wrap64 ((wrap64 (12 * t1039)) + t1040)) - 1)) + a1)) 12) + 1)) ji10 t1045 t1046 _ ?side1 A11.out).mono ?_); (case side1 => exact GL_lengths.of_below (by repeat (first | (with_reducible first | exact HB.out | apply below_alloc | apply pw_below_drewN | apply below_drew1 | refine below_set ?_ GE1043.out) | exact HB.out)) HG_lengths.out); rintro e w20 ⟨rfl, hb⟩; refine ⟨_, rfl, ?_⟩; have n0_ := Aside0.mk (blk_below (g := gb1043) (o := .cells #[.int .i64 (wrap64 (Int.tdiv (wrap64 ((wrap64 ((wrap64 ((wrap64 (12 * t1039)) + t1040)) - 1)) + a1)) 12)), .int .i64 (wrap64 ((Int.tmod (wrap64 ((wrap64 ((wrap64 ((wrap64 (12 * t1039)) + t1040)) - 1)) + a1)) 12) + 1)), .int .i64 ji10] 122 (0, 0)) (by (with_reducible repeat (first | refine blk_drewN ?_ _ | refine blk_drew ?_ | refine blk_alloc ?_ _)); refine blk_put (cs := #[.int .i64 (wrap64 (Int.tdiv (wrap64 ((wrap64 ((wrap64 ((wrap64 (12 * t1039)) + t1040)) - 1)) + a1)) 12)), .int .i64 (wrap64 ((Int.tmod (wrap64 ((wrap64 ((wrap64 ((wrap64 (12 * t1039)) + t1040)) - 1)) + a1)) 12) + 1)), .int .i64 t1041]) ?_ 2 _ rfl; (with_reducible repeat (first | refine blk_drewN ?_ _ | refine blk_drew ?_ | refine blk_alloc ?_ _)); exact BK1043.out) hb); have n1_ := Aside0.mk (below_step (by repeat (first | (with_reducible first | exact HB.out | apply below_alloc | apply pw_below_drewN | apply below_drew1 | refine below_set ?_ GE1043.out) | exact HB.out)) hb); clear BK1043; clear HB; have BK1043 := n0_; have HB := n1_; clear n0_ n1_; (try clear hb); (try clear hb2); (try clear hk); (try clear hi)))
     go_ret2
     exact ⟨by first | rfl | (simp [errW_none, errW_some] <;> rfl) | (simp only [← hji10]; first | rfl | (simp [errW_none, errW_some] <;> rfl)) | (simp [*, errW_none, errW_some] <;> rfl), by repeat (first | (with_reducible first | exact HB.out | apply below_alloc | apply pw_below_drewN | apply below_drew1 | refine below_set ?_ GE1043.out) | exact HB.out)⟩
    ·
     rw [if_neg c12] at H
     have c12b0 : (t1046 == 0) = false := beq_eq_false_iff_ne.mpr c12
     have c12b1 : (t1046 != 0) = true := bne_iff_ne.mpr c12
     simp only [Option.some.injEq, Prod.mk.injEq] at H
     obtain ⟨rfl, rfl⟩ := H
     try go_wp2_with (first | ((with_reducible refine gate_callee (f := 97) rfl ?_); refine goesL_ (some 24) rfl rfl Tryd.func97 (by kernel_rfl) rfl #[.int .i64 a0] rfl (by (try simp only [List.map_toArray, List.map_cons, List.map_nil]); first | done | rfl | (simp only [List.length_drop, List.length_take]; rfl)) ?_; (with_reducible refine (calendar_Of.calls kj2 a0 t1039 t1040 t1041 t1042 _ ?side1 A8.out).mono ?_); (case side1 => exact GL_lengths.of_below HB.out HG_lengths.out); rintro e w21 ⟨rfl, hb⟩; refine ⟨_, rfl, ?_⟩; have n0_ := Aside0.mk (below_step HB.out hb); clear HB; have HB := n0_; clear n0_; (try clear hb); (try clear hb2); (try clear hk); (try clear hi)) | ((with_reducible refine gate_dst (N := 6) rfl ?_); refine box_event ?hg (N := 6) ?hd (cs := #[.int .i64 0, .int .i64 0, .int .i64 0]) (t := 122) ?hr ?_; (case hd => rfl); (case hg => rfl); (case hr => first | (go_simp; done) | (go_simp; rfl)); intro gb1043 hg w22 hbox hb; have n0_ := Aside0.mk (below_step HB.out hb); have n1_ := Aside0.mk (hbox); have n2_ := Aside0.mk ((by rw [hg]; exact (below_size HB.out) : w.heap.size ≤ gb1043)); have n3_ := Aside0.mk ((by rw [hg]; exact (below_size HB.out) : w.heap.size ≤ gb1043)); clear HB; have HB := n0_; have BK1043 := n1_; have GW1043 := n2_; have GE1043 := n3_; clear n0_ n1_ n2_ n3_; clear hb hbox hg; have hcz23_0 : w22.cell? ⟨gb1043, 0, none⟩ = some (.int .i64 0) := (blk_cell BK1043.out 0).trans rfl; have hcz23_1 : w22.cell? ⟨gb1043, 1, none⟩ = some (.int .i64 0) := (blk_cell BK1043.out 1).trans rfl; have hcz23_2 : w22.cell? ⟨gb1043, 2, none⟩ = some (.int .i64 0) := (blk_cell BK1043.out 2).trans rfl; have hfz23_0 := blk_frozen BK1043.out 0; have hfz23_1 := blk_frozen BK1043.out 1; have hfz23_2 := blk_frozen BK1043.out 2; (try (have hpz23_1 : ∀ v0_ v1_ : Value, ((w22.setCell ⟨gb1043, 0, none⟩ v0_).setCell ⟨gb1043, 1, none⟩ v1_).cell? ⟨gb1043, 1, none⟩ = some v1_ := by (intros; go_simp))); (try (have hpz23_2 : ∀ v0_ v1_ v2_ : Value, (((w22.setCell ⟨gb1043, 0, none⟩ v0_).setCell ⟨gb1043, 1, none⟩ v1_).setCell ⟨gb1043, 2, none⟩ v2_).cell? ⟨gb1043, 2, none⟩ = some v2_ := by (intros; go_simp)))))
     have n0_ : Aside0 ((((((w22.setCell ⟨gb1043, 0, none⟩ (.int .i64 t1039)).setCell ⟨gb1043, 1, none⟩ (.int .i64 t1040)).setCell ⟨gb1043, 2, none⟩ (.int .i64 t1041)).setCell ⟨gb1043, 0, none⟩ (.int .i64 (wrap64 (Int.tdiv (wrap64 ((wrap64 ((wrap64 ((wrap64 (12 * t1039)) + t1040)) - 1)) + a1)) 12)))).setCell ⟨gb1043, 1, none⟩ (.int .i64 (wrap64 ((Int.tmod (wrap64 ((wrap64 ((wrap64 ((wrap64 (12 * t1039)) + t1040)) - 1)) + a1)) 12) + 1)))).heap[gb1043]? = some (.cells #[.int .i64 (wrap64 (Int.tdiv (wrap64 ((wrap64 ((wrap64 ((wrap64 (12 * t1039)) + t1040)) - 1)) + a1)) 12)), .int .i64 (wrap64 ((Int.tmod (wrap64 ((wrap64 ((wrap64 ((wrap64 (12 * t1039)) + t1040)) - 1)) + a1)) 12) + 1)), .int .i64 t1041] 122 (0, 0))) := ⟨by (with_reducible repeat (first | refine blk_drewN ?_ _ | refine blk_drew ?_ | refine blk_alloc ?_ _)); refine blk_put (cs := #[.int .i64 (wrap64 (Int.tdiv (wrap64 ((wrap64 ((wrap64 ((wrap64 (12 * t1039)) + t1040)) - 1)) + a1)) 12)), .int .i64 t1040, .int .i64 t1041]) ?_ 1 _ rfl; (with_reducible repeat (first | refine blk_drewN ?_ _ | refine blk_drew ?_ | refine blk_alloc ?_ _)); refine blk_put (cs := #[.int .i64 t1039, .int .i64 t1040, .int .i64 t1041]) ?_ 0 _ rfl; (with_reducible repeat (first | refine blk_drewN ?_ _ | refine blk_drew ?_ | refine blk_alloc ?_ _)); refine blk_put (cs := #[.int .i64 t1039, .int .i64 t1040, .int .i64 0]) ?_ 2 _ rfl; (with_reducible repeat (first | refine blk_drewN ?_ _ | refine blk_drew ?_ | refine blk_alloc ?_ _)); refine blk_put (cs := #[.int .i64 t1039, .int .i64 0, .int .i64 0]) ?_ 1 _ rfl; (with_reducible repeat (first | refine blk_drewN ?_ _ | refine blk_drew ?_ | refine blk_alloc ?_ _)); refine blk_put (cs := #[.int .i64 0, .int .i64 0, .int .i64 0]) ?_ 0 _ rfl; (with_reducible repeat (first | refine blk_drewN ?_ _ | refine blk_drew ?_ | refine blk_alloc ?_ _)); exact BK1043.out⟩
     have n1_ : Aside0 (Below w.heap.size w (((((w22.setCell ⟨gb1043, 0, none⟩ (.int .i64 t1039)).setCell ⟨gb1043, 1, none⟩ (.int .i64 t1040)).setCell ⟨gb1043, 2, none⟩ (.int .i64 t1041)).setCell ⟨gb1043, 0, none⟩ (.int .i64 (wrap64 (Int.tdiv (wrap64 ((wrap64 ((wrap64 ((wrap64 (12 * t1039)) + t1040)) - 1)) + a1)) 12)))).setCell ⟨gb1043, 1, none⟩ (.int .i64 (wrap64 ((Int.tmod (wrap64 ((wrap64 ((wrap64 ((wrap64 (12 * t1039)) + t1040)) - 1)) + a1)) 12) + 1))))) := ⟨by repeat (first | (with_reducible first | exact HB.out | apply below_alloc | apply pw_below_drewN | apply below_drew1 | refine below_set ?_ GE1043.out) | exact HB.out)⟩
     (try clear BK1043)
     (try clear HB)
     generalize (((((w22.setCell ⟨gb1043, 0, none⟩ (.int .i64 t1039)).setCell ⟨gb1043, 1, none⟩ (.int .i64 t1040)).setCell ⟨gb1043, 2, none⟩ (.int .i64 t1041)).setCell ⟨gb1043, 0, none⟩ (.int .i64 (wrap64 (Int.tdiv (wrap64 ((wrap64 ((wrap64 ((wrap64 (12 * t1039)) + t1040)) - 1)) + a1)) 12)))).setCell ⟨gb1043, 1, none⟩ (.int .i64 (wrap64 ((Int.tmod (wrap64 ((wrap64 ((wrap64 ((wrap64 (12 * t1039)) + t1040)) - 1)) + a1)) 12) + 1)))) = w24 at n0_ n1_ ⊢
     have BK1043 := n0_
     have HB := n1_
     clear n0_ n1_
     have n0_ := Aside0.mk (blk_drew BK1043.out)
     have n1_ := Aside0.mk (below_drew1 HB.out)
     clear BK1043
     clear HB
     have BK1043 := n0_
     have HB := n1_
     clear n0_ n1_
     refine start_ (n := 10) (S := fun w' => w'.cell? ⟨gb1043, 0, none⟩ = some (.int .i64 (wrap64 (Int.tdiv (wrap64 ((wrap64 ((wrap64 ((wrap64 (12 * t1039)) + t1040)) - 1)) + a1)) 12))) ∧ w'.cell? ⟨gb1043, 1, none⟩ = some (.int .i64 (wrap64 ((Int.tmod (wrap64 ((wrap64 ((wrap64 ((wrap64 (12 * t1039)) + t1040)) - 1)) + a1)) 12) + 1))) ∧ w'.cell? ⟨gb1043, 2, none⟩ = some (.int .i64 t1041)) (ds := [9]) (bmask 10 0) (by kernel_rfl) rfl (by kernel_rfl) ⟨(blk_cell BK1043.out 0).trans rfl, (blk_cell BK1043.out 1).trans rfl, (blk_cell BK1043.out 2).trans rfl⟩ (fun hHeld => ?_); refine with_tabW calendar_AddMonths.tab6 calendar_AddMonths.bits6 (fun HT_ HW_ => ?_)
     generalize w24.drew = w25 at BK1043 HB hHeld ⊢
     refine pure_ (i := 0) (N := some 43) (v := ?_) (a' := ?_) (bmask 10 1) rfl rfl (any_of HT_.out (by kernel_rfl)) (fun _ _ _ h => h) (Or.inl ⟨by rfl, ?_⟩) ?_ ?_
     rotate_left
     ·
      intro w'
      go_simp
      with_reducible rfl
     rotate_left
     ·
      simp only [Act.put, List.setIfInBounds_toArray, List.set_cons_zero, List.set_cons_succ, i64_w, i32_w]
      rfl
     refine pure_ (i := 2) (N := some 45) (v := ?_) (a' := ?_) (bmask 10 5) rfl rfl (any_of HT_.out (by kernel_rfl)) (fun _ _ _ h => h) (Or.inl ⟨by rfl, ?_⟩) ?_ ?_
     rotate_left
     ·
      intro w'
      go_simp
      with_reducible rfl
     rotate_left
     ·
      simp only [Act.put, List.setIfInBounds_toArray, List.set_cons_zero, List.set_cons_succ, i64_w, i32_w]
      rfl
     refine pure_ (i := 4) (N := some 47) (v := ?_) (a' := ?_) (bmask 10 21) rfl rfl (any_of HT_.out (by kernel_rfl)) (fun _ _ _ h => h) (Or.inl ⟨by rfl, ?_⟩) ?_ ?_
     rotate_left
     ·
      intro w'
      go_simp
      with_reducible rfl
     rotate_left
     ·
      simp only [Act.put, List.setIfInBounds_toArray, List.set_cons_zero, List.set_cons_succ, i64_w, i32_w]
      rfl
     refine take_ (i := 1) (N := some 44) (v := ?_) (a' := ?_) (bmask 10 23) rfl rfl (take_ofW HT_.out HW_.out (by kernel_rfl)) (fun _ _ _ h => h) (Or.inl ⟨by rfl, ?_⟩) hHeld ?_ ?_
     rotate_left
     ·
      rintro w' ⟨s0, s1, s2⟩
      go_simp
      with_reducible rfl
     rotate_left
     ·
      simp only [Act.put, List.setIfInBounds_toArray, List.set_cons_zero, List.set_cons_succ, i64_w, i32_w]
      rfl
     refine take_ (i := 3) (N := some 46) (v := ?_) (a' := ?_) (bmask 10 31) rfl rfl (take_ofW HT_.out HW_.out (by kernel_rfl)) (fun _ _ _ h => h) (Or.inl ⟨by rfl, ?_⟩) hHeld ?_ ?_
     rotate_left
     ·
      rintro w' ⟨s0, s1, s2⟩
      go_simp
      with_reducible rfl
     rotate_left
     ·
      simp only [Act.put, List.setIfInBounds_toArray, List.set_cons_zero, List.set_cons_succ, i64_w, i32_w]
      rfl
     refine take_ (i := 5) (N := some 48) (v := ?_) (a' := ?_) (bmask 10 63) rfl rfl (take_ofW HT_.out HW_.out (by kernel_rfl)) (fun _ _ _ h => h) (Or.inl ⟨by rfl, ?_⟩) hHeld ?_ ?_
     rotate_left
     ·
      rintro w' ⟨s0, s1, s2⟩
      go_simp
      with_reducible rfl
     rotate_left
     ·
      simp only [Act.put, List.setIfInBounds_toArray, List.set_cons_zero, List.set_cons_succ, i64_w, i32_w]
      rfl
     refine one_ (i := 6) (N := some 49) (bmask 10 127) rfl rfl (one_of HT_.out (by kernel_rfl)) (by decide) (fun K hK => ?_)
     refine goes_ Tryd.func98 (by kernel_rfl) rfl #[.int .i64 (wrap64 (Int.tdiv (wrap64 ((wrap64 ((wrap64 ((wrap64 (12 * t1039)) + t1040)) - 1)) + a1)) 12)), .int .i64 (wrap64 ((Int.tmod (wrap64 ((wrap64 ((wrap64 ((wrap64 (12 * t1039)) + t1040)) - 1)) + a1)) 12) + 1))] (by rfl) rfl rfl (by (try simp only [List.map_toArray, List.map_cons, List.map_nil]); first | done | rfl | (simp only [List.length_drop, List.length_take]; rfl)) ?_
     with_reducible refine (calendar_length.calls (wrap64 (Int.tdiv (wrap64 ((wrap64 ((wrap64 ((wrap64 (12 * t1039)) + t1040)) - 1)) + a1)) 12)) (wrap64 ((Int.tmod (wrap64 ((wrap64 ((wrap64 ((wrap64 (12 * t1039)) + t1040)) - 1)) + a1)) 12) + 1)) t1044 _ ?side1 A9.out).mono ?_
     (case side1 => exact GL_lengths.of_below (by repeat (first | (with_reducible first | exact HB.out | apply below_alloc | apply pw_below_drewN | apply below_drew1 | refine below_set ?_ GE1043.out) | exact HB.out)) HG_lengths.out)
     rintro e w' ⟨rfl, ⟨nd, rfl⟩⟩
     refine ⟨_, rfl, ?_⟩
     refine hK.out _ _ ⟨(blk_cell BK1043.out 0).trans rfl, (blk_cell BK1043.out 1).trans rfl, (blk_cell BK1043.out 2).trans rfl⟩ (fun hHeld => ?_)
     clear hK K
     refine norm_ (a' := ?_) ?_ ?_
     rotate_left
     ·
      show Act.put _ (some 49) _ = _
      simp only [Act.put, List.setIfInBounds_toArray, List.set_cons_zero, List.set_cons_succ, i64_w, i32_w]
      rfl
     refine pure_ (i := 7) (N := some 50) (v := ?_) (a' := ?_) (bmask 10 255) rfl rfl (any_of HT_.out (by kernel_rfl)) (fun _ _ _ h => h) (Or.inl ⟨by rfl, ?_⟩) ?_ ?_
     rotate_left
     ·
      intro w'
      go_simp
      with_reducible rfl
     rotate_left
     ·
      simp only [Act.put, List.setIfInBounds_toArray, List.set_cons_zero, List.set_cons_succ, i64_w, i32_w]
      rfl
     refine pure_ (i := 8) (N := some 51) (v := ?_) (a' := ?_) (bmask 10 511) rfl rfl (any_of HT_.out (by kernel_rfl)) (fun _ _ _ h => h) (Or.inl ⟨by rfl, ?_⟩) ?_ ?_
     rotate_left
     ·
      intro w'
      go_simp
      with_reducible rfl
     rotate_left
     ·
      simp only [Act.put, List.setIfInBounds_toArray, List.set_cons_zero, List.set_cons_succ, i64_w, i32_w]
      rfl
     refine last_ (i := 9) (N := none) (bmask 10 1023) rfl rfl (one_of HT_.out (by kernel_rfl)) (by decide) (fun K hK => ?_)
     have hs26 : w25.cell? ⟨gb1043, 2, none⟩ = some (.int .i64 t1041) := (blk_cell BK1043.out 2).trans rfl
     have hfs26 := blk_frozen BK1043.out 2
     refine skip_ (w1 := ?_) (by rfl) rfl ?_ ?_
     rotate_left
     ·
      go_simp
      rfl
     refine hK.out _ _ ?_
     clear hK K
     refine done_ (done_of HT_.out (by kernel_rfl)) ?_
     have hcz27_0 : w25.cell? ⟨gb1043, 0, none⟩ = some (.int .i64 (wrap64 (Int.tdiv (wrap64 ((wrap64 ((wrap64 ((wrap64 (12 * t1039)) + t1040)) - 1)) + a1)) 12))) := (blk_cell BK1043.out 0).trans rfl
     have hcz27_1 : w25.cell? ⟨gb1043, 1, none⟩ = some (.int .i64 (wrap64 ((Int.tmod (wrap64 ((wrap64 ((wrap64 ((wrap64 (12 * t1039)) + t1040)) - 1)) + a1)) 12) + 1))) := (blk_cell BK1043.out 1).trans rfl
     have hcz27_2 : w25.cell? ⟨gb1043, 2, none⟩ = some (.int .i64 t1041) := (blk_cell BK1043.out 2).trans rfl
     have hfz27_0 := blk_frozen BK1043.out 0
     have hfz27_1 := blk_frozen BK1043.out 1
     have hfz27_2 := blk_frozen BK1043.out 2
     (try (have hpz27_1 : ∀ v0_ v1_ : Value, ((w25.setCell ⟨gb1043, 0, none⟩ v0_).setCell ⟨gb1043, 1, none⟩ v1_).cell? ⟨gb1043, 1, none⟩ = some v1_ := by (intros; go_simp)))
     (try (have hpz27_2 : ∀ v0_ v1_ v2_ : Value, (((w25.setCell ⟨gb1043, 0, none⟩ v0_).setCell ⟨gb1043, 1, none⟩ v1_).setCell ⟨gb1043, 2, none⟩ v2_).cell? ⟨gb1043, 2, none⟩ = some v2_ := by (intros; go_simp)))
     try go_wp2_with (first | ((with_reducible refine gate_callee (f := 99) rfl ?_); refine goesL_ (some 54) rfl rfl Tryd.func99 (by kernel_rfl) rfl #[.agg #[.int .i64 (wrap64 (Int.tdiv (wrap64 ((wrap64 ((wrap64 ((wrap64 (12 * t1039)) + t1040)) - 1)) + a1)) 12)), .int .i64 (wrap64 ((Int.tmod (wrap64 ((wrap64 ((wrap64 ((wrap64 (12 * t1039)) + t1040)) - 1)) + a1)) 12) + 1)), .int .i64 ji10]] rfl (by (try simp only [List.map_toArray, List.map_cons, List.map_nil]); first | done | (simp only [hji10]; rfl) | rfl | (simp only [List.length_drop, List.length_take]; rfl)) ?_; (with_reducible refine (calendar_Number.calls kj2 (wrap64 (Int.tdiv (wrap64 ((wrap64 ((wrap64 ((wrap64 (12 * t1039)) + t1040)) - 1)) + a1)) 12)) (wrap64 ((Int.tmod (wrap64 ((wrap64 ((wrap64 ((wrap64 (12 * t1039)) + t1040)) - 1)) + a1)) 12) + 1)) ji10 t1045 t1046 _ ?side1 A11.out).mono ?_); (case side1 => exact GL_lengths.of_below (by repeat (first | (with_reducible first | exact HB.out | apply below_alloc | apply pw_below_drewN | apply below_drew1 | refine below_set ?_ GE1043.out) | exact HB.out)) HG_lengths.out); rintro e w28 ⟨rfl, hb⟩; refine ⟨_, rfl, ?_⟩; have n0_ := Aside0.mk (blk_below (g := gb1043) (o := .cells #[.int .i64 (wrap64 (Int.tdiv (wrap64 ((wrap64 ((wrap64 ((wrap64 (12 * t1039)) + t1040)) - 1)) + a1)) 12)), .int .i64 (wrap64 ((Int.tmod (wrap64 ((wrap64 ((wrap64 ((wrap64 (12 * t1039)) + t1040)) - 1)) + a1)) 12) + 1)), .int .i64 ji10] 122 (0, 0)) (by (with_reducible repeat (first | refine blk_drewN ?_ _ | refine blk_drew ?_ | refine blk_alloc ?_ _)); refine blk_put (cs := #[.int .i64 (wrap64 (Int.tdiv (wrap64 ((wrap64 ((wrap64 ((wrap64 (12 * t1039)) + t1040)) - 1)) + a1)) 12)), .int .i64 (wrap64 ((Int.tmod (wrap64 ((wrap64 ((wrap64 ((wrap64 (12 * t1039)) + t1040)) - 1)) + a1)) 12) + 1)), .int .i64 t1041]) ?_ 2 _ rfl; (with_reducible repeat (first | refine blk_drewN ?_ _ | refine blk_drew ?_ | refine blk_alloc ?_ _)); exact BK1043.out) hb); have n1_ := Aside0.mk (below_step (by repeat (first | (with_reducible first | exact HB.out | apply below_alloc | apply pw_below_drewN | apply below_drew1 | refine below_set ?_ GE1043.out) | exact HB.out)) hb); clear BK1043; clear HB; have BK1043 := n0_; have HB := n1_; clear n0_ n1_; (try clear hb); (try clear hb2); (try clear hk); (try clear hi)))
     go_ret2
     exact ⟨by first | rfl | (simp [errW_none, errW_some] <;> rfl) | (simp only [← hji10]; first | rfl | (simp [errW_none, errW_some] <;> rfl)) | (simp [*, errW_none, errW_some] <;> rfl), by repeat (first | (with_reducible first | exact HB.out | apply below_alloc | apply pw_below_drewN | apply below_drew1 | refine below_set ?_ GE1043.out) | exact HB.out)⟩

def calendar_Weekday.f (a0 : Int) : Option (Int) := (calendar_valid.f a0).bind fun t1047 => (if t1047 = true then (some (Int.tmod (wrap64 (a0 + 5)) 7)) else (some (-1)))
set_option maxHeartbeats 8000000 in
set_option maxRecDepth 100000 in
theorem calendar_Weekday.calls (a0 : Int) (r : Int) (w : World) (h : calendar_Weekday.f a0 = some r) :
  Calls Tryd.prog 113 #[.int .i64 a0] w fun e w' => e = .returned (.int .i64 r) ∧ Drawn0 w w' := by
 have H : ((calendar_valid.f a0).bind fun t1047 => (if t1047 = true then (some (Int.tmod (wrap64 (a0 + 5)) 7)) else (some (-1)))) = some r := h
 clear h
 replace H := Option.bind_eq_some_iff.mp H
 obtain ⟨t1047, A20, H⟩ := H
 replace H : (if t1047 = true then (some (Int.tmod (wrap64 (a0 + 5)) 7)) else (some (-1))) = some r := H
 have A2 := Aside0.mk A20
 clear A20
 by_cases c3 : t1047 = true
 ·
  subst c3
  have H1 : (some (Int.tmod (wrap64 (a0 + 5)) 7)) = some r := by rw [if_pos rfl] at H; exact H
  clear H
  have H := H1
  clear H1
  obtain rfl := Option.some.inj H
  go_enter Tryd.func113, Tryd.ntmps113
  go_wp2_with (first | ((with_reducible refine gate_callee (f := 76) rfl ?_); refine goesL_ (some 4) rfl rfl Tryd.func76 (by kernel_rfl) rfl #[.int .i64 a0] rfl (by (try simp only [List.map_toArray, List.map_cons, List.map_nil]); first | done | rfl | (simp only [List.length_drop, List.length_take]; rfl)) ?_; (with_reducible refine (calendar_valid.calls a0 true _ A2.out).mono ?_); rintro e w' ⟨rfl, ⟨nd, rfl⟩⟩; refine ⟨_, rfl, ?_⟩))
  go_ret
  exact ⟨by first | rfl | (simp; done) | (simp [*]; done), by repeat (first | exact Drawn0.refl _ | apply Drawn0.step)⟩
 ·
  replace c3 := Bool.eq_false_iff.mpr c3
  subst c3
  have H1 : (some (-1)) = some r := by rw [if_neg (show ¬ (false = true) by decide)] at H; exact H
  clear H
  have H := H1
  clear H1
  obtain rfl := Option.some.inj H
  go_enter Tryd.func113, Tryd.ntmps113
  go_wp2_with (first | ((with_reducible refine gate_callee (f := 76) rfl ?_); refine goesL_ (some 4) rfl rfl Tryd.func76 (by kernel_rfl) rfl #[.int .i64 a0] rfl (by (try simp only [List.map_toArray, List.map_cons, List.map_nil]); first | done | rfl | (simp only [List.length_drop, List.length_take]; rfl)) ?_; (with_reducible refine (calendar_valid.calls a0 false _ A2.out).mono ?_); rintro e w' ⟨rfl, ⟨nd, rfl⟩⟩; refine ⟨_, rfl, ?_⟩))
  go_ret
  exact ⟨by first | rfl | (simp; done) | (simp [*]; done), by repeat (first | exact Drawn0.refl _ | apply Drawn0.step)⟩

def cmp_isNaN_int.f (a0 : Int) : Option (Bool) := some (a0 != a0)
set_option maxHeartbeats 8000000 in
set_option maxRecDepth 100000 in
theorem cmp_isNaN_int.calls (a0 : Int) (r : Bool) (w : World) (h : cmp_isNaN_int.f a0 = some r) :
  Calls Tryd.prog 110 #[.int .i64 a0] w fun e w' => e = .returned (.bool r) ∧ Drawn0 w w' := by
 have H : (some (a0 != a0)) = some r := h
 clear h
 obtain rfl := Option.some.inj H
 go_enter Tryd.func110, Tryd.ntmps110
 go_wp2
 go_ret
 exact ⟨by first | rfl | (simp; done) | (simp [*]; done), by repeat (first | exact Drawn0.refl _ | apply Drawn0.step)⟩

def cmp_Less_int.f (a0 : Int) (a1 : Int) : Option (Bool) := (cmp_isNaN_int.f a0).bind fun t495 => (if t495 = true then ((cmp_isNaN_int.f a1).bind fun t496 => (if t496 = true then (some (decide (a0 < a1))) else (some true))) else (some (decide (a0 < a1))))
set_option maxHeartbeats 8000000 in
set_option maxRecDepth 100000 in
theorem cmp_Less_int.calls (a0 : Int) (a1 : Int) (r : Bool) (w : World) (h : cmp_Less_int.f a0 a1 = some r) :
  Calls Tryd.prog 92 #[.int .i64 a0, .int .i64 a1] w fun e w' => e = .returned (.bool r) ∧ Drawn0 w w' := by
 have H : ((cmp_isNaN_int.f a0).bind fun t495 => (if t495 = true then ((cmp_isNaN_int.f a1).bind fun t496 => (if t496 = true then (some (decide (a0 < a1))) else (some true))) else (some (decide (a0 < a1))))) = some r := h
 clear h
 replace H := Option.bind_eq_some_iff.mp H
 obtain ⟨t495, A30, H⟩ := H
 replace H : (if t495 = true then ((cmp_isNaN_int.f a1).bind fun t496 => (if t496 = true then (some (decide (a0 < a1))) else (some true))) else (some (decide (a0 < a1)))) = some r := H
 have A3 := Aside0.mk A30
 clear A30
 by_cases c4 : t495 = true
 ·
  subst c4
  have H1 : ((cmp_isNaN_int.f a1).bind fun t496 => (if t496 = true then (some (decide (a0 < a1))) else (some true))) = some r := by rw [if_pos rfl] at H; exact H
  clear H
  have H := H1
  clear H1
  replace H := Option.bind_eq_some_iff.mp H
  obtain ⟨t496, A50, H⟩ := H
  replace H : (if t496 = true then (some (decide (a0 < a1))) else (some true)) = some r := H
  have A5 := Aside0.mk A50
  clear A50
  by_cases c6 : t496 = true
  ·
   subst c6
   have H1 : (some (decide (a0 < a1))) = some r := by rw [if_pos rfl] at H; exact H
   clear H
   have H := H1
   clear H1
   obtain rfl := Option.some.inj H
   go_enter Tryd.func92, Tryd.ntmps92
   go_wp2_with (first | ((with_reducible refine gate_callee (f := 110) rfl ?_); refine goesL_ (some 6) rfl rfl Tryd.func110 (by kernel_rfl) rfl #[.int .i64 a0] rfl (by (try simp only [List.map_toArray, List.map_cons, List.map_nil]); first | done | rfl | (simp only [List.length_drop, List.length_take]; rfl)) ?_; (with_reducible refine (cmp_isNaN_int.calls a0 true _ A3.out).mono ?_); rintro e w' ⟨rfl, ⟨nd, rfl⟩⟩; refine ⟨_, rfl, ?_⟩) | (go_at_call 110; (with_reducible refine (cmp_isNaN_int.calls a1 true _ A5.out).mono ?_); rintro e w' ⟨rfl, ⟨nd, rfl⟩⟩))
   go_ret
   exact ⟨by first | rfl | (simp; done) | (simp [*]; done), by repeat (first | exact Drawn0.refl _ | apply Drawn0.step)⟩
  ·
   replace c6 := Bool.eq_false_iff.mpr c6
   subst c6
   have H1 : (some true) = some r := by rw [if_neg (show ¬ (false = true) by decide)] at H; exact H
   clear H
   have H := H1
   clear H1
   obtain rfl := Option.some.inj H
   go_enter Tryd.func92, Tryd.ntmps92
   go_wp2_with (first | ((with_reducible refine gate_callee (f := 110) rfl ?_); refine goesL_ (some 6) rfl rfl Tryd.func110 (by kernel_rfl) rfl #[.int .i64 a0] rfl (by (try simp only [List.map_toArray, List.map_cons, List.map_nil]); first | done | rfl | (simp only [List.length_drop, List.length_take]; rfl)) ?_; (with_reducible refine (cmp_isNaN_int.calls a0 true _ A3.out).mono ?_); rintro e w' ⟨rfl, ⟨nd, rfl⟩⟩; refine ⟨_, rfl, ?_⟩) | (go_at_call 110; (with_reducible refine (cmp_isNaN_int.calls a1 false _ A5.out).mono ?_); rintro e w' ⟨rfl, ⟨nd, rfl⟩⟩))
   go_ret
   exact ⟨by first | rfl | (simp; done) | (simp [*]; done), by repeat (first | exact Drawn0.refl _ | apply Drawn0.step)⟩
 ·
  replace c4 := Bool.eq_false_iff.mpr c4
  subst c4
  have H1 : (some (decide (a0 < a1))) = some r := by rw [if_neg (show ¬ (false = true) by decide)] at H; exact H
  clear H
  have H := H1
  clear H1
  obtain rfl := Option.some.inj H
  go_enter Tryd.func92, Tryd.ntmps92
  go_wp2_with (first | ((with_reducible refine gate_callee (f := 110) rfl ?_); refine goesL_ (some 6) rfl rfl Tryd.func110 (by kernel_rfl) rfl #[.int .i64 a0] rfl (by (try simp only [List.map_toArray, List.map_cons, List.map_nil]); first | done | rfl | (simp only [List.length_drop, List.length_take]; rfl)) ?_; (with_reducible refine (cmp_isNaN_int.calls a0 false _ A3.out).mono ?_); rintro e w' ⟨rfl, ⟨nd, rfl⟩⟩; refine ⟨_, rfl, ?_⟩))
  go_ret
  exact ⟨by first | rfl | (simp; done) | (simp [*]; done), by repeat (first | exact Drawn0.refl _ | apply Drawn0.step)⟩

def slices_isNaN_int.f (a0 : Int) : Option (Bool) := some (a0 != a0)
set_option maxHeartbeats 8000000 in
set_option maxRecDepth 100000 in
theorem slices_isNaN_int.calls (a0 : Int) (r : Bool) (w : World) (h : slices_isNaN_int.f a0 = some r) :
  Calls Tryd.prog 117 #[.int .i64 a0] w fun e w' => e = .returned (.bool r) ∧ Drawn0 w w' := by
 have H : (some (a0 != a0)) = some r := h
 clear h
 obtain rfl := Option.some.inj H
 go_enter Tryd.func117, Tryd.ntmps117
 go_wp2
 go_ret
 exact ⟨by first | rfl | (simp; done) | (simp [*]; done), by repeat (first | exact Drawn0.refl _ | apply Drawn0.step)⟩

def slices_BinarySearch_int_int.l0 : Nat → List Int → Int → Int → Int → Int → Option (Int × Bool)
 | 0, _, _, _, _, _ => none
 | k + 1, x0, x1, x6, x7, x8 => if x7 < x8 then (if 0 ≤ (wrap64 ((IntKind.u64.wrap (wrap64 (x7 + x8))) / 2)) then (if (wrap64 ((IntKind.u64.wrap (wrap64 (x7 + x8))) / 2)) < (x0.length : Int) then ((cmp_Less_int.f (rd x0 (wrap64 ((IntKind.u64.wrap (wrap64 (x7 + x8))) / 2))) x1).bind fun t1049 => (if t1049 = true then (slices_BinarySearch_int_int.l0 k x0 x1 x6 (wrap64 ((wrap64 ((IntKind.u64.wrap (wrap64 (x7 + x8))) / 2)) + 1)) x8) else (slices_BinarySearch_int_int.l0 k x0 x1 x6 x7 (wrap64 ((IntKind.u64.wrap (wrap64 (x7 + x8))) / 2))))) else (none)) else (none)) else (if x7 < x6 then (if 0 ≤ x7 then (if x7 < (x0.length : Int) then (if (rd x0 x7) = x1 then (some (x7, true)) else ((slices_isNaN_int.f (rd x0 x7)).bind fun t1052 => (if t1052 = true then ((slices_isNaN_int.f x1).bind fun t1053 => (some (x7, t1053))) else (some (x7, false))))) else (none)) else (none)) else (some (x7, false)))
def slices_BinarySearch_int_int.f (k : Nat) (l0 : List Int) (a1 : Int) : Option (Int × Bool) := slices_BinarySearch_int_int.l0 k l0 a1 (l0.length : Int) 0 (l0.length : Int)
set_option maxHeartbeats 8000000 in
set_option maxRecDepth 100000 in
theorem slices_BinarySearch_int_int.calls (k : Nat) (A0 : Option Addr) (c0 : Nat) (l0 : List Int) (a1 : Int) (r1 : Int) (r2 : Bool) (w : World) (hr0 : Kd.C (Kd.int .i64) w A0 l0.length l0) (hc0 : l0.length ≤ c0) (h : slices_BinarySearch_int_int.f k l0 a1 = some (r1, r2)) :
  Calls Tryd.prog 114 #[.slice A0 l0.length c0, .int .i64 a1] w fun e w' => e = .returned (.tuple #[.int .i64 r1, .bool r2]) ∧ Drawn0 w w' := by
 have HR0 := Aside0.mk hr0
 have HC0 := Aside0.mk hc0
 clear hr0 hc0
 have H : (slices_BinarySearch_int_int.l0 k l0 a1 (l0.length : Int) 0 (l0.length : Int)) = some (r1, r2) := h
 clear h
 have H' := Aside0.mk H
 clear H
 go_enter Tryd.func114, Tryd.ntmps114
 go_wp2
 go_loopg [7, 8] k (fun kq v7 v8 w' => ∃ (x7_1 : Int) (x8_1 : Int), v7 = .int .i64 x7_1 ∧ v8 = .int .i64 x8_1 ∧ Aside0 (slices_BinarySearch_int_int.l0 kq l0 a1 (l0.length : Int) x7_1 x8_1 = some (r1, r2)) ∧ Aside0 (kq ≤ k) ∧ Drawn0 w w')
 case atStart => exact ⟨(0), ((l0.length : Int)), (by first | rfl | (simp; done) | (simp [*]; done)), (by first | rfl | (simp; done) | (simp [*]; done)), H', ⟨Nat.le_refl _⟩, by repeat (first | exact Drawn0.refl _ | apply Drawn0.step)⟩
 case round =>
  clear H'
  try clear c1
  try clear p2
  obtain ⟨x7_1, x8_1, rfl, rfl, HA, HK1, ⟨m1, rfl⟩⟩ := hrel
  cases gk with
  | zero => exact absurd HA.out (by simp [slices_BinarySearch_int_int.l0])
  | succ k1 =>
   have H := HA.out
   clear HA
   simp only [slices_BinarySearch_int_int.l0] at H
   by_cases c3 : x7_1 < x8_1
   ·
    rw [if_pos c3] at H
    have c3b0 : decide (x7_1 < x8_1) = true := decide_eq_true c3
    clear c3
    obtain ⟨ji4, hji4⟩ : ∃ j_ : Int, (wrap64 ((IntKind.u64.wrap (wrap64 (x7_1 + x8_1))) / 2)) = j_ := ⟨_, rfl⟩
    replace H : (if 0 ≤ (ji4) then (if (ji4) < (l0.length : Int) then ((cmp_Less_int.f (rd l0 (ji4)) a1).bind fun t1049 => (if t1049 = true then (slices_BinarySearch_int_int.l0 k1 l0 a1 (l0.length : Int) (wrap64 ((ji4) + 1)) x8_1) else (slices_BinarySearch_int_int.l0 k1 l0 a1 (l0.length : Int) x7_1 ji4))) else (none)) else (none)) = some (r1, r2) := by first | (rw [hji4] at H; exact H) | (simp only [hji4] at H ⊢; exact H)
    have hji4w : (IntKind.i64.wrap ((IntKind.u64.wrap (wrap64 (x7_1 + x8_1))) / 2)) = ji4 := (i64_w _).trans hji4
    by_cases c5 : 0 ≤ (ji4)
    ·
     rw [if_pos c5] at H
     have c5b0 : decide (0 ≤ (ji4)) = true := decide_eq_true c5
     clear c5
     by_cases c6 : (ji4) < (l0.length : Int)
     ·
      rw [if_pos c6] at H
      have c6b0 : decide ((ji4) < (l0.length : Int)) = true := decide_eq_true c6
      clear c6
      replace H := Option.bind_eq_some_iff.mp H
      obtain ⟨t1049, A70, H⟩ := H
      replace H : (if t1049 = true then (slices_BinarySearch_int_int.l0 k1 l0 a1 (l0.length : Int) (wrap64 ((ji4) + 1)) x8_1) else (slices_BinarySearch_int_int.l0 k1 l0 a1 (l0.length : Int) x7_1 ji4)) = some (r1, r2) := H
      have A7 := Aside0.mk A70
      clear A70
      by_cases c8 : t1049 = true
      ·
       subst c8
       have H1 : (slices_BinarySearch_int_int.l0 k1 l0 a1 (l0.length : Int) (wrap64 ((ji4) + 1)) x8_1) = some (r1, r2) := by rw [if_pos rfl] at H; exact H
       clear H
       have H := H1
       clear H1
       have H' := Aside0.mk H
       clear H
       have p1048 : 0 ≤ ((ji4) : Int) := of_decide_eq_true (by first | (with_reducible assumption) | assumption)
       have q1048 : (ji4) < (l0.length : Int) := of_decide_eq_true (by first | (with_reducible assumption) | assumption)
       obtain ⟨ad1048, e1048, hx1048_0⟩ := Kd.at_int HR0.out (ji4) p1048 q1048
       cases e1048
       replace p1048 := eq_true p1048
       replace q1048 := eq_true q1048
       go_wp2_with (first | ((with_reducible refine gate_callee (f := 92) rfl ?_); refine goesL_ (some 27) rfl rfl Tryd.func92 (by kernel_rfl) rfl #[.int .i64 (rd l0 (ji4)), .int .i64 a1] rfl (by (try simp only [List.map_toArray, List.map_cons, List.map_nil]); first | done | (simp only [hji4]; rfl) | rfl | (simp only [List.length_drop, List.length_take]; rfl)) ?_; (with_reducible refine (cmp_Less_int.calls (rd l0 (ji4)) a1 true _ A7.out).mono ?_); rintro e w' ⟨rfl, ⟨nd, rfl⟩⟩; refine ⟨_, rfl, ?_⟩))
       go_roundg k1
       case measure => have := HK1.out; omega
       case rel => exact ⟨(wrap64 ((ji4) + 1)), (x8_1), (by first | rfl | (simp; done) | (simp only [← hji4] <;> (first | rfl | simp)) | (simp [*]; done)), (by first | rfl | (simp; done) | (simp [*]; done)), H', ⟨by have := HK1.out; omega⟩, by repeat (first | exact Drawn0.refl _ | apply Drawn0.step)⟩
      ·
       replace c8 := Bool.eq_false_iff.mpr c8
       subst c8
       have H1 : (slices_BinarySearch_int_int.l0 k1 l0 a1 (l0.length : Int) x7_1 ji4) = some (r1, r2) := by rw [if_neg (show ¬ (false = true) by decide)] at H; exact H
       clear H
       have H := H1
       clear H1
       have H' := Aside0.mk H
       clear H
       have p1048 : 0 ≤ ((ji4) : Int) := of_decide_eq_true (by first | (with_reducible assumption) | assumption)
       have q1048 : (ji4) < (l0.length : Int) := of_decide_eq_true (by first | (with_reducible assumption) | assumption)
       obtain ⟨ad1048, e1048, hx1048_0⟩ := Kd.at_int HR0.out (ji4) p1048 q1048
       cases e1048
       replace p1048 := eq_true p1048
       replace q1048 := eq_true q1048
       go_wp2_with (first | ((with_reducible refine gate_callee (f := 92) rfl ?_); refine goesL_ (some 27) rfl rfl Tryd.func92 (by kernel_rfl) rfl #[.int .i64 (rd l0 (ji4)), .int .i64 a1] rfl (by (try simp only [List.map_toArray, List.map_cons, List.map_nil]); first | done | (simp only [hji4]; rfl) | rfl | (simp only [List.length_drop, List.length_take]; rfl)) ?_; (with_reducible refine (cmp_Less_int.calls (rd l0 (ji4)) a1 false _ A7.out).mono ?_); rintro e w' ⟨rfl, ⟨nd, rfl⟩⟩; refine ⟨_, rfl, ?_⟩))
       go_roundg k1
       case measure => have := HK1.out; omega
       case rel => exact ⟨(x7_1), (ji4), (by first | rfl | (simp; done) | (simp [*]; done)), (by first | rfl | (simp; done) | (simp only [← hji4] <;> (first | rfl | simp)) | (simp [*]; done)), H', ⟨by have := HK1.out; omega⟩, by repeat (first | exact Drawn0.refl _ | apply Drawn0.step)⟩
     ·
      rw [if_neg c6] at H
      exact absurd H (by simp)
    ·
     rw [if_neg c5] at H
     exact absurd H (by simp)
   ·
    rw [if_neg c3] at H
    have c3b0 : decide (x7_1 < x8_1) = false := decide_eq_false c3
    clear c3
    by_cases c9 : x7_1 < (l0.length : Int)
    ·
     rw [if_pos c9] at H
     have c9b0 : decide (x7_1 < (l0.length : Int)) = true := decide_eq_true c9
     clear c9
     by_cases c10 : 0 ≤ x7_1
     ·
      rw [if_pos c10] at H
      have c10b0 : decide (0 ≤ x7_1) = true := decide_eq_true c10
      clear c10
      by_cases c11 : x7_1 < (l0.length : Int)
      ·
       rw [if_pos c11] at H
       have c11b0 : decide (x7_1 < (l0.length : Int)) = true := decide_eq_true c11
       clear c11
       by_cases c12 : (rd l0 x7_1) = a1
       ·
        rw [if_pos c12] at H
        have c12b0 : ((rd l0 x7_1) == a1) = true := beq_iff_eq.mpr c12
        have c12b1 : ((rd l0 x7_1) != a1) = false := bne_eq_false_iff_eq.mpr c12
        clear c12
        simp only [Option.some.injEq, Prod.mk.injEq] at H
        obtain ⟨rfl, rfl⟩ := H
        have p1050 : 0 ≤ (x7_1 : Int) := of_decide_eq_true (by first | (with_reducible assumption) | assumption)
        have q1050 : x7_1 < (l0.length : Int) := of_decide_eq_true (by first | (with_reducible assumption) | assumption)
        obtain ⟨ad1050, e1050, hx1050_0⟩ := Kd.at_int HR0.out x7_1 p1050 q1050
        cases e1050
        replace p1050 := eq_true p1050
        replace q1050 := eq_true q1050
        go_wp2
        go_ret2
        exact ⟨by first | rfl | (simp; done) | (simp [*]; done), by repeat (first | exact Drawn0.refl _ | apply Drawn0.step)⟩
       ·
        rw [if_neg c12] at H
        have c12b0 : ((rd l0 x7_1) == a1) = false := beq_eq_false_iff_ne.mpr c12
        have c12b1 : ((rd l0 x7_1) != a1) = true := bne_iff_ne.mpr c12
        replace H := Option.bind_eq_some_iff.mp H
        obtain ⟨t1052, A130, H⟩ := H
        replace H : (if t1052 = true then ((slices_isNaN_int.f a1).bind fun t1053 => (some (x7_1, t1053))) else (some (x7_1, false))) = some (r1, r2) := H
        have A13 := Aside0.mk A130
        clear A130
        by_cases c14 : t1052 = true
        ·
         subst c14
         have H1 : ((slices_isNaN_int.f a1).bind fun t1053 => (some (x7_1, t1053))) = some (r1, r2) := by rw [if_pos rfl] at H; exact H
         clear H
         have H := H1
         clear H1
         replace H := Option.bind_eq_some_iff.mp H
         obtain ⟨t1053, A150, H⟩ := H
         replace H : (some (x7_1, t1053)) = some (r1, r2) := H
         have A15 := Aside0.mk A150
         clear A150
         simp only [Option.some.injEq, Prod.mk.injEq] at H
         obtain ⟨rfl, rfl⟩ := H
         have p1050 : 0 ≤ (x7_1 : Int) := of_decide_eq_true (by first | (with_reducible assumption) | assumption)
         have q1050 : x7_1 < (l0.length : Int) := of_decide_eq_true (by first | (with_reducible assumption) | assumption)
         obtain ⟨ad1050, e1050, hx1050_0⟩ := Kd.at_int HR0.out x7_1 p1050 q1050
         cases e1050
         replace p1050 := eq_true p1050
         replace q1050 := eq_true q1050
         have p1051 : 0 ≤ (x7_1 : Int) := of_decide_eq_true (by first | (with_reducible assumption) | assumption)
         have q1051 : x7_1 < (l0.length : Int) := of_decide_eq_true (by first | (with_reducible assumption) | assumption)
         obtain ⟨ad1051, e1051, hx1051_0⟩ := Kd.at_int HR0.out x7_1 p1051 q1051
         obtain rfl : ad1050 = ad1051 := (by injection e1051)
         replace p1051 := eq_true p1051
         replace q1051 := eq_true q1051
         go_wp2_with (first | (go_at_call 117; (with_reducible refine (slices_isNaN_int.calls (rd l0 x7_1) true _ A13.out).mono ?_); rintro e w' ⟨rfl, ⟨nd, rfl⟩⟩) | (go_at_call 117; (with_reducible refine (slices_isNaN_int.calls a1 t1053 _ A15.out).mono ?_); rintro e w' ⟨rfl, ⟨nd, rfl⟩⟩))
         go_ret2
         exact ⟨by first | rfl | (simp; done) | (simp [*]; done), by repeat (first | exact Drawn0.refl _ | apply Drawn0.step)⟩
        ·
         replace c14 := Bool.eq_false_iff.mpr c14
         subst c14
         have H1 : (some (x7_1, false)) = some (r1, r2) := by rw [if_neg (show ¬ (false = true) by decide)] at H; exact H
         clear H
         have H := H1
         clear H1
         simp only [Option.some.injEq, Prod.mk.injEq] at H
         obtain ⟨rfl, rfl⟩ := H
         have p1050 : 0 ≤ (x7_1 : Int) := of_decide_eq_true (by first | (with_reducible assumption) | assumption)
         have q1050 : x7_1 < (l0.length : Int) := of_decide_eq_true (by first | (with_reducible assumption) | assumption)
         obtain ⟨ad1050, e1050, hx1050_0⟩ := Kd.at_int HR0.out x7_1 p1050 q1050
         cases e1050
         replace p1050 := eq_true p1050
         replace q1050 := eq_true q1050
         have p1051 : 0 ≤ (x7_1 : Int) := of_decide_eq_true (by first | (with_reducible assumption) | assumption)
         have q1051 : x7_1 < (l0.length : Int) := of_decide_eq_true (by first | (with_reducible assumption) | assumption)
         obtain ⟨ad1051, e1051, hx1051_0⟩ := Kd.at_int HR0.out x7_1 p1051 q1051
         obtain rfl : ad1050 = ad1051 := (by injection e1051)
         replace p1051 := eq_true p1051
         replace q1051 := eq_true q1051
         go_wp2_with (first | (go_at_call 117; (with_reducible refine (slices_isNaN_int.calls (rd l0 x7_1) false _ A13.out).mono ?_); rintro e w' ⟨rfl, ⟨nd, rfl⟩⟩))
         go_ret2
         exact ⟨by first | rfl | (simp; done) | (simp [*]; done), by repeat (first | exact Drawn0.refl _ | apply Drawn0.step)⟩
      ·
       rw [if_neg c11] at H
       exact absurd H (by simp)
     ·
      rw [if_neg c10] at H
      exact absurd H (by simp)
    ·
     rw [if_neg c9] at H
     have c9b0 : decide (x7_1 < (l0.length : Int)) = false := decide_eq_false c9
     clear c9
     simp only [Option.some.injEq, Prod.mk.injEq] at H
     obtain ⟨rfl, rfl⟩ := H
     go_wp2
     go_ret2
     exact ⟨by first | rfl | (simp; done) | (simp [*]; done), by repeat (first | exact Drawn0.refl _ | apply Drawn0.step)⟩

def calendar_Working.f (k : Nat) (l0 : List Int) (a1 : Int) : Option (Bool) := (calendar_valid.f a1).bind fun t1054 => (if t1054 = true then ((calendar_Weekday.f a1).bind fun t1055 => (if t1055 ≥ 5 then (some false) else ((slices_BinarySearch_int_int.f k l0 a1).bind fun bt1056 => (some (!bt1056.2))))) else (some false))
set_option maxHeartbeats 8000000 in
set_option maxRecDepth 100000 in
theorem calendar_Working.calls (k : Nat) (A0 : Option Addr) (c0 : Nat) (l0 : List Int) (a1 : Int) (r : Bool) (w : World) (hr0 : Kd.C (Kd.int .i64) w A0 l0.length l0) (hc0 : l0.length ≤ c0) (h : calendar_Working.f k l0 a1 = some r) :
  Calls Tryd.prog 100 #[.slice A0 l0.length c0, .int .i64 a1] w fun e w' => e = .returned (.bool r) ∧ Drawn0 w w' := by
 have HR0 := Aside0.mk hr0
 have HC0 := Aside0.mk hc0
 clear hr0 hc0
 have H : ((calendar_valid.f a1).bind fun t1054 => (if t1054 = true then ((calendar_Weekday.f a1).bind fun t1055 => (if t1055 ≥ 5 then (some false) else ((slices_BinarySearch_int_int.f k l0 a1).bind fun bt1056 => (some (!bt1056.2))))) else (some false))) = some r := h
 clear h
 replace H := Option.bind_eq_some_iff.mp H
 obtain ⟨t1054, A30, H⟩ := H
 replace H : (if t1054 = true then ((calendar_Weekday.f a1).bind fun t1055 => (if t1055 ≥ 5 then (some false) else ((slices_BinarySearch_int_int.f k l0 a1).bind fun bt1056 => (some (!bt1056.2))))) else (some false)) = some r := H
 have A3 := Aside0.mk A30
 clear A30
 by_cases c4 : t1054 = true
 ·
  subst c4
  have H1 : ((calendar_Weekday.f a1).bind fun t1055 => (if t1055 ≥ 5 then (some false) else ((slices_BinarySearch_int_int.f k l0 a1).bind fun bt1056 => (some (!bt1056.2))))) = some r := by rw [if_pos rfl] at H; exact H
  clear H
  have H := H1
  clear H1
  replace H := Option.bind_eq_some_iff.mp H
  obtain ⟨t1055, A50, H⟩ := H
  replace H : (if t1055 ≥ 5 then (some false) else ((slices_BinarySearch_int_int.f k l0 a1).bind fun bt1056 => (some (!bt1056.2)))) = some r := H
  have A5 := Aside0.mk A50
  clear A50
  by_cases c6 : t1055 ≥ 5
  ·
   rw [if_pos c6] at H
   have c6b0 : decide (5 ≤ t1055) = true := decide_eq_true c6
   clear c6
   obtain rfl := Option.some.inj H
   go_enter Tryd.func100, Tryd.ntmps100
   go_wp2_with (first | ((with_reducible refine gate_callee (f := 76) rfl ?_); refine goesL_ (some 8) rfl rfl Tryd.func76 (by kernel_rfl) rfl #[.int .i64 a1] rfl (by (try simp only [List.map_toArray, List.map_cons, List.map_nil]); first | done | rfl | (simp only [List.length_drop, List.length_take]; rfl)) ?_; (with_reducible refine (calendar_valid.calls a1 true _ A3.out).mono ?_); rintro e w' ⟨rfl, ⟨nd, rfl⟩⟩; refine ⟨_, rfl, ?_⟩) | (go_at_call 113; (with_reducible refine (calendar_Weekday.calls a1 t1055 _ A5.out).mono ?_); rintro e w' ⟨rfl, ⟨nd, rfl⟩⟩))
   go_ret
   exact ⟨by first | rfl | (simp; done) | (simp [*]; done), by repeat (first | exact Drawn0.refl _ | apply Drawn0.step)⟩
  ·
   rw [if_neg c6] at H
   have c6b0 : decide (5 ≤ t1055) = false := decide_eq_false c6
   clear c6
   replace H := Option.bind_eq_some_iff.mp H
   obtain ⟨⟨t1056, t1057⟩, A70, H⟩ := H
   replace H : (some (!t1057)) = some r := H
   have A7 := Aside0.mk A70
   clear A70
   obtain rfl := Option.some.inj H
   go_enter Tryd.func100, Tryd.ntmps100
   go_wp2_with (first | ((with_reducible refine gate_callee (f := 76) rfl ?_); refine goesL_ (some 8) rfl rfl Tryd.func76 (by kernel_rfl) rfl #[.int .i64 a1] rfl (by (try simp only [List.map_toArray, List.map_cons, List.map_nil]); first | done | rfl | (simp only [List.length_drop, List.length_take]; rfl)) ?_; (with_reducible refine (calendar_valid.calls a1 true _ A3.out).mono ?_); rintro e w' ⟨rfl, ⟨nd, rfl⟩⟩; refine ⟨_, rfl, ?_⟩) | (go_at_call 113; (with_reducible refine (calendar_Weekday.calls a1 t1055 _ A5.out).mono ?_); rintro e w' ⟨rfl, ⟨nd, rfl⟩⟩) | ((with_reducible refine gate_callee (f := 114) rfl ?_); refine goesL_ (some 18) rfl rfl Tryd.func114 (by kernel_rfl) rfl #[.slice A0 l0.length c0, .int .i64 a1] rfl (by (try simp only [List.map_toArray, List.map_cons, List.map_nil]); first | done | rfl | (simp only [List.length_drop, List.length_take]; rfl)) ?_; (with_reducible refine (slices_BinarySearch_int_int.calls k _ _ l0 a1 t1056 t1057 _ ?side1 ?side2 A7.out).mono ?_); (case side1 => repeat (first | exact HR0.out | (with_reducible refine Kd.C_alloc ?_ _) | (with_reducible refine Kd.C_drewN ?_ _) | (with_reducible refine Kd.C_drew ?_))); (case side2 => exact HC0.out); rintro e w' ⟨rfl, ⟨nd, rfl⟩⟩; refine ⟨_, rfl, ?_⟩))
   go_ret
   exact ⟨by first | rfl | (simp; done) | (simp [*]; done), by repeat (first | exact Drawn0.refl _ | apply Drawn0.step)⟩
 ·
  replace c4 := Bool.eq_false_iff.mpr c4
  subst c4
  have H1 : (some false) = some r := by rw [if_neg (show ¬ (false = true) by decide)] at H; exact H
  clear H
  have H := H1
  clear H1
  obtain rfl := Option.some.inj H
  go_enter Tryd.func100, Tryd.ntmps100
  go_wp2_with (first | ((with_reducible refine gate_callee (f := 76) rfl ?_); refine goesL_ (some 8) rfl rfl Tryd.func76 (by kernel_rfl) rfl #[.int .i64 a1] rfl (by (try simp only [List.map_toArray, List.map_cons, List.map_nil]); first | done | rfl | (simp only [List.length_drop, List.length_take]; rfl)) ?_; (with_reducible refine (calendar_valid.calls a1 false _ A3.out).mono ?_); rintro e w' ⟨rfl, ⟨nd, rfl⟩⟩; refine ⟨_, rfl, ?_⟩))
  go_ret
  exact ⟨by first | rfl | (simp; done) | (simp [*]; done), by repeat (first | exact Drawn0.refl _ | apply Drawn0.step)⟩

def calendar_next.l0 : Nat → List Int → Int → Option (Int × Int)
 | 0, _, _ => none
 | k + 1, x0, x1 => (calendar_valid.f x1).bind fun t1058 => (if t1058 = true then ((calendar_Working.f k x0 x1).bind fun t1059 => (if t1059 = true then (some (x1, 0)) else (calendar_next.l0 k x0 (wrap64 (x1 + 1))))) else (some (0, 3)))
def calendar_next.f (k : Nat) (l0 : List Int) (a1 : Int) : Option (Int × Int) := calendar_next.l0 k l0 a1
set_option maxHeartbeats 8000000 in
set_option maxRecDepth 100000 in
theorem calendar_next.calls (k : Nat) (A0 : Option Addr) (c0 : Nat) (l0 : List Int) (a1 : Int) (r1 : Int) (r2 : Int) (w : World) (hr0 : Kd.C (Kd.int .i64) w A0 l0.length l0) (hc0 : l0.length ≤ c0) (h : calendar_next.f k l0 a1 = some (r1, r2)) :
  Calls Tryd.prog 79 #[.slice A0 l0.length c0, .int .i64 a1] w fun e w' => e = .returned (.tuple #[.int .i64 r1, .int .i64 r2]) ∧ Drawn0 w w' := by
 have HR0 := Aside0.mk hr0
 have HC0 := Aside0.mk hc0
 clear hr0 hc0
 have H : (calendar_next.l0 k l0 a1) = some (r1, r2) := h
 clear h
 have H' := Aside0.mk H
 clear H
 go_enter Tryd.func79, Tryd.ntmps79
 go_wp2
 go_loopg [1] k (fun kq v1 w' => ∃ (x1_1 : Int), v1 = .int .i64 x1_1 ∧ Aside0 (calendar_next.l0 kq l0 x1_1 = some (r1, r2)) ∧ Aside0 (kq ≤ k) ∧ Drawn0 w w')
 case atStart => exact ⟨(a1), (by first | rfl | (simp; done) | (simp [*]; done)), H', ⟨Nat.le_refl _⟩, by repeat (first | exact Drawn0.refl _ | apply Drawn0.step)⟩
 case round =>
  clear H'
  try clear p2
  obtain ⟨x1_1, rfl, HA, HK1, ⟨m1, rfl⟩⟩ := hrel
  cases gk with
  | zero => exact absurd HA.out (by simp [calendar_next.l0])
  | succ k1 =>
   have H := HA.out
   clear HA
   simp only [calendar_next.l0] at H
   replace H := Option.bind_eq_some_iff.mp H
   obtain ⟨t1058, A30, H⟩ := H
   replace H : (if t1058 = true then ((calendar_Working.f k1 l0 x1_1).bind fun t1059 => (if t1059 = true then (some (x1_1, 0)) else (calendar_next.l0 k1 l0 (wrap64 (x1_1 + 1))))) else (some (0, 3))) = some (r1, r2) := H
   have A3 := Aside0.mk A30
   clear A30
   by_cases c4 : t1058 = true
   ·
    subst c4
    have H1 : ((calendar_Working.f k1 l0 x1_1).bind fun t1059 => (if t1059 = true then (some (x1_1, 0)) else (calendar_next.l0 k1 l0 (wrap64 (x1_1 + 1))))) = some (r1, r2) := by rw [if_pos rfl] at H; exact H
    clear H
    have H := H1
    clear H1
    replace H := Option.bind_eq_some_iff.mp H
    obtain ⟨t1059, A50, H⟩ := H
    replace H : (if t1059 = true then (some (x1_1, 0)) else (calendar_next.l0 k1 l0 (wrap64 (x1_1 + 1)))) = some (r1, r2) := H
    have A5 := Aside0.mk A50
    clear A50
    by_cases c6 : t1059 = true
    ·
     subst c6
     have H1 : (some (x1_1, 0)) = some (r1, r2) := by rw [if_pos rfl] at H; exact H
     clear H
     have H := H1
     clear H1
     simp only [Option.some.injEq, Prod.mk.injEq] at H
     obtain ⟨rfl, rfl⟩ := H
     go_wp2_with (first | ((with_reducible refine gate_callee (f := 76) rfl ?_); refine goesL_ (some 7) rfl rfl Tryd.func76 (by kernel_rfl) rfl #[.int .i64 x1_1] rfl (by (try simp only [List.map_toArray, List.map_cons, List.map_nil]); first | done | rfl | (simp only [List.length_drop, List.length_take]; rfl)) ?_; (with_reducible refine (calendar_valid.calls x1_1 true _ A3.out).mono ?_); rintro e w' ⟨rfl, ⟨nd, rfl⟩⟩; refine ⟨_, rfl, ?_⟩) | ((with_reducible refine gate_callee (f := 100) rfl ?_); refine goesL_ (some 12) rfl rfl Tryd.func100 (by kernel_rfl) rfl #[.slice A0 l0.length c0, .int .i64 x1_1] rfl (by (try simp only [List.map_toArray, List.map_cons, List.map_nil]); first | done | rfl | (simp only [List.length_drop, List.length_take]; rfl)) ?_; (with_reducible refine (calendar_Working.calls k1 _ _ l0 x1_1 true _ ?side1 ?side2 A5.out).mono ?_); (case side1 => repeat (first | exact HR0.out | (with_reducible refine Kd.C_alloc ?_ _) | (with_reducible refine Kd.C_drewN ?_ _) | (with_reducible refine Kd.C_drew ?_))); (case side2 => exact HC0.out); rintro e w' ⟨rfl, ⟨nd, rfl⟩⟩; refine ⟨_, rfl, ?_⟩))
     go_ret2
     exact ⟨by first | rfl | (simp; done) | (simp [*]; done), by repeat (first | exact Drawn0.refl _ | apply Drawn0.step)⟩
    ·
     replace c6 := Bool.eq_false_iff.mpr c6
     subst c6
     have H1 : (calendar_next.l0 k1 l0 (wrap64 (x1_1 + 1))) = some (r1, r2) := by rw [if_neg (show ¬ (false = true) by decide)] at H; exact H
     clear H
     have H := H1
     clear H1
     have H' := Aside0.mk H
     clear H
     go_wp2_with (first | ((with_reducible refine gate_callee (f := 76) rfl ?_); refine goesL_ (some 7) rfl rfl Tryd.func76 (by kernel_rfl) rfl #[.int .i64 x1_1] rfl (by (try simp only [List.map_toArray, List.map_cons, List.map_nil]); first | done | rfl | (simp only [List.length_drop, List.length_take]; rfl)) ?_; (with_reducible refine (calendar_valid.calls x1_1 true _ A3.out).mono ?_); rintro e w' ⟨rfl, ⟨nd, rfl⟩⟩; refine ⟨_, rfl, ?_⟩) | ((with_reducible refine gate_callee (f := 100) rfl ?_); refine goesL_ (some 12) rfl rfl Tryd.func100 (by kernel_rfl) rfl #[.slice A0 l0.length c0, .int .i64 x1_1] rfl (by (try simp only [List.map_toArray, List.map_cons, List.map_nil]); first | done | rfl | (simp only [List.length_drop, List.length_take]; rfl)) ?_; (with_reducible refine (calendar_Working.calls k1 _ _ l0 x1_1 false _ ?side1 ?side2 A5.out).mono ?_); (case side1 => repeat (first | exact HR0.out | (with_reducible refine Kd.C_alloc ?_ _) | (with_reducible refine Kd.C_drewN ?_ _) | (with_reducible refine Kd.C_drew ?_))); (case side2 => exact HC0.out); rintro e w' ⟨rfl, ⟨nd, rfl⟩⟩; refine ⟨_, rfl, ?_⟩))
     go_roundg k1
     case measure => have := HK1.out; omega
     case rel => exact ⟨(wrap64 (x1_1 + 1)), (by first | rfl | (simp; done) | (simp [*]; done)), H', ⟨by have := HK1.out; omega⟩, by repeat (first | exact Drawn0.refl _ | apply Drawn0.step)⟩
   ·
    replace c4 := Bool.eq_false_iff.mpr c4
    subst c4
    have H1 : (some (0, 3)) = some (r1, r2) := by rw [if_neg (show ¬ (false = true) by decide)] at H; exact H
    clear H
    have H := H1
    clear H1
    simp only [Option.some.injEq, Prod.mk.injEq] at H
    obtain ⟨rfl, rfl⟩ := H
    go_wp2_with (first | ((with_reducible refine gate_callee (f := 76) rfl ?_); refine goesL_ (some 7) rfl rfl Tryd.func76 (by kernel_rfl) rfl #[.int .i64 x1_1] rfl (by (try simp only [List.map_toArray, List.map_cons, List.map_nil]); first | done | rfl | (simp only [List.length_drop, List.length_take]; rfl)) ?_; (with_reducible refine (calendar_valid.calls x1_1 false _ A3.out).mono ?_); rintro e w' ⟨rfl, ⟨nd, rfl⟩⟩; refine ⟨_, rfl, ?_⟩))
    go_ret2
    exact ⟨by first | rfl | (simp; done) | (simp [*]; done), by repeat (first | exact Drawn0.refl _ | apply Drawn0.step)⟩

def calendar_add.l0 : Nat → List Int → Int → Int → Int → Option (Int × Int)
 | 0, _, _, _, _ => none
 | k + 1, x0, x1, x10, x11 => if x11 < x10 then ((calendar_next.f k x0 (wrap64 (x1 + 1))).bind fun bt1060 => (if bt1060.2 = 0 then (calendar_add.l0 k x0 bt1060.1 x10 (wrap64 (x11 + 1))) else (some (0, bt1060.2)))) else (some (x1, 0))
def calendar_add.f (k : Nat) (l0 : List Int) (a1 : Int) (a2 : Int) : Option (Int × Int) := calendar_add.l0 k l0 a1 a2 0
set_option maxHeartbeats 8000000 in
set_option maxRecDepth 100000 in
theorem calendar_add.calls (k : Nat) (A0 : Option Addr) (c0 : Nat) (l0 : List Int) (a1 : Int) (a2 : Int) (r1 : Int) (r2 : Int) (w : World) (hr0 : Kd.C (Kd.int .i64) w A0 l0.length l0) (hc0 : l0.length ≤ c0) (h : calendar_add.f k l0 a1 a2 = some (r1, r2)) :
  Calls Tryd.prog 78 #[.slice A0 l0.length c0, .int .i64 a1, .int .i64 a2] w fun e w' => e = .returned (.tuple #[.int .i64 r1, .int .i64 r2]) ∧ Drawn0 w w' := by
 have HR0 := Aside0.mk hr0
 have HC0 := Aside0.mk hc0
 clear hr0 hc0
 have H : (calendar_add.l0 k l0 a1 a2 0) = some (r1, r2) := h
 clear h
 have H' := Aside0.mk H
 clear H
 go_enter Tryd.func78, Tryd.ntmps78
 go_wp2
 go_loopg [1, 11] k (fun kq v1 v11 w' => ∃ (x1_1 : Int) (x11_1 : Int), v1 = .int .i64 x1_1 ∧ v11 = .int .i64 x11_1 ∧ Aside0 (calendar_add.l0 kq l0 x1_1 a2 x11_1 = some (r1, r2)) ∧ Aside0 (kq ≤ k) ∧ Drawn0 w w')
 case atStart => exact ⟨(a1), (0), (by first | rfl | (simp; done) | (simp [*]; done)), (by first | rfl | (simp; done) | (simp [*]; done)), H', ⟨Nat.le_refl _⟩, by repeat (first | exact Drawn0.refl _ | apply Drawn0.step)⟩
 case round =>
  clear H'
  try clear p2
  obtain ⟨x1_1, x11_1, rfl, rfl, HA, HK1, ⟨m1, rfl⟩⟩ := hrel
  cases gk with
  | zero => exact absurd HA.out (by simp [calendar_add.l0])
  | succ k1 =>
   have H := HA.out
   clear HA
   simp only [calendar_add.l0] at H
   by_cases c4 : x11_1 < a2
   ·
    rw [if_pos c4] at H
    have c4b0 : decide (x11_1 < a2) = true := decide_eq_true c4
    clear c4
    replace H := Option.bind_eq_some_iff.mp H
    obtain ⟨⟨t1060, t1061⟩, A50, H⟩ := H
    replace H : (if t1061 = 0 then (calendar_add.l0 k1 l0 t1060 a2 (wrap64 (x11_1 + 1))) else (some (0, t1061))) = some (r1, r2) := H
    have A5 := Aside0.mk A50
    clear A50
    by_cases c6 : t1061 = 0
    ·
     rw [if_pos c6] at H
     have c6b0 : (t1061 == 0) = true := beq_iff_eq.mpr c6
     have c6b1 : (t1061 != 0) = false := bne_eq_false_iff_eq.mpr c6
     clear c6
     have H' := Aside0.mk H
     clear H
     go_wp2_with (first | ((with_reducible refine gate_callee (f := 79) rfl ?_); refine goesL_ (some 17) rfl rfl Tryd.func79 (by kernel_rfl) rfl #[.slice A0 l0.length c0, .int .i64 (wrap64 (x1_1 + 1))] rfl (by (try simp only [List.map_toArray, List.map_cons, List.map_nil]); first | done | rfl | (simp only [List.length_drop, List.length_take]; rfl)) ?_; (with_reducible refine (calendar_next.calls k1 _ _ l0 (wrap64 (x1_1 + 1)) t1060 t1061 _ ?side1 ?side2 A5.out).mono ?_); (case side1 => repeat (first | exact HR0.out | (with_reducible refine Kd.C_alloc ?_ _) | (with_reducible refine Kd.C_drewN ?_ _) | (with_reducible refine Kd.C_drew ?_))); (case side2 => exact HC0.out); rintro e w' ⟨rfl, ⟨nd, rfl⟩⟩; refine ⟨_, rfl, ?_⟩))
     go_roundg k1
     case measure => have := HK1.out; omega
     case rel => exact ⟨(t1060), (wrap64 (x11_1 + 1)), (by first | rfl | (simp; done) | (simp [*]; done)), (by first | rfl | (simp; done) | (simp [*]; done)), H', ⟨by have := HK1.out; omega⟩, by repeat (first | exact Drawn0.refl _ | apply Drawn0.step)⟩
    ·
     rw [if_neg c6] at H
     have c6b0 : (t1061 == 0) = false := beq_eq_false_iff_ne.mpr c6
     have c6b1 : (t1061 != 0) = true := bne_iff_ne.mpr c6
     simp only [Option.some.injEq, Prod.mk.injEq] at H
     obtain ⟨rfl, rfl⟩ := H
     go_wp2_with (first | ((with_reducible refine gate_callee (f := 79) rfl ?_); refine goesL_ (some 17) rfl rfl Tryd.func79 (by kernel_rfl) rfl #[.slice A0 l0.length c0, .int .i64 (wrap64 (x1_1 + 1))] rfl (by (try simp only [List.map_toArray, List.map_cons, List.map_nil]); first | done | rfl | (simp only [List.length_drop, List.length_take]; rfl)) ?_; (with_reducible refine (calendar_next.calls k1 _ _ l0 (wrap64 (x1_1 + 1)) t1060 t1061 _ ?side1 ?side2 A5.out).mono ?_); (case side1 => repeat (first | exact HR0.out | (with_reducible refine Kd.C_alloc ?_ _) | (with_reducible refine Kd.C_drewN ?_ _) | (with_reducible refine Kd.C_drew ?_))); (case side2 => exact HC0.out); rintro e w' ⟨rfl, ⟨nd, rfl⟩⟩; refine ⟨_, rfl, ?_⟩))
     go_ret2
     exact ⟨by first | rfl | (simp; done) | (simp [*]; done), by repeat (first | exact Drawn0.refl _ | apply Drawn0.step)⟩
   ·
    rw [if_neg c4] at H
    have c4b0 : decide (x11_1 < a2) = false := decide_eq_false c4
    clear c4
    simp only [Option.some.injEq, Prod.mk.injEq] at H
    obtain ⟨rfl, rfl⟩ := H
    go_wp2
    go_ret2
    exact ⟨by first | rfl | (simp; done) | (simp [*]; done), by repeat (first | exact Drawn0.refl _ | apply Drawn0.step)⟩

def dlRest (k : Nat) (l0 : List Int) (a1 t0 t1 t2 : Int) : Option (Int × Int) :=
 (calendar_AddMonths.f k a1 t0).bind fun r => if r.2 = 0 then ((calendar_valid.f (wrap64 (r.1 + t1))).bind fun v => if v = true then ((calendar_add.f k l0 (wrap64 (r.1 + t1)) t2).bind fun s => if s.2 = 0 then calendar_next.f k l0 s.1 else some (0, s.2)) else some (0, 3)) else some (0, r.2)
def dlOk (t : Int) : Prop := 0 ≤ t ∧ t ≤ 1000
instance (t : Int) : Decidable (dlOk t) := by unfold dlOk; infer_instance
def calendar_Deadline.f (k : Nat) (l0 : List Int) (a1 : Int) (t0 : Int) (t1 : Int) (t2 : Int) : Option (Int × Int) :=
 (calendar_Valid.f k l0).bind fun e => if e = 0 then ((calendar_valid.f a1).bind fun v => if v = true then (if dlOk t0 ∧ dlOk t1 ∧ dlOk t2 then dlRest k l0 a1 t0 t1 t2 else some (0, 2)) else some (0, 2)) else some (0, e)
/-- What follows the loop over the three numbers, and the loop. -/
theorem dl_at (a b c : Int) (W : World) : (Instr.index 105 (.agg #[.int .i64 a, .int .i64 b, .int .i64 c]) (.int .i64 0)).run Tryd.prog W = .ok (.int .i64 a) W ∧ (Instr.index 105 (.agg #[.int .i64 a, .int .i64 b, .int .i64 c]) (.int .i64 1)).run Tryd.prog W = .ok (.int .i64 b) W ∧ (Instr.index 105 (.agg #[.int .i64 a, .int .i64 b, .int .i64 c]) (.int .i64 2)).run Tryd.prog W = .ok (.int .i64 c) W :=
 ⟨by kernel_rfl, by kernel_rfl, by kernel_rfl⟩
theorem dl_cell (w : World) (cs : Array Value) (t n i : Nat) : ((w.alloc (.cells cs t)).drewN n).cell? ⟨w.heap.size, i, none⟩ = cs[i]? := by
 have e : ((w.alloc (.cells cs t)).drewN n).heap[w.heap.size]? = some (.cells cs t) := by
  show (w.heap.push (.cells cs t))[w.heap.size]? = _
  simp
 unfold World.cell?
 rw [e]
 rfl
/-- One number of the three. -/
theorem dl_bad {t : Int} (h : ¬ dlOk t) : t < 0 ∨ ¬ t < 0 ∧ 1000 < t := by unfold dlOk at h; omega
set_option maxHeartbeats 8000000 in
set_option maxRecDepth 100000 in
theorem calendar_Deadline.calls (k : Nat) (A0 : Option Addr) (c0 : Nat) (l0 : List Int) (a1 : Int) (t0 : Int) (t1 : Int) (t2 : Int) (r1 : Int) (r2 : Int) (w : World) (hr0 : Kd.C (Kd.int .i64) w A0 l0.length l0) (hc0 : l0.length ≤ c0) (hG_lengths : GL_lengths w) (h : calendar_Deadline.f k l0 a1 t0 t1 t2 = some (r1, r2)) :
  Calls Tryd.prog 71 #[.slice A0 l0.length c0, .int .i64 a1, .agg #[.int .i64 t0, .int .i64 t1, .int .i64 t2]] w fun e w' => e = .returned (.tuple #[.int .i64 r1, .int .i64 r2]) ∧ Below w.heap.size w w' := by
 have hu41 := Tryd.underlying95
 unfold calendar_Deadline.f at h
 obtain ⟨e, A20, h⟩ := Option.bind_eq_some_iff.mp h
 have A2 := Aside0.mk A20
 have HR := Aside0.mk hr0
 have HG := Aside0.mk hG_lengths
 clear A20 hr0 hG_lengths
 have HB0 := Aside0.mk ((Below.refl w.heap.size w).alloc (Nat.le_refl _) (.cells #[.int .i64 t0, .int .i64 t1, .int .i64 t2] 95))
 by_cases c1 : e = 0
 ·
  rw [if_pos c1] at h
  subst c1
  obtain ⟨v, A30, h⟩ := Option.bind_eq_some_iff.mp h
  have A3 := Aside0.mk A30
  clear A30
  cases v with
  | false =>
   rw [if_neg (by decide)] at h
   simp only [Option.some.injEq, Prod.mk.injEq] at h
   obtain ⟨rfl, rfl⟩ := h
   go_enter Tryd.func71, Tryd.ntmps71
   go_wp2_with (first | (go_at_call 75; (with_reducible refine (calendar_Valid.calls k _ _ l0 0 _ ?c1 hc0 A2.out).mono ?_); (case c1 => exact Kd.C_below HR.out HB0.out); rintro e w' ⟨rfl, ⟨nd, rfl⟩⟩) | (go_at_call 76; (with_reducible refine (calendar_valid.calls a1 false _ A3.out).mono ?_); rintro e w' ⟨rfl, ⟨nd, rfl⟩⟩))
   go_ret2
   exact ⟨rfl, by repeat (first | exact HB0.out | apply pw_below_drewN)⟩
  | true =>
   rw [if_pos rfl] at h
   have C0 := fun W => (dl_at t0 t1 t2 W).1
   have C1 := fun W => (dl_at t0 t1 t2 W).2.1
   have C2 := fun W => (dl_at t0 t1 t2 W).2.2
   have H := Aside0.mk h
   clear h
   go_enter Tryd.func71, Tryd.ntmps71
   go_wp2_with (first | (go_at_call 75; (with_reducible refine (calendar_Valid.calls k _ _ l0 0 _ ?c1 hc0 A2.out).mono ?_); (case c1 => exact Kd.C_below HR.out HB0.out); rintro e w' ⟨rfl, ⟨nd, rfl⟩⟩) | (go_at_call 76; (with_reducible refine (calendar_valid.calls a1 true _ A3.out).mono ?_); rintro e w' ⟨rfl, ⟨nd, rfl⟩⟩))
   go_loop [27] (fun v => v = .int .i64 0 ∨ (v = .int .i64 1 ∧ Aside0 (dlOk t0)) ∨ (v = .int .i64 2 ∧ Aside0 (dlOk t0) ∧ Aside0 (dlOk t1)) ∨ (v = .int .i64 3 ∧ Aside0 (dlOk t0) ∧ Aside0 (dlOk t1) ∧ Aside0 (dlOk t2))) (fun v => 3 - (intOf v).toNat)
   case atStart => exact .inl rfl
   case round =>
    rcases hrel with rfl | ⟨rfl, P0⟩ | ⟨rfl, P0, P1⟩ | ⟨rfl, P0, P1, P2⟩
    ·
     by_cases d : dlOk t0
     ·
      have e1 : decide (t0 < 0) = false := decide_eq_false (by unfold dlOk at d; omega)
      have e2 : decide (1000 < t0) = false := decide_eq_false (by unfold dlOk at d; omega)
      have P0 := Aside0.mk d
      clear d
      go_wp2
      go_round
      case rel => exact .inr (.inl ⟨rfl, P0⟩)
      case measure => simp [intOf]
     ·
      have hn : ¬ (dlOk t0 ∧ dlOk t1 ∧ dlOk t2) := fun h => d h.1
      have H1 := H.out
      rw [if_neg hn] at H1
      simp only [Option.some.injEq, Prod.mk.injEq] at H1
      obtain ⟨rfl, rfl⟩ := H1
      clear H hn
      rcases dl_bad d with d1 | ⟨d1, d2⟩
      ·
       have e1 : decide (t0 < 0) = true := decide_eq_true d1
       clear d d1
       go_wp2
       go_ret2
       exact ⟨rfl, by repeat (first | exact HB0.out | apply pw_below_drewN)⟩
      ·
       have e1 : decide (t0 < 0) = false := decide_eq_false d1
       have e2 : decide (1000 < t0) = true := decide_eq_true d2
       clear d d1 d2
       go_wp2
       go_ret2
       exact ⟨rfl, by repeat (first | exact HB0.out | apply pw_below_drewN)⟩
    ·
     by_cases d : dlOk t1
     ·
      have e1 : decide (t1 < 0) = false := decide_eq_false (by unfold dlOk at d; omega)
      have e2 : decide (1000 < t1) = false := decide_eq_false (by unfold dlOk at d; omega)
      have P1 := Aside0.mk d
      clear d
      go_wp2
      go_round
      case rel => exact .inr (.inr (.inl ⟨rfl, P0, P1⟩))
      case measure => simp [intOf]
     ·
      have hn : ¬ (dlOk t0 ∧ dlOk t1 ∧ dlOk t2) := fun h => d h.2.1
      have H1 := H.out
      rw [if_neg hn] at H1
      simp only [Option.some.injEq, Prod.mk.injEq] at H1
      obtain ⟨rfl, rfl⟩ := H1
      clear H hn
      rcases dl_bad d with d1 | ⟨d1, d2⟩
      ·
       have e1 : decide (t1 < 0) = true := decide_eq_true d1
       clear d d1
       go_wp2
       go_ret2
       exact ⟨rfl, by repeat (first | exact HB0.out | apply pw_below_drewN)⟩
      ·
       have e1 : decide (t1 < 0) = false := decide_eq_false d1
       have e2 : decide (1000 < t1) = true := decide_eq_true d2
       clear d d1 d2
       go_wp2
       go_ret2
       exact ⟨rfl, by repeat (first | exact HB0.out | apply pw_below_drewN)⟩
    ·
     by_cases d : dlOk t2
     ·
      have e1 : decide (t2 < 0) = false := decide_eq_false (by unfold dlOk at d; omega)
      have e2 : decide (1000 < t2) = false := decide_eq_false (by unfold dlOk at d; omega)
      have P2 := Aside0.mk d
      clear d
      go_wp2
      go_round
      case rel => exact .inr (.inr (.inr ⟨rfl, P0, P1, P2⟩))
      case measure => simp [intOf]
     ·
      have hn : ¬ (dlOk t0 ∧ dlOk t1 ∧ dlOk t2) := fun h => d h.2.2
      have H1 := H.out
      rw [if_neg hn] at H1
      simp only [Option.some.injEq, Prod.mk.injEq] at H1
      obtain ⟨rfl, rfl⟩ := H1
      clear H hn
      rcases dl_bad d with d1 | ⟨d1, d2⟩
      ·
       have e1 : decide (t2 < 0) = true := decide_eq_true d1
       clear d d1
       go_wp2
       go_ret2
       exact ⟨rfl, by repeat (first | exact HB0.out | apply pw_below_drewN)⟩
      ·
       have e1 : decide (t2 < 0) = false := decide_eq_false d1
       have e2 : decide (1000 < t2) = true := decide_eq_true d2
       clear d d1 d2
       go_wp2
       go_ret2
       exact ⟨rfl, by repeat (first | exact HB0.out | apply pw_below_drewN)⟩
    ·
     have H1 := H.out
     rw [if_pos ⟨P0.out, P1.out, P2.out⟩] at H1
     clear H
     unfold dlRest at H1
     obtain ⟨⟨x, e⟩, A40, H1⟩ := Option.bind_eq_some_iff.mp H1
     have A4 := Aside0.mk A40
     clear A40
     by_cases c4 : e = 0
     ·
      rw [if_pos c4] at H1
      subst c4
      obtain ⟨v, A50, H1⟩ := Option.bind_eq_some_iff.mp H1
      have A5 := Aside0.mk A50
      clear A50
      cases v with
      | true =>
       rw [if_pos rfl] at H1
       obtain ⟨⟨y, e⟩, A60, H1⟩ := Option.bind_eq_some_iff.mp H1
       have A6 := Aside0.mk A60
       clear A60
       by_cases c5 : e = 0
       ·
        rw [if_pos c5] at H1
        subst c5
        have A7 := Aside0.mk H1
        clear H1
        go_wp2_with fail
        refine (calendar_AddMonths.calls k a1 t0 x 0 _ ?_ A4.out).mono ?_
        ·
         exact GL_lengths.of_below (by repeat (first | exact HB0.out | apply pw_below_drewN | apply below_drew1)) HG.out
        rintro e' w5 ⟨rfl, hb⟩
        have hc1 : w5.cell? ⟨w.heap.size, 1, none⟩ = some (.int .i64 t1) := (hb.cell (p := ⟨w.heap.size, 1, none⟩) (by simp)).trans (dl_cell w _ _ _ _)
        have hc2 : w5.cell? ⟨w.heap.size, 2, none⟩ = some (.int .i64 t2) := (hb.cell (p := ⟨w.heap.size, 2, none⟩) (by simp)).trans (dl_cell w _ _ _ _)
        have HB1 := Aside0.mk (below_step (by repeat (first | exact HB0.out | apply pw_below_drewN | apply below_drew1)) hb)
        clear hb
        go_wp2_with (first | (go_at_call 76; (with_reducible refine (calendar_valid.calls _ true _ A5.out).mono ?_); rintro e' w' ⟨rfl, ⟨nd, rfl⟩⟩) | (go_at_call 78; (with_reducible refine (calendar_add.calls k _ _ l0 _ t2 y 0 _ ?c1 hc0 A6.out).mono ?_); (case c1 => exact Kd.C_below HR.out (by repeat (first | exact HB1.out | apply pw_below_drewN | apply below_drew1))); rintro e' w' ⟨rfl, ⟨nd, rfl⟩⟩) | (go_at_call 79; (with_reducible refine (calendar_next.calls k _ _ l0 y r1 r2 _ ?c1 hc0 A7.out).mono ?_); (case c1 => exact Kd.C_below HR.out (by repeat (first | exact HB1.out | apply pw_below_drewN | apply below_drew1))); rintro e' w' ⟨rfl, ⟨nd, rfl⟩⟩))
        go_ret2
        exact ⟨rfl, (by repeat (first | exact HB1.out | apply pw_below_drewN | apply below_drew1))⟩
       ·
        rw [if_neg c5] at H1
        simp only [Option.some.injEq, Prod.mk.injEq] at H1
        obtain ⟨rfl, rfl⟩ := H1
        have c5b : (e != 0) = true := bne_iff_ne.mpr c5
        go_wp2_with fail
        refine (calendar_AddMonths.calls k a1 t0 x 0 _ ?_ A4.out).mono ?_
        ·
         exact GL_lengths.of_below (by repeat (first | exact HB0.out | apply pw_below_drewN | apply below_drew1)) HG.out
        rintro e' w5 ⟨rfl, hb⟩
        have hc1 : w5.cell? ⟨w.heap.size, 1, none⟩ = some (.int .i64 t1) := (hb.cell (p := ⟨w.heap.size, 1, none⟩) (by simp)).trans (dl_cell w _ _ _ _)
        have hc2 : w5.cell? ⟨w.heap.size, 2, none⟩ = some (.int .i64 t2) := (hb.cell (p := ⟨w.heap.size, 2, none⟩) (by simp)).trans (dl_cell w _ _ _ _)
        have HB1 := Aside0.mk (below_step (by repeat (first | exact HB0.out | apply pw_below_drewN | apply below_drew1)) hb)
        clear hb
        go_wp2_with (first | (go_at_call 76; (with_reducible refine (calendar_valid.calls _ true _ A5.out).mono ?_); rintro e' w' ⟨rfl, ⟨nd, rfl⟩⟩) | (go_at_call 78; (with_reducible refine (calendar_add.calls k _ _ l0 _ t2 y e _ ?c1 hc0 A6.out).mono ?_); (case c1 => exact Kd.C_below HR.out (by repeat (first | exact HB1.out | apply pw_below_drewN | apply below_drew1))); rintro e' w' ⟨rfl, ⟨nd, rfl⟩⟩))
        go_ret2
        exact ⟨rfl, (by repeat (first | exact HB1.out | apply pw_below_drewN | apply below_drew1))⟩
      | false =>
       rw [if_neg (by decide)] at H1
       simp only [Option.some.injEq, Prod.mk.injEq] at H1
       obtain ⟨rfl, rfl⟩ := H1
       go_wp2_with fail
       refine (calendar_AddMonths.calls k a1 t0 x 0 _ ?_ A4.out).mono ?_
       ·
        exact GL_lengths.of_below (by repeat (first | exact HB0.out | apply pw_below_drewN | apply below_drew1)) HG.out
       rintro e' w5 ⟨rfl, hb⟩
       have hc1 : w5.cell? ⟨w.heap.size, 1, none⟩ = some (.int .i64 t1) := (hb.cell (p := ⟨w.heap.size, 1, none⟩) (by simp)).trans (dl_cell w _ _ _ _)
       have hc2 : w5.cell? ⟨w.heap.size, 2, none⟩ = some (.int .i64 t2) := (hb.cell (p := ⟨w.heap.size, 2, none⟩) (by simp)).trans (dl_cell w _ _ _ _)
       have HB1 := Aside0.mk (below_step (by repeat (first | exact HB0.out | apply pw_below_drewN | apply below_drew1)) hb)
       clear hb
       go_wp2_with (first | (go_at_call 76; (with_reducible refine (calendar_valid.calls _ false _ A5.out).mono ?_); rintro e' w' ⟨rfl, ⟨nd, rfl⟩⟩))
       go_ret2
       exact ⟨rfl, (by repeat (first | exact HB1.out | apply pw_below_drewN | apply below_drew1))⟩
     ·
      rw [if_neg c4] at H1
      simp only [Option.some.injEq, Prod.mk.injEq] at H1
      obtain ⟨rfl, rfl⟩ := H1
      have c4b : (e != 0) = true := bne_iff_ne.mpr c4
      go_wp2_with fail
      refine (calendar_AddMonths.calls k a1 t0 x e _ ?_ A4.out).mono ?_
      ·
       exact GL_lengths.of_below (by repeat (first | exact HB0.out | apply pw_below_drewN | apply below_drew1)) HG.out
      rintro e' w5 ⟨rfl, hb⟩
      have hc1 : w5.cell? ⟨w.heap.size, 1, none⟩ = some (.int .i64 t1) := (hb.cell (p := ⟨w.heap.size, 1, none⟩) (by simp)).trans (dl_cell w _ _ _ _)
      have hc2 : w5.cell? ⟨w.heap.size, 2, none⟩ = some (.int .i64 t2) := (hb.cell (p := ⟨w.heap.size, 2, none⟩) (by simp)).trans (dl_cell w _ _ _ _)
      have HB1 := Aside0.mk (below_step (by repeat (first | exact HB0.out | apply pw_below_drewN | apply below_drew1)) hb)
      clear hb
      go_wp2
      go_ret2
      exact ⟨rfl, (by repeat (first | exact HB1.out | apply pw_below_drewN | apply below_drew1))⟩
 ·
  rw [if_neg c1] at h
  simp only [Option.some.injEq, Prod.mk.injEq] at h
  obtain ⟨rfl, rfl⟩ := h
  have c1b : (e != 0) = true := bne_iff_ne.mpr c1
  go_enter Tryd.func71, Tryd.ntmps71
  go_wp2_with (first | (go_at_call 75; (with_reducible refine (calendar_Valid.calls k _ _ l0 e _ ?c1 hc0 A2.out).mono ?_); (case c1 => exact Kd.C_below HR.out HB0.out); rintro e w' ⟨rfl, ⟨nd, rfl⟩⟩))
  go_ret2
  exact ⟨rfl, by repeat (first | exact HB0.out | apply pw_below_drewN)⟩

def procedure_Deadline.f (k : Nat) (a0 : Int) (a1 : Int) (l2 : List Int) : Option (Int × Bool) := (procedure_term.f a0).bind fun bt1062 => (if bt1062.2.2.2 = true then ((calendar_Deadline.f k l2 a1 bt1062.1 bt1062.2.1 bt1062.2.2.1).bind fun bt1067 => (if bt1067.2 = 0 then (some (bt1067.1, true)) else (some (0, false)))) else (some (0, false)))
set_option maxHeartbeats 8000000 in
set_option maxRecDepth 100000 in
theorem procedure_Deadline.calls (k : Nat) (a0 : Int) (a1 : Int) (A2 : Option Addr) (c2 : Nat) (l2 : List Int) (r1 : Int) (r2 : Bool) (w : World) (hr2 : Kd.C (Kd.int .i64) w A2 l2.length l2) (hc2 : l2.length ≤ c2) (hG_lengths : GL_lengths w) (h : procedure_Deadline.f k a0 a1 l2 = some (r1, r2)) :
  Calls Tryd.prog 61 #[.int .i64 a0, .int .i64 a1, .slice A2 l2.length c2] w fun e w' => e = .returned (.tuple #[.int .i64 r1, .bool r2]) ∧ Below w.heap.size w w' := by
 have hu95 := Tryd.underlying95
 have HR2 := Aside0.mk hr2
 have HC2 := Aside0.mk hc2
 clear hr2 hc2
 have HG_lengths := Aside0.mk hG_lengths
 clear hG_lengths
 have HB := Aside0.mk (Below.refl w.heap.size w)
 have H : ((procedure_term.f a0).bind fun bt1062 => (if bt1062.2.2.2 = true then ((calendar_Deadline.f k l2 a1 bt1062.1 bt1062.2.1 bt1062.2.2.1).bind fun bt1067 => (if bt1067.2 = 0 then (some (bt1067.1, true)) else (some (0, false)))) else (some (0, false)))) = some (r1, r2) := h
 clear h
 replace H := Option.bind_eq_some_iff.mp H
 obtain ⟨⟨t1062, t1063, t1064, t1065⟩, A40, H⟩ := H
 replace H : (if t1065 = true then ((calendar_Deadline.f k l2 a1 t1062 t1063 t1064).bind fun bt1067 => (if bt1067.2 = 0 then (some (bt1067.1, true)) else (some (0, false)))) else (some (0, false))) = some (r1, r2) := H
 have A4 := Aside0.mk A40
 clear A40
 by_cases c5 : t1065 = true
 ·
  subst c5
  have H1 : ((calendar_Deadline.f k l2 a1 t1062 t1063 t1064).bind fun bt1067 => (if bt1067.2 = 0 then (some (bt1067.1, true)) else (some (0, false)))) = some (r1, r2) := by rw [if_pos rfl] at H; exact H
  clear H
  have H := H1
  clear H1
  replace H := Option.bind_eq_some_iff.mp H
  obtain ⟨⟨t1067, t1068⟩, A60, H⟩ := H
  replace H : (if t1068 = 0 then (some (t1067, true)) else (some (0, false))) = some (r1, r2) := H
  have A6 := Aside0.mk A60
  clear A60
  by_cases c7 : t1068 = 0
  ·
   rw [if_pos c7] at H
   have c7b0 : (t1068 == 0) = true := beq_iff_eq.mpr c7
   have c7b1 : (t1068 != 0) = false := bne_eq_false_iff_eq.mpr c7
   clear c7
   simp only [Option.some.injEq, Prod.mk.injEq] at H
   obtain ⟨rfl, rfl⟩ := H
   go_enter Tryd.func61, Tryd.ntmps61
   go_wp2_with (first | ((with_reducible refine gate_callee (f := 70) rfl ?_); refine goesL_ (some 14) rfl rfl Tryd.func70 (by kernel_rfl) rfl #[.int .i64 a0] rfl (by (try simp only [List.map_toArray, List.map_cons, List.map_nil]); first | done | rfl | (simp only [List.length_drop, List.length_take]; rfl)) ?_; (with_reducible refine (procedure_term.calls a0 t1062 t1063 t1064 true _ A4.out).mono ?_); rintro e w8 ⟨rfl, hb⟩; refine ⟨_, rfl, ?_⟩; have n0_ := Aside0.mk (below_step (by repeat (first | (with_reducible first | exact HB.out | apply below_alloc | apply pw_below_drewN | apply below_drew1) | exact HB.out)) hb); clear HB; have HB := n0_; clear n0_; (try clear hb); (try clear hb2); (try clear hk); (try clear hi)) | ((with_reducible refine gate_dst (N := 8) rfl ?_); refine box_event ?hg (N := 8) ?hd (cs := #[.int .i64 0, .int .i64 0, .int .i64 0]) (t := 95) ?hr ?_; (case hd => rfl); (case hg => rfl); (case hr => first | (go_simp; done) | (go_simp; rfl)); intro gb1066 hg w9 hbox hb; have n0_ := Aside0.mk (below_step (by repeat (first | (with_reducible first | exact HB.out | apply below_alloc | apply pw_below_drewN | apply below_drew1) | exact HB.out)) hb); have n1_ := Aside0.mk (hbox); have n2_ := Aside0.mk ((by rw [hg]; exact (below_size (by repeat (first | (with_reducible first | exact HB.out | apply below_alloc | apply pw_below_drewN | apply below_drew1) | exact HB.out))) : w.heap.size ≤ gb1066)); have n3_ := Aside0.mk ((by rw [hg]; exact (below_size (by repeat (first | (with_reducible first | exact HB.out | apply below_alloc | apply pw_below_drewN | apply below_drew1) | exact HB.out))) : w.heap.size ≤ gb1066)); clear HB; have HB := n0_; have BK1066 := n1_; have GW1066 := n2_; have GE1066 := n3_; clear n0_ n1_ n2_ n3_; clear hb hbox hg; have hcz10_0 : w9.cell? ⟨gb1066, 0, none⟩ = some (.int .i64 0) := (blk_cell BK1066.out 0).trans rfl; have hcz10_1 : w9.cell? ⟨gb1066, 1, none⟩ = some (.int .i64 0) := (blk_cell BK1066.out 1).trans rfl; have hcz10_2 : w9.cell? ⟨gb1066, 2, none⟩ = some (.int .i64 0) := (blk_cell BK1066.out 2).trans rfl; have hfz10_0 := blk_frozen BK1066.out 0; have hfz10_1 := blk_frozen BK1066.out 1; have hfz10_2 := blk_frozen BK1066.out 2; (try (have hpz10_1 : ∀ v0_ v1_ : Value, ((w9.setCell ⟨gb1066, 0, none⟩ v0_).setCell ⟨gb1066, 1, none⟩ v1_).cell? ⟨gb1066, 1, none⟩ = some v1_ := by (intros; go_simp))); (try (have hpz10_2 : ∀ v0_ v1_ v2_ : Value, (((w9.setCell ⟨gb1066, 0, none⟩ v0_).setCell ⟨gb1066, 1, none⟩ v1_).setCell ⟨gb1066, 2, none⟩ v2_).cell? ⟨gb1066, 2, none⟩ = some v2_ := by (intros; go_simp)))) | ((with_reducible refine gate_callee (f := 71) rfl ?_); refine goesL_ (some 23) rfl rfl Tryd.func71 (by kernel_rfl) rfl #[.slice A2 l2.length c2, .int .i64 a1, .agg #[.int .i64 t1062, .int .i64 t1063, .int .i64 t1064]] rfl (by (try simp only [List.map_toArray, List.map_cons, List.map_nil]); first | done | rfl | (simp only [List.length_drop, List.length_take]; rfl)) ?_; (with_reducible refine (calendar_Deadline.calls k _ _ l2 a1 t1062 t1063 t1064 t1067 t1068 _ ?side1 ?side2 ?side3 A6.out).mono ?_); (case side1 => exact Kd.C_below HR2.out (by repeat (first | (with_reducible first | exact HB.out | apply below_alloc | apply pw_below_drewN | apply below_drew1 | refine below_set ?_ GE1066.out) | exact HB.out))); (case side2 => exact HC2.out); (case side3 => exact GL_lengths.of_below (by repeat (first | (with_reducible first | exact HB.out | apply below_alloc | apply pw_below_drewN | apply below_drew1 | refine below_set ?_ GE1066.out) | exact HB.out)) HG_lengths.out); rintro e w11 ⟨rfl, hb⟩; refine ⟨_, rfl, ?_⟩; have n0_ := Aside0.mk (blk_below (g := gb1066) (o := .cells #[.int .i64 t1062, .int .i64 t1063, .int .i64 t1064] 95 (0, 0)) (by (with_reducible repeat (first | refine blk_drewN ?_ _ | refine blk_drew ?_ | refine blk_alloc ?_ _)); refine blk_put (cs := #[.int .i64 t1062, .int .i64 t1063, .int .i64 0]) ?_ 2 _ rfl; (with_reducible repeat (first | refine blk_drewN ?_ _ | refine blk_drew ?_ | refine blk_alloc ?_ _)); refine blk_put (cs := #[.int .i64 t1062, .int .i64 0, .int .i64 0]) ?_ 1 _ rfl; (with_reducible repeat (first | refine blk_drewN ?_ _ | refine blk_drew ?_ | refine blk_alloc ?_ _)); refine blk_put (cs := #[.int .i64 0, .int .i64 0, .int .i64 0]) ?_ 0 _ rfl; (with_reducible repeat (first | refine blk_drewN ?_ _ | refine blk_drew ?_ | refine blk_alloc ?_ _)); exact BK1066.out) hb); have n1_ := Aside0.mk (below_step (by repeat (first | (with_reducible first | exact HB.out | apply below_alloc | apply pw_below_drewN | apply below_drew1 | refine below_set ?_ GE1066.out) | exact HB.out)) hb); clear BK1066; clear HB; have BK1066 := n0_; have HB := n1_; clear n0_ n1_; (try clear hb); (try clear hb2); (try clear hk); (try clear hi)))
   go_ret2
   exact ⟨by first | rfl | (simp [errW_none, errW_some] <;> rfl) | (simp [*, errW_none, errW_some] <;> rfl), by repeat (first | (with_reducible first | exact HB.out | apply below_alloc | apply pw_below_drewN | apply below_drew1 | refine below_set ?_ GE1066.out) | exact HB.out)⟩
  ·
   rw [if_neg c7] at H
   have c7b0 : (t1068 == 0) = false := beq_eq_false_iff_ne.mpr c7
   have c7b1 : (t1068 != 0) = true := bne_iff_ne.mpr c7
   simp only [Option.some.injEq, Prod.mk.injEq] at H
   obtain ⟨rfl, rfl⟩ := H
   go_enter Tryd.func61, Tryd.ntmps61
   go_wp2_with (first | ((with_reducible refine gate_callee (f := 70) rfl ?_); refine goesL_ (some 14) rfl rfl Tryd.func70 (by kernel_rfl) rfl #[.int .i64 a0] rfl (by (try simp only [List.map_toArray, List.map_cons, List.map_nil]); first | done | rfl | (simp only [List.length_drop, List.length_take]; rfl)) ?_; (with_reducible refine (procedure_term.calls a0 t1062 t1063 t1064 true _ A4.out).mono ?_); rintro e w12 ⟨rfl, hb⟩; refine ⟨_, rfl, ?_⟩; have n0_ := Aside0.mk (below_step (by repeat (first | (with_reducible first | exact HB.out | apply below_alloc | apply pw_below_drewN | apply below_drew1) | exact HB.out)) hb); clear HB; have HB := n0_; clear n0_; (try clear hb); (try clear hb2); (try clear hk); (try clear hi)) | ((with_reducible refine gate_dst (N := 8) rfl ?_); refine box_event ?hg (N := 8) ?hd (cs := #[.int .i64 0, .int .i64 0, .int .i64 0]) (t := 95) ?hr ?_; (case hd => rfl); (case hg => rfl); (case hr => first | (go_simp; done) | (go_simp; rfl)); intro gb1066 hg w13 hbox hb; have n0_ := Aside0.mk (below_step (by repeat (first | (with_reducible first | exact HB.out | apply below_alloc | apply pw_below_drewN | apply below_drew1) | exact HB.out)) hb); have n1_ := Aside0.mk (hbox); have n2_ := Aside0.mk ((by rw [hg]; exact (below_size (by repeat (first | (with_reducible first | exact HB.out | apply below_alloc | apply pw_below_drewN | apply below_drew1) | exact HB.out))) : w.heap.size ≤ gb1066)); have n3_ := Aside0.mk ((by rw [hg]; exact (below_size (by repeat (first | (with_reducible first | exact HB.out | apply below_alloc | apply pw_below_drewN | apply below_drew1) | exact HB.out))) : w.heap.size ≤ gb1066)); clear HB; have HB := n0_; have BK1066 := n1_; have GW1066 := n2_; have GE1066 := n3_; clear n0_ n1_ n2_ n3_; clear hb hbox hg; have hcz14_0 : w13.cell? ⟨gb1066, 0, none⟩ = some (.int .i64 0) := (blk_cell BK1066.out 0).trans rfl; have hcz14_1 : w13.cell? ⟨gb1066, 1, none⟩ = some (.int .i64 0) := (blk_cell BK1066.out 1).trans rfl; have hcz14_2 : w13.cell? ⟨gb1066, 2, none⟩ = some (.int .i64 0) := (blk_cell BK1066.out 2).trans rfl; have hfz14_0 := blk_frozen BK1066.out 0; have hfz14_1 := blk_frozen BK1066.out 1; have hfz14_2 := blk_frozen BK1066.out 2; (try (have hpz14_1 : ∀ v0_ v1_ : Value, ((w13.setCell ⟨gb1066, 0, none⟩ v0_).setCell ⟨gb1066, 1, none⟩ v1_).cell? ⟨gb1066, 1, none⟩ = some v1_ := by (intros; go_simp))); (try (have hpz14_2 : ∀ v0_ v1_ v2_ : Value, (((w13.setCell ⟨gb1066, 0, none⟩ v0_).setCell ⟨gb1066, 1, none⟩ v1_).setCell ⟨gb1066, 2, none⟩ v2_).cell? ⟨gb1066, 2, none⟩ = some v2_ := by (intros; go_simp)))) | ((with_reducible refine gate_callee (f := 71) rfl ?_); refine goesL_ (some 23) rfl rfl Tryd.func71 (by kernel_rfl) rfl #[.slice A2 l2.length c2, .int .i64 a1, .agg #[.int .i64 t1062, .int .i64 t1063, .int .i64 t1064]] rfl (by (try simp only [List.map_toArray, List.map_cons, List.map_nil]); first | done | rfl | (simp only [List.length_drop, List.length_take]; rfl)) ?_; (with_reducible refine (calendar_Deadline.calls k _ _ l2 a1 t1062 t1063 t1064 t1067 t1068 _ ?side1 ?side2 ?side3 A6.out).mono ?_); (case side1 => exact Kd.C_below HR2.out (by repeat (first | (with_reducible first | exact HB.out | apply below_alloc | apply pw_below_drewN | apply below_drew1 | refine below_set ?_ GE1066.out) | exact HB.out))); (case side2 => exact HC2.out); (case side3 => exact GL_lengths.of_below (by repeat (first | (with_reducible first | exact HB.out | apply below_alloc | apply pw_below_drewN | apply below_drew1 | refine below_set ?_ GE1066.out) | exact HB.out)) HG_lengths.out); rintro e w15 ⟨rfl, hb⟩; refine ⟨_, rfl, ?_⟩; have n0_ := Aside0.mk (blk_below (g := gb1066) (o := .cells #[.int .i64 t1062, .int .i64 t1063, .int .i64 t1064] 95 (0, 0)) (by (with_reducible repeat (first | refine blk_drewN ?_ _ | refine blk_drew ?_ | refine blk_alloc ?_ _)); refine blk_put (cs := #[.int .i64 t1062, .int .i64 t1063, .int .i64 0]) ?_ 2 _ rfl; (with_reducible repeat (first | refine blk_drewN ?_ _ | refine blk_drew ?_ | refine blk_alloc ?_ _)); refine blk_put (cs := #[.int .i64 t1062, .int .i64 0, .int .i64 0]) ?_ 1 _ rfl; (with_reducible repeat (first | refine blk_drewN ?_ _ | refine blk_drew ?_ | refine blk_alloc ?_ _)); refine blk_put (cs := #[.int .i64 0, .int .i64 0, .int .i64 0]) ?_ 0 _ rfl; (with_reducible repeat (first | refine blk_drewN ?_ _ | refine blk_drew ?_ | refine blk_alloc ?_ _)); exact BK1066.out) hb); have n1_ := Aside0.mk (below_step (by repeat (first | (with_reducible first | exact HB.out | apply below_alloc | apply pw_below_drewN | apply below_drew1 | refine below_set ?_ GE1066.out) | exact HB.out)) hb); clear BK1066; clear HB; have BK1066 := n0_; have HB := n1_; clear n0_ n1_; (try clear hb); (try clear hb2); (try clear hk); (try clear hi)))
   go_ret2
   exact ⟨by first | rfl | (simp [errW_none, errW_some] <;> rfl) | (simp [*, errW_none, errW_some] <;> rfl), by repeat (first | (with_reducible first | exact HB.out | apply below_alloc | apply pw_below_drewN | apply below_drew1 | refine below_set ?_ GE1066.out) | exact HB.out)⟩
 ·
  replace c5 := Bool.eq_false_iff.mpr c5
  subst c5
  have H1 : (some (0, false)) = some (r1, r2) := by rw [if_neg (show ¬ (false = true) by decide)] at H; exact H
  clear H
  have H := H1
  clear H1
  simp only [Option.some.injEq, Prod.mk.injEq] at H
  obtain ⟨rfl, rfl⟩ := H
  go_enter Tryd.func61, Tryd.ntmps61
  go_wp2_with (first | ((with_reducible refine gate_callee (f := 70) rfl ?_); refine goesL_ (some 14) rfl rfl Tryd.func70 (by kernel_rfl) rfl #[.int .i64 a0] rfl (by (try simp only [List.map_toArray, List.map_cons, List.map_nil]); first | done | rfl | (simp only [List.length_drop, List.length_take]; rfl)) ?_; (with_reducible refine (procedure_term.calls a0 t1062 t1063 t1064 false _ A4.out).mono ?_); rintro e w16 ⟨rfl, hb⟩; refine ⟨_, rfl, ?_⟩; have n0_ := Aside0.mk (below_step (by repeat (first | (with_reducible first | exact HB.out | apply below_alloc | apply pw_below_drewN | apply below_drew1) | exact HB.out)) hb); clear HB; have HB := n0_; clear n0_; (try clear hb); (try clear hb2); (try clear hk); (try clear hi)) | ((with_reducible refine gate_dst (N := 8) rfl ?_); refine box_event ?hg (N := 8) ?hd (cs := #[.int .i64 0, .int .i64 0, .int .i64 0]) (t := 95) ?hr ?_; (case hd => rfl); (case hg => rfl); (case hr => first | (go_simp; done) | (go_simp; rfl)); intro gb1066 hg w17 hbox hb; have n0_ := Aside0.mk (below_step (by repeat (first | (with_reducible first | exact HB.out | apply below_alloc | apply pw_below_drewN | apply below_drew1) | exact HB.out)) hb); have n1_ := Aside0.mk (hbox); have n2_ := Aside0.mk ((by rw [hg]; exact (below_size (by repeat (first | (with_reducible first | exact HB.out | apply below_alloc | apply pw_below_drewN | apply below_drew1) | exact HB.out))) : w.heap.size ≤ gb1066)); have n3_ := Aside0.mk ((by rw [hg]; exact (below_size (by repeat (first | (with_reducible first | exact HB.out | apply below_alloc | apply pw_below_drewN | apply below_drew1) | exact HB.out))) : w.heap.size ≤ gb1066)); clear HB; have HB := n0_; have BK1066 := n1_; have GW1066 := n2_; have GE1066 := n3_; clear n0_ n1_ n2_ n3_; clear hb hbox hg; have hcz18_0 : w17.cell? ⟨gb1066, 0, none⟩ = some (.int .i64 0) := (blk_cell BK1066.out 0).trans rfl; have hcz18_1 : w17.cell? ⟨gb1066, 1, none⟩ = some (.int .i64 0) := (blk_cell BK1066.out 1).trans rfl; have hcz18_2 : w17.cell? ⟨gb1066, 2, none⟩ = some (.int .i64 0) := (blk_cell BK1066.out 2).trans rfl; have hfz18_0 := blk_frozen BK1066.out 0; have hfz18_1 := blk_frozen BK1066.out 1; have hfz18_2 := blk_frozen BK1066.out 2; (try (have hpz18_1 : ∀ v0_ v1_ : Value, ((w17.setCell ⟨gb1066, 0, none⟩ v0_).setCell ⟨gb1066, 1, none⟩ v1_).cell? ⟨gb1066, 1, none⟩ = some v1_ := by (intros; go_simp))); (try (have hpz18_2 : ∀ v0_ v1_ v2_ : Value, (((w17.setCell ⟨gb1066, 0, none⟩ v0_).setCell ⟨gb1066, 1, none⟩ v1_).setCell ⟨gb1066, 2, none⟩ v2_).cell? ⟨gb1066, 2, none⟩ = some v2_ := by (intros; go_simp)))))
  go_ret2
  exact ⟨by first | rfl | (simp [errW_none, errW_some] <;> rfl) | (simp [*, errW_none, errW_some] <;> rfl), by repeat (first | (with_reducible first | exact HB.out | apply below_alloc | apply pw_below_drewN | apply below_drew1 | refine below_set ?_ GE1066.out) | exact HB.out)⟩

def transit_Overdue.f (k : Nat) (a0_0 : Int) (a0_1 : Int) (a0_2 : Int) (a0_3 : Int) (a0_4 : Int) (a0_5 : Int) (a0_6 : Int) (a0_7 : Int) (a0_8 : Int) (a0_9 : Int) (l0_10 : List Int) (a1 : Int) (l2 : List Int) : Option (Bool) := (procedure_Deadline.f k 2 a0_4 l2).bind fun bt1070 => (if a0_5 = 3 then (if bt1070.2 = true then (some (decide (a1 > bt1070.1))) else (some false)) else (some false))
set_option maxHeartbeats 8000000 in
set_option maxRecDepth 100000 in
theorem transit_Overdue.calls (k : Nat) (a0_0 : Int) (a0_1 : Int) (a0_2 : Int) (a0_3 : Int) (a0_4 : Int) (a0_5 : Int) (a0_6 : Int) (a0_7 : Int) (a0_8 : Int) (a0_9 : Int) (A0_10 : Option Addr) (c0_10 : Nat) (l0_10 : List Int) (a1 : Int) (A2 : Option Addr) (c2 : Nat) (l2 : List Int) (r : Bool) (w : World) (hr0_10 : Kd.C (Kd.int .i64) w A0_10 l0_10.length l0_10) (hc0_10 : l0_10.length ≤ c0_10) (hr2 : Kd.C (Kd.int .i64) w A2 l2.length l2) (hc2 : l2.length ≤ c2) (hG_lengths : GL_lengths w) (h : transit_Overdue.f k a0_0 a0_1 a0_2 a0_3 a0_4 a0_5 a0_6 a0_7 a0_8 a0_9 l0_10 a1 l2 = some r) :
  Calls Tryd.prog 36 #[.agg #[.int .i64 a0_0, .int .i64 a0_1, .int .i64 a0_2, .int .i64 a0_3, .int .i64 a0_4, .int .i64 a0_5, .int .i64 a0_6, .int .i64 a0_7, .int .i64 a0_8, .int .i64 a0_9, .slice A0_10 l0_10.length c0_10], .int .i64 a1, .slice A2 l2.length c2] w fun e w' => e = .returned (.bool r) ∧ Below w.heap.size w w' := by
 have hu38 := Tryd.underlying38
 have HR0_10 := Aside0.mk hr0_10
 have HC0_10 := Aside0.mk hc0_10
 clear hr0_10 hc0_10
 have HR2 := Aside0.mk hr2
 have HC2 := Aside0.mk hc2
 clear hr2 hc2
 have HG_lengths := Aside0.mk hG_lengths
 clear hG_lengths
 have HB := Aside0.mk (Below.refl w.heap.size w)
 have H : ((procedure_Deadline.f k 2 a0_4 l2).bind fun bt1070 => (if a0_5 = 3 then (if bt1070.2 = true then (some (decide (a1 > bt1070.1))) else (some false)) else (some false))) = some r := h
 clear h
 replace H := Option.bind_eq_some_iff.mp H
 obtain ⟨⟨t1070, t1071⟩, A40, H⟩ := H
 replace H : (if a0_5 = 3 then (if t1071 = true then (some (decide (a1 > t1070))) else (some false)) else (some false)) = some r := H
 have A4 := Aside0.mk A40
 clear A40
 by_cases c5 : a0_5 = 3
 ·
  rw [if_pos c5] at H
  have c5b0 : (a0_5 == 3) = true := beq_iff_eq.mpr c5
  have c5b1 : (a0_5 != 3) = false := bne_eq_false_iff_eq.mpr c5
  clear c5
  by_cases c6 : t1071 = true
  ·
   subst c6
   have H1 : (some (decide (a1 > t1070))) = some r := by rw [if_pos rfl] at H; exact H
   clear H
   have H := H1
   clear H1
   obtain rfl := Option.some.inj H
   go_enter Tryd.func36, Tryd.ntmps36
   go_wp2_with (first | ((with_reducible refine gate_dst (N := 3) rfl ?_); refine box_event ?hg (N := 3) ?hd (cs := #[.int .i64 a0_0, .int .i64 a0_1, .int .i64 a0_2, .int .i64 a0_3, .int .i64 a0_4, .int .i64 a0_5, .int .i64 a0_6, .int .i64 a0_7, .int .i64 a0_8, .int .i64 a0_9, .slice A0_10 l0_10.length c0_10]) (t := 38) ?hr ?_; (case hd => rfl); (case hg => rfl); (case hr => first | (go_simp; done) | (go_simp; rfl)); intro gb1069 hg w7 hbox hb; have n0_ := Aside0.mk (below_step HB.out hb); have n1_ := Aside0.mk (hbox); have n2_ := Aside0.mk ((by rw [hg]; exact (below_size HB.out) : w.heap.size ≤ gb1069)); have n3_ := Aside0.mk ((by rw [hg]; exact (below_size HB.out) : w.heap.size ≤ gb1069)); clear HB; have HB := n0_; have BK1069 := n1_; have GW1069 := n2_; have GE1069 := n3_; clear n0_ n1_ n2_ n3_; clear hb hbox hg; have hcz8_0 : w7.cell? ⟨gb1069, 0, none⟩ = some (.int .i64 a0_0) := (blk_cell BK1069.out 0).trans rfl; have hcz8_1 : w7.cell? ⟨gb1069, 1, none⟩ = some (.int .i64 a0_1) := (blk_cell BK1069.out 1).trans rfl; have hcz8_2 : w7.cell? ⟨gb1069, 2, none⟩ = some (.int .i64 a0_2) := (blk_cell BK1069.out 2).trans rfl; have hcz8_3 : w7.cell? ⟨gb1069, 3, none⟩ = some (.int .i64 a0_3) := (blk_cell BK1069.out 3).trans rfl; have hcz8_4 : w7.cell? ⟨gb1069, 4, none⟩ = some (.int .i64 a0_4) := (blk_cell BK1069.out 4).trans rfl; have hcz8_5 : w7.cell? ⟨gb1069, 5, none⟩ = some (.int .i64 a0_5) := (blk_cell BK1069.out 5).trans rfl; have hcz8_6 : w7.cell? ⟨gb1069, 6, none⟩ = some (.int .i64 a0_6) := (blk_cell BK1069.out 6).trans rfl; have hcz8_7 : w7.cell? ⟨gb1069, 7, none⟩ = some (.int .i64 a0_7) := (blk_cell BK1069.out 7).trans rfl; have hcz8_8 : w7.cell? ⟨gb1069, 8, none⟩ = some (.int .i64 a0_8) := (blk_cell BK1069.out 8).trans rfl; have hcz8_9 : w7.cell? ⟨gb1069, 9, none⟩ = some (.int .i64 a0_9) := (blk_cell BK1069.out 9).trans rfl; have hcz8_10 : w7.cell? ⟨gb1069, 10, none⟩ = some (.slice A0_10 l0_10.length c0_10) := (blk_cell BK1069.out 10).trans rfl; have hfz8_0 := blk_frozen BK1069.out 0; have hfz8_1 := blk_frozen BK1069.out 1; have hfz8_2 := blk_frozen BK1069.out 2; have hfz8_3 := blk_frozen BK1069.out 3; have hfz8_4 := blk_frozen BK1069.out 4; have hfz8_5 := blk_frozen BK1069.out 5; have hfz8_6 := blk_frozen BK1069.out 6; have hfz8_7 := blk_frozen BK1069.out 7; have hfz8_8 := blk_frozen BK1069.out 8; have hfz8_9 := blk_frozen BK1069.out 9; have hfz8_10 := blk_frozen BK1069.out 10) | ((with_reducible refine gate_callee (f := 61) rfl ?_); refine goesL_ (some 13) rfl rfl Tryd.func61 (by kernel_rfl) rfl #[.int .i64 2, .int .i64 a0_4, .slice A2 l2.length c2] rfl (by (try simp only [List.map_toArray, List.map_cons, List.map_nil]); first | done | rfl | (simp only [List.length_drop, List.length_take]; rfl)) ?_; (with_reducible refine (procedure_Deadline.calls k 2 a0_4 _ _ l2 t1070 true _ ?side1 ?side2 ?side3 A4.out).mono ?_); (case side1 => repeat (first | exact (Kd.C_below HR2.out HB.out) | (with_reducible refine Kd.C_alloc ?_ _) | (with_reducible refine Kd.C_drewN ?_ _) | (with_reducible refine Kd.C_drew ?_))); (case side2 => exact HC2.out); (case side3 => exact GL_lengths.of_below (by repeat (first | (with_reducible first | exact HB.out | apply below_alloc | apply pw_below_drewN | apply below_drew1 | refine below_set ?_ GE1069.out) | exact HB.out)) HG_lengths.out); rintro e w9 ⟨rfl, hb⟩; refine ⟨_, rfl, ?_⟩; have n0_ := Aside0.mk (blk_below (g := gb1069) (o := .cells #[.int .i64 a0_0, .int .i64 a0_1, .int .i64 a0_2, .int .i64 a0_3, .int .i64 a0_4, .int .i64 a0_5, .int .i64 a0_6, .int .i64 a0_7, .int .i64 a0_8, .int .i64 a0_9, .slice A0_10 l0_10.length c0_10] 38 (0, 0)) (by (with_reducible repeat (first | refine blk_drewN ?_ _ | refine blk_drew ?_ | refine blk_alloc ?_ _)); exact BK1069.out) hb); have n1_ := Aside0.mk (below_step (by repeat (first | (with_reducible first | exact HB.out | apply below_alloc | apply pw_below_drewN | apply below_drew1 | refine below_set ?_ GE1069.out) | exact HB.out)) hb); clear BK1069; clear HB; have BK1069 := n0_; have HB := n1_; clear n0_ n1_; (try clear hb); (try clear hb2); (try clear hk); (try clear hi); have hcz10_0 : w9.cell? ⟨gb1069, 0, none⟩ = some (.int .i64 a0_0) := (blk_cell BK1069.out 0).trans rfl; have hcz10_1 : w9.cell? ⟨gb1069, 1, none⟩ = some (.int .i64 a0_1) := (blk_cell BK1069.out 1).trans rfl; have hcz10_2 : w9.cell? ⟨gb1069, 2, none⟩ = some (.int .i64 a0_2) := (blk_cell BK1069.out 2).trans rfl; have hcz10_3 : w9.cell? ⟨gb1069, 3, none⟩ = some (.int .i64 a0_3) := (blk_cell BK1069.out 3).trans rfl; have hcz10_4 : w9.cell? ⟨gb1069, 4, none⟩ = some (.int .i64 a0_4) := (blk_cell BK1069.out 4).trans rfl; have hcz10_5 : w9.cell? ⟨gb1069, 5, none⟩ = some (.int .i64 a0_5) := (blk_cell BK1069.out 5).trans rfl; have hcz10_6 : w9.cell? ⟨gb1069, 6, none⟩ = some (.int .i64 a0_6) := (blk_cell BK1069.out 6).trans rfl; have hcz10_7 : w9.cell? ⟨gb1069, 7, none⟩ = some (.int .i64 a0_7) := (blk_cell BK1069.out 7).trans rfl; have hcz10_8 : w9.cell? ⟨gb1069, 8, none⟩ = some (.int .i64 a0_8) := (blk_cell BK1069.out 8).trans rfl; have hcz10_9 : w9.cell? ⟨gb1069, 9, none⟩ = some (.int .i64 a0_9) := (blk_cell BK1069.out 9).trans rfl; have hcz10_10 : w9.cell? ⟨gb1069, 10, none⟩ = some (.slice A0_10 l0_10.length c0_10) := (blk_cell BK1069.out 10).trans rfl; have hfz10_0 := blk_frozen BK1069.out 0; have hfz10_1 := blk_frozen BK1069.out 1; have hfz10_2 := blk_frozen BK1069.out 2; have hfz10_3 := blk_frozen BK1069.out 3; have hfz10_4 := blk_frozen BK1069.out 4; have hfz10_5 := blk_frozen BK1069.out 5; have hfz10_6 := blk_frozen BK1069.out 6; have hfz10_7 := blk_frozen BK1069.out 7; have hfz10_8 := blk_frozen BK1069.out 8; have hfz10_9 := blk_frozen BK1069.out 9; have hfz10_10 := blk_frozen BK1069.out 10))
   go_ret
   exact ⟨by first | rfl | (simp [errW_none, errW_some] <;> rfl) | (simp [*, errW_none, errW_some] <;> rfl), by repeat (first | (with_reducible first | exact HB.out | apply below_alloc | apply pw_below_drewN | apply below_drew1 | refine below_set ?_ GE1069.out) | exact HB.out)⟩
  ·
   replace c6 := Bool.eq_false_iff.mpr c6
   subst c6
   have H1 : (some false) = some r := by rw [if_neg (show ¬ (false = true) by decide)] at H; exact H
   clear H
   have H := H1
   clear H1
   obtain rfl := Option.some.inj H
   go_enter Tryd.func36, Tryd.ntmps36
   go_wp2_with (first | ((with_reducible refine gate_dst (N := 3) rfl ?_); refine box_event ?hg (N := 3) ?hd (cs := #[.int .i64 a0_0, .int .i64 a0_1, .int .i64 a0_2, .int .i64 a0_3, .int .i64 a0_4, .int .i64 a0_5, .int .i64 a0_6, .int .i64 a0_7, .int .i64 a0_8, .int .i64 a0_9, .slice A0_10 l0_10.length c0_10]) (t := 38) ?hr ?_; (case hd => rfl); (case hg => rfl); (case hr => first | (go_simp; done) | (go_simp; rfl)); intro gb1069 hg w11 hbox hb; have n0_ := Aside0.mk (below_step HB.out hb); have n1_ := Aside0.mk (hbox); have n2_ := Aside0.mk ((by rw [hg]; exact (below_size HB.out) : w.heap.size ≤ gb1069)); have n3_ := Aside0.mk ((by rw [hg]; exact (below_size HB.out) : w.heap.size ≤ gb1069)); clear HB; have HB := n0_; have BK1069 := n1_; have GW1069 := n2_; have GE1069 := n3_; clear n0_ n1_ n2_ n3_; clear hb hbox hg; have hcz12_0 : w11.cell? ⟨gb1069, 0, none⟩ = some (.int .i64 a0_0) := (blk_cell BK1069.out 0).trans rfl; have hcz12_1 : w11.cell? ⟨gb1069, 1, none⟩ = some (.int .i64 a0_1) := (blk_cell BK1069.out 1).trans rfl; have hcz12_2 : w11.cell? ⟨gb1069, 2, none⟩ = some (.int .i64 a0_2) := (blk_cell BK1069.out 2).trans rfl; have hcz12_3 : w11.cell? ⟨gb1069, 3, none⟩ = some (.int .i64 a0_3) := (blk_cell BK1069.out 3).trans rfl; have hcz12_4 : w11.cell? ⟨gb1069, 4, none⟩ = some (.int .i64 a0_4) := (blk_cell BK1069.out 4).trans rfl; have hcz12_5 : w11.cell? ⟨gb1069, 5, none⟩ = some (.int .i64 a0_5) := (blk_cell BK1069.out 5).trans rfl; have hcz12_6 : w11.cell? ⟨gb1069, 6, none⟩ = some (.int .i64 a0_6) := (blk_cell BK1069.out 6).trans rfl; have hcz12_7 : w11.cell? ⟨gb1069, 7, none⟩ = some (.int .i64 a0_7) := (blk_cell BK1069.out 7).trans rfl; have hcz12_8 : w11.cell? ⟨gb1069, 8, none⟩ = some (.int .i64 a0_8) := (blk_cell BK1069.out 8).trans rfl; have hcz12_9 : w11.cell? ⟨gb1069, 9, none⟩ = some (.int .i64 a0_9) := (blk_cell BK1069.out 9).trans rfl; have hcz12_10 : w11.cell? ⟨gb1069, 10, none⟩ = some (.slice A0_10 l0_10.length c0_10) := (blk_cell BK1069.out 10).trans rfl; have hfz12_0 := blk_frozen BK1069.out 0; have hfz12_1 := blk_frozen BK1069.out 1; have hfz12_2 := blk_frozen BK1069.out 2; have hfz12_3 := blk_frozen BK1069.out 3; have hfz12_4 := blk_frozen BK1069.out 4; have hfz12_5 := blk_frozen BK1069.out 5; have hfz12_6 := blk_frozen BK1069.out 6; have hfz12_7 := blk_frozen BK1069.out 7; have hfz12_8 := blk_frozen BK1069.out 8; have hfz12_9 := blk_frozen BK1069.out 9; have hfz12_10 := blk_frozen BK1069.out 10) | ((with_reducible refine gate_callee (f := 61) rfl ?_); refine goesL_ (some 13) rfl rfl Tryd.func61 (by kernel_rfl) rfl #[.int .i64 2, .int .i64 a0_4, .slice A2 l2.length c2] rfl (by (try simp only [List.map_toArray, List.map_cons, List.map_nil]); first | done | rfl | (simp only [List.length_drop, List.length_take]; rfl)) ?_; (with_reducible refine (procedure_Deadline.calls k 2 a0_4 _ _ l2 t1070 false _ ?side1 ?side2 ?side3 A4.out).mono ?_); (case side1 => repeat (first | exact (Kd.C_below HR2.out HB.out) | (with_reducible refine Kd.C_alloc ?_ _) | (with_reducible refine Kd.C_drewN ?_ _) | (with_reducible refine Kd.C_drew ?_))); (case side2 => exact HC2.out); (case side3 => exact GL_lengths.of_below (by repeat (first | (with_reducible first | exact HB.out | apply below_alloc | apply pw_below_drewN | apply below_drew1 | refine below_set ?_ GE1069.out) | exact HB.out)) HG_lengths.out); rintro e w13 ⟨rfl, hb⟩; refine ⟨_, rfl, ?_⟩; have n0_ := Aside0.mk (blk_below (g := gb1069) (o := .cells #[.int .i64 a0_0, .int .i64 a0_1, .int .i64 a0_2, .int .i64 a0_3, .int .i64 a0_4, .int .i64 a0_5, .int .i64 a0_6, .int .i64 a0_7, .int .i64 a0_8, .int .i64 a0_9, .slice A0_10 l0_10.length c0_10] 38 (0, 0)) (by (with_reducible repeat (first | refine blk_drewN ?_ _ | refine blk_drew ?_ | refine blk_alloc ?_ _)); exact BK1069.out) hb); have n1_ := Aside0.mk (below_step (by repeat (first | (with_reducible first | exact HB.out | apply below_alloc | apply pw_below_drewN | apply below_drew1 | refine below_set ?_ GE1069.out) | exact HB.out)) hb); clear BK1069; clear HB; have BK1069 := n0_; have HB := n1_; clear n0_ n1_; (try clear hb); (try clear hb2); (try clear hk); (try clear hi); have hcz14_0 : w13.cell? ⟨gb1069, 0, none⟩ = some (.int .i64 a0_0) := (blk_cell BK1069.out 0).trans rfl; have hcz14_1 : w13.cell? ⟨gb1069, 1, none⟩ = some (.int .i64 a0_1) := (blk_cell BK1069.out 1).trans rfl; have hcz14_2 : w13.cell? ⟨gb1069, 2, none⟩ = some (.int .i64 a0_2) := (blk_cell BK1069.out 2).trans rfl; have hcz14_3 : w13.cell? ⟨gb1069, 3, none⟩ = some (.int .i64 a0_3) := (blk_cell BK1069.out 3).trans rfl; have hcz14_4 : w13.cell? ⟨gb1069, 4, none⟩ = some (.int .i64 a0_4) := (blk_cell BK1069.out 4).trans rfl; have hcz14_5 : w13.cell? ⟨gb1069, 5, none⟩ = some (.int .i64 a0_5) := (blk_cell BK1069.out 5).trans rfl; have hcz14_6 : w13.cell? ⟨gb1069, 6, none⟩ = some (.int .i64 a0_6) := (blk_cell BK1069.out 6).trans rfl; have hcz14_7 : w13.cell? ⟨gb1069, 7, none⟩ = some (.int .i64 a0_7) := (blk_cell BK1069.out 7).trans rfl; have hcz14_8 : w13.cell? ⟨gb1069, 8, none⟩ = some (.int .i64 a0_8) := (blk_cell BK1069.out 8).trans rfl; have hcz14_9 : w13.cell? ⟨gb1069, 9, none⟩ = some (.int .i64 a0_9) := (blk_cell BK1069.out 9).trans rfl; have hcz14_10 : w13.cell? ⟨gb1069, 10, none⟩ = some (.slice A0_10 l0_10.length c0_10) := (blk_cell BK1069.out 10).trans rfl; have hfz14_0 := blk_frozen BK1069.out 0; have hfz14_1 := blk_frozen BK1069.out 1; have hfz14_2 := blk_frozen BK1069.out 2; have hfz14_3 := blk_frozen BK1069.out 3; have hfz14_4 := blk_frozen BK1069.out 4; have hfz14_5 := blk_frozen BK1069.out 5; have hfz14_6 := blk_frozen BK1069.out 6; have hfz14_7 := blk_frozen BK1069.out 7; have hfz14_8 := blk_frozen BK1069.out 8; have hfz14_9 := blk_frozen BK1069.out 9; have hfz14_10 := blk_frozen BK1069.out 10))
   go_ret
   exact ⟨by first | rfl | (simp [errW_none, errW_some] <;> rfl) | (simp [*, errW_none, errW_some] <;> rfl), by repeat (first | (with_reducible first | exact HB.out | apply below_alloc | apply pw_below_drewN | apply below_drew1 | refine below_set ?_ GE1069.out) | exact HB.out)⟩
 ·
  rw [if_neg c5] at H
  have c5b0 : (a0_5 == 3) = false := beq_eq_false_iff_ne.mpr c5
  have c5b1 : (a0_5 != 3) = true := bne_iff_ne.mpr c5
  obtain rfl := Option.some.inj H
  go_enter Tryd.func36, Tryd.ntmps36
  go_wp2_with (first | ((with_reducible refine gate_dst (N := 3) rfl ?_); refine box_event ?hg (N := 3) ?hd (cs := #[.int .i64 a0_0, .int .i64 a0_1, .int .i64 a0_2, .int .i64 a0_3, .int .i64 a0_4, .int .i64 a0_5, .int .i64 a0_6, .int .i64 a0_7, .int .i64 a0_8, .int .i64 a0_9, .slice A0_10 l0_10.length c0_10]) (t := 38) ?hr ?_; (case hd => rfl); (case hg => rfl); (case hr => first | (go_simp; done) | (go_simp; rfl)); intro gb1069 hg w15 hbox hb; have n0_ := Aside0.mk (below_step HB.out hb); have n1_ := Aside0.mk (hbox); have n2_ := Aside0.mk ((by rw [hg]; exact (below_size HB.out) : w.heap.size ≤ gb1069)); have n3_ := Aside0.mk ((by rw [hg]; exact (below_size HB.out) : w.heap.size ≤ gb1069)); clear HB; have HB := n0_; have BK1069 := n1_; have GW1069 := n2_; have GE1069 := n3_; clear n0_ n1_ n2_ n3_; clear hb hbox hg; have hcz16_0 : w15.cell? ⟨gb1069, 0, none⟩ = some (.int .i64 a0_0) := (blk_cell BK1069.out 0).trans rfl; have hcz16_1 : w15.cell? ⟨gb1069, 1, none⟩ = some (.int .i64 a0_1) := (blk_cell BK1069.out 1).trans rfl; have hcz16_2 : w15.cell? ⟨gb1069, 2, none⟩ = some (.int .i64 a0_2) := (blk_cell BK1069.out 2).trans rfl; have hcz16_3 : w15.cell? ⟨gb1069, 3, none⟩ = some (.int .i64 a0_3) := (blk_cell BK1069.out 3).trans rfl; have hcz16_4 : w15.cell? ⟨gb1069, 4, none⟩ = some (.int .i64 a0_4) := (blk_cell BK1069.out 4).trans rfl; have hcz16_5 : w15.cell? ⟨gb1069, 5, none⟩ = some (.int .i64 a0_5) := (blk_cell BK1069.out 5).trans rfl; have hcz16_6 : w15.cell? ⟨gb1069, 6, none⟩ = some (.int .i64 a0_6) := (blk_cell BK1069.out 6).trans rfl; have hcz16_7 : w15.cell? ⟨gb1069, 7, none⟩ = some (.int .i64 a0_7) := (blk_cell BK1069.out 7).trans rfl; have hcz16_8 : w15.cell? ⟨gb1069, 8, none⟩ = some (.int .i64 a0_8) := (blk_cell BK1069.out 8).trans rfl; have hcz16_9 : w15.cell? ⟨gb1069, 9, none⟩ = some (.int .i64 a0_9) := (blk_cell BK1069.out 9).trans rfl; have hcz16_10 : w15.cell? ⟨gb1069, 10, none⟩ = some (.slice A0_10 l0_10.length c0_10) := (blk_cell BK1069.out 10).trans rfl; have hfz16_0 := blk_frozen BK1069.out 0; have hfz16_1 := blk_frozen BK1069.out 1; have hfz16_2 := blk_frozen BK1069.out 2; have hfz16_3 := blk_frozen BK1069.out 3; have hfz16_4 := blk_frozen BK1069.out 4; have hfz16_5 := blk_frozen BK1069.out 5; have hfz16_6 := blk_frozen BK1069.out 6; have hfz16_7 := blk_frozen BK1069.out 7; have hfz16_8 := blk_frozen BK1069.out 8; have hfz16_9 := blk_frozen BK1069.out 9; have hfz16_10 := blk_frozen BK1069.out 10) | ((with_reducible refine gate_callee (f := 61) rfl ?_); refine goesL_ (some 13) rfl rfl Tryd.func61 (by kernel_rfl) rfl #[.int .i64 2, .int .i64 a0_4, .slice A2 l2.length c2] rfl (by (try simp only [List.map_toArray, List.map_cons, List.map_nil]); first | done | rfl | (simp only [List.length_drop, List.length_take]; rfl)) ?_; (with_reducible refine (procedure_Deadline.calls k 2 a0_4 _ _ l2 t1070 t1071 _ ?side1 ?side2 ?side3 A4.out).mono ?_); (case side1 => repeat (first | exact (Kd.C_below HR2.out HB.out) | (with_reducible refine Kd.C_alloc ?_ _) | (with_reducible refine Kd.C_drewN ?_ _) | (with_reducible refine Kd.C_drew ?_))); (case side2 => exact HC2.out); (case side3 => exact GL_lengths.of_below (by repeat (first | (with_reducible first | exact HB.out | apply below_alloc | apply pw_below_drewN | apply below_drew1 | refine below_set ?_ GE1069.out) | exact HB.out)) HG_lengths.out); rintro e w17 ⟨rfl, hb⟩; refine ⟨_, rfl, ?_⟩; have n0_ := Aside0.mk (blk_below (g := gb1069) (o := .cells #[.int .i64 a0_0, .int .i64 a0_1, .int .i64 a0_2, .int .i64 a0_3, .int .i64 a0_4, .int .i64 a0_5, .int .i64 a0_6, .int .i64 a0_7, .int .i64 a0_8, .int .i64 a0_9, .slice A0_10 l0_10.length c0_10] 38 (0, 0)) (by (with_reducible repeat (first | refine blk_drewN ?_ _ | refine blk_drew ?_ | refine blk_alloc ?_ _)); exact BK1069.out) hb); have n1_ := Aside0.mk (below_step (by repeat (first | (with_reducible first | exact HB.out | apply below_alloc | apply pw_below_drewN | apply below_drew1 | refine below_set ?_ GE1069.out) | exact HB.out)) hb); clear BK1069; clear HB; have BK1069 := n0_; have HB := n1_; clear n0_ n1_; (try clear hb); (try clear hb2); (try clear hk); (try clear hi); have hcz18_0 : w17.cell? ⟨gb1069, 0, none⟩ = some (.int .i64 a0_0) := (blk_cell BK1069.out 0).trans rfl; have hcz18_1 : w17.cell? ⟨gb1069, 1, none⟩ = some (.int .i64 a0_1) := (blk_cell BK1069.out 1).trans rfl; have hcz18_2 : w17.cell? ⟨gb1069, 2, none⟩ = some (.int .i64 a0_2) := (blk_cell BK1069.out 2).trans rfl; have hcz18_3 : w17.cell? ⟨gb1069, 3, none⟩ = some (.int .i64 a0_3) := (blk_cell BK1069.out 3).trans rfl; have hcz18_4 : w17.cell? ⟨gb1069, 4, none⟩ = some (.int .i64 a0_4) := (blk_cell BK1069.out 4).trans rfl; have hcz18_5 : w17.cell? ⟨gb1069, 5, none⟩ = some (.int .i64 a0_5) := (blk_cell BK1069.out 5).trans rfl; have hcz18_6 : w17.cell? ⟨gb1069, 6, none⟩ = some (.int .i64 a0_6) := (blk_cell BK1069.out 6).trans rfl; have hcz18_7 : w17.cell? ⟨gb1069, 7, none⟩ = some (.int .i64 a0_7) := (blk_cell BK1069.out 7).trans rfl; have hcz18_8 : w17.cell? ⟨gb1069, 8, none⟩ = some (.int .i64 a0_8) := (blk_cell BK1069.out 8).trans rfl; have hcz18_9 : w17.cell? ⟨gb1069, 9, none⟩ = some (.int .i64 a0_9) := (blk_cell BK1069.out 9).trans rfl; have hcz18_10 : w17.cell? ⟨gb1069, 10, none⟩ = some (.slice A0_10 l0_10.length c0_10) := (blk_cell BK1069.out 10).trans rfl; have hfz18_0 := blk_frozen BK1069.out 0; have hfz18_1 := blk_frozen BK1069.out 1; have hfz18_2 := blk_frozen BK1069.out 2; have hfz18_3 := blk_frozen BK1069.out 3; have hfz18_4 := blk_frozen BK1069.out 4; have hfz18_5 := blk_frozen BK1069.out 5; have hfz18_6 := blk_frozen BK1069.out 6; have hfz18_7 := blk_frozen BK1069.out 7; have hfz18_8 := blk_frozen BK1069.out 8; have hfz18_9 := blk_frozen BK1069.out 9; have hfz18_10 := blk_frozen BK1069.out 10))
  go_ret
  exact ⟨by first | rfl | (simp [errW_none, errW_some] <;> rfl) | (simp [*, errW_none, errW_some] <;> rfl), by repeat (first | (with_reducible first | exact HB.out | apply below_alloc | apply pw_below_drewN | apply below_drew1 | refine below_set ?_ GE1069.out) | exact HB.out)⟩

end Go.Proofs.YtbndoihcejieoaaDoor.G
